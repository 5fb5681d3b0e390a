/-
  Part 6 of what the law FnExactMatchCombo needs: an abstract semantics proved sound, the program's functions in its form, plain Lean about them. No conditions.
-/
import Derived.KernelRfl
import Derived.Test.YtmjjamfkgingcaaLibE
namespace Go.Ag
set_option linter.unusedSimpArgs false
set_option linter.unusedVariables false
section
set_option maxRecDepth 8000
noncomputable def dc_spec_l11Switch : DCode :=
  (.seq [1] (.region [oa 0 1 (.boxB 0 3 (.t 0)),
 oa 1 2 (.mv (.c (.bool false)))])
  (.seq [2] (.region [oa 0 3 (.loadB 0 (some 3) (.t 1)),
 oc 1 4 s_spec_IsEvent p_spec_IsEvent D_spec_IsEvent [(.t 3)],
 om 2 5 4,
 og 3 6 (.fieldA 1 (.t 1)) 5 true,
 og 4 7 (.loadB 0 none (.t 6)) 5 true,
 og 5 8 (.bin .lss (.t 7) (.c (.int .i64 24))) 5 true,
 oa 6 9 (.pick (.t 5) (.t 8) (.c (.bool false))),
 om 7 2 9])
  .ret))
noncomputable def df_spec_l11Switch : DFun := ⟨1, 10, 1, true, [.tmp 2], dc_spec_l11Switch⟩
noncomputable def pf_spec_l11Switch : PFun := df_spec_l11Switch.er
noncomputable def f_spec_l11Switch : AFun := pf_spec_l11Switch.er
@[irreducible] noncomputable def s_spec_l11Switch : CallSem := funSem f_spec_l11Switch
@[irreducible] noncomputable def p_spec_l11Switch : PSem := pfunSem pf_spec_l11Switch
theorem sp_spec_l11Switch : SoundP s_spec_l11Switch p_spec_l11Switch := by unfold s_spec_l11Switch p_spec_l11Switch; exact pfun_sound (f := pf_spec_l11Switch) ⟨sp_spec_IsEvent, trivial⟩
def h_spec_l11Switch : List HT := [.agg [(.frz, .int .i64), (.frz, .int .i64), (.frz, .bool)]]
def q_spec_l11Switch : QT := .one (.one .own (.bool))
@[irreducible] noncomputable def v_spec_l11Switch (x : Int × Int × Bool) : Bool := (shut fun x => fnV df_spec_l11Switch h_spec_l11Switch q_spec_l11Switch x).1 x
@[irreducible] noncomputable def ok_spec_l11Switch (x : Int × Int × Bool) : Prop := (shut fun x => fnOk df_spec_l11Switch h_spec_l11Switch q_spec_l11Switch x).1 x
theorem vu_spec_l11Switch (x : Int × Int × Bool) : v_spec_l11Switch x = fnV df_spec_l11Switch h_spec_l11Switch q_spec_l11Switch x := by unfold v_spec_l11Switch; exact congrFun (shut _).2 x
theorem ou_spec_l11Switch (x : Int × Int × Bool) : ok_spec_l11Switch x = fnOk df_spec_l11Switch h_spec_l11Switch q_spec_l11Switch x := by unfold ok_spec_l11Switch; exact congrFun (shut _).2 x
noncomputable def D_spec_l11Switch : DSem := DSemOf h_spec_l11Switch q_spec_l11Switch ok_spec_l11Switch v_spec_l11Switch
theorem ck_spec_l11Switch (x : Int × Int × Bool) : fnChk df_spec_l11Switch h_spec_l11Switch q_spec_l11Switch x = true := by kernel_rfl
theorem ob_spec_l11Switch : AllD df_spec_l11Switch.body.obs := ⟨sd_spec_IsEvent, trivial⟩
theorem st_spec_l11Switch : fnSt df_spec_l11Switch h_spec_l11Switch q_spec_l11Switch = true := by kernel_rfl
theorem sd_spec_l11Switch : SoundD p_spec_l11Switch D_spec_l11Switch := by unfold p_spec_l11Switch; exact soundD_of (f := df_spec_l11Switch) (hs := h_spec_l11Switch) (q := q_spec_l11Switch) ob_spec_l11Switch st_spec_l11Switch ck_spec_l11Switch (fun x h => Eq.mp (ou_spec_l11Switch x) h) (fun x => (vu_spec_l11Switch x).symm)
noncomputable def dc_spec_l11Fits : DCode :=
  (.seq [1, 0] (.region [oa 0 4 (.mv (.c (.bool false)))])
  (.seq [] (.seq [5, 1, 0] (.region [oi 0 5 0])
  (.block 0 (.loop [0, 1, 5] 1 (.seq [5, 1, 0] (.seq [9, 5, 1, 0] (.region [om 0 6 5,
 on 1 7 0,
 oa 2 8 (.len (.t 7)),
 oa 3 9 (.bin .lss (.t 6) (.t 8))])
  (.cond (.t 9) .skip (.exit 0)))
  (.seq [5, 1, 0] (.block 1 (.seq [19, 5, 1, 0] (.region [om 0 12 1,
 on 1 13 0,
 om 2 14 5,
 oa 3 15 (.indexA 2 (.t 13) (.t 14)),
 oa 4 16 (.fieldA 0 (.t 15)),
 oa 5 17 (.loadH none (.t 16)),
 oa 6 18 (.bin .andNot (.t 12) (.t 17)),
 oa 7 19 (.bin .eql (.t 18) (.c (.int .i64 0)))])
  (.cond (.t 19) (.seq [4] (.region [oa 0 4 (.mv (.c (.bool true)))])
  .ret) .skip)))
  (.region [om 0 10 5,
 oa 1 11 (.bin .add (.t 10) (.c (.int .i64 1))),
 om 2 5 11]))))))
  (.seq [4] (.region [oa 0 4 (.mv (.c (.bool false)))])
  .ret)))
noncomputable def df_spec_l11Fits : DFun := ⟨2, 20, 0, true, [.tmp 4], dc_spec_l11Fits⟩
noncomputable def pf_spec_l11Fits : PFun := df_spec_l11Fits.er
noncomputable def f_spec_l11Fits : AFun := pf_spec_l11Fits.er
@[irreducible] noncomputable def s_spec_l11Fits : CallSem := funSem f_spec_l11Fits
@[irreducible] noncomputable def p_spec_l11Fits : PSem := pfunSem pf_spec_l11Fits
theorem sp_spec_l11Fits : SoundP s_spec_l11Fits p_spec_l11Fits := by unfold s_spec_l11Fits p_spec_l11Fits; exact pfun_sound (f := pf_spec_l11Fits) trivial
def h_spec_l11Fits : List HT := [.one .frz (.sl (.cons (.int .i64) (.one (.int .i64)))), .one .frz (.int .i64)]
def q_spec_l11Fits : QT := .one (.one .own (.bool))
@[irreducible] noncomputable def v_spec_l11Fits (x : (List (Int × Int)) × Int) : Bool := (shut fun x => fnV df_spec_l11Fits h_spec_l11Fits q_spec_l11Fits x).1 x
@[irreducible] noncomputable def ok_spec_l11Fits (x : (List (Int × Int)) × Int) : Prop := (shut fun x => fnOk df_spec_l11Fits h_spec_l11Fits q_spec_l11Fits x).1 x
theorem vu_spec_l11Fits (x : (List (Int × Int)) × Int) : v_spec_l11Fits x = fnV df_spec_l11Fits h_spec_l11Fits q_spec_l11Fits x := by unfold v_spec_l11Fits; exact congrFun (shut _).2 x
theorem ou_spec_l11Fits (x : (List (Int × Int)) × Int) : ok_spec_l11Fits x = fnOk df_spec_l11Fits h_spec_l11Fits q_spec_l11Fits x := by unfold ok_spec_l11Fits; exact congrFun (shut _).2 x
noncomputable def D_spec_l11Fits : DSem := DSemOf h_spec_l11Fits q_spec_l11Fits ok_spec_l11Fits v_spec_l11Fits
theorem ck_spec_l11Fits (x : (List (Int × Int)) × Int) : fnChk df_spec_l11Fits h_spec_l11Fits q_spec_l11Fits x = true := by kernel_rfl
theorem ob_spec_l11Fits : AllD df_spec_l11Fits.body.obs := trivial
theorem st_spec_l11Fits : fnSt df_spec_l11Fits h_spec_l11Fits q_spec_l11Fits = true := by kernel_rfl
theorem sd_spec_l11Fits : SoundD p_spec_l11Fits D_spec_l11Fits := by unfold p_spec_l11Fits; exact soundD_of (f := df_spec_l11Fits) (hs := h_spec_l11Fits) (q := q_spec_l11Fits) ob_spec_l11Fits st_spec_l11Fits ck_spec_l11Fits (fun x h => Eq.mp (ou_spec_l11Fits x) h) (fun x => (vu_spec_l11Fits x).symm)
noncomputable def dc_spec_l11Out : DCode :=
  (.seq [1, 0] (.region [oi 0 4 0,
 oa 1 5 (.mv (.c (.bool false)))])
  (.seq [6, 1, 0] (.region [oi 0 6 (-1)])
  (.seq [7, 6, 1, 0] (.region [oa 0 7 (.mv (.c (.bool false)))])
  (.seq [7, 6] (.seq [8, 7, 6, 1, 0] (.region [oi 0 8 0])
  (.block 0 (.loop [0, 1, 6, 7, 8] 1 (.seq [8, 7, 6, 1, 0] (.seq [12, 8, 7, 6, 1, 0] (.region [om 0 9 8,
 on 1 10 0,
 oa 2 11 (.len (.t 10)),
 oa 3 12 (.bin .lss (.t 9) (.t 11))])
  (.cond (.t 12) .skip (.exit 0)))
  (.seq [8, 7, 6, 1, 0] (.block 1 (.seq [21, 8, 7, 6, 1, 0] (.region [om 0 15 1,
 on 1 16 0,
 om 2 17 8,
 oa 3 18 (.indexA 2 (.t 16) (.t 17)),
 oa 4 19 (.fieldA 0 (.t 18)),
 oa 5 20 (.loadH none (.t 19)),
 oa 6 21 (.bin .eql (.t 15) (.t 20))])
  (.cond (.t 21) (.region [on 0 22 0,
 om 1 23 8,
 oa 2 24 (.indexA 2 (.t 22) (.t 23)),
 oa 3 25 (.fieldA 1 (.t 24)),
 ob 4 26 (.loadH none (.t 25)),
 om 5 6 26]) (.seq [34, 8, 7, 6, 1, 0] (.region [om 0 27 1,
 on 1 28 0,
 om 2 29 8,
 oa 3 30 (.indexA 2 (.t 28) (.t 29)),
 oa 4 31 (.fieldA 0 (.t 30)),
 oa 5 32 (.loadH none (.t 31)),
 oa 6 33 (.bin .andNot (.t 27) (.t 32)),
 oa 7 34 (.bin .eql (.t 33) (.c (.int .i64 0)))])
  (.cond (.t 34) (.region [oa 0 7 (.mv (.c (.bool true)))]) .skip)))))
  (.region [om 0 13 8,
 oa 1 14 (.bin .add (.t 13) (.c (.int .i64 1))),
 om 2 8 14]))))))
  (.seq [5, 4] (.region [om 0 35 6,
 om 1 36 7,
 om 2 4 35,
 om 3 5 36])
  .ret)))))
noncomputable def df_spec_l11Out : DFun := ⟨2, 37, 0, true, [.tmp 4, .tmp 5], dc_spec_l11Out⟩
noncomputable def pf_spec_l11Out : PFun := df_spec_l11Out.er
noncomputable def f_spec_l11Out : AFun := pf_spec_l11Out.er
@[irreducible] noncomputable def s_spec_l11Out : CallSem := funSem f_spec_l11Out
@[irreducible] noncomputable def p_spec_l11Out : PSem := pfunSem pf_spec_l11Out
theorem sp_spec_l11Out : SoundP s_spec_l11Out p_spec_l11Out := by unfold s_spec_l11Out p_spec_l11Out; exact pfun_sound (f := pf_spec_l11Out) trivial
def h_spec_l11Out : List HT := [.one .frz (.sl (.cons (.int .i64) (.one (.int .i64)))), .one .frz (.int .i64)]
def q_spec_l11Out : QT := .tup [.one .own (.int .i64), .one .own (.bool)]
@[irreducible] noncomputable def v_spec_l11Out (x : (List (Int × Int)) × Int) : Int × Bool := (shut fun x => fnV df_spec_l11Out h_spec_l11Out q_spec_l11Out x).1 x
@[irreducible] noncomputable def ok_spec_l11Out (x : (List (Int × Int)) × Int) : Prop := (shut fun x => fnOk df_spec_l11Out h_spec_l11Out q_spec_l11Out x).1 x
theorem vu_spec_l11Out (x : (List (Int × Int)) × Int) : v_spec_l11Out x = fnV df_spec_l11Out h_spec_l11Out q_spec_l11Out x := by unfold v_spec_l11Out; exact congrFun (shut _).2 x
theorem ou_spec_l11Out (x : (List (Int × Int)) × Int) : ok_spec_l11Out x = fnOk df_spec_l11Out h_spec_l11Out q_spec_l11Out x := by unfold ok_spec_l11Out; exact congrFun (shut _).2 x
noncomputable def D_spec_l11Out : DSem := DSemOf h_spec_l11Out q_spec_l11Out ok_spec_l11Out v_spec_l11Out
theorem ck_spec_l11Out (x : (List (Int × Int)) × Int) : fnChk df_spec_l11Out h_spec_l11Out q_spec_l11Out x = true := by kernel_rfl
theorem ob_spec_l11Out : AllD df_spec_l11Out.body.obs := trivial
theorem st_spec_l11Out : fnSt df_spec_l11Out h_spec_l11Out q_spec_l11Out = true := by kernel_rfl
theorem sd_spec_l11Out : SoundD p_spec_l11Out D_spec_l11Out := by unfold p_spec_l11Out; exact soundD_of (f := df_spec_l11Out) (hs := h_spec_l11Out) (q := q_spec_l11Out) ob_spec_l11Out st_spec_l11Out ck_spec_l11Out (fun x h => Eq.mp (ou_spec_l11Out x) h) (fun x => (vu_spec_l11Out x).symm)
noncomputable def dc_spec_MatchCombo : DCode :=
  (.seq [3, 2, 1, 0] (.region [oi 0 8 0,
 oi 1 9 0,
 oi 2 10 0])
  (.seq [3, 2, 1, 0] (.seq [46, 3, 2, 1, 0] (.region [on 0 20 0,
 oc 1 21 s_spec_IsCombos p_spec_IsCombos D_spec_IsCombos [(.t 20)],
 oa 2 22 (.un .not (.t 21)),
 om 3 23 22,
 og 4 24 (.mv (.t 1)) 23 false,
 ⟨5, some 25, .call false s_spec_l1In p_spec_l1In D_spec_l1In [(.t 24), (.c (.int .i64 1)), (.c (.int .i64 200))], (some (23, false)), []⟩,
 og 6 26 (.un .not (.t 25)) 23 false,
 oa 7 27 (.pick (.t 23) (.c (.bool true)) (.t 26)),
 om 8 28 27,
 ⟨9, some 29, .a true (.mv (.t 2)) none, (some (28, false)), []⟩,
 og 10 30 (.len (.t 29)) 28 false,
 og 11 31 (.bin .eql (.t 30) (.c (.int .i64 0))) 28 false,
 oa 12 32 (.pick (.t 28) (.c (.bool true)) (.t 31)),
 om 13 33 32,
 ⟨14, some 34, .a true (.mv (.t 2)) none, (some (33, false)), []⟩,
 og 15 35 (.indexA 3 (.t 34) (.c (.int .i64 0))) 33 false,
 og 16 36 (.loadH (some 3) (.t 35)) 33 false,
 ⟨17, some 37, .call false s_spec_l11Switch p_spec_l11Switch D_spec_l11Switch [(.t 36)], (some (33, false)), []⟩,
 og 18 38 (.un .not (.t 37)) 33 false,
 oa 19 39 (.pick (.t 33) (.c (.bool true)) (.t 38)),
 om 20 40 39,
 ⟨21, some 41, .a true (.mv (.t 2)) none, (some (40, false)), []⟩,
 og 22 42 (.indexA 3 (.t 41) (.c (.int .i64 0))) 40 false,
 og 23 43 (.fieldA 2 (.t 42)) 40 false,
 og 24 44 (.loadH none (.t 43)) 40 false,
 og 25 45 (.un .not (.t 44)) 40 false,
 oa 26 46 (.pick (.t 40) (.c (.bool true)) (.t 45))])
  (.cond (.t 46) (.seq [10, 9, 8] (.region [oi 0 8 0,
 oi 1 9 0,
 oi 2 10 (-1)])
  .ret) .skip))
  (.seq [11, 3, 2, 1, 0] (.region [on 0 47 2,
 oa 1 48 (.indexA 3 (.t 47) (.c (.int .i64 0))),
 oa 2 49 (.fieldA 1 (.t 48)),
 oa 3 50 (.loadH none (.t 49)),
 oa 4 51 (.bin .shl (.c (.int .i64 1)) (.t 50)),
 om 5 11 51])
  (.seq [12, 11, 3, 2, 0] (.region [on 0 52 2,
 oa 1 53 (.indexA 3 (.t 52) (.c (.int .i64 0))),
 oa 2 54 (.fieldA 0 (.t 53)),
 oa 3 55 (.loadH none (.t 54)),
 om 4 56 1,
 oa 5 57 (.bin .add (.t 55) (.t 56)),
 om 6 12 57])
  (.seq [12, 11, 3, 2, 0] (.seq [61, 12, 11, 3, 2, 0] (.region [on 0 58 0,
 om 1 59 11,
 oc 2 60 s_spec_l11Fits p_spec_l11Fits D_spec_l11Fits [(.t 58), (.t 59)],
 oa 3 61 (.un .not (.t 60))])
  (.cond (.t 61) (.seq [10, 9, 8] (.region [on 0 62 2,
 xA 1 63 (.indexA 3 (.t 62) (.c (.int .i64 0))) (rg 1),
 xA 2 64 (.fieldA 0 (.t 63)) (rg 2),
 xB 3 65 (.loadH none (.t 64)) (rg 3),
 oi 4 8 1,
 xA 5 9 (.mv (.t 65)) (rg 5),
 xA 6 10 (.mv (.c (.int .i64 (-1)))) (rg 6)])
  .ret) .skip))
  (.seq [13, 12, 11, 3, 2, 0] (.region [oi 0 13 1])
  (.seq [14, 13, 12, 11, 3, 2, 0] (.region [om 0 66 12,
 om 1 14 66])
  (.seq [14, 13, 11, 0] (.block 0 (.loop [0, 2, 3, 11, 12, 13, 14] 1 (.block 1 (.seq [14, 13, 12, 11, 3, 2, 0] (.seq [70, 14, 13, 12, 11, 3, 2, 0] (.region [om 0 67 13,
 on 1 68 2,
 oa 2 69 (.len (.t 68)),
 oa 3 70 (.bin .eql (.t 67) (.t 69))])
  (.cond (.t 70) (.seq [14, 13, 11, 0] (.seq [73, 14, 13, 11, 0] (.region [om 0 71 3,
 om 1 72 12,
 oa 2 73 (.bin .lss (.t 71) (.t 72))])
  (.cond (.t 73) (.seq [10, 9, 8] (.region [oi 0 8 0,
 oi 1 9 0,
 oi 2 10 (-1)])
  .ret) .skip))
  (.exit 0)) .skip))
  (.seq [15, 14, 13, 12, 11, 3, 2, 0] (.region [on 0 74 2,
 om 1 75 13,
 oa 2 76 (.indexA 3 (.t 74) (.t 75)),
 ob 3 77 (.loadH (some 3) (.t 76)),
 oa 4 15 (.allocB 0 [(.int .i64 0), (.int .i64 0), (.bool false)]),
 os 5 (.storeB 0 3 (.t 15) (.t 77))])
  (.seq [15, 14, 13, 12, 11, 3, 2, 0] (.seq [80, 15, 14, 13, 12, 11, 3, 2, 0] (.region [oa 0 78 (.loadB 0 (some 3) (.t 15)),
 oc 1 79 s_spec_l11Switch p_spec_l11Switch D_spec_l11Switch [(.t 78)],
 oa 2 80 (.un .not (.t 79))])
  (.cond (.t 80) (.seq [10, 9, 8] (.region [oi 0 8 0,
 oi 1 9 0,
 oi 2 10 (-1)])
  .ret) .skip))
  (.seq [15, 14, 13, 12, 11, 3, 2, 0] (.seq [84, 15, 14, 13, 12, 11, 3, 2, 0] (.region [oa 0 81 (.fieldA 0 (.t 15)),
 oa 1 82 (.loadB 0 none (.t 81)),
 om 2 83 12,
 oa 3 84 (.bin .geq (.t 82) (.t 83))])
  (.cond (.t 84) (.exit 0) .skip))
  (.seq [15, 14, 13, 12, 11, 3, 2, 0] (.seq [97, 15, 14, 13, 12, 11, 3, 2, 0] (.region [oa 0 85 (.fieldA 2 (.t 15)),
 oa 1 86 (.loadB 0 none (.t 85)),
 oa 2 87 (.un .not (.t 86)),
 om 3 88 87,
 ⟨4, some 89, .a true (.mv (.t 0)) none, (some (88, false)), []⟩,
 og 5 90 (.mv (.t 11)) 88 false,
 og 6 91 (.fieldA 1 (.t 15)) 88 false,
 og 7 92 (.loadB 0 none (.t 91)) 88 false,
 og 8 93 (.bin .shl (.c (.int .i64 1)) (.t 92)) 88 false,
 og 9 94 (.bin .or (.t 90) (.t 93)) 88 false,
 ⟨10, some 95, .call false s_spec_l11Fits p_spec_l11Fits D_spec_l11Fits [(.t 89), (.t 94)], (some (88, false)), []⟩,
 og 11 96 (.un .not (.t 95)) 88 false,
 oa 12 97 (.pick (.t 88) (.c (.bool true)) (.t 96))])
  (.cond (.t 97) (.seq [14, 13, 11, 0] (.region [oa 0 98 (.fieldA 0 (.t 15)),
 ob 1 99 (.loadB 0 none (.t 98)),
 om 2 14 99])
  (.exit 0)) .skip))
  (.seq [15, 14, 13, 12, 11, 3, 2, 0] (.region [om 0 100 11,
 oa 1 101 (.fieldA 1 (.t 15)),
 oa 2 102 (.loadB 0 none (.t 101)),
 oa 3 103 (.bin .shl (.c (.int .i64 1)) (.t 102)),
 oa 4 104 (.bin .or (.t 100) (.t 103)),
 om 5 11 104])
  (.seq [15, 14, 13, 12, 11, 3, 2, 0] (.region [om 0 105 13,
 oa 1 106 (.bin .add (.t 105) (.c (.int .i64 1))),
 om 2 13 106])
  (.seq [17, 16, 15, 14, 13, 12, 11, 3, 2, 0] (.region [on 0 108 0,
 om 1 109 11,
 oc 2 110 s_spec_l11Out p_spec_l11Out D_spec_l11Out [(.t 108), (.t 109)],
 om 3 107 110,
 oa 4 111 (.extract (.t 107) 0),
 oa 5 112 (.extract (.t 107) 1),
 om 6 16 111,
 om 7 17 112])
  (.seq [118, 16, 15, 14, 13, 12, 11, 3, 2, 0] (.region [om 0 113 16,
 oa 1 114 (.bin .geq (.t 113) (.c (.int .i64 0))),
 om 2 115 114,
 og 3 116 (.mv (.t 17)) 115 true,
 og 4 117 (.un .not (.t 116)) 115 true,
 oa 5 118 (.pick (.t 115) (.t 117) (.c (.bool false)))])
  (.cond (.t 118) (.seq [10, 9, 8] (.region [om 0 119 13,
 oa 1 120 (.fieldA 0 (.t 15)),
 xB 2 121 (.loadB 0 none (.t 120)) [1],
 om 3 122 16,
 xA 4 8 (.mv (.t 119)) [0],
 xA 5 9 (.mv (.t 121)) [0, 1, 2, 4],
 xA 6 10 (.mv (.t 122)) (rg 6)])
  .ret) .skip)))))))))))))
  (.seq [18, 14, 13] (.region [on 0 124 0,
 om 1 125 11,
 oc 2 126 s_spec_l11Out p_spec_l11Out D_spec_l11Out [(.t 124), (.t 125)],
 om 3 123 126,
 oa 4 127 (.extract (.t 123) 0),
 oa 5 128 (.extract (.t 123) 1),
 om 6 18 127,
 om 7 19 128])
  (.seq [18, 14, 13] (.seq [130, 18, 14, 13] (.region [om 0 129 18,
 oa 1 130 (.bin .lss (.t 129) (.c (.int .i64 0)))])
  (.cond (.t 130) (.region [oi 0 13 1]) .skip))
  (.seq [10, 9, 8] (.region [om 0 131 13,
 om 1 132 14,
 om 2 133 18,
 om 3 8 131,
 om 4 9 132,
 om 5 10 133])
  .ret)))))))))))
noncomputable def df_spec_MatchCombo : DFun := ⟨4, 134, 1, true, [.tmp 8, .tmp 9, .tmp 10], dc_spec_MatchCombo⟩
noncomputable def pf_spec_MatchCombo : PFun := df_spec_MatchCombo.er
noncomputable def f_spec_MatchCombo : AFun := pf_spec_MatchCombo.er
@[irreducible] noncomputable def s_spec_MatchCombo : CallSem := funSem f_spec_MatchCombo
@[irreducible] noncomputable def p_spec_MatchCombo : PSem := pfunSem pf_spec_MatchCombo
theorem sp_spec_MatchCombo : SoundP s_spec_MatchCombo p_spec_MatchCombo := by unfold s_spec_MatchCombo p_spec_MatchCombo; exact pfun_sound (f := pf_spec_MatchCombo) ⟨sp_spec_IsCombos, sp_spec_l1In, sp_spec_l11Switch, sp_spec_l11Fits, sp_spec_l11Switch, sp_spec_l11Fits, sp_spec_l11Out, sp_spec_l11Out, trivial⟩
def h_spec_MatchCombo : List HT := [.one .frz (.sl (.cons (.int .i64) (.one (.int .i64)))), .one .frz (.int .i64), .one .frz (.sl (.cons (.int .i64) (.cons (.int .i64) (.one (.bool))))), .one .frz (.int .i64)]
def q_spec_MatchCombo : QT := .tup [.one .own (.int .i64), .one .own (.int .i64), .one .own (.int .i64)]
@[irreducible] noncomputable def v_spec_MatchCombo (x : (List (Int × Int)) × Int × (List (Int × Int × Bool)) × Int) : Int × Int × Int := (shut fun x => fnV df_spec_MatchCombo h_spec_MatchCombo q_spec_MatchCombo x).1 x
@[irreducible] noncomputable def ok_spec_MatchCombo (x : (List (Int × Int)) × Int × (List (Int × Int × Bool)) × Int) : Prop := (shut fun x => fnOk df_spec_MatchCombo h_spec_MatchCombo q_spec_MatchCombo x).1 x
theorem vu_spec_MatchCombo (x : (List (Int × Int)) × Int × (List (Int × Int × Bool)) × Int) : v_spec_MatchCombo x = fnV df_spec_MatchCombo h_spec_MatchCombo q_spec_MatchCombo x := by unfold v_spec_MatchCombo; exact congrFun (shut _).2 x
theorem ou_spec_MatchCombo (x : (List (Int × Int)) × Int × (List (Int × Int × Bool)) × Int) : ok_spec_MatchCombo x = fnOk df_spec_MatchCombo h_spec_MatchCombo q_spec_MatchCombo x := by unfold ok_spec_MatchCombo; exact congrFun (shut _).2 x
noncomputable def D_spec_MatchCombo : DSem := DSemOf h_spec_MatchCombo q_spec_MatchCombo ok_spec_MatchCombo v_spec_MatchCombo
theorem ck_spec_MatchCombo (x : (List (Int × Int)) × Int × (List (Int × Int × Bool)) × Int) : fnChk df_spec_MatchCombo h_spec_MatchCombo q_spec_MatchCombo x = true := by kernel_rfl
theorem ob_spec_MatchCombo : AllD df_spec_MatchCombo.body.obs := ⟨sd_spec_IsCombos, sd_spec_l1In, sd_spec_l11Switch, sd_spec_l11Fits, sd_spec_l11Switch, sd_spec_l11Fits, sd_spec_l11Out, sd_spec_l11Out, trivial⟩
theorem st_spec_MatchCombo : fnSt df_spec_MatchCombo h_spec_MatchCombo q_spec_MatchCombo = true := by kernel_rfl
theorem sd_spec_MatchCombo : SoundD p_spec_MatchCombo D_spec_MatchCombo := by unfold p_spec_MatchCombo; exact soundD_of (f := df_spec_MatchCombo) (hs := h_spec_MatchCombo) (q := q_spec_MatchCombo) ob_spec_MatchCombo st_spec_MatchCombo ck_spec_MatchCombo (fun x h => Eq.mp (ou_spec_MatchCombo x) h) (fun x => (vu_spec_MatchCombo x).symm)
noncomputable def dc_impl_isSwitchEvent : DCode :=
  (.seq [1] (.region [oa 0 1 (.boxB 0 3 (.t 0)),
 oa 1 2 (.mv (.c (.bool false)))])
  (.seq [2] (.region [oa 0 3 (.loadB 0 (some 3) (.t 1)),
 oc 1 4 s_impl_IsEvent p_impl_IsEvent D_impl_IsEvent [(.t 3)],
 om 2 5 4,
 og 3 6 (.fieldA 1 (.t 1)) 5 true,
 og 4 7 (.loadB 0 none (.t 6)) 5 true,
 og 5 8 (.bin .lss (.t 7) (.c (.int .i64 24))) 5 true,
 oa 6 9 (.pick (.t 5) (.t 8) (.c (.bool false))),
 om 7 2 9])
  .ret))
noncomputable def df_impl_isSwitchEvent : DFun := ⟨1, 10, 1, true, [.tmp 2], dc_impl_isSwitchEvent⟩
noncomputable def pf_impl_isSwitchEvent : PFun := df_impl_isSwitchEvent.er
noncomputable def f_impl_isSwitchEvent : AFun := pf_impl_isSwitchEvent.er
@[irreducible] noncomputable def s_impl_isSwitchEvent : CallSem := funSem f_impl_isSwitchEvent
@[irreducible] noncomputable def p_impl_isSwitchEvent : PSem := pfunSem pf_impl_isSwitchEvent
theorem sp_impl_isSwitchEvent : SoundP s_impl_isSwitchEvent p_impl_isSwitchEvent := by unfold s_impl_isSwitchEvent p_impl_isSwitchEvent; exact pfun_sound (f := pf_impl_isSwitchEvent) ⟨sp_impl_IsEvent, trivial⟩
def h_impl_isSwitchEvent : List HT := [.agg [(.frz, .int .i64), (.frz, .int .i64), (.frz, .bool)]]
def q_impl_isSwitchEvent : QT := .one (.one .own (.bool))
@[irreducible] noncomputable def v_impl_isSwitchEvent (x : Int × Int × Bool) : Bool := (shut fun x => fnV df_impl_isSwitchEvent h_impl_isSwitchEvent q_impl_isSwitchEvent x).1 x
@[irreducible] noncomputable def ok_impl_isSwitchEvent (x : Int × Int × Bool) : Prop := (shut fun x => fnOk df_impl_isSwitchEvent h_impl_isSwitchEvent q_impl_isSwitchEvent x).1 x
theorem vu_impl_isSwitchEvent (x : Int × Int × Bool) : v_impl_isSwitchEvent x = fnV df_impl_isSwitchEvent h_impl_isSwitchEvent q_impl_isSwitchEvent x := by unfold v_impl_isSwitchEvent; exact congrFun (shut _).2 x
theorem ou_impl_isSwitchEvent (x : Int × Int × Bool) : ok_impl_isSwitchEvent x = fnOk df_impl_isSwitchEvent h_impl_isSwitchEvent q_impl_isSwitchEvent x := by unfold ok_impl_isSwitchEvent; exact congrFun (shut _).2 x
noncomputable def D_impl_isSwitchEvent : DSem := DSemOf h_impl_isSwitchEvent q_impl_isSwitchEvent ok_impl_isSwitchEvent v_impl_isSwitchEvent
theorem ck_impl_isSwitchEvent (x : Int × Int × Bool) : fnChk df_impl_isSwitchEvent h_impl_isSwitchEvent q_impl_isSwitchEvent x = true := by kernel_rfl
theorem ob_impl_isSwitchEvent : AllD df_impl_isSwitchEvent.body.obs := ⟨sd_impl_IsEvent, trivial⟩
theorem st_impl_isSwitchEvent : fnSt df_impl_isSwitchEvent h_impl_isSwitchEvent q_impl_isSwitchEvent = true := by kernel_rfl
theorem sd_impl_isSwitchEvent : SoundD p_impl_isSwitchEvent D_impl_isSwitchEvent := by unfold p_impl_isSwitchEvent; exact soundD_of (f := df_impl_isSwitchEvent) (hs := h_impl_isSwitchEvent) (q := q_impl_isSwitchEvent) ob_impl_isSwitchEvent st_impl_isSwitchEvent ck_impl_isSwitchEvent (fun x h => Eq.mp (ou_impl_isSwitchEvent x) h) (fun x => (vu_impl_isSwitchEvent x).symm)
noncomputable def dc_impl_within : DCode :=
  (.seq [1, 0] (.region [oa 0 4 (.mv (.c (.bool false)))])
  (.seq [] (.seq [9, 8, 7, 1] (.region [on 0 7 0,
 oa 1 8 (.len (.t 7)),
 oi 2 9 0])
  (.block 0 (.loop [1, 7, 8, 9] 1 (.seq [10, 9, 8, 7, 1] (.region [oa 0 10 (.bin .lss (.t 9) (.t 8))])
  (.seq [9, 8, 7, 1] (.cond (.t 10) .skip (.exit 0))
  (.seq [9, 8, 7, 1] (.block 1 (.seq [9, 8, 7, 6, 1] (.region [oa 0 11 (.indexA 2 (.t 7) (.t 9)),
 ob 1 12 (.loadH (some 2) (.t 11)),
 oa 2 6 (.allocB 0 [(.int .i64 0), (.int .i64 0)]),
 os 3 (.storeB 0 2 (.t 6) (.t 12))])
  (.seq [17, 9, 8, 7, 1] (.region [om 0 13 1,
 oa 1 14 (.fieldA 0 (.t 6)),
 oa 2 15 (.loadB 0 none (.t 14)),
 oa 3 16 (.bin .andNot (.t 13) (.t 15)),
 oa 4 17 (.bin .eql (.t 16) (.c (.int .i64 0)))])
  (.cond (.t 17) (.seq [4] (.region [oa 0 4 (.mv (.c (.bool true)))])
  .ret) .skip))))
  (.region [oa 0 18 (.bin .add (.t 9) (.c (.int .i64 1))),
 om 1 9 18])))))))
  (.seq [4] (.region [oa 0 4 (.mv (.c (.bool false)))])
  .ret)))
noncomputable def df_impl_within : DFun := ⟨2, 19, 1, true, [.tmp 4], dc_impl_within⟩
noncomputable def pf_impl_within : PFun := df_impl_within.er
noncomputable def f_impl_within : AFun := pf_impl_within.er
@[irreducible] noncomputable def s_impl_within : CallSem := funSem f_impl_within
@[irreducible] noncomputable def p_impl_within : PSem := pfunSem pf_impl_within
theorem sp_impl_within : SoundP s_impl_within p_impl_within := by unfold s_impl_within p_impl_within; exact pfun_sound (f := pf_impl_within) trivial
def h_impl_within : List HT := [.one .frz (.sl (.cons (.int .i64) (.one (.int .i64)))), .one .frz (.int .i64)]
def q_impl_within : QT := .one (.one .own (.bool))
@[irreducible] noncomputable def v_impl_within (x : (List (Int × Int)) × Int) : Bool := (shut fun x => fnV df_impl_within h_impl_within q_impl_within x).1 x
@[irreducible] noncomputable def ok_impl_within (x : (List (Int × Int)) × Int) : Prop := (shut fun x => fnOk df_impl_within h_impl_within q_impl_within x).1 x
theorem vu_impl_within (x : (List (Int × Int)) × Int) : v_impl_within x = fnV df_impl_within h_impl_within q_impl_within x := by unfold v_impl_within; exact congrFun (shut _).2 x
theorem ou_impl_within (x : (List (Int × Int)) × Int) : ok_impl_within x = fnOk df_impl_within h_impl_within q_impl_within x := by unfold ok_impl_within; exact congrFun (shut _).2 x
noncomputable def D_impl_within : DSem := DSemOf h_impl_within q_impl_within ok_impl_within v_impl_within
theorem ck_impl_within (x : (List (Int × Int)) × Int) : fnChk df_impl_within h_impl_within q_impl_within x = true := by kernel_rfl
theorem ob_impl_within : AllD df_impl_within.body.obs := trivial
theorem st_impl_within : fnSt df_impl_within h_impl_within q_impl_within = true := by kernel_rfl
theorem sd_impl_within : SoundD p_impl_within D_impl_within := by unfold p_impl_within; exact soundD_of (f := df_impl_within) (hs := h_impl_within) (q := q_impl_within) ob_impl_within st_impl_within ck_impl_within (fun x h => Eq.mp (ou_impl_within x) h) (fun x => (vu_impl_within x).symm)
noncomputable def dc_impl_wholeCombo : DCode :=
  (.seq [1, 0] (.region [oi 0 4 0,
 oa 1 5 (.mv (.c (.bool false)))])
  (.seq [7, 6, 1, 0] (.region [oi 0 6 (-1),
 oa 1 7 (.mv (.c (.bool false)))])
  (.seq [7, 6] (.seq [12, 11, 10, 7, 6, 1] (.region [on 0 10 0,
 oa 1 11 (.len (.t 10)),
 oi 2 12 0])
  (.block 0 (.loop [1, 6, 7, 10, 11, 12] 1 (.seq [13, 12, 11, 10, 7, 6, 1] (.region [oa 0 13 (.bin .lss (.t 12) (.t 11))])
  (.seq [12, 11, 10, 7, 6, 1] (.cond (.t 13) .skip (.exit 0))
  (.seq [12, 11, 10, 7, 6, 1] (.block 1 (.seq [12, 11, 10, 9, 7, 6, 1] (.region [oa 0 14 (.indexA 2 (.t 10) (.t 12)),
 ob 1 15 (.loadH (some 2) (.t 14)),
 oa 2 9 (.allocB 0 [(.int .i64 0), (.int .i64 0)]),
 os 3 (.storeB 0 2 (.t 9) (.t 15))])
  (.block 2 (.seq [16, 12, 11, 10, 9, 7, 6, 1] (.region [oa 0 17 (.fieldA 0 (.t 9)),
 oa 1 18 (.loadB 0 none (.t 17)),
 om 2 19 1,
 oa 3 20 (.bin .eql (.t 18) (.t 19)),
 om 4 16 20])
  (.cond (.t 16) (.region [oa 0 21 (.fieldA 1 (.t 9)),
 ob 1 22 (.loadB 0 none (.t 21)),
 om 2 6 22]) (.seq [23, 12, 11, 10, 7, 6, 1] (.region [om 0 24 1,
 oa 1 25 (.fieldA 0 (.t 9)),
 oa 2 26 (.loadB 0 none (.t 25)),
 oa 3 27 (.bin .andNot (.t 24) (.t 26)),
 oa 4 28 (.bin .eql (.t 27) (.c (.int .i64 0))),
 om 5 23 28])
  (.cond (.t 23) (.region [oa 0 7 (.mv (.c (.bool true)))]) .skip)))))))
  (.region [oa 0 29 (.bin .add (.t 12) (.c (.int .i64 1))),
 om 1 12 29])))))))
  (.seq [5, 4] (.region [om 0 30 6,
 om 1 31 7,
 om 2 4 30,
 om 3 5 31])
  .ret))))
noncomputable def df_impl_wholeCombo : DFun := ⟨2, 32, 1, true, [.tmp 4, .tmp 5], dc_impl_wholeCombo⟩
noncomputable def pf_impl_wholeCombo : PFun := df_impl_wholeCombo.er
noncomputable def f_impl_wholeCombo : AFun := pf_impl_wholeCombo.er
@[irreducible] noncomputable def s_impl_wholeCombo : CallSem := funSem f_impl_wholeCombo
@[irreducible] noncomputable def p_impl_wholeCombo : PSem := pfunSem pf_impl_wholeCombo
theorem sp_impl_wholeCombo : SoundP s_impl_wholeCombo p_impl_wholeCombo := by unfold s_impl_wholeCombo p_impl_wholeCombo; exact pfun_sound (f := pf_impl_wholeCombo) trivial
def h_impl_wholeCombo : List HT := [.one .frz (.sl (.cons (.int .i64) (.one (.int .i64)))), .one .frz (.int .i64)]
def q_impl_wholeCombo : QT := .tup [.one .own (.int .i64), .one .own (.bool)]
@[irreducible] noncomputable def v_impl_wholeCombo (x : (List (Int × Int)) × Int) : Int × Bool := (shut fun x => fnV df_impl_wholeCombo h_impl_wholeCombo q_impl_wholeCombo x).1 x
@[irreducible] noncomputable def ok_impl_wholeCombo (x : (List (Int × Int)) × Int) : Prop := (shut fun x => fnOk df_impl_wholeCombo h_impl_wholeCombo q_impl_wholeCombo x).1 x
theorem vu_impl_wholeCombo (x : (List (Int × Int)) × Int) : v_impl_wholeCombo x = fnV df_impl_wholeCombo h_impl_wholeCombo q_impl_wholeCombo x := by unfold v_impl_wholeCombo; exact congrFun (shut _).2 x
theorem ou_impl_wholeCombo (x : (List (Int × Int)) × Int) : ok_impl_wholeCombo x = fnOk df_impl_wholeCombo h_impl_wholeCombo q_impl_wholeCombo x := by unfold ok_impl_wholeCombo; exact congrFun (shut _).2 x
noncomputable def D_impl_wholeCombo : DSem := DSemOf h_impl_wholeCombo q_impl_wholeCombo ok_impl_wholeCombo v_impl_wholeCombo
theorem ck_impl_wholeCombo (x : (List (Int × Int)) × Int) : fnChk df_impl_wholeCombo h_impl_wholeCombo q_impl_wholeCombo x = true := by kernel_rfl
theorem ob_impl_wholeCombo : AllD df_impl_wholeCombo.body.obs := trivial
theorem st_impl_wholeCombo : fnSt df_impl_wholeCombo h_impl_wholeCombo q_impl_wholeCombo = true := by kernel_rfl
theorem sd_impl_wholeCombo : SoundD p_impl_wholeCombo D_impl_wholeCombo := by unfold p_impl_wholeCombo; exact soundD_of (f := df_impl_wholeCombo) (hs := h_impl_wholeCombo) (q := q_impl_wholeCombo) ob_impl_wholeCombo st_impl_wholeCombo ck_impl_wholeCombo (fun x h => Eq.mp (ou_impl_wholeCombo x) h) (fun x => (vu_impl_wholeCombo x).symm)
noncomputable def dc_impl_MatchCombo : DCode :=
  (.seq [3, 2, 1, 0] (.region [oi 0 8 0,
 oi 1 9 0,
 oi 2 10 0])
  (.seq [3, 2, 1, 0] (.seq [51, 3, 2, 1, 0] (.region [on 0 22 0,
 oc 1 23 s_impl_IsCombos p_impl_IsCombos D_impl_IsCombos [(.t 22)],
 oa 2 24 (.un .not (.t 23)),
 om 3 25 24,
 og 4 26 (.mv (.t 1)) 25 false,
 og 5 27 (.bin .lss (.t 26) (.c (.int .i64 1))) 25 false,
 oa 6 28 (.pick (.t 25) (.c (.bool true)) (.t 27)),
 om 7 29 28,
 og 8 30 (.mv (.t 1)) 29 false,
 og 9 31 (.bin .gtr (.t 30) (.c (.int .i64 200))) 29 false,
 oa 10 32 (.pick (.t 29) (.c (.bool true)) (.t 31)),
 om 11 33 32,
 ⟨12, some 34, .a true (.mv (.t 2)) none, (some (33, false)), []⟩,
 og 13 35 (.len (.t 34)) 33 false,
 og 14 36 (.bin .eql (.t 35) (.c (.int .i64 0))) 33 false,
 oa 15 37 (.pick (.t 33) (.c (.bool true)) (.t 36)),
 om 16 38 37,
 ⟨17, some 39, .a true (.mv (.t 2)) none, (some (38, false)), []⟩,
 og 18 40 (.indexA 3 (.t 39) (.c (.int .i64 0))) 38 false,
 og 19 41 (.loadH (some 3) (.t 40)) 38 false,
 ⟨20, some 42, .call false s_impl_isSwitchEvent p_impl_isSwitchEvent D_impl_isSwitchEvent [(.t 41)], (some (38, false)), []⟩,
 og 21 43 (.un .not (.t 42)) 38 false,
 oa 22 44 (.pick (.t 38) (.c (.bool true)) (.t 43)),
 om 23 45 44,
 ⟨24, some 46, .a true (.mv (.t 2)) none, (some (45, false)), []⟩,
 og 25 47 (.indexA 3 (.t 46) (.c (.int .i64 0))) 45 false,
 og 26 48 (.fieldA 2 (.t 47)) 45 false,
 og 27 49 (.loadH none (.t 48)) 45 false,
 og 28 50 (.un .not (.t 49)) 45 false,
 oa 29 51 (.pick (.t 45) (.c (.bool true)) (.t 50))])
  (.cond (.t 51) (.seq [10, 9, 8] (.region [oi 0 8 0,
 oi 1 9 0,
 oi 2 10 (-1)])
  .ret) .skip))
  (.seq [11, 3, 2, 1, 0] (.region [on 0 52 2,
 oa 1 53 (.indexA 3 (.t 52) (.c (.int .i64 0))),
 ob 2 54 (.loadH (some 3) (.t 53)),
 oa 3 11 (.allocB 0 [(.int .i64 0), (.int .i64 0), (.bool false)]),
 os 4 (.storeB 0 3 (.t 11) (.t 54))])
  (.seq [12, 11, 3, 2, 1, 0] (.region [oa 0 55 (.fieldA 1 (.t 11)),
 oa 1 56 (.loadB 0 none (.t 55)),
 oa 2 57 (.bin .shl (.c (.int .i64 1)) (.t 56)),
 om 3 12 57])
  (.seq [12, 11, 3, 2, 1, 0] (.seq [61, 12, 11, 3, 2, 1, 0] (.region [on 0 58 0,
 om 1 59 12,
 oc 2 60 s_impl_within p_impl_within D_impl_within [(.t 58), (.t 59)],
 oa 3 61 (.un .not (.t 60))])
  (.cond (.t 61) (.seq [10, 9, 8] (.region [oa 0 62 (.fieldA 0 (.t 11)),
 xB 1 63 (.loadB 0 none (.t 62)) (rg 1),
 oi 2 8 1,
 xA 3 9 (.mv (.t 63)) (rg 3),
 xA 4 10 (.mv (.c (.int .i64 (-1)))) (rg 4)])
  .ret) .skip))
  (.seq [13, 12, 11, 3, 2, 1, 0] (.region [oa 0 64 (.fieldA 0 (.t 11)),
 oa 1 65 (.loadB 0 none (.t 64)),
 om 2 66 1,
 oa 3 67 (.bin .add (.t 65) (.t 66)),
 om 4 13 67])
  (.seq [14, 13, 12, 11, 3, 2, 1, 0] (.region [oi 0 14 1])
  (.seq [15, 14, 13, 12, 11, 3, 2, 1, 0] (.region [oa 0 15 (.mv (.c (.bool true)))])
  (.seq [15, 14, 13, 12, 3, 0] (.seq [71, 70, 69, 15, 14, 13, 12, 11, 3, 1, 0] (.region [on 0 68 2,
 oa 1 69 (.slice 3 (.t 68) (some (.c (.int .i64 1))) none),
 oa 2 70 (.len (.t 69)),
 oi 3 71 0])
  (.block 0 (.loop [0, 1, 3, 11, 12, 13, 14, 15, 69, 70, 71] 1 (.seq [72, 71, 70, 69, 15, 14, 13, 12, 11, 3, 1, 0] (.region [oa 0 72 (.bin .lss (.t 71) (.t 70))])
  (.seq [71, 70, 69, 15, 14, 13, 12, 11, 3, 1, 0] (.cond (.t 72) .skip (.exit 0))
  (.seq [71, 70, 69, 15, 14, 13, 12, 11, 3, 1, 0] (.block 1 (.seq [71, 70, 69, 17, 15, 14, 13, 12, 11, 3, 1, 0] (.region [oa 0 73 (.indexA 3 (.t 69) (.t 71)),
 ob 1 74 (.loadH (some 3) (.t 73)),
 oa 2 17 (.allocB 1 [(.int .i64 0), (.int .i64 0), (.bool false)]),
 os 3 (.storeB 1 3 (.t 17) (.t 74))])
  (.seq [71, 70, 69, 17, 15, 14, 13, 12, 11, 3, 1, 0] (.seq [77, 71, 70, 69, 17, 15, 14, 13, 12, 11, 3, 1, 0] (.region [oa 0 75 (.loadB 1 (some 3) (.t 17)),
 oc 1 76 s_impl_isSwitchEvent p_impl_isSwitchEvent D_impl_isSwitchEvent [(.t 75)],
 oa 2 77 (.un .not (.t 76))])
  (.cond (.t 77) (.seq [10, 9, 8] (.region [oi 0 8 0,
 oi 1 9 0,
 oi 2 10 (-1)])
  .ret) .skip))
  (.seq [71, 70, 69, 17, 15, 14, 13, 12, 11, 3, 1, 0] (.seq [99, 71, 70, 69, 17, 15, 14, 13, 12, 11, 3, 1, 0] (.region [oa 0 78 (.fieldA 0 (.t 17)),
 oa 1 79 (.loadB 1 none (.t 78)),
 oa 2 80 (.fieldA 0 (.t 11)),
 oa 3 81 (.loadB 0 none (.t 80)),
 om 4 82 1,
 oa 5 83 (.bin .add (.t 81) (.t 82)),
 oa 6 84 (.bin .geq (.t 79) (.t 83)),
 om 7 85 84,
 og 8 86 (.fieldA 2 (.t 17)) 85 false,
 og 9 87 (.loadB 1 none (.t 86)) 85 false,
 og 10 88 (.un .not (.t 87)) 85 false,
 oa 11 89 (.pick (.t 85) (.c (.bool true)) (.t 88)),
 om 12 90 89,
 ⟨13, some 91, .a true (.mv (.t 0)) none, (some (90, false)), []⟩,
 og 14 92 (.mv (.t 12)) 90 false,
 og 15 93 (.fieldA 1 (.t 17)) 90 false,
 og 16 94 (.loadB 1 none (.t 93)) 90 false,
 og 17 95 (.bin .shl (.c (.int .i64 1)) (.t 94)) 90 false,
 og 18 96 (.bin .or (.t 92) (.t 95)) 90 false,
 ⟨19, some 97, .call false s_impl_within p_impl_within D_impl_within [(.t 91), (.t 96)], (some (90, false)), []⟩,
 og 20 98 (.un .not (.t 97)) 90 false,
 oa 21 99 (.pick (.t 90) (.c (.bool true)) (.t 98))])
  (.cond (.t 99) (.seq [14, 13, 12, 3, 0] (.region [om 0 100 13,
 oa 1 101 (.fieldA 0 (.t 17)),
 oa 2 102 (.loadB 1 none (.t 101)),
 oa 3 103 (.minI (.t 100) (.t 102)),
 om 4 13 103])
  (.seq [15, 14, 13, 12, 3, 0] (.region [oa 0 15 (.mv (.c (.bool false)))])
  (.exit 0))) .skip))
  (.seq [71, 70, 69, 17, 15, 14, 13, 12, 11, 3, 1, 0] (.region [om 0 104 12,
 oa 1 105 (.fieldA 1 (.t 17)),
 oa 2 106 (.loadB 1 none (.t 105)),
 oa 3 107 (.bin .shl (.c (.int .i64 1)) (.t 106)),
 oa 4 108 (.bin .or (.t 104) (.t 107)),
 om 5 12 108])
  (.seq [71, 70, 69, 17, 15, 14, 13, 12, 11, 3, 1, 0] (.region [om 0 109 14,
 oa 1 110 (.bin .add (.t 109) (.c (.int .i64 1))),
 om 2 14 110])
  (.seq [71, 70, 69, 19, 18, 17, 15, 14, 13, 12, 11, 3, 1, 0] (.region [on 0 112 0,
 om 1 113 12,
 oc 2 114 s_impl_wholeCombo p_impl_wholeCombo D_impl_wholeCombo [(.t 112), (.t 113)],
 om 3 111 114,
 oa 4 115 (.extract (.t 111) 0),
 oa 5 116 (.extract (.t 111) 1),
 om 6 18 115,
 om 7 19 116])
  (.seq [122, 71, 70, 69, 18, 17, 15, 14, 13, 12, 11, 3, 1, 0] (.region [om 0 117 18,
 oa 1 118 (.bin .geq (.t 117) (.c (.int .i64 0))),
 om 2 119 118,
 og 3 120 (.mv (.t 19)) 119 true,
 og 4 121 (.un .not (.t 120)) 119 true,
 oa 5 122 (.pick (.t 119) (.t 121) (.c (.bool false)))])
  (.cond (.t 122) (.seq [10, 9, 8] (.region [om 0 123 14,
 oa 1 124 (.fieldA 0 (.t 17)),
 xB 2 125 (.loadB 1 none (.t 124)) [1],
 om 3 126 18,
 xA 4 8 (.mv (.t 123)) [0],
 xA 5 9 (.mv (.t 125)) [0, 1, 2, 4],
 xA 6 10 (.mv (.t 126)) (rg 6)])
  .ret) .skip)))))))))
  (.region [oa 0 127 (.bin .add (.t 71) (.c (.int .i64 1))),
 om 1 71 127])))))))
  (.seq [14, 13, 12, 0] (.seq [133, 14, 13, 12, 0] (.region [om 0 128 15,
 om 1 129 128,
 og 2 130 (.mv (.t 3)) 129 true,
 og 3 131 (.mv (.t 13)) 129 true,
 og 4 132 (.bin .lss (.t 130) (.t 131)) 129 true,
 oa 5 133 (.pick (.t 129) (.t 132) (.c (.bool false)))])
  (.cond (.t 133) (.seq [10, 9, 8] (.region [oi 0 8 0,
 oi 1 9 0,
 oi 2 10 (-1)])
  .ret) .skip))
  (.seq [13] (.seq [20, 14, 13] (.region [on 0 135 0,
 om 1 136 12,
 oc 2 137 s_impl_wholeCombo p_impl_wholeCombo D_impl_wholeCombo [(.t 135), (.t 136)],
 om 3 134 137,
 oa 4 138 (.extract (.t 134) 0),
 oa 5 139 (.extract (.t 134) 1),
 om 6 20 138,
 om 7 21 139])
  (.seq [141, 20, 14, 13] (.region [om 0 140 20,
 oa 1 141 (.bin .geq (.t 140) (.c (.int .i64 0)))])
  (.cond (.t 141) (.seq [10, 9, 8] (.region [om 0 142 14,
 om 1 143 13,
 om 2 144 20,
 om 3 8 142,
 om 4 9 143,
 om 5 10 144])
  .ret) .skip)))
  (.seq [10, 9, 8] (.region [om 0 145 13,
 oi 1 8 1,
 om 2 9 145,
 oi 3 10 (-1)])
  .ret))))))))))))
noncomputable def df_impl_MatchCombo : DFun := ⟨4, 146, 2, true, [.tmp 8, .tmp 9, .tmp 10], dc_impl_MatchCombo⟩
noncomputable def pf_impl_MatchCombo : PFun := df_impl_MatchCombo.er
noncomputable def f_impl_MatchCombo : AFun := pf_impl_MatchCombo.er
@[irreducible] noncomputable def s_impl_MatchCombo : CallSem := funSem f_impl_MatchCombo
@[irreducible] noncomputable def p_impl_MatchCombo : PSem := pfunSem pf_impl_MatchCombo
theorem sp_impl_MatchCombo : SoundP s_impl_MatchCombo p_impl_MatchCombo := by unfold s_impl_MatchCombo p_impl_MatchCombo; exact pfun_sound (f := pf_impl_MatchCombo) ⟨sp_impl_IsCombos, sp_impl_isSwitchEvent, sp_impl_within, sp_impl_isSwitchEvent, sp_impl_within, sp_impl_wholeCombo, sp_impl_wholeCombo, trivial⟩
def h_impl_MatchCombo : List HT := [.one .frz (.sl (.cons (.int .i64) (.one (.int .i64)))), .one .frz (.int .i64), .one .frz (.sl (.cons (.int .i64) (.cons (.int .i64) (.one (.bool))))), .one .frz (.int .i64)]
def q_impl_MatchCombo : QT := .tup [.one .own (.int .i64), .one .own (.int .i64), .one .own (.int .i64)]
@[irreducible] noncomputable def v_impl_MatchCombo (x : (List (Int × Int)) × Int × (List (Int × Int × Bool)) × Int) : Int × Int × Int := (shut fun x => fnV df_impl_MatchCombo h_impl_MatchCombo q_impl_MatchCombo x).1 x
@[irreducible] noncomputable def ok_impl_MatchCombo (x : (List (Int × Int)) × Int × (List (Int × Int × Bool)) × Int) : Prop := (shut fun x => fnOk df_impl_MatchCombo h_impl_MatchCombo q_impl_MatchCombo x).1 x
theorem vu_impl_MatchCombo (x : (List (Int × Int)) × Int × (List (Int × Int × Bool)) × Int) : v_impl_MatchCombo x = fnV df_impl_MatchCombo h_impl_MatchCombo q_impl_MatchCombo x := by unfold v_impl_MatchCombo; exact congrFun (shut _).2 x
theorem ou_impl_MatchCombo (x : (List (Int × Int)) × Int × (List (Int × Int × Bool)) × Int) : ok_impl_MatchCombo x = fnOk df_impl_MatchCombo h_impl_MatchCombo q_impl_MatchCombo x := by unfold ok_impl_MatchCombo; exact congrFun (shut _).2 x
noncomputable def D_impl_MatchCombo : DSem := DSemOf h_impl_MatchCombo q_impl_MatchCombo ok_impl_MatchCombo v_impl_MatchCombo
theorem ck_impl_MatchCombo (x : (List (Int × Int)) × Int × (List (Int × Int × Bool)) × Int) : fnChk df_impl_MatchCombo h_impl_MatchCombo q_impl_MatchCombo x = true := by kernel_rfl
theorem ob_impl_MatchCombo : AllD df_impl_MatchCombo.body.obs := ⟨sd_impl_IsCombos, sd_impl_isSwitchEvent, sd_impl_within, sd_impl_isSwitchEvent, sd_impl_within, sd_impl_wholeCombo, sd_impl_wholeCombo, trivial⟩
theorem st_impl_MatchCombo : fnSt df_impl_MatchCombo h_impl_MatchCombo q_impl_MatchCombo = true := by kernel_rfl
theorem sd_impl_MatchCombo : SoundD p_impl_MatchCombo D_impl_MatchCombo := by unfold p_impl_MatchCombo; exact soundD_of (f := df_impl_MatchCombo) (hs := h_impl_MatchCombo) (q := q_impl_MatchCombo) ob_impl_MatchCombo st_impl_MatchCombo ck_impl_MatchCombo (fun x h => Eq.mp (ou_impl_MatchCombo x) h) (fun x => (vu_impl_MatchCombo x).symm)
noncomputable def dc_laws_FnExactMatchCombo : DCode :=
  (.seq [3, 2, 1, 0] (.region [oa 0 8 (.mv (.c (.bool false)))])
  (.seq [9, 3, 2, 1, 0] (.region [oi 0 9 1048576])
  (.seq [9, 3, 2, 1, 0] (.region [on 0 18 0,
 om 1 19 9,
 oc 2 20 s_laws_szComboS p_laws_szComboS D_laws_szComboS [(.t 18), (.t 19)],
 om 3 9 20])
  (.seq [9, 3, 2, 1, 0] (.seq [22, 9, 3, 2, 1, 0] (.region [om 0 21 9,
 oa 1 22 (.bin .lss (.t 21) (.c (.int .i64 0)))])
  (.cond (.t 22) (.seq [8] (.region [oa 0 8 (.mv (.c (.bool true)))])
  .ret) .skip))
  (.seq [9, 3, 2, 1, 0] (.region [on 0 23 2,
 om 1 24 9,
 oc 2 25 s_laws_szEventS p_laws_szEventS D_laws_szEventS [(.t 23), (.t 24)],
 om 3 9 25])
  (.seq [3, 2, 1, 0] (.seq [27, 3, 2, 1, 0] (.region [om 0 26 9,
 oa 1 27 (.bin .lss (.t 26) (.c (.int .i64 0)))])
  (.cond (.t 27) (.seq [8] (.region [oa 0 8 (.mv (.c (.bool true)))])
  .ret) .skip))
  (.seq [12, 11, 10, 3, 2, 1, 0] (.region [on 0 29 0,
 oc 1 30 s_laws_toComboS p_laws_toComboS D_laws_toComboS [(.t 29)],
 om 2 31 1,
 on 3 32 2,
 oc 4 33 s_laws_toEventS p_laws_toEventS D_laws_toEventS [(.t 32)],
 om 5 34 3,
 oc 6 35 s_spec_MatchCombo p_spec_MatchCombo D_spec_MatchCombo [(.t 30), (.t 31), (.t 33), (.t 34)],
 om 7 28 35,
 oa 8 36 (.extract (.t 28) 0),
 oa 9 37 (.extract (.t 28) 1),
 oa 10 38 (.extract (.t 28) 2),
 om 11 10 36,
 om 12 11 37,
 om 13 12 38])
  (.seq [13, 12, 11, 10, 3, 2, 1, 0] (.region [on 0 39 0,
 oc 1 40 s_laws_toComboS p_laws_toComboS D_laws_toComboS [(.t 39)],
 on 2 13 40])
  (.seq [14, 13, 12, 11, 10, 3, 2, 1, 0] (.region [on 0 41 2,
 oc 1 42 s_laws_toEventS p_laws_toEventS D_laws_toEventS [(.t 41)],
 on 2 14 42])
  (.seq [17, 16, 15, 14, 13, 12, 11, 10, 2, 0] (.region [on 0 44 13,
 om 1 45 1,
 on 2 46 14,
 om 3 47 3,
 oc 4 48 s_impl_MatchCombo p_impl_MatchCombo D_impl_MatchCombo [(.t 44), (.t 45), (.t 46), (.t 47)],
 om 5 43 48,
 oa 6 49 (.extract (.t 43) 0),
 oa 7 50 (.extract (.t 43) 1),
 oa 8 51 (.extract (.t 43) 2),
 om 9 15 49,
 om 10 16 50,
 om 11 17 51])
  (.seq [14, 13, 2, 0] (.seq [64, 14, 13, 2, 0] (.region [om 0 52 15,
 om 1 53 10,
 oa 2 54 (.bin .neq (.t 52) (.t 53)),
 om 3 55 54,
 og 4 56 (.mv (.t 16)) 55 false,
 og 5 57 (.mv (.t 11)) 55 false,
 og 6 58 (.bin .neq (.t 56) (.t 57)) 55 false,
 oa 7 59 (.pick (.t 55) (.c (.bool true)) (.t 58)),
 om 8 60 59,
 og 9 61 (.mv (.t 17)) 60 false,
 og 10 62 (.mv (.t 12)) 60 false,
 og 11 63 (.bin .neq (.t 61) (.t 62)) 60 false,
 oa 12 64 (.pick (.t 60) (.c (.bool true)) (.t 63))])
  (.cond (.t 64) (.seq [8] (.region [oa 0 8 (.mv (.c (.bool false)))])
  .ret) .skip))
  (.seq [14, 2] (.seq [69, 14, 2] (.region [on 0 65 13,
 on 1 66 0,
 oc 2 67 s_laws_toComboS p_laws_toComboS D_laws_toComboS [(.t 66)],
 oc 3 68 s_laws_eqComboS p_laws_eqComboS D_laws_eqComboS [(.t 65), (.t 67)],
 oa 4 69 (.un .not (.t 68))])
  (.cond (.t 69) (.seq [8] (.region [oa 0 8 (.mv (.c (.bool false)))])
  .ret) .skip))
  (.seq [] (.seq [74] (.region [on 0 70 14,
 on 1 71 2,
 oc 2 72 s_laws_toEventS p_laws_toEventS D_laws_toEventS [(.t 71)],
 oc 3 73 s_laws_eqEventS p_laws_eqEventS D_laws_eqEventS [(.t 70), (.t 72)],
 oa 4 74 (.un .not (.t 73))])
  (.cond (.t 74) (.seq [8] (.region [oa 0 8 (.mv (.c (.bool false)))])
  .ret) .skip))
  (.seq [8] (.region [oa 0 8 (.mv (.c (.bool true)))])
  .ret))))))))))))))
noncomputable def df_laws_FnExactMatchCombo : DFun := ⟨4, 75, 0, true, [.tmp 8], dc_laws_FnExactMatchCombo⟩
noncomputable def pf_laws_FnExactMatchCombo : PFun := df_laws_FnExactMatchCombo.er
noncomputable def f_laws_FnExactMatchCombo : AFun := pf_laws_FnExactMatchCombo.er
@[irreducible] noncomputable def s_laws_FnExactMatchCombo : CallSem := funSem f_laws_FnExactMatchCombo
@[irreducible] noncomputable def p_laws_FnExactMatchCombo : PSem := pfunSem pf_laws_FnExactMatchCombo
theorem sp_laws_FnExactMatchCombo : SoundP s_laws_FnExactMatchCombo p_laws_FnExactMatchCombo := by unfold s_laws_FnExactMatchCombo p_laws_FnExactMatchCombo; exact pfun_sound (f := pf_laws_FnExactMatchCombo) ⟨sp_laws_szComboS, sp_laws_szEventS, sp_laws_toComboS, sp_laws_toEventS, sp_spec_MatchCombo, sp_laws_toComboS, sp_laws_toEventS, sp_impl_MatchCombo, sp_laws_toComboS, sp_laws_eqComboS, sp_laws_toEventS, sp_laws_eqEventS, trivial⟩
def h_laws_FnExactMatchCombo : List HT := [.one .frz (.sl (.cons (.int .i64) (.one (.int .i64)))), .one .frz (.int .i64), .one .frz (.sl (.cons (.int .i64) (.cons (.int .i64) (.one (.bool))))), .one .frz (.int .i64)]
def q_laws_FnExactMatchCombo : QT := .one (.one .own (.bool))
@[irreducible] noncomputable def v_laws_FnExactMatchCombo (x : (List (Int × Int)) × Int × (List (Int × Int × Bool)) × Int) : Bool := (shut fun x => fnV df_laws_FnExactMatchCombo h_laws_FnExactMatchCombo q_laws_FnExactMatchCombo x).1 x
@[irreducible] noncomputable def ok_laws_FnExactMatchCombo (x : (List (Int × Int)) × Int × (List (Int × Int × Bool)) × Int) : Prop := (shut fun x => fnOk df_laws_FnExactMatchCombo h_laws_FnExactMatchCombo q_laws_FnExactMatchCombo x).1 x
theorem vu_laws_FnExactMatchCombo (x : (List (Int × Int)) × Int × (List (Int × Int × Bool)) × Int) : v_laws_FnExactMatchCombo x = fnV df_laws_FnExactMatchCombo h_laws_FnExactMatchCombo q_laws_FnExactMatchCombo x := by unfold v_laws_FnExactMatchCombo; exact congrFun (shut _).2 x
theorem ou_laws_FnExactMatchCombo (x : (List (Int × Int)) × Int × (List (Int × Int × Bool)) × Int) : ok_laws_FnExactMatchCombo x = fnOk df_laws_FnExactMatchCombo h_laws_FnExactMatchCombo q_laws_FnExactMatchCombo x := by unfold ok_laws_FnExactMatchCombo; exact congrFun (shut _).2 x
theorem ck_laws_FnExactMatchCombo (x : (List (Int × Int)) × Int × (List (Int × Int × Bool)) × Int) : fnChk df_laws_FnExactMatchCombo h_laws_FnExactMatchCombo q_laws_FnExactMatchCombo x = true := by kernel_rfl
theorem ob_laws_FnExactMatchCombo : AllD df_laws_FnExactMatchCombo.body.obs := ⟨sd_laws_szComboS, sd_laws_szEventS, sd_laws_toComboS, sd_laws_toEventS, sd_spec_MatchCombo, sd_laws_toComboS, sd_laws_toEventS, sd_impl_MatchCombo, sd_laws_toComboS, sd_laws_eqComboS, sd_laws_toEventS, sd_laws_eqEventS, trivial⟩
theorem st_laws_FnExactMatchCombo : fnSt df_laws_FnExactMatchCombo h_laws_FnExactMatchCombo q_laws_FnExactMatchCombo = true := by kernel_rfl
end
section
set_option maxRecDepth 100000
theorem ve_spec_l11Switch (x : Int × Int × Bool) : v_spec_l11Switch x = (bAnd (v_spec_IsEvent x) (iLt x.2.1 24)) := (vu_spec_l11Switch x).trans (by kernel_rfl)
theorem oe_spec_l11Switch (x : Int × Int × Bool) : ok_spec_l11Switch x = (ok_spec_IsEvent x) := (ou_spec_l11Switch x).trans (by kernel_rfl)
noncomputable def lc_spec_l11Fits_1 (x : (List (Int × Int)) × Int) (x0 : Int) : Bool := (bAnd (iLt x0 (lLen x.1)) (bNot (iEq (iAndNot Go.IntKind.i64 x.2 (lGet x.1 (iNat x0) (0, 0)).1) 0)))
noncomputable def lf_spec_l11Fits_1 (x0 : Int) : Int := (iAdd Go.IntKind.i64 x0 1)
noncomputable def lp_spec_l11Fits_1 (x : (List (Int × Int)) × Int) (x0 : Int) : Prop := (((iLt x0 (lLen x.1)) = true → ((((0 : Int) ≤ x0) ∧ (x0 < (((List.length x.1) : Int)))) ∧ ((iNat x0) < (List.length x.1)))) ∧ ((iLt x0 (lLen x.1)) = false → True))
theorem ve_spec_l11Fits (x : (List (Int × Int)) × Int) : v_spec_l11Fits x = (iLt (loopV (lc_spec_l11Fits_1 x) lf_spec_l11Fits_1 0) (lLen x.1)) := (vu_spec_l11Fits x).trans (by kernel_rfl)
theorem oe_spec_l11Fits (x : (List (Int × Int)) × Int) : ok_spec_l11Fits x = (LoopOk (lc_spec_l11Fits_1 x) lf_spec_l11Fits_1 (lp_spec_l11Fits_1 x) 0) := (ou_spec_l11Fits x).trans (by kernel_rfl)
noncomputable def lc_spec_l11Out_1 (x : (List (Int × Int)) × Int) (x0 : (Int × (Bool × Int))) : Bool := (iLt x0.2.2 (lLen x.1))
noncomputable def lf_spec_l11Out_1 (x : (List (Int × Int)) × Int) (x0 : (Int × (Bool × Int))) : (Int × (Bool × Int)) := ((bSel (iEq x.2 (lGet x.1 (iNat x0.2.2) (0, 0)).1) (lGet x.1 (iNat x0.2.2) (0, 0)).2 x0.1), (bSel (iEq x.2 (lGet x.1 (iNat x0.2.2) (0, 0)).1) x0.2.1 (bOr (iEq (iAndNot Go.IntKind.i64 x.2 (lGet x.1 (iNat x0.2.2) (0, 0)).1) 0) x0.2.1)), (iAdd Go.IntKind.i64 x0.2.2 1))
noncomputable def lp_spec_l11Out_1 (x : (List (Int × Int)) × Int) (x0 : (Int × (Bool × Int))) : Prop := (((iLt x0.2.2 (lLen x.1)) = true → ((((0 : Int) ≤ x0.2.2) ∧ (x0.2.2 < (((List.length x.1) : Int)))) ∧ (((iNat x0.2.2) < (List.length x.1)) ∧ (((iEq x.2 (lGet x.1 (iNat x0.2.2) (0, 0)).1) = true → ((((0 : Int) ≤ x0.2.2) ∧ (x0.2.2 < (((List.length x.1) : Int)))) ∧ ((iNat x0.2.2) < (List.length x.1)))) ∧ ((iEq x.2 (lGet x.1 (iNat x0.2.2) (0, 0)).1) = false → ((((0 : Int) ≤ x0.2.2) ∧ (x0.2.2 < (((List.length x.1) : Int)))) ∧ ((iNat x0.2.2) < (List.length x.1)))))))) ∧ ((iLt x0.2.2 (lLen x.1)) = false → True))
theorem ve_spec_l11Out (x : (List (Int × Int)) × Int) : v_spec_l11Out x = ((loopV (lc_spec_l11Out_1 x) (lf_spec_l11Out_1 x) ((-1), false, 0)).1, (loopV (lc_spec_l11Out_1 x) (lf_spec_l11Out_1 x) ((-1), false, 0)).2.1) := (vu_spec_l11Out x).trans (by kernel_rfl)
theorem oe_spec_l11Out (x : (List (Int × Int)) × Int) : ok_spec_l11Out x = (LoopOk (lc_spec_l11Out_1 x) (lf_spec_l11Out_1 x) (lp_spec_l11Out_1 x) ((-1), false, 0)) := (ou_spec_l11Out x).trans (by kernel_rfl)
noncomputable def lc_spec_MatchCombo_1 (x : (List (Int × Int)) × Int × (List (Int × Int × Bool)) × Int) (x0 : (Int × Int)) : Bool := (bAnd (bNot (iEq x0.2 (lLen x.2.2.1))) (bAnd (bNot (bNot (v_spec_l11Switch (lGet x.2.2.1 (iNat x0.2) (0, 0, false))))) (bAnd (bNot (iGe (lGet x.2.2.1 (iNat x0.2) (0, 0, false)).1 (iAdd Go.IntKind.i64 (lGet x.2.2.1 (iNat 0) (0, 0, false)).1 x.2.1))) (bAnd (bNot (bOr (bNot (lGet x.2.2.1 (iNat x0.2) (0, 0, false)).2.2) (bNot (v_spec_l11Fits (x.1, (iOr Go.IntKind.i64 x0.1 (iShl Go.IntKind.i64 1 (lGet x.2.2.1 (iNat x0.2) (0, 0, false)).2.1))))))) (bNot (bAnd (iGe (v_spec_l11Out (x.1, (iOr Go.IntKind.i64 x0.1 (iShl Go.IntKind.i64 1 (lGet x.2.2.1 (iNat x0.2) (0, 0, false)).2.1)))).1 0) (bNot (v_spec_l11Out (x.1, (iOr Go.IntKind.i64 x0.1 (iShl Go.IntKind.i64 1 (lGet x.2.2.1 (iNat x0.2) (0, 0, false)).2.1)))).2)))))))
noncomputable def lf_spec_MatchCombo_1 (x : (List (Int × Int)) × Int × (List (Int × Int × Bool)) × Int) (x0 : (Int × Int)) : (Int × Int) := ((iOr Go.IntKind.i64 x0.1 (iShl Go.IntKind.i64 1 (lGet x.2.2.1 (iNat x0.2) (0, 0, false)).2.1)), (iAdd Go.IntKind.i64 x0.2 1))
noncomputable def lp_spec_MatchCombo_1 (x : (List (Int × Int)) × Int × (List (Int × Int × Bool)) × Int) (x0 : (Int × Int)) : Prop := (((iEq x0.2 (lLen x.2.2.1)) = true → True) ∧ ((iEq x0.2 (lLen x.2.2.1)) = false → ((((0 : Int) ≤ x0.2) ∧ (x0.2 < (((List.length x.2.2.1) : Int)))) ∧ (((iNat x0.2) < (List.length x.2.2.1)) ∧ ((ok_spec_l11Switch (lGet x.2.2.1 (iNat x0.2) (0, 0, false))) ∧ (((bNot (v_spec_l11Switch (lGet x.2.2.1 (iNat x0.2) (0, 0, false)))) = true → True) ∧ ((bNot (v_spec_l11Switch (lGet x.2.2.1 (iNat x0.2) (0, 0, false)))) = false → (((iGe (lGet x.2.2.1 (iNat x0.2) (0, 0, false)).1 (iAdd Go.IntKind.i64 (lGet x.2.2.1 (iNat 0) (0, 0, false)).1 x.2.1)) = true → True) ∧ ((iGe (lGet x.2.2.1 (iNat x0.2) (0, 0, false)).1 (iAdd Go.IntKind.i64 (lGet x.2.2.1 (iNat 0) (0, 0, false)).1 x.2.1)) = false → ((((bNot (lGet x.2.2.1 (iNat x0.2) (0, 0, false)).2.2) = true → True) ∧ ((bNot (lGet x.2.2.1 (iNat x0.2) (0, 0, false)).2.2) = false → (((0 : Int) ≤ (lGet x.2.2.1 (iNat x0.2) (0, 0, false)).2.1) ∧ (ok_spec_l11Fits (x.1, (iOr Go.IntKind.i64 x0.1 (iShl Go.IntKind.i64 1 (lGet x.2.2.1 (iNat x0.2) (0, 0, false)).2.1))))))) ∧ (((bOr (bNot (lGet x.2.2.1 (iNat x0.2) (0, 0, false)).2.2) (bNot (v_spec_l11Fits (x.1, (iOr Go.IntKind.i64 x0.1 (iShl Go.IntKind.i64 1 (lGet x.2.2.1 (iNat x0.2) (0, 0, false)).2.1)))))) = true → True) ∧ ((bOr (bNot (lGet x.2.2.1 (iNat x0.2) (0, 0, false)).2.2) (bNot (v_spec_l11Fits (x.1, (iOr Go.IntKind.i64 x0.1 (iShl Go.IntKind.i64 1 (lGet x.2.2.1 (iNat x0.2) (0, 0, false)).2.1)))))) = false → (((0 : Int) ≤ (lGet x.2.2.1 (iNat x0.2) (0, 0, false)).2.1) ∧ (ok_spec_l11Out (x.1, (iOr Go.IntKind.i64 x0.1 (iShl Go.IntKind.i64 1 (lGet x.2.2.1 (iNat x0.2) (0, 0, false)).2.1)))))))))))))))))
theorem ve_spec_MatchCombo (x : (List (Int × Int)) × Int × (List (Int × Int × Bool)) × Int) : v_spec_MatchCombo x = (bSel (bOr (bNot (v_spec_IsCombos x.1)) (bOr (bNot (v_spec_l1In (x.2.1, 1, 200))) (bOr (iEq (lLen x.2.2.1) 0) (bOr (bNot (v_spec_l11Switch (lGet x.2.2.1 (iNat 0) (0, 0, false)))) (bNot (lGet x.2.2.1 (iNat 0) (0, 0, false)).2.2))))) (0, 0, (-1)) (bSel (bNot (v_spec_l11Fits (x.1, (iShl Go.IntKind.i64 1 (lGet x.2.2.1 (iNat 0) (0, 0, false)).2.1)))) (1, (lGet x.2.2.1 (iNat 0) (0, 0, false)).1, (-1)) (bSel (bSel (iEq (loopV (lc_spec_MatchCombo_1 x) (lf_spec_MatchCombo_1 x) ((iShl Go.IntKind.i64 1 (lGet x.2.2.1 (iNat 0) (0, 0, false)).2.1), 1)).2 (lLen x.2.2.1)) (bNot (iLt x.2.2.2 (iAdd Go.IntKind.i64 (lGet x.2.2.1 (iNat 0) (0, 0, false)).1 x.2.1))) (bAnd (bNot (bNot (v_spec_l11Switch (lGet x.2.2.1 (iNat (loopV (lc_spec_MatchCombo_1 x) (lf_spec_MatchCombo_1 x) ((iShl Go.IntKind.i64 1 (lGet x.2.2.1 (iNat 0) (0, 0, false)).2.1), 1)).2) (0, 0, false))))) (bOr (iGe (lGet x.2.2.1 (iNat (loopV (lc_spec_MatchCombo_1 x) (lf_spec_MatchCombo_1 x) ((iShl Go.IntKind.i64 1 (lGet x.2.2.1 (iNat 0) (0, 0, false)).2.1), 1)).2) (0, 0, false)).1 (iAdd Go.IntKind.i64 (lGet x.2.2.1 (iNat 0) (0, 0, false)).1 x.2.1)) (bOr (bNot (lGet x.2.2.1 (iNat (loopV (lc_spec_MatchCombo_1 x) (lf_spec_MatchCombo_1 x) ((iShl Go.IntKind.i64 1 (lGet x.2.2.1 (iNat 0) (0, 0, false)).2.1), 1)).2) (0, 0, false)).2.2) (bNot (v_spec_l11Fits (x.1, (iOr Go.IntKind.i64 (loopV (lc_spec_MatchCombo_1 x) (lf_spec_MatchCombo_1 x) ((iShl Go.IntKind.i64 1 (lGet x.2.2.1 (iNat 0) (0, 0, false)).2.1), 1)).1 (iShl Go.IntKind.i64 1 (lGet x.2.2.1 (iNat (loopV (lc_spec_MatchCombo_1 x) (lf_spec_MatchCombo_1 x) ((iShl Go.IntKind.i64 1 (lGet x.2.2.1 (iNat 0) (0, 0, false)).2.1), 1)).2) (0, 0, false)).2.1))))))))) ((bSel (iLt (v_spec_l11Out (x.1, (bSel (iEq (loopV (lc_spec_MatchCombo_1 x) (lf_spec_MatchCombo_1 x) ((iShl Go.IntKind.i64 1 (lGet x.2.2.1 (iNat 0) (0, 0, false)).2.1), 1)).2 (lLen x.2.2.1)) (loopV (lc_spec_MatchCombo_1 x) (lf_spec_MatchCombo_1 x) ((iShl Go.IntKind.i64 1 (lGet x.2.2.1 (iNat 0) (0, 0, false)).2.1), 1)).1 (bSel (iGe (lGet x.2.2.1 (iNat (loopV (lc_spec_MatchCombo_1 x) (lf_spec_MatchCombo_1 x) ((iShl Go.IntKind.i64 1 (lGet x.2.2.1 (iNat 0) (0, 0, false)).2.1), 1)).2) (0, 0, false)).1 (iAdd Go.IntKind.i64 (lGet x.2.2.1 (iNat 0) (0, 0, false)).1 x.2.1)) (loopV (lc_spec_MatchCombo_1 x) (lf_spec_MatchCombo_1 x) ((iShl Go.IntKind.i64 1 (lGet x.2.2.1 (iNat 0) (0, 0, false)).2.1), 1)).1 (loopV (lc_spec_MatchCombo_1 x) (lf_spec_MatchCombo_1 x) ((iShl Go.IntKind.i64 1 (lGet x.2.2.1 (iNat 0) (0, 0, false)).2.1), 1)).1)))).1 0) 1 (bSel (iEq (loopV (lc_spec_MatchCombo_1 x) (lf_spec_MatchCombo_1 x) ((iShl Go.IntKind.i64 1 (lGet x.2.2.1 (iNat 0) (0, 0, false)).2.1), 1)).2 (lLen x.2.2.1)) (loopV (lc_spec_MatchCombo_1 x) (lf_spec_MatchCombo_1 x) ((iShl Go.IntKind.i64 1 (lGet x.2.2.1 (iNat 0) (0, 0, false)).2.1), 1)).2 (bSel (iGe (lGet x.2.2.1 (iNat (loopV (lc_spec_MatchCombo_1 x) (lf_spec_MatchCombo_1 x) ((iShl Go.IntKind.i64 1 (lGet x.2.2.1 (iNat 0) (0, 0, false)).2.1), 1)).2) (0, 0, false)).1 (iAdd Go.IntKind.i64 (lGet x.2.2.1 (iNat 0) (0, 0, false)).1 x.2.1)) (loopV (lc_spec_MatchCombo_1 x) (lf_spec_MatchCombo_1 x) ((iShl Go.IntKind.i64 1 (lGet x.2.2.1 (iNat 0) (0, 0, false)).2.1), 1)).2 (loopV (lc_spec_MatchCombo_1 x) (lf_spec_MatchCombo_1 x) ((iShl Go.IntKind.i64 1 (lGet x.2.2.1 (iNat 0) (0, 0, false)).2.1), 1)).2))), (bSel (iEq (loopV (lc_spec_MatchCombo_1 x) (lf_spec_MatchCombo_1 x) ((iShl Go.IntKind.i64 1 (lGet x.2.2.1 (iNat 0) (0, 0, false)).2.1), 1)).2 (lLen x.2.2.1)) (iAdd Go.IntKind.i64 (lGet x.2.2.1 (iNat 0) (0, 0, false)).1 x.2.1) (bSel (iGe (lGet x.2.2.1 (iNat (loopV (lc_spec_MatchCombo_1 x) (lf_spec_MatchCombo_1 x) ((iShl Go.IntKind.i64 1 (lGet x.2.2.1 (iNat 0) (0, 0, false)).2.1), 1)).2) (0, 0, false)).1 (iAdd Go.IntKind.i64 (lGet x.2.2.1 (iNat 0) (0, 0, false)).1 x.2.1)) (iAdd Go.IntKind.i64 (lGet x.2.2.1 (iNat 0) (0, 0, false)).1 x.2.1) (lGet x.2.2.1 (iNat (loopV (lc_spec_MatchCombo_1 x) (lf_spec_MatchCombo_1 x) ((iShl Go.IntKind.i64 1 (lGet x.2.2.1 (iNat 0) (0, 0, false)).2.1), 1)).2) (0, 0, false)).1)), (v_spec_l11Out (x.1, (bSel (iEq (loopV (lc_spec_MatchCombo_1 x) (lf_spec_MatchCombo_1 x) ((iShl Go.IntKind.i64 1 (lGet x.2.2.1 (iNat 0) (0, 0, false)).2.1), 1)).2 (lLen x.2.2.1)) (loopV (lc_spec_MatchCombo_1 x) (lf_spec_MatchCombo_1 x) ((iShl Go.IntKind.i64 1 (lGet x.2.2.1 (iNat 0) (0, 0, false)).2.1), 1)).1 (bSel (iGe (lGet x.2.2.1 (iNat (loopV (lc_spec_MatchCombo_1 x) (lf_spec_MatchCombo_1 x) ((iShl Go.IntKind.i64 1 (lGet x.2.2.1 (iNat 0) (0, 0, false)).2.1), 1)).2) (0, 0, false)).1 (iAdd Go.IntKind.i64 (lGet x.2.2.1 (iNat 0) (0, 0, false)).1 x.2.1)) (loopV (lc_spec_MatchCombo_1 x) (lf_spec_MatchCombo_1 x) ((iShl Go.IntKind.i64 1 (lGet x.2.2.1 (iNat 0) (0, 0, false)).2.1), 1)).1 (loopV (lc_spec_MatchCombo_1 x) (lf_spec_MatchCombo_1 x) ((iShl Go.IntKind.i64 1 (lGet x.2.2.1 (iNat 0) (0, 0, false)).2.1), 1)).1)))).1) (bSel (iEq (loopV (lc_spec_MatchCombo_1 x) (lf_spec_MatchCombo_1 x) ((iShl Go.IntKind.i64 1 (lGet x.2.2.1 (iNat 0) (0, 0, false)).2.1), 1)).2 (lLen x.2.2.1)) (0, 0, (-1)) (bSel (bNot (v_spec_l11Switch (lGet x.2.2.1 (iNat (loopV (lc_spec_MatchCombo_1 x) (lf_spec_MatchCombo_1 x) ((iShl Go.IntKind.i64 1 (lGet x.2.2.1 (iNat 0) (0, 0, false)).2.1), 1)).2) (0, 0, false)))) (0, 0, (-1)) ((iAdd Go.IntKind.i64 (loopV (lc_spec_MatchCombo_1 x) (lf_spec_MatchCombo_1 x) ((iShl Go.IntKind.i64 1 (lGet x.2.2.1 (iNat 0) (0, 0, false)).2.1), 1)).2 1), (lGet x.2.2.1 (iNat (loopV (lc_spec_MatchCombo_1 x) (lf_spec_MatchCombo_1 x) ((iShl Go.IntKind.i64 1 (lGet x.2.2.1 (iNat 0) (0, 0, false)).2.1), 1)).2) (0, 0, false)).1, (v_spec_l11Out (x.1, (iOr Go.IntKind.i64 (loopV (lc_spec_MatchCombo_1 x) (lf_spec_MatchCombo_1 x) ((iShl Go.IntKind.i64 1 (lGet x.2.2.1 (iNat 0) (0, 0, false)).2.1), 1)).1 (iShl Go.IntKind.i64 1 (lGet x.2.2.1 (iNat (loopV (lc_spec_MatchCombo_1 x) (lf_spec_MatchCombo_1 x) ((iShl Go.IntKind.i64 1 (lGet x.2.2.1 (iNat 0) (0, 0, false)).2.1), 1)).2) (0, 0, false)).2.1)))).1)))))) := (vu_spec_MatchCombo x).trans (by kernel_rfl)
theorem oe_spec_MatchCombo (x : (List (Int × Int)) × Int × (List (Int × Int × Bool)) × Int) : ok_spec_MatchCombo x = (((ok_spec_IsCombos x.1) ∧ (((bNot (v_spec_IsCombos x.1)) = true → True) ∧ ((bNot (v_spec_IsCombos x.1)) = false → ((ok_spec_l1In (x.2.1, 1, 200)) ∧ (((bNot (v_spec_l1In (x.2.1, 1, 200))) = true → True) ∧ ((bNot (v_spec_l1In (x.2.1, 1, 200))) = false → (((iEq (lLen x.2.2.1) 0) = true → True) ∧ ((iEq (lLen x.2.2.1) 0) = false → ((((0 : Int) ≤ 0) ∧ ((0 : Int) < (((List.length x.2.2.1) : Int)))) ∧ (((iNat 0) < (List.length x.2.2.1)) ∧ ((ok_spec_l11Switch (lGet x.2.2.1 (iNat 0) (0, 0, false))) ∧ (((bNot (v_spec_l11Switch (lGet x.2.2.1 (iNat 0) (0, 0, false)))) = true → True) ∧ ((bNot (v_spec_l11Switch (lGet x.2.2.1 (iNat 0) (0, 0, false)))) = false → ((((0 : Int) ≤ 0) ∧ ((0 : Int) < (((List.length x.2.2.1) : Int)))) ∧ ((iNat 0) < (List.length x.2.2.1)))))))))))))))) ∧ (((bOr (bNot (v_spec_IsCombos x.1)) (bOr (bNot (v_spec_l1In (x.2.1, 1, 200))) (bOr (iEq (lLen x.2.2.1) 0) (bOr (bNot (v_spec_l11Switch (lGet x.2.2.1 (iNat 0) (0, 0, false)))) (bNot (lGet x.2.2.1 (iNat 0) (0, 0, false)).2.2))))) = true → True) ∧ ((bOr (bNot (v_spec_IsCombos x.1)) (bOr (bNot (v_spec_l1In (x.2.1, 1, 200))) (bOr (iEq (lLen x.2.2.1) 0) (bOr (bNot (v_spec_l11Switch (lGet x.2.2.1 (iNat 0) (0, 0, false)))) (bNot (lGet x.2.2.1 (iNat 0) (0, 0, false)).2.2))))) = false → ((((0 : Int) ≤ 0) ∧ ((0 : Int) < (((List.length x.2.2.1) : Int)))) ∧ (((iNat 0) < (List.length x.2.2.1)) ∧ (((0 : Int) ≤ (lGet x.2.2.1 (iNat 0) (0, 0, false)).2.1) ∧ ((((0 : Int) ≤ 0) ∧ ((0 : Int) < (((List.length x.2.2.1) : Int)))) ∧ (((iNat 0) < (List.length x.2.2.1)) ∧ ((ok_spec_l11Fits (x.1, (iShl Go.IntKind.i64 1 (lGet x.2.2.1 (iNat 0) (0, 0, false)).2.1))) ∧ (((bNot (v_spec_l11Fits (x.1, (iShl Go.IntKind.i64 1 (lGet x.2.2.1 (iNat 0) (0, 0, false)).2.1)))) = true → ((((0 : Int) ≤ 0) ∧ ((0 : Int) < (((List.length x.2.2.1) : Int)))) ∧ ((iNat 0) < (List.length x.2.2.1)))) ∧ ((bNot (v_spec_l11Fits (x.1, (iShl Go.IntKind.i64 1 (lGet x.2.2.1 (iNat 0) (0, 0, false)).2.1)))) = false → ((LoopOk (lc_spec_MatchCombo_1 x) (lf_spec_MatchCombo_1 x) (lp_spec_MatchCombo_1 x) ((iShl Go.IntKind.i64 1 (lGet x.2.2.1 (iNat 0) (0, 0, false)).2.1), 1)) ∧ (((bSel (iEq (loopV (lc_spec_MatchCombo_1 x) (lf_spec_MatchCombo_1 x) ((iShl Go.IntKind.i64 1 (lGet x.2.2.1 (iNat 0) (0, 0, false)).2.1), 1)).2 (lLen x.2.2.1)) (bNot (iLt x.2.2.2 (iAdd Go.IntKind.i64 (lGet x.2.2.1 (iNat 0) (0, 0, false)).1 x.2.1))) (bAnd (bNot (bNot (v_spec_l11Switch (lGet x.2.2.1 (iNat (loopV (lc_spec_MatchCombo_1 x) (lf_spec_MatchCombo_1 x) ((iShl Go.IntKind.i64 1 (lGet x.2.2.1 (iNat 0) (0, 0, false)).2.1), 1)).2) (0, 0, false))))) (bOr (iGe (lGet x.2.2.1 (iNat (loopV (lc_spec_MatchCombo_1 x) (lf_spec_MatchCombo_1 x) ((iShl Go.IntKind.i64 1 (lGet x.2.2.1 (iNat 0) (0, 0, false)).2.1), 1)).2) (0, 0, false)).1 (iAdd Go.IntKind.i64 (lGet x.2.2.1 (iNat 0) (0, 0, false)).1 x.2.1)) (bOr (bNot (lGet x.2.2.1 (iNat (loopV (lc_spec_MatchCombo_1 x) (lf_spec_MatchCombo_1 x) ((iShl Go.IntKind.i64 1 (lGet x.2.2.1 (iNat 0) (0, 0, false)).2.1), 1)).2) (0, 0, false)).2.2) (bNot (v_spec_l11Fits (x.1, (iOr Go.IntKind.i64 (loopV (lc_spec_MatchCombo_1 x) (lf_spec_MatchCombo_1 x) ((iShl Go.IntKind.i64 1 (lGet x.2.2.1 (iNat 0) (0, 0, false)).2.1), 1)).1 (iShl Go.IntKind.i64 1 (lGet x.2.2.1 (iNat (loopV (lc_spec_MatchCombo_1 x) (lf_spec_MatchCombo_1 x) ((iShl Go.IntKind.i64 1 (lGet x.2.2.1 (iNat 0) (0, 0, false)).2.1), 1)).2) (0, 0, false)).2.1))))))))) = true → (ok_spec_l11Out (x.1, (bSel (iEq (loopV (lc_spec_MatchCombo_1 x) (lf_spec_MatchCombo_1 x) ((iShl Go.IntKind.i64 1 (lGet x.2.2.1 (iNat 0) (0, 0, false)).2.1), 1)).2 (lLen x.2.2.1)) (loopV (lc_spec_MatchCombo_1 x) (lf_spec_MatchCombo_1 x) ((iShl Go.IntKind.i64 1 (lGet x.2.2.1 (iNat 0) (0, 0, false)).2.1), 1)).1 (bSel (iGe (lGet x.2.2.1 (iNat (loopV (lc_spec_MatchCombo_1 x) (lf_spec_MatchCombo_1 x) ((iShl Go.IntKind.i64 1 (lGet x.2.2.1 (iNat 0) (0, 0, false)).2.1), 1)).2) (0, 0, false)).1 (iAdd Go.IntKind.i64 (lGet x.2.2.1 (iNat 0) (0, 0, false)).1 x.2.1)) (loopV (lc_spec_MatchCombo_1 x) (lf_spec_MatchCombo_1 x) ((iShl Go.IntKind.i64 1 (lGet x.2.2.1 (iNat 0) (0, 0, false)).2.1), 1)).1 (loopV (lc_spec_MatchCombo_1 x) (lf_spec_MatchCombo_1 x) ((iShl Go.IntKind.i64 1 (lGet x.2.2.1 (iNat 0) (0, 0, false)).2.1), 1)).1))))) ∧ ((bSel (iEq (loopV (lc_spec_MatchCombo_1 x) (lf_spec_MatchCombo_1 x) ((iShl Go.IntKind.i64 1 (lGet x.2.2.1 (iNat 0) (0, 0, false)).2.1), 1)).2 (lLen x.2.2.1)) (bNot (iLt x.2.2.2 (iAdd Go.IntKind.i64 (lGet x.2.2.1 (iNat 0) (0, 0, false)).1 x.2.1))) (bAnd (bNot (bNot (v_spec_l11Switch (lGet x.2.2.1 (iNat (loopV (lc_spec_MatchCombo_1 x) (lf_spec_MatchCombo_1 x) ((iShl Go.IntKind.i64 1 (lGet x.2.2.1 (iNat 0) (0, 0, false)).2.1), 1)).2) (0, 0, false))))) (bOr (iGe (lGet x.2.2.1 (iNat (loopV (lc_spec_MatchCombo_1 x) (lf_spec_MatchCombo_1 x) ((iShl Go.IntKind.i64 1 (lGet x.2.2.1 (iNat 0) (0, 0, false)).2.1), 1)).2) (0, 0, false)).1 (iAdd Go.IntKind.i64 (lGet x.2.2.1 (iNat 0) (0, 0, false)).1 x.2.1)) (bOr (bNot (lGet x.2.2.1 (iNat (loopV (lc_spec_MatchCombo_1 x) (lf_spec_MatchCombo_1 x) ((iShl Go.IntKind.i64 1 (lGet x.2.2.1 (iNat 0) (0, 0, false)).2.1), 1)).2) (0, 0, false)).2.2) (bNot (v_spec_l11Fits (x.1, (iOr Go.IntKind.i64 (loopV (lc_spec_MatchCombo_1 x) (lf_spec_MatchCombo_1 x) ((iShl Go.IntKind.i64 1 (lGet x.2.2.1 (iNat 0) (0, 0, false)).2.1), 1)).1 (iShl Go.IntKind.i64 1 (lGet x.2.2.1 (iNat (loopV (lc_spec_MatchCombo_1 x) (lf_spec_MatchCombo_1 x) ((iShl Go.IntKind.i64 1 (lGet x.2.2.1 (iNat 0) (0, 0, false)).2.1), 1)).2) (0, 0, false)).2.1))))))))) = false → True)))))))))))))) := (ou_spec_MatchCombo x).trans (by kernel_rfl)
theorem ve_impl_isSwitchEvent (x : Int × Int × Bool) : v_impl_isSwitchEvent x = (bAnd (v_impl_IsEvent x) (iLt x.2.1 24)) := (vu_impl_isSwitchEvent x).trans (by kernel_rfl)
theorem oe_impl_isSwitchEvent (x : Int × Int × Bool) : ok_impl_isSwitchEvent x = (ok_impl_IsEvent x) := (ou_impl_isSwitchEvent x).trans (by kernel_rfl)
noncomputable def lc_impl_within_1 (x : (List (Int × Int)) × Int) (x0 : Int) : Bool := (bAnd (iLt x0 (lLen x.1)) (bNot (iEq (iAndNot Go.IntKind.i64 x.2 (lGet x.1 (iNat x0) (0, 0)).1) 0)))
noncomputable def lf_impl_within_1 (x0 : Int) : Int := (iAdd Go.IntKind.i64 x0 1)
noncomputable def lp_impl_within_1 (x : (List (Int × Int)) × Int) (x0 : Int) : Prop := (((iLt x0 (lLen x.1)) = true → ((((0 : Int) ≤ x0) ∧ (x0 < (((List.length x.1) : Int)))) ∧ ((iNat x0) < (List.length x.1)))) ∧ ((iLt x0 (lLen x.1)) = false → True))
theorem ve_impl_within (x : (List (Int × Int)) × Int) : v_impl_within x = (iLt (loopV (lc_impl_within_1 x) lf_impl_within_1 0) (lLen x.1)) := (vu_impl_within x).trans (by kernel_rfl)
theorem oe_impl_within (x : (List (Int × Int)) × Int) : ok_impl_within x = (LoopOk (lc_impl_within_1 x) lf_impl_within_1 (lp_impl_within_1 x) 0) := (ou_impl_within x).trans (by kernel_rfl)
noncomputable def lc_impl_wholeCombo_1 (x : (List (Int × Int)) × Int) (x0 : (Int × (Bool × Int))) : Bool := (iLt x0.2.2 (lLen x.1))
noncomputable def lf_impl_wholeCombo_1 (x : (List (Int × Int)) × Int) (x0 : (Int × (Bool × Int))) : (Int × (Bool × Int)) := ((bSel (iEq (lGet x.1 (iNat x0.2.2) (0, 0)).1 x.2) (lGet x.1 (iNat x0.2.2) (0, 0)).2 x0.1), (bSel (iEq (lGet x.1 (iNat x0.2.2) (0, 0)).1 x.2) x0.2.1 (bOr (iEq (iAndNot Go.IntKind.i64 x.2 (lGet x.1 (iNat x0.2.2) (0, 0)).1) 0) x0.2.1)), (iAdd Go.IntKind.i64 x0.2.2 1))
noncomputable def lp_impl_wholeCombo_1 (x : (List (Int × Int)) × Int) (x0 : (Int × (Bool × Int))) : Prop := (((iLt x0.2.2 (lLen x.1)) = true → ((((0 : Int) ≤ x0.2.2) ∧ (x0.2.2 < (((List.length x.1) : Int)))) ∧ ((iNat x0.2.2) < (List.length x.1)))) ∧ ((iLt x0.2.2 (lLen x.1)) = false → True))
theorem ve_impl_wholeCombo (x : (List (Int × Int)) × Int) : v_impl_wholeCombo x = ((loopV (lc_impl_wholeCombo_1 x) (lf_impl_wholeCombo_1 x) ((-1), false, 0)).1, (loopV (lc_impl_wholeCombo_1 x) (lf_impl_wholeCombo_1 x) ((-1), false, 0)).2.1) := (vu_impl_wholeCombo x).trans (by kernel_rfl)
theorem oe_impl_wholeCombo (x : (List (Int × Int)) × Int) : ok_impl_wholeCombo x = (LoopOk (lc_impl_wholeCombo_1 x) (lf_impl_wholeCombo_1 x) (lp_impl_wholeCombo_1 x) ((-1), false, 0)) := (ou_impl_wholeCombo x).trans (by kernel_rfl)
noncomputable def lc_impl_MatchCombo_1 (x : (List (Int × Int)) × Int × (List (Int × Int × Bool)) × Int) (x0 : (Int × (Int × Int))) : Bool := (bAnd (iLt x0.2.2 (lLen (lSub x.2.2.1 (iNat 1) (lN x.2.2.1)))) (bAnd (bNot (bNot (v_impl_isSwitchEvent (lGet (lSub x.2.2.1 (iNat 1) (lN x.2.2.1)) (iNat x0.2.2) (0, 0, false))))) (bAnd (bNot (bOr (iGe (lGet (lSub x.2.2.1 (iNat 1) (lN x.2.2.1)) (iNat x0.2.2) (0, 0, false)).1 (iAdd Go.IntKind.i64 (lGet x.2.2.1 (iNat 0) (0, 0, false)).1 x.2.1)) (bOr (bNot (lGet (lSub x.2.2.1 (iNat 1) (lN x.2.2.1)) (iNat x0.2.2) (0, 0, false)).2.2) (bNot (v_impl_within (x.1, (iOr Go.IntKind.i64 x0.1 (iShl Go.IntKind.i64 1 (lGet (lSub x.2.2.1 (iNat 1) (lN x.2.2.1)) (iNat x0.2.2) (0, 0, false)).2.1)))))))) (bNot (bAnd (iGe (v_impl_wholeCombo (x.1, (iOr Go.IntKind.i64 x0.1 (iShl Go.IntKind.i64 1 (lGet (lSub x.2.2.1 (iNat 1) (lN x.2.2.1)) (iNat x0.2.2) (0, 0, false)).2.1)))).1 0) (bNot (v_impl_wholeCombo (x.1, (iOr Go.IntKind.i64 x0.1 (iShl Go.IntKind.i64 1 (lGet (lSub x.2.2.1 (iNat 1) (lN x.2.2.1)) (iNat x0.2.2) (0, 0, false)).2.1)))).2))))))
noncomputable def lf_impl_MatchCombo_1 (x : (List (Int × Int)) × Int × (List (Int × Int × Bool)) × Int) (x0 : (Int × (Int × Int))) : (Int × (Int × Int)) := ((iOr Go.IntKind.i64 x0.1 (iShl Go.IntKind.i64 1 (lGet (lSub x.2.2.1 (iNat 1) (lN x.2.2.1)) (iNat x0.2.2) (0, 0, false)).2.1)), (iAdd Go.IntKind.i64 x0.2.1 1), (iAdd Go.IntKind.i64 x0.2.2 1))
noncomputable def lp_impl_MatchCombo_1 (x : (List (Int × Int)) × Int × (List (Int × Int × Bool)) × Int) (x0 : (Int × (Int × Int))) : Prop := (((iLt x0.2.2 (lLen (lSub x.2.2.1 (iNat 1) (lN x.2.2.1)))) = true → ((((0 : Int) ≤ x0.2.2) ∧ (x0.2.2 < (((List.length (lSub x.2.2.1 (iNat 1) (lN x.2.2.1))) : Int)))) ∧ (((iNat x0.2.2) < (List.length (lSub x.2.2.1 (iNat 1) (lN x.2.2.1)))) ∧ ((ok_impl_isSwitchEvent (lGet (lSub x.2.2.1 (iNat 1) (lN x.2.2.1)) (iNat x0.2.2) (0, 0, false))) ∧ (((bNot (v_impl_isSwitchEvent (lGet (lSub x.2.2.1 (iNat 1) (lN x.2.2.1)) (iNat x0.2.2) (0, 0, false)))) = true → True) ∧ ((bNot (v_impl_isSwitchEvent (lGet (lSub x.2.2.1 (iNat 1) (lN x.2.2.1)) (iNat x0.2.2) (0, 0, false)))) = false → ((((iGe (lGet (lSub x.2.2.1 (iNat 1) (lN x.2.2.1)) (iNat x0.2.2) (0, 0, false)).1 (iAdd Go.IntKind.i64 (lGet x.2.2.1 (iNat 0) (0, 0, false)).1 x.2.1)) = true → True) ∧ ((iGe (lGet (lSub x.2.2.1 (iNat 1) (lN x.2.2.1)) (iNat x0.2.2) (0, 0, false)).1 (iAdd Go.IntKind.i64 (lGet x.2.2.1 (iNat 0) (0, 0, false)).1 x.2.1)) = false → (((bNot (lGet (lSub x.2.2.1 (iNat 1) (lN x.2.2.1)) (iNat x0.2.2) (0, 0, false)).2.2) = true → True) ∧ ((bNot (lGet (lSub x.2.2.1 (iNat 1) (lN x.2.2.1)) (iNat x0.2.2) (0, 0, false)).2.2) = false → (((0 : Int) ≤ (lGet (lSub x.2.2.1 (iNat 1) (lN x.2.2.1)) (iNat x0.2.2) (0, 0, false)).2.1) ∧ (ok_impl_within (x.1, (iOr Go.IntKind.i64 x0.1 (iShl Go.IntKind.i64 1 (lGet (lSub x.2.2.1 (iNat 1) (lN x.2.2.1)) (iNat x0.2.2) (0, 0, false)).2.1))))))))) ∧ (((bOr (iGe (lGet (lSub x.2.2.1 (iNat 1) (lN x.2.2.1)) (iNat x0.2.2) (0, 0, false)).1 (iAdd Go.IntKind.i64 (lGet x.2.2.1 (iNat 0) (0, 0, false)).1 x.2.1)) (bOr (bNot (lGet (lSub x.2.2.1 (iNat 1) (lN x.2.2.1)) (iNat x0.2.2) (0, 0, false)).2.2) (bNot (v_impl_within (x.1, (iOr Go.IntKind.i64 x0.1 (iShl Go.IntKind.i64 1 (lGet (lSub x.2.2.1 (iNat 1) (lN x.2.2.1)) (iNat x0.2.2) (0, 0, false)).2.1))))))) = true → True) ∧ ((bOr (iGe (lGet (lSub x.2.2.1 (iNat 1) (lN x.2.2.1)) (iNat x0.2.2) (0, 0, false)).1 (iAdd Go.IntKind.i64 (lGet x.2.2.1 (iNat 0) (0, 0, false)).1 x.2.1)) (bOr (bNot (lGet (lSub x.2.2.1 (iNat 1) (lN x.2.2.1)) (iNat x0.2.2) (0, 0, false)).2.2) (bNot (v_impl_within (x.1, (iOr Go.IntKind.i64 x0.1 (iShl Go.IntKind.i64 1 (lGet (lSub x.2.2.1 (iNat 1) (lN x.2.2.1)) (iNat x0.2.2) (0, 0, false)).2.1))))))) = false → (((0 : Int) ≤ (lGet (lSub x.2.2.1 (iNat 1) (lN x.2.2.1)) (iNat x0.2.2) (0, 0, false)).2.1) ∧ (ok_impl_wholeCombo (x.1, (iOr Go.IntKind.i64 x0.1 (iShl Go.IntKind.i64 1 (lGet (lSub x.2.2.1 (iNat 1) (lN x.2.2.1)) (iNat x0.2.2) (0, 0, false)).2.1)))))))))))))) ∧ ((iLt x0.2.2 (lLen (lSub x.2.2.1 (iNat 1) (lN x.2.2.1)))) = false → True))
theorem ve_impl_MatchCombo (x : (List (Int × Int)) × Int × (List (Int × Int × Bool)) × Int) : v_impl_MatchCombo x = (bSel (bOr (bNot (v_impl_IsCombos x.1)) (bOr (iLt x.2.1 1) (bOr (iGt x.2.1 200) (bOr (iEq (lLen x.2.2.1) 0) (bOr (bNot (v_impl_isSwitchEvent (lGet x.2.2.1 (iNat 0) (0, 0, false)))) (bNot (lGet x.2.2.1 (iNat 0) (0, 0, false)).2.2)))))) (0, 0, (-1)) (bSel (bNot (v_impl_within (x.1, (iShl Go.IntKind.i64 1 (lGet x.2.2.1 (iNat 0) (0, 0, false)).2.1)))) (1, (lGet x.2.2.1 (iNat 0) (0, 0, false)).1, (-1)) (bSel (bOr (bNot (iLt (loopV (lc_impl_MatchCombo_1 x) (lf_impl_MatchCombo_1 x) ((iShl Go.IntKind.i64 1 (lGet x.2.2.1 (iNat 0) (0, 0, false)).2.1), 1, 0)).2.2 (lLen (lSub x.2.2.1 (iNat 1) (lN x.2.2.1))))) (bAnd (bNot (bNot (v_impl_isSwitchEvent (lGet (lSub x.2.2.1 (iNat 1) (lN x.2.2.1)) (iNat (loopV (lc_impl_MatchCombo_1 x) (lf_impl_MatchCombo_1 x) ((iShl Go.IntKind.i64 1 (lGet x.2.2.1 (iNat 0) (0, 0, false)).2.1), 1, 0)).2.2) (0, 0, false))))) (bOr (iGe (lGet (lSub x.2.2.1 (iNat 1) (lN x.2.2.1)) (iNat (loopV (lc_impl_MatchCombo_1 x) (lf_impl_MatchCombo_1 x) ((iShl Go.IntKind.i64 1 (lGet x.2.2.1 (iNat 0) (0, 0, false)).2.1), 1, 0)).2.2) (0, 0, false)).1 (iAdd Go.IntKind.i64 (lGet x.2.2.1 (iNat 0) (0, 0, false)).1 x.2.1)) (bOr (bNot (lGet (lSub x.2.2.1 (iNat 1) (lN x.2.2.1)) (iNat (loopV (lc_impl_MatchCombo_1 x) (lf_impl_MatchCombo_1 x) ((iShl Go.IntKind.i64 1 (lGet x.2.2.1 (iNat 0) (0, 0, false)).2.1), 1, 0)).2.2) (0, 0, false)).2.2) (bNot (v_impl_within (x.1, (iOr Go.IntKind.i64 (loopV (lc_impl_MatchCombo_1 x) (lf_impl_MatchCombo_1 x) ((iShl Go.IntKind.i64 1 (lGet x.2.2.1 (iNat 0) (0, 0, false)).2.1), 1, 0)).1 (iShl Go.IntKind.i64 1 (lGet (lSub x.2.2.1 (iNat 1) (lN x.2.2.1)) (iNat (loopV (lc_impl_MatchCombo_1 x) (lf_impl_MatchCombo_1 x) ((iShl Go.IntKind.i64 1 (lGet x.2.2.1 (iNat 0) (0, 0, false)).2.1), 1, 0)).2.2) (0, 0, false)).2.1))))))))) (bSel (bAnd (bNot (iLt (loopV (lc_impl_MatchCombo_1 x) (lf_impl_MatchCombo_1 x) ((iShl Go.IntKind.i64 1 (lGet x.2.2.1 (iNat 0) (0, 0, false)).2.1), 1, 0)).2.2 (lLen (lSub x.2.2.1 (iNat 1) (lN x.2.2.1))))) (iLt x.2.2.2 (bSel (iLt (loopV (lc_impl_MatchCombo_1 x) (lf_impl_MatchCombo_1 x) ((iShl Go.IntKind.i64 1 (lGet x.2.2.1 (iNat 0) (0, 0, false)).2.1), 1, 0)).2.2 (lLen (lSub x.2.2.1 (iNat 1) (lN x.2.2.1)))) (iMin (iAdd Go.IntKind.i64 (lGet x.2.2.1 (iNat 0) (0, 0, false)).1 x.2.1) (lGet (lSub x.2.2.1 (iNat 1) (lN x.2.2.1)) (iNat (loopV (lc_impl_MatchCombo_1 x) (lf_impl_MatchCombo_1 x) ((iShl Go.IntKind.i64 1 (lGet x.2.2.1 (iNat 0) (0, 0, false)).2.1), 1, 0)).2.2) (0, 0, false)).1) (iAdd Go.IntKind.i64 (lGet x.2.2.1 (iNat 0) (0, 0, false)).1 x.2.1)))) (0, 0, (-1)) (bSel (iGe (v_impl_wholeCombo (x.1, (bSel (iLt (loopV (lc_impl_MatchCombo_1 x) (lf_impl_MatchCombo_1 x) ((iShl Go.IntKind.i64 1 (lGet x.2.2.1 (iNat 0) (0, 0, false)).2.1), 1, 0)).2.2 (lLen (lSub x.2.2.1 (iNat 1) (lN x.2.2.1)))) (loopV (lc_impl_MatchCombo_1 x) (lf_impl_MatchCombo_1 x) ((iShl Go.IntKind.i64 1 (lGet x.2.2.1 (iNat 0) (0, 0, false)).2.1), 1, 0)).1 (loopV (lc_impl_MatchCombo_1 x) (lf_impl_MatchCombo_1 x) ((iShl Go.IntKind.i64 1 (lGet x.2.2.1 (iNat 0) (0, 0, false)).2.1), 1, 0)).1))).1 0) ((bSel (iLt (loopV (lc_impl_MatchCombo_1 x) (lf_impl_MatchCombo_1 x) ((iShl Go.IntKind.i64 1 (lGet x.2.2.1 (iNat 0) (0, 0, false)).2.1), 1, 0)).2.2 (lLen (lSub x.2.2.1 (iNat 1) (lN x.2.2.1)))) (loopV (lc_impl_MatchCombo_1 x) (lf_impl_MatchCombo_1 x) ((iShl Go.IntKind.i64 1 (lGet x.2.2.1 (iNat 0) (0, 0, false)).2.1), 1, 0)).2.1 (loopV (lc_impl_MatchCombo_1 x) (lf_impl_MatchCombo_1 x) ((iShl Go.IntKind.i64 1 (lGet x.2.2.1 (iNat 0) (0, 0, false)).2.1), 1, 0)).2.1), (bSel (iLt (loopV (lc_impl_MatchCombo_1 x) (lf_impl_MatchCombo_1 x) ((iShl Go.IntKind.i64 1 (lGet x.2.2.1 (iNat 0) (0, 0, false)).2.1), 1, 0)).2.2 (lLen (lSub x.2.2.1 (iNat 1) (lN x.2.2.1)))) (iMin (iAdd Go.IntKind.i64 (lGet x.2.2.1 (iNat 0) (0, 0, false)).1 x.2.1) (lGet (lSub x.2.2.1 (iNat 1) (lN x.2.2.1)) (iNat (loopV (lc_impl_MatchCombo_1 x) (lf_impl_MatchCombo_1 x) ((iShl Go.IntKind.i64 1 (lGet x.2.2.1 (iNat 0) (0, 0, false)).2.1), 1, 0)).2.2) (0, 0, false)).1) (iAdd Go.IntKind.i64 (lGet x.2.2.1 (iNat 0) (0, 0, false)).1 x.2.1)), (v_impl_wholeCombo (x.1, (bSel (iLt (loopV (lc_impl_MatchCombo_1 x) (lf_impl_MatchCombo_1 x) ((iShl Go.IntKind.i64 1 (lGet x.2.2.1 (iNat 0) (0, 0, false)).2.1), 1, 0)).2.2 (lLen (lSub x.2.2.1 (iNat 1) (lN x.2.2.1)))) (loopV (lc_impl_MatchCombo_1 x) (lf_impl_MatchCombo_1 x) ((iShl Go.IntKind.i64 1 (lGet x.2.2.1 (iNat 0) (0, 0, false)).2.1), 1, 0)).1 (loopV (lc_impl_MatchCombo_1 x) (lf_impl_MatchCombo_1 x) ((iShl Go.IntKind.i64 1 (lGet x.2.2.1 (iNat 0) (0, 0, false)).2.1), 1, 0)).1))).1) (1, (bSel (iLt (loopV (lc_impl_MatchCombo_1 x) (lf_impl_MatchCombo_1 x) ((iShl Go.IntKind.i64 1 (lGet x.2.2.1 (iNat 0) (0, 0, false)).2.1), 1, 0)).2.2 (lLen (lSub x.2.2.1 (iNat 1) (lN x.2.2.1)))) (iMin (iAdd Go.IntKind.i64 (lGet x.2.2.1 (iNat 0) (0, 0, false)).1 x.2.1) (lGet (lSub x.2.2.1 (iNat 1) (lN x.2.2.1)) (iNat (loopV (lc_impl_MatchCombo_1 x) (lf_impl_MatchCombo_1 x) ((iShl Go.IntKind.i64 1 (lGet x.2.2.1 (iNat 0) (0, 0, false)).2.1), 1, 0)).2.2) (0, 0, false)).1) (iAdd Go.IntKind.i64 (lGet x.2.2.1 (iNat 0) (0, 0, false)).1 x.2.1)), (-1)))) (bSel (bNot (v_impl_isSwitchEvent (lGet (lSub x.2.2.1 (iNat 1) (lN x.2.2.1)) (iNat (loopV (lc_impl_MatchCombo_1 x) (lf_impl_MatchCombo_1 x) ((iShl Go.IntKind.i64 1 (lGet x.2.2.1 (iNat 0) (0, 0, false)).2.1), 1, 0)).2.2) (0, 0, false)))) (0, 0, (-1)) ((iAdd Go.IntKind.i64 (loopV (lc_impl_MatchCombo_1 x) (lf_impl_MatchCombo_1 x) ((iShl Go.IntKind.i64 1 (lGet x.2.2.1 (iNat 0) (0, 0, false)).2.1), 1, 0)).2.1 1), (lGet (lSub x.2.2.1 (iNat 1) (lN x.2.2.1)) (iNat (loopV (lc_impl_MatchCombo_1 x) (lf_impl_MatchCombo_1 x) ((iShl Go.IntKind.i64 1 (lGet x.2.2.1 (iNat 0) (0, 0, false)).2.1), 1, 0)).2.2) (0, 0, false)).1, (v_impl_wholeCombo (x.1, (iOr Go.IntKind.i64 (loopV (lc_impl_MatchCombo_1 x) (lf_impl_MatchCombo_1 x) ((iShl Go.IntKind.i64 1 (lGet x.2.2.1 (iNat 0) (0, 0, false)).2.1), 1, 0)).1 (iShl Go.IntKind.i64 1 (lGet (lSub x.2.2.1 (iNat 1) (lN x.2.2.1)) (iNat (loopV (lc_impl_MatchCombo_1 x) (lf_impl_MatchCombo_1 x) ((iShl Go.IntKind.i64 1 (lGet x.2.2.1 (iNat 0) (0, 0, false)).2.1), 1, 0)).2.2) (0, 0, false)).2.1)))).1))))) := (vu_impl_MatchCombo x).trans (by kernel_rfl)
theorem oe_impl_MatchCombo (x : (List (Int × Int)) × Int × (List (Int × Int × Bool)) × Int) : ok_impl_MatchCombo x = (((ok_impl_IsCombos x.1) ∧ (((bNot (v_impl_IsCombos x.1)) = true → True) ∧ ((bNot (v_impl_IsCombos x.1)) = false → (((iLt x.2.1 1) = true → True) ∧ ((iLt x.2.1 1) = false → (((iGt x.2.1 200) = true → True) ∧ ((iGt x.2.1 200) = false → (((iEq (lLen x.2.2.1) 0) = true → True) ∧ ((iEq (lLen x.2.2.1) 0) = false → ((((0 : Int) ≤ 0) ∧ ((0 : Int) < (((List.length x.2.2.1) : Int)))) ∧ (((iNat 0) < (List.length x.2.2.1)) ∧ ((ok_impl_isSwitchEvent (lGet x.2.2.1 (iNat 0) (0, 0, false))) ∧ (((bNot (v_impl_isSwitchEvent (lGet x.2.2.1 (iNat 0) (0, 0, false)))) = true → True) ∧ ((bNot (v_impl_isSwitchEvent (lGet x.2.2.1 (iNat 0) (0, 0, false)))) = false → ((((0 : Int) ≤ 0) ∧ ((0 : Int) < (((List.length x.2.2.1) : Int)))) ∧ ((iNat 0) < (List.length x.2.2.1))))))))))))))))) ∧ (((bOr (bNot (v_impl_IsCombos x.1)) (bOr (iLt x.2.1 1) (bOr (iGt x.2.1 200) (bOr (iEq (lLen x.2.2.1) 0) (bOr (bNot (v_impl_isSwitchEvent (lGet x.2.2.1 (iNat 0) (0, 0, false)))) (bNot (lGet x.2.2.1 (iNat 0) (0, 0, false)).2.2)))))) = true → True) ∧ ((bOr (bNot (v_impl_IsCombos x.1)) (bOr (iLt x.2.1 1) (bOr (iGt x.2.1 200) (bOr (iEq (lLen x.2.2.1) 0) (bOr (bNot (v_impl_isSwitchEvent (lGet x.2.2.1 (iNat 0) (0, 0, false)))) (bNot (lGet x.2.2.1 (iNat 0) (0, 0, false)).2.2)))))) = false → ((((0 : Int) ≤ 0) ∧ ((0 : Int) < (((List.length x.2.2.1) : Int)))) ∧ (((iNat 0) < (List.length x.2.2.1)) ∧ (((0 : Int) ≤ (lGet x.2.2.1 (iNat 0) (0, 0, false)).2.1) ∧ ((ok_impl_within (x.1, (iShl Go.IntKind.i64 1 (lGet x.2.2.1 (iNat 0) (0, 0, false)).2.1))) ∧ (((bNot (v_impl_within (x.1, (iShl Go.IntKind.i64 1 (lGet x.2.2.1 (iNat 0) (0, 0, false)).2.1)))) = true → True) ∧ ((bNot (v_impl_within (x.1, (iShl Go.IntKind.i64 1 (lGet x.2.2.1 (iNat 0) (0, 0, false)).2.1)))) = false → (((((0 : Int) ≤ 1) ∧ (((iNat 1) ≤ (lN x.2.2.1)) ∧ (((lN x.2.2.1) ≤ (List.length x.2.2.1)) ∧ (0 < (List.length x.2.2.1))))) ∧ (LoopOk (lc_impl_MatchCombo_1 x) (lf_impl_MatchCombo_1 x) (lp_impl_MatchCombo_1 x) ((iShl Go.IntKind.i64 1 (lGet x.2.2.1 (iNat 0) (0, 0, false)).2.1), 1, 0))) ∧ (((bOr (bNot (iLt (loopV (lc_impl_MatchCombo_1 x) (lf_impl_MatchCombo_1 x) ((iShl Go.IntKind.i64 1 (lGet x.2.2.1 (iNat 0) (0, 0, false)).2.1), 1, 0)).2.2 (lLen (lSub x.2.2.1 (iNat 1) (lN x.2.2.1))))) (bAnd (bNot (bNot (v_impl_isSwitchEvent (lGet (lSub x.2.2.1 (iNat 1) (lN x.2.2.1)) (iNat (loopV (lc_impl_MatchCombo_1 x) (lf_impl_MatchCombo_1 x) ((iShl Go.IntKind.i64 1 (lGet x.2.2.1 (iNat 0) (0, 0, false)).2.1), 1, 0)).2.2) (0, 0, false))))) (bOr (iGe (lGet (lSub x.2.2.1 (iNat 1) (lN x.2.2.1)) (iNat (loopV (lc_impl_MatchCombo_1 x) (lf_impl_MatchCombo_1 x) ((iShl Go.IntKind.i64 1 (lGet x.2.2.1 (iNat 0) (0, 0, false)).2.1), 1, 0)).2.2) (0, 0, false)).1 (iAdd Go.IntKind.i64 (lGet x.2.2.1 (iNat 0) (0, 0, false)).1 x.2.1)) (bOr (bNot (lGet (lSub x.2.2.1 (iNat 1) (lN x.2.2.1)) (iNat (loopV (lc_impl_MatchCombo_1 x) (lf_impl_MatchCombo_1 x) ((iShl Go.IntKind.i64 1 (lGet x.2.2.1 (iNat 0) (0, 0, false)).2.1), 1, 0)).2.2) (0, 0, false)).2.2) (bNot (v_impl_within (x.1, (iOr Go.IntKind.i64 (loopV (lc_impl_MatchCombo_1 x) (lf_impl_MatchCombo_1 x) ((iShl Go.IntKind.i64 1 (lGet x.2.2.1 (iNat 0) (0, 0, false)).2.1), 1, 0)).1 (iShl Go.IntKind.i64 1 (lGet (lSub x.2.2.1 (iNat 1) (lN x.2.2.1)) (iNat (loopV (lc_impl_MatchCombo_1 x) (lf_impl_MatchCombo_1 x) ((iShl Go.IntKind.i64 1 (lGet x.2.2.1 (iNat 0) (0, 0, false)).2.1), 1, 0)).2.2) (0, 0, false)).2.1))))))))) = true → (((bAnd (bNot (iLt (loopV (lc_impl_MatchCombo_1 x) (lf_impl_MatchCombo_1 x) ((iShl Go.IntKind.i64 1 (lGet x.2.2.1 (iNat 0) (0, 0, false)).2.1), 1, 0)).2.2 (lLen (lSub x.2.2.1 (iNat 1) (lN x.2.2.1))))) (iLt x.2.2.2 (bSel (iLt (loopV (lc_impl_MatchCombo_1 x) (lf_impl_MatchCombo_1 x) ((iShl Go.IntKind.i64 1 (lGet x.2.2.1 (iNat 0) (0, 0, false)).2.1), 1, 0)).2.2 (lLen (lSub x.2.2.1 (iNat 1) (lN x.2.2.1)))) (iMin (iAdd Go.IntKind.i64 (lGet x.2.2.1 (iNat 0) (0, 0, false)).1 x.2.1) (lGet (lSub x.2.2.1 (iNat 1) (lN x.2.2.1)) (iNat (loopV (lc_impl_MatchCombo_1 x) (lf_impl_MatchCombo_1 x) ((iShl Go.IntKind.i64 1 (lGet x.2.2.1 (iNat 0) (0, 0, false)).2.1), 1, 0)).2.2) (0, 0, false)).1) (iAdd Go.IntKind.i64 (lGet x.2.2.1 (iNat 0) (0, 0, false)).1 x.2.1)))) = true → True) ∧ ((bAnd (bNot (iLt (loopV (lc_impl_MatchCombo_1 x) (lf_impl_MatchCombo_1 x) ((iShl Go.IntKind.i64 1 (lGet x.2.2.1 (iNat 0) (0, 0, false)).2.1), 1, 0)).2.2 (lLen (lSub x.2.2.1 (iNat 1) (lN x.2.2.1))))) (iLt x.2.2.2 (bSel (iLt (loopV (lc_impl_MatchCombo_1 x) (lf_impl_MatchCombo_1 x) ((iShl Go.IntKind.i64 1 (lGet x.2.2.1 (iNat 0) (0, 0, false)).2.1), 1, 0)).2.2 (lLen (lSub x.2.2.1 (iNat 1) (lN x.2.2.1)))) (iMin (iAdd Go.IntKind.i64 (lGet x.2.2.1 (iNat 0) (0, 0, false)).1 x.2.1) (lGet (lSub x.2.2.1 (iNat 1) (lN x.2.2.1)) (iNat (loopV (lc_impl_MatchCombo_1 x) (lf_impl_MatchCombo_1 x) ((iShl Go.IntKind.i64 1 (lGet x.2.2.1 (iNat 0) (0, 0, false)).2.1), 1, 0)).2.2) (0, 0, false)).1) (iAdd Go.IntKind.i64 (lGet x.2.2.1 (iNat 0) (0, 0, false)).1 x.2.1)))) = false → (ok_impl_wholeCombo (x.1, (bSel (iLt (loopV (lc_impl_MatchCombo_1 x) (lf_impl_MatchCombo_1 x) ((iShl Go.IntKind.i64 1 (lGet x.2.2.1 (iNat 0) (0, 0, false)).2.1), 1, 0)).2.2 (lLen (lSub x.2.2.1 (iNat 1) (lN x.2.2.1)))) (loopV (lc_impl_MatchCombo_1 x) (lf_impl_MatchCombo_1 x) ((iShl Go.IntKind.i64 1 (lGet x.2.2.1 (iNat 0) (0, 0, false)).2.1), 1, 0)).1 (loopV (lc_impl_MatchCombo_1 x) (lf_impl_MatchCombo_1 x) ((iShl Go.IntKind.i64 1 (lGet x.2.2.1 (iNat 0) (0, 0, false)).2.1), 1, 0)).1)))))) ∧ ((bOr (bNot (iLt (loopV (lc_impl_MatchCombo_1 x) (lf_impl_MatchCombo_1 x) ((iShl Go.IntKind.i64 1 (lGet x.2.2.1 (iNat 0) (0, 0, false)).2.1), 1, 0)).2.2 (lLen (lSub x.2.2.1 (iNat 1) (lN x.2.2.1))))) (bAnd (bNot (bNot (v_impl_isSwitchEvent (lGet (lSub x.2.2.1 (iNat 1) (lN x.2.2.1)) (iNat (loopV (lc_impl_MatchCombo_1 x) (lf_impl_MatchCombo_1 x) ((iShl Go.IntKind.i64 1 (lGet x.2.2.1 (iNat 0) (0, 0, false)).2.1), 1, 0)).2.2) (0, 0, false))))) (bOr (iGe (lGet (lSub x.2.2.1 (iNat 1) (lN x.2.2.1)) (iNat (loopV (lc_impl_MatchCombo_1 x) (lf_impl_MatchCombo_1 x) ((iShl Go.IntKind.i64 1 (lGet x.2.2.1 (iNat 0) (0, 0, false)).2.1), 1, 0)).2.2) (0, 0, false)).1 (iAdd Go.IntKind.i64 (lGet x.2.2.1 (iNat 0) (0, 0, false)).1 x.2.1)) (bOr (bNot (lGet (lSub x.2.2.1 (iNat 1) (lN x.2.2.1)) (iNat (loopV (lc_impl_MatchCombo_1 x) (lf_impl_MatchCombo_1 x) ((iShl Go.IntKind.i64 1 (lGet x.2.2.1 (iNat 0) (0, 0, false)).2.1), 1, 0)).2.2) (0, 0, false)).2.2) (bNot (v_impl_within (x.1, (iOr Go.IntKind.i64 (loopV (lc_impl_MatchCombo_1 x) (lf_impl_MatchCombo_1 x) ((iShl Go.IntKind.i64 1 (lGet x.2.2.1 (iNat 0) (0, 0, false)).2.1), 1, 0)).1 (iShl Go.IntKind.i64 1 (lGet (lSub x.2.2.1 (iNat 1) (lN x.2.2.1)) (iNat (loopV (lc_impl_MatchCombo_1 x) (lf_impl_MatchCombo_1 x) ((iShl Go.IntKind.i64 1 (lGet x.2.2.1 (iNat 0) (0, 0, false)).2.1), 1, 0)).2.2) (0, 0, false)).2.1))))))))) = false → True)))))))))))) := (ou_impl_MatchCombo x).trans (by kernel_rfl)
theorem ve_laws_FnExactMatchCombo (x : (List (Int × Int)) × Int × (List (Int × Int × Bool)) × Int) : v_laws_FnExactMatchCombo x = (bOr (iLt (v_laws_szComboS (x.1, 1048576)) 0) (bOr (iLt (v_laws_szEventS (x.2.2.1, (v_laws_szComboS (x.1, 1048576)))) 0) (bAnd (bNot (bOr (iNe (v_impl_MatchCombo ((v_laws_toComboS x.1), x.2.1, (v_laws_toEventS x.2.2.1), x.2.2.2)).1 (v_spec_MatchCombo ((v_laws_toComboS x.1), x.2.1, (v_laws_toEventS x.2.2.1), x.2.2.2)).1) (bOr (iNe (v_impl_MatchCombo ((v_laws_toComboS x.1), x.2.1, (v_laws_toEventS x.2.2.1), x.2.2.2)).2.1 (v_spec_MatchCombo ((v_laws_toComboS x.1), x.2.1, (v_laws_toEventS x.2.2.1), x.2.2.2)).2.1) (iNe (v_impl_MatchCombo ((v_laws_toComboS x.1), x.2.1, (v_laws_toEventS x.2.2.1), x.2.2.2)).2.2 (v_spec_MatchCombo ((v_laws_toComboS x.1), x.2.1, (v_laws_toEventS x.2.2.1), x.2.2.2)).2.2)))) (bAnd (bNot (bNot (v_laws_eqComboS ((v_laws_toComboS x.1), (v_laws_toComboS x.1))))) (bNot (bNot (v_laws_eqEventS ((v_laws_toEventS x.2.2.1), (v_laws_toEventS x.2.2.1))))))))) := (vu_laws_FnExactMatchCombo x).trans (by kernel_rfl)
theorem oe_laws_FnExactMatchCombo (x : (List (Int × Int)) × Int × (List (Int × Int × Bool)) × Int) : ok_laws_FnExactMatchCombo x = ((ok_laws_szComboS (x.1, 1048576)) ∧ (((iLt (v_laws_szComboS (x.1, 1048576)) 0) = true → True) ∧ ((iLt (v_laws_szComboS (x.1, 1048576)) 0) = false → ((ok_laws_szEventS (x.2.2.1, (v_laws_szComboS (x.1, 1048576)))) ∧ (((iLt (v_laws_szEventS (x.2.2.1, (v_laws_szComboS (x.1, 1048576)))) 0) = true → True) ∧ ((iLt (v_laws_szEventS (x.2.2.1, (v_laws_szComboS (x.1, 1048576)))) 0) = false → ((ok_laws_toComboS x.1) ∧ ((ok_laws_toEventS x.2.2.1) ∧ ((ok_spec_MatchCombo ((v_laws_toComboS x.1), x.2.1, (v_laws_toEventS x.2.2.1), x.2.2.2)) ∧ ((ok_laws_toComboS x.1) ∧ ((ok_laws_toEventS x.2.2.1) ∧ ((ok_impl_MatchCombo ((v_laws_toComboS x.1), x.2.1, (v_laws_toEventS x.2.2.1), x.2.2.2)) ∧ (((bOr (iNe (v_impl_MatchCombo ((v_laws_toComboS x.1), x.2.1, (v_laws_toEventS x.2.2.1), x.2.2.2)).1 (v_spec_MatchCombo ((v_laws_toComboS x.1), x.2.1, (v_laws_toEventS x.2.2.1), x.2.2.2)).1) (bOr (iNe (v_impl_MatchCombo ((v_laws_toComboS x.1), x.2.1, (v_laws_toEventS x.2.2.1), x.2.2.2)).2.1 (v_spec_MatchCombo ((v_laws_toComboS x.1), x.2.1, (v_laws_toEventS x.2.2.1), x.2.2.2)).2.1) (iNe (v_impl_MatchCombo ((v_laws_toComboS x.1), x.2.1, (v_laws_toEventS x.2.2.1), x.2.2.2)).2.2 (v_spec_MatchCombo ((v_laws_toComboS x.1), x.2.1, (v_laws_toEventS x.2.2.1), x.2.2.2)).2.2))) = true → True) ∧ ((bOr (iNe (v_impl_MatchCombo ((v_laws_toComboS x.1), x.2.1, (v_laws_toEventS x.2.2.1), x.2.2.2)).1 (v_spec_MatchCombo ((v_laws_toComboS x.1), x.2.1, (v_laws_toEventS x.2.2.1), x.2.2.2)).1) (bOr (iNe (v_impl_MatchCombo ((v_laws_toComboS x.1), x.2.1, (v_laws_toEventS x.2.2.1), x.2.2.2)).2.1 (v_spec_MatchCombo ((v_laws_toComboS x.1), x.2.1, (v_laws_toEventS x.2.2.1), x.2.2.2)).2.1) (iNe (v_impl_MatchCombo ((v_laws_toComboS x.1), x.2.1, (v_laws_toEventS x.2.2.1), x.2.2.2)).2.2 (v_spec_MatchCombo ((v_laws_toComboS x.1), x.2.1, (v_laws_toEventS x.2.2.1), x.2.2.2)).2.2))) = false → ((ok_laws_toComboS x.1) ∧ ((ok_laws_eqComboS ((v_laws_toComboS x.1), (v_laws_toComboS x.1))) ∧ (((bNot (v_laws_eqComboS ((v_laws_toComboS x.1), (v_laws_toComboS x.1)))) = true → True) ∧ ((bNot (v_laws_eqComboS ((v_laws_toComboS x.1), (v_laws_toComboS x.1)))) = false → ((ok_laws_toEventS x.2.2.1) ∧ (ok_laws_eqEventS ((v_laws_toEventS x.2.2.1), (v_laws_toEventS x.2.2.1)))))))))))))))))))))) := (ou_laws_FnExactMatchCombo x).trans (by kernel_rfl)
end
theorem loop_two {X Y : Type} {c : X → Bool} {f : X → X} {p : X → Prop} {d : Y → Bool} {g : Y → Y} {q : Y → Prop} (R : X → Y → Prop) (m : X → Nat)
    (h : ∀ x y, R x y → p x ∧ q y ∧ c x = d y ∧ (c x = true → R (f x) (g y) ∧ m (f x) < m x)) {x0 : X} {y0 : Y} (h0 : R x0 y0) :
    LoopOk c f p x0 ∧ LoopOk d g q y0 ∧ R (loopV c f x0) (loopV d g y0) ∧ c (loopV c f x0) = false := by
  have go : ∀ (n : Nat) (x : X) (y : Y), m x < n → R x y → ∃ u v, LoopTo c f p x u ∧ LoopTo d g q y v ∧ R u v ∧ c u = false := by
    intro n
    induction n with
    | zero => intro x y hm; exact absurd hm (Nat.not_lt_zero _)
    | succ n ih =>
      intro x y hm hR
      obtain ⟨h1, h2, h3, h4⟩ := h x y hR
      cases hc : c x with
      | false => exact ⟨x, y, .stop h1 hc, .stop h2 (by rw [← h3]; exact hc), hR, hc⟩
      | true =>
        obtain ⟨h5, h6⟩ := h4 hc
        obtain ⟨u, v, a1, a2, a3, a4⟩ := ih _ _ (by omega) h5
        exact ⟨u, v, .go h1 hc a1, .go h2 (by rw [← h3]; exact hc) a2, a3, a4⟩
  obtain ⟨u, v, a1, a2, a3, a4⟩ := go _ x0 y0 (Nat.lt_succ_self _) h0
  exact ⟨⟨_, a1⟩, ⟨_, a2⟩, by rw [a1.val, a2.val]; exact a3, by rw [a1.val]; exact a4⟩
def Bytes (x : List Int) : Prop := ∀ a ∈ x, 0 ≤ a ∧ a < 256
theorem Bytes.get {x : List Int} (h : Bytes x) (i : Nat) : ∃ n : Nat, n < 256 ∧ x.getD i 0 = (n : Int) := by
  by_cases hi : i < x.length
  · obtain ⟨h0, h1⟩ := h _ (getD_mem x i 0 hi)
    exact ⟨(x.getD i 0).toNat, by omega, by omega⟩
  · exact ⟨0, by omega, by rw [List.getD_eq_getElem?_getD, List.getElem?_eq_none (by omega)]; rfl⟩
theorem Bytes.of {x : List Int} (h : CT.wf (.sl (.one (.int .u8))) x) : Bytes x := by
  intro a ha
  have := h.2 a ha
  simp only [RT.wf, CT.wf] at this
  have h : IntKind.u8.min ≤ a ∧ a ≤ IntKind.u8.max := by simpa [Lit.wf] using this
  have e1 : IntKind.u8.min = 0 := by decide
  have e2 : IntKind.u8.max = 255 := by decide
  rw [e1, e2] at h
  omega
theorem switch_eq (e : Int × Int × Bool) : v_spec_l11Switch e = v_impl_isSwitchEvent e := by rw [ve_spec_l11Switch, ve_impl_isSwitchEvent, isEvent_eq]
theorem ok_switch (e : Int × Int × Bool) : ok_spec_l11Switch e ∧ ok_impl_isSwitchEvent e := by rw [oe_spec_l11Switch, oe_impl_isSwitchEvent]; exact ok_isEvent e
theorem switch_key {e : Int × Int × Bool} (h : v_impl_isSwitchEvent e = true) : 0 ≤ e.2.1 := by
  rw [ve_impl_isSwitchEvent, bAnd_eq, Bool.and_eq_true] at h
  exact isEvent_key h.1
theorem fits_eq (x : List (Int × Int) × Int) : v_spec_l11Fits x = v_impl_within x := by
  rw [ve_spec_l11Fits, ve_impl_within]
  have e1 : lc_spec_l11Fits_1 x = lc_impl_within_1 x := rfl
  have e2 : lf_spec_l11Fits_1 = lf_impl_within_1 := rfl
  rw [e1, e2]
theorem out_eq (x : List (Int × Int) × Int) : v_spec_l11Out x = v_impl_wholeCombo x := by
  rw [ve_spec_l11Out, ve_impl_wholeCombo]
  have e1 : lc_spec_l11Out_1 x = lc_impl_wholeCombo_1 x := rfl
  have e2 : lf_spec_l11Out_1 x = lf_impl_wholeCombo_1 x := by
    funext y
    have e : iEq x.2 (lGet x.1 (iNat y.2.2) (0, 0)).1 = iEq (lGet x.1 (iNat y.2.2) (0, 0)).1 x.2 := by rw [iEq_eq, iEq_eq, decide_eq_decide]; exact eq_comm
    simp only [lf_spec_l11Out_1, lf_impl_wholeCombo_1, e]
  rw [e1, e2]
theorem ok_fits (x : List (Int × Int) × Int) (h : x.1.length ≤ 1048576) : ok_spec_l11Fits x ∧ ok_impl_within x := by
  rw [oe_spec_l11Fits, oe_impl_within]
  have k : ∀ st : Int, 0 ≤ st → iLt st (lLen x.1) = true → ((0 ≤ st ∧ st < (x.1.length : Int)) ∧ iNat st < x.1.length) := fun st h0 h1 => by
    rw [iLt_eq, lLen_eq, decide_eq_true_eq] at h1
    rw [iNat_eq]; omega
  constructor
  · refine cnt_ok (fun st => st) x.1.length (by omega) (fun st _ _ h => ?_) (fun _ => rfl) (fun i h0 h1 => ⟨fun hlt => k i h0 hlt, fun _ => trivial⟩) (by simp) (by simp)
    simp only [lc_spec_l11Fits_1, bAnd_eq, Bool.and_eq_true, iLt_eq, lLen_eq, decide_eq_true_eq] at h; exact h.1
  · refine cnt_ok (fun st => st) x.1.length (by omega) (fun st _ _ h => ?_) (fun _ => rfl) (fun i h0 h1 => ⟨fun hlt => k i h0 hlt, fun _ => trivial⟩) (by simp) (by simp)
    simp only [lc_impl_within_1, bAnd_eq, Bool.and_eq_true, iLt_eq, lLen_eq, decide_eq_true_eq] at h; exact h.1
theorem ok_out (x : List (Int × Int) × Int) (h : x.1.length ≤ 1048576) : ok_spec_l11Out x ∧ ok_impl_wholeCombo x := by
  rw [oe_spec_l11Out, oe_impl_wholeCombo]
  have k : ∀ st : Int, 0 ≤ st → iLt st (lLen x.1) = true → ((0 ≤ st ∧ st < (x.1.length : Int)) ∧ iNat st < x.1.length) := fun st h0 h1 => by
    rw [iLt_eq, lLen_eq, decide_eq_true_eq] at h1
    rw [iNat_eq]; omega
  constructor
  · refine cnt_ok (fun st => st.2.2) x.1.length (by omega) (fun st _ _ h => ?_) (fun _ => rfl) (fun i h0 h1 => ⟨fun hlt => ?_, fun _ => trivial⟩) (by simp) (by simp)
    · simp only [lc_spec_l11Out_1, iLt_eq, lLen_eq, decide_eq_true_eq] at h; exact h
    · have q := k _ h0 hlt
      exact ⟨q.1, q.2, fun _ => q, fun _ => q⟩
  · refine cnt_ok (fun st => st.2.2) x.1.length (by omega) (fun st _ _ h => ?_) (fun _ => rfl) (fun i h0 h1 => ⟨fun hlt => k _ h0 hlt, fun _ => trivial⟩) (by simp) (by simp)
    simp only [lc_impl_wholeCombo_1, iLt_eq, lLen_eq, decide_eq_true_eq] at h; exact h
theorem scan_every {P : Nat → Prop} {c : Int → Bool} {f : Int → Int} (n : Nat) (hn : n ≤ 1048576) (hf : ∀ i, f i = iAdd .i64 i 1) (hc : ∀ i : Nat, c i = true → i < n ∧ P i) (h : (n : Int) ≤ loopV c f 0) : ∀ j, j < n → P j := by
  have key := loop_inv_v (c := c) (f := f) (fun st => ∃ i : Nat, st = i ∧ i ≤ n ∧ ∀ j, j < i → P j) (fun st => n - st.toNat) (fun st hI hc' => ?_) (x0 := 0) ⟨0, rfl, Nat.zero_le _, fun j hj => by omega⟩
  · obtain ⟨⟨i, k1, k2, k3⟩, _⟩ := key
    rw [k1] at h
    exact fun j hj => k3 j (by omega)
  · obtain ⟨i, rfl, k2, k3⟩ := hI
    obtain ⟨c1, c2⟩ := hc i hc'
    have e : f (i : Int) = ((i + 1 : Nat) : Int) := by rw [hf, iAdd_i64 (by unfold In64; omega)]; omega
    rw [e]
    refine ⟨⟨i + 1, rfl, by omega, fun j hj => ?_⟩, by omega⟩
    by_cases hji : j = i
    · subst hji; exact c2
    · exact k3 j (by omega)
theorem combos_out {x : List (Int × Int)} (hl : x.length ≤ 1048576) (h : v_impl_IsCombos x = true) : ∀ j, j < x.length → 24 ≤ (x.getD j (0, 0)).2 := by
  rw [ve_impl_IsCombos] at h
  simp only [bAnd_eq, bNot_eq, Bool.and_eq_true, Bool.not_eq_true', iLt_eq _ (lLen x), lLen_eq x, decide_eq_false_iff_not] at h
  refine scan_every (P := fun j => 24 ≤ (x.getD j (0, 0)).2) x.length hl (fun _ => rfl) (fun i hc => ?_) (Int.not_lt.mp (of_decide_eq_false ((iLt_eq _ _).symm.trans h.2)))
  simp only [bAnd_eq, bNot_eq, bOr_eq, iLt_eq, iGt_eq, Bool.and_eq_true, Bool.not_eq_true', Bool.or_eq_false_iff, decide_eq_true_eq, decide_eq_false_iff_not, lGet_eq, iNat_eq, Int.toNat_natCast] at hc
  exact ⟨by omega, by omega⟩
theorem out_rng (x : List (Int × Int) × Int) (hl : x.1.length ≤ 1048576) (ho : ∀ j, j < x.1.length → 24 ≤ (x.1.getD j (0, 0)).2) : (v_impl_wholeCombo x).1 = -1 ∨ 24 ≤ (v_impl_wholeCombo x).1 := by
  rw [ve_impl_wholeCombo]
  have key := loop_inv_v (c := lc_impl_wholeCombo_1 x) (f := lf_impl_wholeCombo_1 x) (fun st => (∃ i : Nat, st.2.2 = i ∧ i ≤ x.1.length) ∧ (st.1 = -1 ∨ 24 ≤ st.1)) (fun st => x.1.length - st.2.2.toNat) (fun st hI hc => ?_) (x0 := ((-1), false, 0)) ⟨⟨0, rfl, Nat.zero_le _⟩, Or.inl rfl⟩
  · exact key.1.2
  · obtain ⟨⟨i, k1, k2⟩, k3⟩ := hI
    obtain ⟨o, b, n⟩ := st
    simp only at k1 k3
    subst k1
    simp only [lc_impl_wholeCombo_1, iLt_eq, lLen_eq, decide_eq_true_eq] at hc
    have hi : i < x.1.length := by omega
    have e : iAdd .i64 (i : Int) 1 = ((i + 1 : Nat) : Int) := by rw [iAdd_i64 (by unfold In64; omega)]; omega
    simp only [lf_impl_wholeCombo_1, e, lGet_eq, iNat_eq, Int.toNat_natCast]
    refine ⟨⟨⟨i + 1, rfl, by omega⟩, ?_⟩, by omega⟩
    rw [bSel_eq]
    split
    · exact Or.inr (ho i hi)
    · exact k3
abbrev MatX := List (Int × Int) × Int × List (Int × Int × Bool) × Int
def evM (q : List (Int × Int × Bool)) (j : Nat) : Int × Int × Bool := q.getD (j + 1) (0, 0, false)
def MRel (q : List (Int × Int × Bool)) (s : Int × Int) (t : Int × Int × Int) : Prop := s.1 = t.1 ∧ ∃ j : Nat, j + 1 ≤ q.length ∧ s.2 = ((j + 1 : Nat) : Int) ∧ t.2.1 = ((j + 1 : Nat) : Int) ∧ t.2.2 = (j : Int)
theorem rest_q (q : List (Int × Int × Bool)) : lSub q (iNat 1) (lN q) = q.drop 1 := by
  have e : iNat 1 = 1 := by rw [iNat_eq]; rfl
  rw [lSub_eq, lN_eq, e, List.take_of_length_le]
  rw [List.length_drop]
  exact Nat.le_refl _
theorem mat_idx {q : List (Int × Int × Bool)} {j : Nat} (hj : j + 1 ≤ q.length) (hq : q.length ≤ 1048576) :
    lGet q (iNat ((j + 1 : Nat) : Int)) (0, 0, false) = evM q j ∧ lGet (q.drop 1) (iNat (j : Int)) (0, 0, false) = evM q j ∧
    ∃ z : Bool, iEq ((j + 1 : Nat) : Int) (lLen q) = !z ∧ iLt (j : Int) (lLen (q.drop 1)) = z ∧ (z = true → ((0 : Int) ≤ ((j + 1 : Nat) : Int) ∧ ((j + 1 : Nat) : Int) < (q.length : Int)) ∧ iNat ((j + 1 : Nat) : Int) < q.length ∧ ((0 : Int) ≤ (j : Int) ∧ (j : Int) < ((q.drop 1).length : Int)) ∧ iNat (j : Int) < (q.drop 1).length ∧ j + 2 ≤ q.length) := by
  refine ⟨by rw [lGet_eq, iNat_eq, Int.toNat_natCast]; rfl, ?_, ?_⟩
  · rw [lGet_eq, iNat_eq, Int.toNat_natCast, List.getD_eq_getElem?_getD, List.getElem?_drop, evM, List.getD_eq_getElem?_getD, Nat.add_comm]
  · rw [iEq_eq, iLt_eq, lLen_eq, lLen_eq, List.length_drop]
    by_cases h : j + 1 = q.length
    · exact ⟨false, by rw [decide_eq_true (by omega)]; rfl, decide_eq_false (by omega), fun h => by cases h⟩
    · refine ⟨true, by rw [decide_eq_false (by omega)]; rfl, decide_eq_true (by omega), fun _ => ?_⟩
      simp only [iNat_eq, Int.toNat_natCast]
      omega
theorem mat_c (z A B D F O : Bool) : bAnd (bNot (!z)) (bAnd (bNot (bNot A)) (bAnd (bNot B) (bAnd (bNot (bOr (bNot D) (bNot F))) O))) = bAnd z (bAnd (bNot (bNot A)) (bAnd (bNot (bOr B (bOr (bNot D) (bNot F)))) O)) := by
  simp only [bAnd_eq, bNot_eq, bOr_eq]
  cases z <;> cases A <;> cases B <;> cases D <;> cases F <;> rfl
theorem mat_loops (l : List (Int × Int)) (term : Int) (q : List (Int × Int × Bool)) (now : Int) (hl : l.length ≤ 1048576) (hq : q.length ≤ 1048576) (h1 : 1 ≤ q.length) (x0 : Int) :
    LoopOk (lc_spec_MatchCombo_1 (l, term, q, now)) (lf_spec_MatchCombo_1 (l, term, q, now)) (lp_spec_MatchCombo_1 (l, term, q, now)) (x0, 1) ∧
    LoopOk (lc_impl_MatchCombo_1 (l, term, q, now)) (lf_impl_MatchCombo_1 (l, term, q, now)) (lp_impl_MatchCombo_1 (l, term, q, now)) (x0, 1, 0) ∧
    MRel q (loopV (lc_spec_MatchCombo_1 (l, term, q, now)) (lf_spec_MatchCombo_1 (l, term, q, now)) (x0, 1)) (loopV (lc_impl_MatchCombo_1 (l, term, q, now)) (lf_impl_MatchCombo_1 (l, term, q, now)) (x0, 1, 0)) := by
  obtain ⟨b1, b2, b3, _⟩ := loop_two (c := lc_spec_MatchCombo_1 (l, term, q, now)) (f := lf_spec_MatchCombo_1 (l, term, q, now)) (p := lp_spec_MatchCombo_1 (l, term, q, now)) (d := lc_impl_MatchCombo_1 (l, term, q, now)) (g := lf_impl_MatchCombo_1 (l, term, q, now)) (q := lp_impl_MatchCombo_1 (l, term, q, now)) (x0 := (x0, 1)) (y0 := (x0, 1, 0)) (MRel q) (fun s => q.length - s.2.toNat) (by
    rintro ⟨s, n⟩ ⟨s', n', j'⟩ ⟨rfl, j, hj, rfl, rfl, rfl⟩
    obtain ⟨e1, e2, z, z1, z2, z3⟩ := mat_idx hj hq
    have a1 : iAdd .i64 ((j + 1 : Nat) : Int) 1 = ((j + 2 : Nat) : Int) := by rw [iAdd_i64 (by unfold In64; omega)]; omega
    have a2 : iAdd .i64 (j : Int) 1 = ((j + 1 : Nat) : Int) := by rw [iAdd_i64 (by unfold In64; omega)]; omega
    simp only [lc_spec_MatchCombo_1, lf_spec_MatchCombo_1, lp_spec_MatchCombo_1, lc_impl_MatchCombo_1, lf_impl_MatchCombo_1, lp_impl_MatchCombo_1, rest_q, e1, e2, z1, z2, switch_eq, fits_eq, out_eq, a1, a2, (ok_switch _).1, (ok_switch _).2, (ok_fits (l, _) hl).1, (ok_fits (l, _) hl).2, (ok_out (l, _) hl).1, (ok_out (l, _) hl).2]
    generalize evM q j = E
    refine ⟨?_, ?_, mat_c _ _ _ _ _ _, fun hc => ?_⟩
    · cases z with
      | false => simp
      | true =>
        obtain ⟨⟨y1, y2⟩, y3, _⟩ := z3 rfl
        clear z1 z2 z3 a1 a2 e1 e2
        generalize ((j + 1 : Nat) : Int) = J at y1 y2 y3 ⊢
        cases hs : v_impl_isSwitchEvent E with
        | false => simp [bNot_eq, y1, y2, y3]
        | true => have hk := switch_key hs; simp [bNot_eq, y1, y2, y3, hk]
    · cases z with
      | false => simp
      | true =>
        obtain ⟨⟨y1, y2⟩, y3, ⟨y4, y5⟩, y6, _⟩ := z3 rfl
        clear z1 z2 z3 a1 a2 e1 e2
        generalize List.drop 1 q = R at y5 y6 ⊢
        cases hs : v_impl_isSwitchEvent E with
        | false => simp [bNot_eq, y4, y5, y6]
        | true => have hk := switch_key hs; simp [bNot_eq, y4, y5, y6, hk]
    · rw [bAnd_eq, Bool.and_eq_true] at hc
      have hz : z = true := by simpa [bNot_eq] using hc.1
      have hj2 := (z3 hz).2.2.2.2
      exact ⟨⟨rfl, j + 1, by omega, rfl, rfl, rfl⟩, by omega⟩) ⟨rfl, 0, by omega, rfl, rfl, rfl⟩
  exact ⟨b1, b2, b3⟩
theorem min_sel (a b : Int) : iMin a b = bSel (iGe b a) a b := by
  rw [iMin_u, bSel_eq, iGe_eq]
  by_cases h : b < a
  · rw [if_pos h, if_neg (by simp; omega)]
  · rw [if_neg h, if_pos (by simp; omega)]
theorem mat_v (z A B D F N N1 : Bool) (O O' n m E en : Int) (hO : O = -1 ∨ 24 ≤ O) (hN : z = false → N1 = N) :
    bSel (bOr (bNot z) (bAnd (bNot (bNot A)) (bOr B (bOr (bNot D) (bNot F))))) (bSel (bAnd (bNot z) N1) (0, 0, (-1)) (bSel (iGe O 0) (n, bSel z (bSel B en E) en, O) (1, bSel z (bSel B en E) en, (-1)))) (bSel (bNot A) (0, 0, (-1)) (m, E, O')) =
    bSel (bSel (!z) (bNot N) (bAnd (bNot (bNot A)) (bOr B (bOr (bNot D) (bNot F))))) (bSel (iLt O 0) 1 n, bSel (!z) en (bSel B en E), O) (bSel (!z) (0, 0, (-1)) (bSel (bNot A) (0, 0, (-1)) (m, E, O'))) := by
  have h1 : iGe O 0 = !(iLt O 0) := by rw [iGe_eq, iLt_eq]; by_cases h : O < 0 <;> simp [h] <;> omega
  have h2 : iLt O 0 = true → O = -1 := fun h => by rw [iLt_eq, decide_eq_true_eq] at h; omega
  rw [h1]
  generalize iLt O 0 = C at h2
  have hN2 : bAnd (bNot z) N1 = bAnd (bNot z) N := by cases z with
    | false => rw [hN rfl]
    | true => rw [bNot_eq, bAnd_eq, bAnd_eq]; rfl
  rw [hN2]
  clear hN2 hN
  simp only [bAnd_eq, bNot_eq, bOr_eq]
  cases C with
  | false => cases z <;> cases A <;> cases B <;> cases D <;> cases F <;> cases N <;> simp [bSel_t, bSel_f]
  | true =>
    have h2 := h2 rfl
    subst h2
    cases z <;> cases A <;> cases B <;> cases D <;> cases F <;> cases N <;> simp [bSel_t, bSel_f]
theorem matchCombo_two (l : List (Int × Int)) (term : Int) (q : List (Int × Int × Bool)) (now : Int) (hl : l.length ≤ 1048576) (hq : q.length ≤ 1048576) :
    ok_spec_MatchCombo (l, term, q, now) ∧ ok_impl_MatchCombo (l, term, q, now) ∧ v_impl_MatchCombo (l, term, q, now) = v_spec_MatchCombo (l, term, q, now) := by
  rw [oe_spec_MatchCombo, oe_impl_MatchCombo, ve_spec_MatchCombo, ve_impl_MatchCombo]
  have g1 : bNot (v_spec_l1In (term, 1, 200)) = bOr (iLt term 1) (iGt term 200) := by
    rw [l1In_eq, bNot_eq, bOr_eq, iLt_eq, iGt_eq]
    by_cases h1 : term < 1 <;> by_cases h2 : 200 < term <;> simp [h1, h2] <;> omega
  have as : ∀ a b c : Bool, bOr (bOr a b) c = bOr a (bOr b c) := fun a b c => by simp only [bOr_eq, Bool.or_assoc]
  have c1 := ok_isCombos l hl
  simp only [isCombos_eq l hl, switch_eq, fits_eq, out_eq, rest_q, g1, as, c1.1, c1.2, (ok_switch _).1, (ok_switch _).2, (ok_fits (l, _) hl).1, (ok_fits (l, _) hl).2, (ok_out (l, _) hl).1, (ok_out (l, _) hl).2, ok_l1In, sel_same, min_sel]
  by_cases hq0 : q.length = 0
  · have t : iEq (lLen q) 0 = true := by rw [iEq_eq, lLen_eq, hq0]; rfl
    have bt : ∀ b, bOr true b = true := fun b => by rw [bOr_eq]; rfl
    have tb : ∀ b, bOr b true = true := fun b => by rw [bOr_eq, Bool.or_true]
    simp only [t, bt, tb, bSel_t]
    simp
  · have t : iEq (lLen q) 0 = false := by rw [iEq_eq, lLen_eq]; exact decide_eq_false (by omega)
    have i0 : (0 : Int) < (q.length : Int) := by omega
    have i1 : iNat 0 < q.length := by rw [iNat_eq]; omega
    have i2 : lN q = q.length := lN_eq q
    have i3 : iNat 1 ≤ q.length := by rw [iNat_eq]; omega
    have i4 : 0 < q.length := by omega
    obtain ⟨b1, b2, b3⟩ := mat_loops l term q now hl hq (by omega) (iShl .i64 1 (lGet q (iNat 0) (0, 0, false)).2.1)
    simp only [b1, b2, t, i0, i1, i2, i3, i4]
    generalize loopV (lc_spec_MatchCombo_1 _) _ _ = S at b3 ⊢
    generalize loopV (lc_impl_MatchCombo_1 _) _ _ = T at b3 ⊢
    obtain ⟨s, n⟩ := S
    obtain ⟨s', n', j'⟩ := T
    obtain ⟨rfl, j, hj, rfl, rfl, rfl⟩ := b3
    obtain ⟨e1, e2, z, z1, z2, _⟩ := mat_idx hj hq
    simp only [e1, e2, z1, z2]
    generalize lGet q (iNat 0) (0, 0, false) = Q
    generalize hG : bOr (bNot (v_impl_IsCombos l)) (bOr (iLt term 1) (bOr (iGt term 200) (bOr false (bOr (bNot (v_impl_isSwitchEvent Q)) (bNot Q.2.2))))) = G
    cases G with
    | true => simp [bSel_t]
    | false =>
      simp only [bOr_eq, bNot_eq, Bool.or_eq_false_iff, Bool.not_eq_false'] at hG
      have hk := switch_key hG.2.2.2.2.1
      have hO := out_rng (l, s) hl (combos_out hl hG.1)
      refine ⟨by simp [hk], by simp [hk], ?_⟩
      rw [bSel_f, bSel_f]
      cases v_impl_within (l, iShl .i64 1 Q.2.1) with
      | false => simp [bNot_eq, bSel_t]
      | true =>
        rw [show bNot true = false from by rw [bNot_eq]; rfl, bSel_f, bSel_f]
        exact mat_v _ _ _ _ _ _ _ _ _ _ _ _ _ hO (fun hz => by rw [hz, bSel_f])
theorem plain_FnExactMatchCombo (x : MatX) (hw : TuX.wf h_laws_FnExactMatchCombo x) : ok_laws_FnExactMatchCombo x ∧ v_laws_FnExactMatchCombo x = true := by
  obtain ⟨l, term, q, now⟩ := x
  obtain ⟨w1, _, w2, _⟩ := hw
  rw [oe_laws_FnExactMatchCombo, ve_laws_FnExactMatchCombo]
  have hl : wl_ComboS l := ⟨w1.1, fun a _ => by simp [wl_Combo]⟩
  have hq : wl_EventS q := ⟨w2.1, fun a _ => by simp [wl_Event]⟩
  obtain ⟨k1, k2⟩ := sz_ComboS l hl 1048576 (by omega) (by omega)
  rcases k2 with k2 | ⟨k2, k2', k3⟩
  · have e : iLt (v_laws_szComboS (l, 1048576)) 0 = true := by rw [iLt_eq]; simpa using k2
    simp only [e]; simp [bOr_eq, k1]
  · have e : iLt (v_laws_szComboS (l, 1048576)) 0 = false := by rw [iLt_eq]; simpa using k2
    obtain ⟨m1, m2⟩ := sz_EventS q hq (v_laws_szComboS (l, 1048576)) k2 k2'
    rcases m2 with m2 | ⟨m2, _, m3⟩
    · have e2 : iLt (v_laws_szEventS (q, v_laws_szComboS (l, 1048576))) 0 = true := by rw [iLt_eq]; simpa using m2
      simp only [e, e2]; simp [bOr_eq, k1, m1]
    · have e2 : iLt (v_laws_szEventS (q, v_laws_szComboS (l, 1048576))) 0 = false := by rw [iLt_eq]; simpa using m2
      obtain ⟨t1, t2⟩ := to_ComboS l k3
      obtain ⟨t3, t4⟩ := to_EventS q m3
      obtain ⟨q1, q2⟩ := eq_ComboS l l k3
      obtain ⟨q3, q4⟩ := eq_EventS q q m3
      have q2 := q2.2 rfl
      have q4 := q4.2 rfl
      obtain ⟨r1, r2, r3⟩ := matchCombo_two l term q now k3.1 m3.1
      simp only [e, e2, t2, t4, r3, q2, q4]
      simp [bOr_eq, bNot_eq, bAnd_eq, iNe_eq, k1, m1, t1, t3, q1, q3, r1, r2]
end Go.Ag
