/-
  EACH ABSTRACT FUNCTION IS THE SEAT's OWN: checked by the kernel, function by function (written by program, ag.py).
-/
import Derived.Test.YthljgcjmaabnoaaChecked
import Derived.KernelRfl
import Derived.Test.YthljgcjmaabnoaaLibF
import Derived.Shelf.Sort.Plain
import Derived.Shelf.Slices.In.SortNone2
namespace Go.Proofs.Ythljgcjmaabnoaa
open Go.Ag

theorem follows : Try.prog.follows .mixedOrders = true := by kernel_rfl
open Go.Shelf
def lays191_ren : Go.Shelf.Ren := ⟨fun | 191 => 140 | 189 => 151 | 125 => 154 | 257 => 153 | 128 => 164 | 129 => 165 | 294 => 155 | 295 => 156 | 296 => 157 | 297 => 158 | 298 => 159 | 299 => 160 | 216 => 161 | 300 => 162 | 301 => 163 | 328 => 166 | 329 => 167 | 330 => 168 | 331 => 169 | 332 => 170 | 215 => 171 | 343 => 172 | n => n, fun | 28 => 23 | 0 => 0 | 3 => 3 | 46 => 185 | 51 => 195 | 53 => 197 | 4 => 4 | 183 => 188 | 182 => 187 | 131 => 180 | 5 => 5 | 9 => 9 | 218 => 198 | 222 => 202 | 228 => 204 | 229 => 205 | n => n, fun | n => n⟩
theorem lays191 : Go.Proofs.Lays.n191 Try.prog lays191_ren := {
  mixed := by kernel_rfl
  f125 := Try.func154.trans (congrArg some (by kernel_rfl))
  f128 := Try.func164.trans (congrArg some (by kernel_rfl))
  f129 := Try.func165.trans (congrArg some (by kernel_rfl))
  f189 := Try.func151.trans (congrArg some (by kernel_rfl))
  f191 := Try.func140.trans (congrArg some (by kernel_rfl))
  f215 := Try.func171.trans (congrArg some (by kernel_rfl))
  f216 := Try.func161.trans (congrArg some (by kernel_rfl))
  f257 := Try.func153.trans (congrArg some (by kernel_rfl))
  f294 := Try.func155.trans (congrArg some (by kernel_rfl))
  f295 := Try.func156.trans (congrArg some (by kernel_rfl))
  f296 := Try.func157.trans (congrArg some (by kernel_rfl))
  f297 := Try.func158.trans (congrArg some (by kernel_rfl))
  f298 := Try.func159.trans (congrArg some (by kernel_rfl))
  f299 := Try.func160.trans (congrArg some (by kernel_rfl))
  f300 := Try.func162.trans (congrArg some (by kernel_rfl))
  f301 := Try.func163.trans (congrArg some (by kernel_rfl))
  f328 := Try.func166.trans (congrArg some (by kernel_rfl))
  f329 := Try.func167.trans (congrArg some (by kernel_rfl))
  f330 := Try.func168.trans (congrArg some (by kernel_rfl))
  f331 := Try.func169.trans (congrArg some (by kernel_rfl))
  f332 := Try.func170.trans (congrArg some (by kernel_rfl))
  f343 := Try.func172.trans (congrArg some (by kernel_rfl))
  t0 := Try.underlying0
  a0 := Try.isAgg0
  z0 := Try.sizeOf0
  v0 := Try.zeroValue0
  t3 := Try.underlying3
  a3 := Try.isAgg3
  z3 := Try.sizeOf3
  v3 := Try.zeroValue3
  t4 := Try.underlying4
  a4 := Try.isAgg4
  z4 := Try.sizeOf4
  v4 := Try.zeroValue4
  t5 := Try.underlying5
  a5 := Try.isAgg5
  z5 := Try.sizeOf5
  v5 := Try.zeroValue5
  t9 := Try.underlying9
  a9 := Try.isAgg9
  z9 := Try.sizeOf9
  v9 := Try.zeroValue9
  t28 := Try.underlying23
  a28 := Try.isAgg23
  z28 := Try.sizeOf23
  v28 := Try.zeroValue23
  t46 := Try.underlying185
  a46 := Try.isAgg185
  z46 := Try.sizeOf185
  v46 := Try.zeroValue185
  t51 := Try.underlying195
  a51 := Try.isAgg195
  z51 := Try.sizeOf195
  v51 := Try.zeroValue195
  t53 := Try.underlying197
  a53 := Try.isAgg197
  z53 := Try.sizeOf197
  v53 := Try.zeroValue197
  t131 := Try.underlying180
  a131 := Try.isAgg180
  z131 := Try.sizeOf180
  v131 := Try.zeroValue180
  t182 := Try.underlying187
  a182 := Try.isAgg187
  z182 := Try.sizeOf187
  v182 := Try.zeroValue187
  t183 := Try.underlying188
  a183 := Try.isAgg188
  z183 := Try.sizeOf188
  v183 := Try.zeroValue188
  t218 := Try.underlying198
  a218 := Try.isAgg198
  z218 := Try.sizeOf198
  v218 := Try.zeroValue198
  t222 := Try.underlying202
  a222 := Try.isAgg202
  z222 := Try.sizeOf202
  v222 := Try.zeroValue202
  t228 := Try.underlying204
  a228 := Try.isAgg204
  z228 := Try.sizeOf204
  v228 := Try.zeroValue204
  t229 := Try.underlying205
  a229 := Try.isAgg205
  z229 := Try.sizeOf205
  v229 := Try.zeroValue205 }
theorem l_sort_Ints : SoundCall Try.prog 140 s_sort_Ints := sort_sound ⟨fun blk off cap zs w h1 h2 h3 => Go.Proofs.Any.sort_Ints lays191 blk off cap zs w h1 h2 h3, fun p cap w => Go.Proofs.Any.sort_Ints_none lays191 p cap w⟩
theorem k_laws_szHeldS : okFun Try.prog Try.f44 f_laws_szHeldS = true := by kernel_rfl
theorem o_laws_szHeldS : funOb Try.prog Try.f44 f_laws_szHeldS = [] := by kernel_rfl
theorem l_laws_szHeldS : SoundCall Try.prog 44 s_laws_szHeldS := by unfold s_laws_szHeldS; exact fun_sound_of follows Try.func44 k_laws_szHeldS o_laws_szHeldS trivial
theorem k_laws_toAction : okFun Try.prog Try.f42 f_laws_toAction = true := by kernel_rfl
theorem o_laws_toAction : funOb Try.prog Try.f42 f_laws_toAction = [] := by kernel_rfl
theorem l_laws_toAction : SoundCall Try.prog 42 s_laws_toAction := by unfold s_laws_toAction; exact fun_sound_of follows Try.func42 k_laws_toAction o_laws_toAction trivial
theorem k_laws_toHeld : okFun Try.prog Try.f100 f_laws_toHeld = true := by kernel_rfl
theorem o_laws_toHeld : funOb Try.prog Try.f100 f_laws_toHeld = [(42, s_laws_toAction)] := by kernel_rfl
theorem l_laws_toHeld : SoundCall Try.prog 100 s_laws_toHeld := by unfold s_laws_toHeld; exact fun_sound_of follows Try.func100 k_laws_toHeld o_laws_toHeld ⟨l_laws_toAction, trivial⟩
theorem k_laws_toHeldS : okFun Try.prog Try.f46 f_laws_toHeldS = true := by kernel_rfl
theorem o_laws_toHeldS : funOb Try.prog Try.f46 f_laws_toHeldS = [(100, s_laws_toHeld)] := by kernel_rfl
theorem l_laws_toHeldS : SoundCall Try.prog 46 s_laws_toHeldS := by unfold s_laws_toHeldS; exact fun_sound_of follows Try.func46 k_laws_toHeldS o_laws_toHeldS ⟨l_laws_toHeld, trivial⟩
theorem k_spec_l1In : okFun Try.prog Try.f96 f_spec_l1In = true := by kernel_rfl
theorem o_spec_l1In : funOb Try.prog Try.f96 f_spec_l1In = [] := by kernel_rfl
theorem l_spec_l1In : SoundCall Try.prog 96 s_spec_l1In := by unfold s_spec_l1In; exact fun_sound_of follows Try.func96 k_spec_l1In o_spec_l1In trivial
theorem k_spec_IsAction : okFun Try.prog Try.f132 f_spec_IsAction = true := by kernel_rfl
theorem o_spec_IsAction : funOb Try.prog Try.f132 f_spec_IsAction = [(96, s_spec_l1In), (96, s_spec_l1In), (96, s_spec_l1In), (96, s_spec_l1In)] := by kernel_rfl
theorem l_spec_IsAction : SoundCall Try.prog 132 s_spec_IsAction := by unfold s_spec_IsAction; exact fun_sound_of follows Try.func132 k_spec_IsAction o_spec_IsAction ⟨l_spec_l1In, l_spec_l1In, l_spec_l1In, l_spec_l1In, trivial⟩
theorem k_spec_IsTapHold : okFun Try.prog Try.f138 f_spec_IsTapHold = true := by kernel_rfl
theorem o_spec_IsTapHold : funOb Try.prog Try.f138 f_spec_IsTapHold = [(132, s_spec_IsAction)] := by kernel_rfl
theorem l_spec_IsTapHold : SoundCall Try.prog 138 s_spec_IsTapHold := by unfold s_spec_IsTapHold; exact fun_sound_of follows Try.func138 k_spec_IsTapHold o_spec_IsTapHold ⟨l_spec_IsAction, trivial⟩
theorem k_spec_IsHeld : okFun Try.prog Try.f99 f_spec_IsHeld = true := by kernel_rfl
theorem o_spec_IsHeld : funOb Try.prog Try.f99 f_spec_IsHeld = [(96, s_spec_l1In), (132, s_spec_IsAction), (138, s_spec_IsTapHold)] := by kernel_rfl
theorem l_spec_IsHeld : SoundCall Try.prog 99 s_spec_IsHeld := by unfold s_spec_IsHeld; exact fun_sound_of follows Try.func99 k_spec_IsHeld o_spec_IsHeld ⟨l_spec_l1In, l_spec_IsAction, l_spec_IsTapHold, trivial⟩
theorem k_spec_ReportOf : okFun Try.prog Try.f45 f_spec_ReportOf = true := by kernel_rfl
theorem o_spec_ReportOf : funOb Try.prog Try.f45 f_spec_ReportOf = [(99, s_spec_IsHeld)] := by kernel_rfl
theorem l_spec_ReportOf : SoundCall Try.prog 45 s_spec_ReportOf := by unfold s_spec_ReportOf; exact fun_sound_of follows Try.func45 k_spec_ReportOf o_spec_ReportOf ⟨l_spec_IsHeld, trivial⟩
theorem k_impl_bit : okFun Try.prog Try.f139 f_impl_bit = true := by kernel_rfl
theorem o_impl_bit : funOb Try.prog Try.f139 f_impl_bit = [] := by kernel_rfl
theorem l_impl_bit : SoundCall Try.prog 139 s_impl_bit := by unfold s_impl_bit; exact fun_sound_of follows Try.func139 k_impl_bit o_impl_bit trivial
theorem k_impl_isCode : okFun Try.prog Try.f130 f_impl_isCode = true := by kernel_rfl
theorem o_impl_isCode : funOb Try.prog Try.f130 f_impl_isCode = [] := by kernel_rfl
theorem l_impl_isCode : SoundCall Try.prog 130 s_impl_isCode := by unfold s_impl_isCode; exact fun_sound_of follows Try.func130 k_impl_isCode o_impl_isCode trivial
theorem k_impl_isMods : okFun Try.prog Try.f149 f_impl_isMods = true := by kernel_rfl
theorem o_impl_isMods : funOb Try.prog Try.f149 f_impl_isMods = [] := by kernel_rfl
theorem l_impl_isMods : SoundCall Try.prog 149 s_impl_isMods := by unfold s_impl_isMods; exact fun_sound_of follows Try.func149 k_impl_isMods o_impl_isMods trivial
theorem k_impl_isUpper : okFun Try.prog Try.f150 f_impl_isUpper = true := by kernel_rfl
theorem o_impl_isUpper : funOb Try.prog Try.f150 f_impl_isUpper = [] := by kernel_rfl
theorem l_impl_isUpper : SoundCall Try.prog 150 s_impl_isUpper := by unfold s_impl_isUpper; exact fun_sound_of follows Try.func150 k_impl_isUpper o_impl_isUpper trivial
theorem k_impl_IsAction : okFun Try.prog Try.f134 f_impl_IsAction = true := by kernel_rfl
theorem o_impl_IsAction : funOb Try.prog Try.f134 f_impl_IsAction = [(130, s_impl_isCode), (149, s_impl_isMods), (150, s_impl_isUpper), (130, s_impl_isCode), (149, s_impl_isMods), (130, s_impl_isCode), (150, s_impl_isUpper), (149, s_impl_isMods)] := by kernel_rfl
theorem l_impl_IsAction : SoundCall Try.prog 134 s_impl_IsAction := by unfold s_impl_IsAction; exact fun_sound_of follows Try.func134 k_impl_IsAction o_impl_IsAction ⟨l_impl_isCode, l_impl_isMods, l_impl_isUpper, l_impl_isCode, l_impl_isMods, l_impl_isCode, l_impl_isUpper, l_impl_isMods, trivial⟩
theorem k_impl_IsHeld : okFun Try.prog Try.f101 f_impl_IsHeld = true := by kernel_rfl
theorem o_impl_IsHeld : funOb Try.prog Try.f101 f_impl_IsHeld = [(139, s_impl_bit), (134, s_impl_IsAction)] := by kernel_rfl
theorem l_impl_IsHeld : SoundCall Try.prog 101 s_impl_IsHeld := by unfold s_impl_IsHeld; exact fun_sound_of follows Try.func101 k_impl_IsHeld o_impl_IsHeld ⟨l_impl_bit, l_impl_IsAction, trivial⟩
theorem k_impl_copyInts : okFun Try.prog Try.f84 f_impl_copyInts = true := by kernel_rfl
theorem o_impl_copyInts : funOb Try.prog Try.f84 f_impl_copyInts = [] := by kernel_rfl
theorem l_impl_copyInts : SoundCall Try.prog 84 s_impl_copyInts := by unfold s_impl_copyInts; exact fun_sound_of follows Try.func84 k_impl_copyInts o_impl_copyInts trivial
theorem k_impl_hasInt : okFun Try.prog Try.f141 f_impl_hasInt = true := by kernel_rfl
theorem o_impl_hasInt : funOb Try.prog Try.f141 f_impl_hasInt = [] := by kernel_rfl
theorem l_impl_hasInt : SoundCall Try.prog 141 s_impl_hasInt := by unfold s_impl_hasInt; exact fun_sound_of follows Try.func141 k_impl_hasInt o_impl_hasInt trivial
theorem k_impl_codesOf : okFun Try.prog Try.f102 f_impl_codesOf = true := by kernel_rfl
theorem o_impl_codesOf : funOb Try.prog Try.f102 f_impl_codesOf = [(84, s_impl_copyInts), (140, s_sort_Ints), (141, s_impl_hasInt)] := by kernel_rfl
theorem l_impl_codesOf : SoundCall Try.prog 102 s_impl_codesOf := by unfold s_impl_codesOf; exact fun_sound_of follows Try.func102 k_impl_codesOf o_impl_codesOf ⟨l_impl_copyInts, l_sort_Ints, l_impl_hasInt, trivial⟩
theorem k_impl_ReportOf : okFun Try.prog Try.f47 f_impl_ReportOf = true := by kernel_rfl
theorem o_impl_ReportOf : funOb Try.prog Try.f47 f_impl_ReportOf = [(101, s_impl_IsHeld), (102, s_impl_codesOf)] := by kernel_rfl
theorem l_impl_ReportOf : SoundCall Try.prog 47 s_impl_ReportOf := by unfold s_impl_ReportOf; exact fun_sound_of follows Try.func47 k_impl_ReportOf o_impl_ReportOf ⟨l_impl_IsHeld, l_impl_codesOf, trivial⟩
theorem k_laws_eqIntS : okFun Try.prog Try.f77 f_laws_eqIntS = true := by kernel_rfl
theorem o_laws_eqIntS : funOb Try.prog Try.f77 f_laws_eqIntS = [] := by kernel_rfl
theorem l_laws_eqIntS : SoundCall Try.prog 77 s_laws_eqIntS := by unfold s_laws_eqIntS; exact fun_sound_of follows Try.func77 k_laws_eqIntS o_laws_eqIntS trivial
theorem k_laws_eqReport : okFun Try.prog Try.f18 f_laws_eqReport = true := by kernel_rfl
theorem o_laws_eqReport : funOb Try.prog Try.f18 f_laws_eqReport = [(77, s_laws_eqIntS)] := by kernel_rfl
theorem l_laws_eqReport : SoundCall Try.prog 18 s_laws_eqReport := by unfold s_laws_eqReport; exact fun_sound_of follows Try.func18 k_laws_eqReport o_laws_eqReport ⟨l_laws_eqIntS, trivial⟩
theorem k_laws_eqAction : okFun Try.prog Try.f142 f_laws_eqAction = true := by kernel_rfl
theorem o_laws_eqAction : funOb Try.prog Try.f142 f_laws_eqAction = [] := by kernel_rfl
theorem l_laws_eqAction : SoundCall Try.prog 142 s_laws_eqAction := by unfold s_laws_eqAction; exact fun_sound_of follows Try.func142 k_laws_eqAction o_laws_eqAction trivial
theorem k_laws_eqHeld : okFun Try.prog Try.f103 f_laws_eqHeld = true := by kernel_rfl
theorem o_laws_eqHeld : funOb Try.prog Try.f103 f_laws_eqHeld = [(142, s_laws_eqAction)] := by kernel_rfl
theorem l_laws_eqHeld : SoundCall Try.prog 103 s_laws_eqHeld := by unfold s_laws_eqHeld; exact fun_sound_of follows Try.func103 k_laws_eqHeld o_laws_eqHeld ⟨l_laws_eqAction, trivial⟩
theorem k_laws_eqHeldS : okFun Try.prog Try.f48 f_laws_eqHeldS = true := by kernel_rfl
theorem o_laws_eqHeldS : funOb Try.prog Try.f48 f_laws_eqHeldS = [(103, s_laws_eqHeld)] := by kernel_rfl
theorem l_laws_eqHeldS : SoundCall Try.prog 48 s_laws_eqHeldS := by unfold s_laws_eqHeldS; exact fun_sound_of follows Try.func48 k_laws_eqHeldS o_laws_eqHeldS ⟨l_laws_eqHeld, trivial⟩
theorem k_laws_markHeldS : okFun Try.prog Try.f49 f_laws_markHeldS = true := by kernel_rfl
theorem o_laws_markHeldS : funOb Try.prog Try.f49 f_laws_markHeldS = [] := by kernel_rfl
theorem l_laws_markHeldS : SoundCall Try.prog 49 s_laws_markHeldS := by unfold s_laws_markHeldS; exact fun_sound_of follows Try.func49 k_laws_markHeldS o_laws_markHeldS trivial
theorem k_laws_markIntS : okFun Try.prog Try.f78 f_laws_markIntS = true := by kernel_rfl
theorem o_laws_markIntS : funOb Try.prog Try.f78 f_laws_markIntS = [] := by kernel_rfl
theorem l_laws_markIntS : SoundCall Try.prog 78 s_laws_markIntS := by unfold s_laws_markIntS; exact fun_sound_of follows Try.func78 k_laws_markIntS o_laws_markIntS trivial
theorem k_laws_markReport : okFun Try.prog Try.f21 f_laws_markReport = true := by kernel_rfl
theorem o_laws_markReport : funOb Try.prog Try.f21 f_laws_markReport = [(78, s_laws_markIntS)] := by kernel_rfl
theorem l_laws_markReport : SoundCall Try.prog 21 s_laws_markReport := by unfold s_laws_markReport; exact fun_sound_of follows Try.func21 k_laws_markReport o_laws_markReport ⟨l_laws_markIntS, trivial⟩
theorem k_laws_heldIntS : okFun Try.prog Try.f79 f_laws_heldIntS = true := by kernel_rfl
theorem o_laws_heldIntS : funOb Try.prog Try.f79 f_laws_heldIntS = [] := by kernel_rfl
theorem l_laws_heldIntS : SoundCall Try.prog 79 s_laws_heldIntS := by unfold s_laws_heldIntS; exact fun_sound_of follows Try.func79 k_laws_heldIntS o_laws_heldIntS trivial
theorem k_laws_heldReport : okFun Try.prog Try.f22 f_laws_heldReport = true := by kernel_rfl
theorem o_laws_heldReport : funOb Try.prog Try.f22 f_laws_heldReport = [(79, s_laws_heldIntS)] := by kernel_rfl
theorem l_laws_heldReport : SoundCall Try.prog 22 s_laws_heldReport := by unfold s_laws_heldReport; exact fun_sound_of follows Try.func22 k_laws_heldReport o_laws_heldReport ⟨l_laws_heldIntS, trivial⟩
theorem k_laws_FnExactReportOf : okFun Try.prog Try.f10 f_laws_FnExactReportOf = true := by kernel_rfl
theorem o_laws_FnExactReportOf : funOb Try.prog Try.f10 f_laws_FnExactReportOf = [(44, s_laws_szHeldS), (46, s_laws_toHeldS), (45, s_spec_ReportOf), (46, s_laws_toHeldS), (47, s_impl_ReportOf), (18, s_laws_eqReport), (46, s_laws_toHeldS), (48, s_laws_eqHeldS), (49, s_laws_markHeldS), (18, s_laws_eqReport), (21, s_laws_markReport), (22, s_laws_heldReport), (46, s_laws_toHeldS), (47, s_impl_ReportOf), (18, s_laws_eqReport), (22, s_laws_heldReport)] := by kernel_rfl
theorem l_laws_FnExactReportOf : SoundCall Try.prog 10 s_laws_FnExactReportOf := by unfold s_laws_FnExactReportOf; exact fun_sound_of follows Try.func10 k_laws_FnExactReportOf o_laws_FnExactReportOf ⟨l_laws_szHeldS, l_laws_toHeldS, l_spec_ReportOf, l_laws_toHeldS, l_impl_ReportOf, l_laws_eqReport, l_laws_toHeldS, l_laws_eqHeldS, l_laws_markHeldS, l_laws_eqReport, l_laws_markReport, l_laws_heldReport, l_laws_toHeldS, l_impl_ReportOf, l_laws_eqReport, l_laws_heldReport, trivial⟩

end Go.Proofs.Ythljgcjmaabnoaa
