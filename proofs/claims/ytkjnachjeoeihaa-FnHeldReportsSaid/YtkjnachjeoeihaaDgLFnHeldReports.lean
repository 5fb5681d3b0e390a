/-
  EACH ABSTRACT FUNCTION IS THE SEAT's OWN: checked by the kernel, function by function (written by program, ag.py).
-/
import Derived.Test.YtkjnachjeoeihaaChecked
import Derived.KernelRfl
import Derived.Test.YtkjnachjeoeihaaLibG
import Derived.Shelf.Sort.Plain
import Derived.Shelf.Slices.In.SortNone2
namespace Go.Proofs.Ytkjnachjeoeihaa
open Go.Ag

theorem follows : Try.prog.follows .mixedOrders = true := by kernel_rfl
open Go.Shelf
def lays191_ren : Go.Shelf.Ren := ⟨fun | 191 => 122 | 189 => 147 | 125 => 157 | 257 => 156 | 128 => 168 | 129 => 169 | 294 => 159 | 295 => 160 | 296 => 161 | 297 => 162 | 298 => 163 | 299 => 164 | 216 => 165 | 300 => 166 | 301 => 167 | 328 => 170 | 329 => 171 | 330 => 172 | 331 => 173 | 332 => 174 | 215 => 175 | 343 => 176 | n => n, fun | 28 => 76 | 0 => 0 | 3 => 3 | 46 => 164 | 51 => 185 | 53 => 187 | 4 => 4 | 183 => 202 | 182 => 201 | 131 => 124 | 5 => 5 | 9 => 9 | 218 => 208 | 222 => 212 | 228 => 214 | 229 => 57 | n => n, fun | n => n⟩
theorem lays191 : Go.Proofs.Lays.n191 Try.prog lays191_ren := {
  mixed := by kernel_rfl
  f125 := Try.func157.trans (congrArg some (by kernel_rfl))
  f128 := Try.func168.trans (congrArg some (by kernel_rfl))
  f129 := Try.func169.trans (congrArg some (by kernel_rfl))
  f189 := Try.func147.trans (congrArg some (by kernel_rfl))
  f191 := Try.func122.trans (congrArg some (by kernel_rfl))
  f215 := Try.func175.trans (congrArg some (by kernel_rfl))
  f216 := Try.func165.trans (congrArg some (by kernel_rfl))
  f257 := Try.func156.trans (congrArg some (by kernel_rfl))
  f294 := Try.func159.trans (congrArg some (by kernel_rfl))
  f295 := Try.func160.trans (congrArg some (by kernel_rfl))
  f296 := Try.func161.trans (congrArg some (by kernel_rfl))
  f297 := Try.func162.trans (congrArg some (by kernel_rfl))
  f298 := Try.func163.trans (congrArg some (by kernel_rfl))
  f299 := Try.func164.trans (congrArg some (by kernel_rfl))
  f300 := Try.func166.trans (congrArg some (by kernel_rfl))
  f301 := Try.func167.trans (congrArg some (by kernel_rfl))
  f328 := Try.func170.trans (congrArg some (by kernel_rfl))
  f329 := Try.func171.trans (congrArg some (by kernel_rfl))
  f330 := Try.func172.trans (congrArg some (by kernel_rfl))
  f331 := Try.func173.trans (congrArg some (by kernel_rfl))
  f332 := Try.func174.trans (congrArg some (by kernel_rfl))
  f343 := Try.func176.trans (congrArg some (by kernel_rfl))
  t0 := Try.underlying0
  a0 := Try.isAgg0
  z0 := Try.sizeOf0
  v0 := Try.zeroValue0
  t3 := Try.underlying3
  a3 := Try.isAgg3
  z3 := Try.sizeOf3
  v3 := Try.zeroValue3
  t4 := Try.underlying4
  a4 := Try.isAgg4
  z4 := Try.sizeOf4
  v4 := Try.zeroValue4
  t5 := Try.underlying5
  a5 := Try.isAgg5
  z5 := Try.sizeOf5
  v5 := Try.zeroValue5
  t9 := Try.underlying9
  a9 := Try.isAgg9
  z9 := Try.sizeOf9
  v9 := Try.zeroValue9
  t28 := Try.underlying76
  a28 := Try.isAgg76
  z28 := Try.sizeOf76
  v28 := Try.zeroValue76
  t46 := Try.underlying164
  a46 := Try.isAgg164
  z46 := Try.sizeOf164
  v46 := Try.zeroValue164
  t51 := Try.underlying185
  a51 := Try.isAgg185
  z51 := Try.sizeOf185
  v51 := Try.zeroValue185
  t53 := Try.underlying187
  a53 := Try.isAgg187
  z53 := Try.sizeOf187
  v53 := Try.zeroValue187
  t131 := Try.underlying124
  a131 := Try.isAgg124
  z131 := Try.sizeOf124
  v131 := Try.zeroValue124
  t182 := Try.underlying201
  a182 := Try.isAgg201
  z182 := Try.sizeOf201
  v182 := Try.zeroValue201
  t183 := Try.underlying202
  a183 := Try.isAgg202
  z183 := Try.sizeOf202
  v183 := Try.zeroValue202
  t218 := Try.underlying208
  a218 := Try.isAgg208
  z218 := Try.sizeOf208
  v218 := Try.zeroValue208
  t222 := Try.underlying212
  a222 := Try.isAgg212
  z222 := Try.sizeOf212
  v222 := Try.zeroValue212
  t228 := Try.underlying214
  a228 := Try.isAgg214
  z228 := Try.sizeOf214
  v228 := Try.zeroValue214
  t229 := Try.underlying57
  a229 := Try.isAgg57
  z229 := Try.sizeOf57
  v229 := Try.zeroValue57 }
theorem l_sort_Ints : SoundCall Try.prog 122 s_sort_Ints := sort_sound ⟨fun blk off cap zs w h1 h2 h3 => Go.Proofs.Any.sort_Ints lays191 blk off cap zs w h1 h2 h3, fun p cap w => Go.Proofs.Any.sort_Ints_none lays191 p cap w⟩
theorem k_laws_big : okFun Try.prog Try.f19 f_laws_big = true := by kernel_rfl
theorem o_laws_big : funOb Try.prog Try.f19 f_laws_big = [] := by kernel_rfl
theorem l_laws_big : SoundCall Try.prog 19 s_laws_big := by unfold s_laws_big; exact fun_sound_of follows Try.func19 k_laws_big o_laws_big trivial
theorem k_spec_l1New : okFun Try.prog Try.f60 f_spec_l1New = true := by kernel_rfl
theorem o_spec_l1New : funOb Try.prog Try.f60 f_spec_l1New = [] := by kernel_rfl
theorem l_spec_l1New : SoundCall Try.prog 60 s_spec_l1New := by unfold s_spec_l1New; exact fun_sound_of follows Try.func60 k_spec_l1New o_spec_l1New trivial
theorem k_spec_l24New : okFun Try.prog Try.f72 f_spec_l24New = true := by kernel_rfl
theorem o_spec_l24New : funOb Try.prog Try.f72 f_spec_l24New = [(60, s_spec_l1New)] := by kernel_rfl
theorem l_spec_l24New : SoundCall Try.prog 72 s_spec_l24New := by unfold s_spec_l24New; exact fun_sound_of follows Try.func72 k_spec_l24New o_spec_l24New ⟨l_spec_l1New, trivial⟩
theorem k_spec_l1Byte : okFun Try.prog Try.f113 f_spec_l1Byte = true := by kernel_rfl
theorem o_spec_l1Byte : funOb Try.prog Try.f113 f_spec_l1Byte = [] := by kernel_rfl
theorem l_spec_l1Byte : SoundCall Try.prog 113 s_spec_l1Byte := by unfold s_spec_l1Byte; exact fun_sound_of follows Try.func113 k_spec_l1Byte o_spec_l1Byte trivial
theorem k_spec_l1Below : okFun Try.prog Try.f65 f_spec_l1Below = true := by kernel_rfl
theorem o_spec_l1Below : funOb Try.prog Try.f65 f_spec_l1Below = [(113, s_spec_l1Byte), (113, s_spec_l1Byte), (113, s_spec_l1Byte), (113, s_spec_l1Byte), (113, s_spec_l1Byte)] := by kernel_rfl
theorem l_spec_l1Below : SoundCall Try.prog 65 s_spec_l1Below := by unfold s_spec_l1Below; exact fun_sound_of follows Try.func65 k_spec_l1Below o_spec_l1Below ⟨l_spec_l1Byte, l_spec_l1Byte, l_spec_l1Byte, l_spec_l1Byte, l_spec_l1Byte, trivial⟩
theorem k_spec_l1Once : okFun Try.prog Try.f63 f_spec_l1Once = true := by kernel_rfl
theorem o_spec_l1Once : funOb Try.prog Try.f63 f_spec_l1Once = [(65, s_spec_l1Below)] := by kernel_rfl
theorem l_spec_l1Once : SoundCall Try.prog 63 s_spec_l1Once := by unfold s_spec_l1Once; exact fun_sound_of follows Try.func63 k_spec_l1Once o_spec_l1Once ⟨l_spec_l1Below, trivial⟩
theorem k_spec_l5Draw : okFun Try.prog Try.f118 f_spec_l5Draw = true := by kernel_rfl
theorem o_spec_l5Draw : funOb Try.prog Try.f118 f_spec_l5Draw = [(65, s_spec_l1Below), (65, s_spec_l1Below), (63, s_spec_l1Once), (65, s_spec_l1Below), (65, s_spec_l1Below), (65, s_spec_l1Below), (65, s_spec_l1Below), (65, s_spec_l1Below)] := by kernel_rfl
theorem l_spec_l5Draw : SoundCall Try.prog 118 s_spec_l5Draw := by unfold s_spec_l5Draw; exact fun_sound_of follows Try.func118 k_spec_l5Draw o_spec_l5Draw ⟨l_spec_l1Below, l_spec_l1Below, l_spec_l1Once, l_spec_l1Below, l_spec_l1Below, l_spec_l1Below, l_spec_l1Below, l_spec_l1Below, trivial⟩
theorem k_spec_l1In : okFun Try.prog Try.f70 f_spec_l1In = true := by kernel_rfl
theorem o_spec_l1In : funOb Try.prog Try.f70 f_spec_l1In = [] := by kernel_rfl
theorem l_spec_l1In : SoundCall Try.prog 70 s_spec_l1In := by unfold s_spec_l1In; exact fun_sound_of follows Try.func70 k_spec_l1In o_spec_l1In trivial
theorem k_spec_IsAction : okFun Try.prog Try.f148 f_spec_IsAction = true := by kernel_rfl
theorem o_spec_IsAction : funOb Try.prog Try.f148 f_spec_IsAction = [(70, s_spec_l1In), (70, s_spec_l1In), (70, s_spec_l1In), (70, s_spec_l1In)] := by kernel_rfl
theorem l_spec_IsAction : SoundCall Try.prog 148 s_spec_IsAction := by unfold s_spec_IsAction; exact fun_sound_of follows Try.func148 k_spec_IsAction o_spec_IsAction ⟨l_spec_l1In, l_spec_l1In, l_spec_l1In, l_spec_l1In, trivial⟩
theorem k_spec_IsTapHold : okFun Try.prog Try.f146 f_spec_IsTapHold = true := by kernel_rfl
theorem o_spec_IsTapHold : funOb Try.prog Try.f146 f_spec_IsTapHold = [(148, s_spec_IsAction)] := by kernel_rfl
theorem l_spec_IsTapHold : SoundCall Try.prog 146 s_spec_IsTapHold := by unfold s_spec_IsTapHold; exact fun_sound_of follows Try.func146 k_spec_IsTapHold o_spec_IsTapHold ⟨l_spec_IsAction, trivial⟩
theorem k_spec_HoldOf : okFun Try.prog Try.f119 f_spec_HoldOf = true := by kernel_rfl
theorem o_spec_HoldOf : funOb Try.prog Try.f119 f_spec_HoldOf = [(146, s_spec_IsTapHold)] := by kernel_rfl
theorem l_spec_HoldOf : SoundCall Try.prog 119 s_spec_HoldOf := by unfold s_spec_HoldOf; exact fun_sound_of follows Try.func119 k_spec_HoldOf o_spec_HoldOf ⟨l_spec_IsTapHold, trivial⟩
theorem k_spec_TapOf : okFun Try.prog Try.f120 f_spec_TapOf = true := by kernel_rfl
theorem o_spec_TapOf : funOb Try.prog Try.f120 f_spec_TapOf = [(146, s_spec_IsTapHold)] := by kernel_rfl
theorem l_spec_TapOf : SoundCall Try.prog 120 s_spec_TapOf := by unfold s_spec_TapOf; exact fun_sound_of follows Try.func120 k_spec_TapOf o_spec_TapOf ⟨l_spec_IsTapHold, trivial⟩
theorem k_spec_l7Draw : okFun Try.prog Try.f84 f_spec_l7Draw = true := by kernel_rfl
theorem o_spec_l7Draw : funOb Try.prog Try.f84 f_spec_l7Draw = [(63, s_spec_l1Once), (118, s_spec_l5Draw), (63, s_spec_l1Once), (119, s_spec_HoldOf), (120, s_spec_TapOf)] := by kernel_rfl
theorem l_spec_l7Draw : SoundCall Try.prog 84 s_spec_l7Draw := by unfold s_spec_l7Draw; exact fun_sound_of follows Try.func84 k_spec_l7Draw o_spec_l7Draw ⟨l_spec_l1Once, l_spec_l5Draw, l_spec_l1Once, l_spec_HoldOf, l_spec_TapOf, trivial⟩
theorem k_spec_MakeHeld : okFun Try.prog Try.f32 f_spec_MakeHeld = true := by kernel_rfl
theorem o_spec_MakeHeld : funOb Try.prog Try.f32 f_spec_MakeHeld = [(72, s_spec_l24New), (84, s_spec_l7Draw)] := by kernel_rfl
theorem l_spec_MakeHeld : SoundCall Try.prog 32 s_spec_MakeHeld := by unfold s_spec_MakeHeld; exact fun_sound_of follows Try.func32 k_spec_MakeHeld o_spec_MakeHeld ⟨l_spec_l24New, l_spec_l7Draw, trivial⟩
theorem k_impl_bit : okFun Try.prog Try.f69 f_impl_bit = true := by kernel_rfl
theorem o_impl_bit : funOb Try.prog Try.f69 f_impl_bit = [] := by kernel_rfl
theorem l_impl_bit : SoundCall Try.prog 69 s_impl_bit := by unfold s_impl_bit; exact fun_sound_of follows Try.func69 k_impl_bit o_impl_bit trivial
theorem k_impl_isCode : okFun Try.prog Try.f87 f_impl_isCode = true := by kernel_rfl
theorem o_impl_isCode : funOb Try.prog Try.f87 f_impl_isCode = [] := by kernel_rfl
theorem l_impl_isCode : SoundCall Try.prog 87 s_impl_isCode := by unfold s_impl_isCode; exact fun_sound_of follows Try.func87 k_impl_isCode o_impl_isCode trivial
theorem k_impl_isMods : okFun Try.prog Try.f124 f_impl_isMods = true := by kernel_rfl
theorem o_impl_isMods : funOb Try.prog Try.f124 f_impl_isMods = [] := by kernel_rfl
theorem l_impl_isMods : SoundCall Try.prog 124 s_impl_isMods := by unfold s_impl_isMods; exact fun_sound_of follows Try.func124 k_impl_isMods o_impl_isMods trivial
theorem k_impl_isUpper : okFun Try.prog Try.f125 f_impl_isUpper = true := by kernel_rfl
theorem o_impl_isUpper : funOb Try.prog Try.f125 f_impl_isUpper = [] := by kernel_rfl
theorem l_impl_isUpper : SoundCall Try.prog 125 s_impl_isUpper := by unfold s_impl_isUpper; exact fun_sound_of follows Try.func125 k_impl_isUpper o_impl_isUpper trivial
theorem k_impl_IsAction : okFun Try.prog Try.f86 f_impl_IsAction = true := by kernel_rfl
theorem o_impl_IsAction : funOb Try.prog Try.f86 f_impl_IsAction = [(87, s_impl_isCode), (124, s_impl_isMods), (125, s_impl_isUpper), (87, s_impl_isCode), (124, s_impl_isMods), (87, s_impl_isCode), (125, s_impl_isUpper), (124, s_impl_isMods)] := by kernel_rfl
theorem l_impl_IsAction : SoundCall Try.prog 86 s_impl_IsAction := by unfold s_impl_IsAction; exact fun_sound_of follows Try.func86 k_impl_IsAction o_impl_IsAction ⟨l_impl_isCode, l_impl_isMods, l_impl_isUpper, l_impl_isCode, l_impl_isMods, l_impl_isCode, l_impl_isUpper, l_impl_isMods, trivial⟩
theorem k_impl_IsHeld : okFun Try.prog Try.f35 f_impl_IsHeld = true := by kernel_rfl
theorem o_impl_IsHeld : funOb Try.prog Try.f35 f_impl_IsHeld = [(69, s_impl_bit), (86, s_impl_IsAction)] := by kernel_rfl
theorem l_impl_IsHeld : SoundCall Try.prog 35 s_impl_IsHeld := by unfold s_impl_IsHeld; exact fun_sound_of follows Try.func35 k_impl_IsHeld o_impl_IsHeld ⟨l_impl_bit, l_impl_IsAction, trivial⟩
theorem k_impl_copyInts : okFun Try.prog Try.f121 f_impl_copyInts = true := by kernel_rfl
theorem o_impl_copyInts : funOb Try.prog Try.f121 f_impl_copyInts = [] := by kernel_rfl
theorem l_impl_copyInts : SoundCall Try.prog 121 s_impl_copyInts := by unfold s_impl_copyInts; exact fun_sound_of follows Try.func121 k_impl_copyInts o_impl_copyInts trivial
theorem k_impl_hasInt : okFun Try.prog Try.f123 f_impl_hasInt = true := by kernel_rfl
theorem o_impl_hasInt : funOb Try.prog Try.f123 f_impl_hasInt = [] := by kernel_rfl
theorem l_impl_hasInt : SoundCall Try.prog 123 s_impl_hasInt := by unfold s_impl_hasInt; exact fun_sound_of follows Try.func123 k_impl_hasInt o_impl_hasInt trivial
theorem k_impl_codesOf : okFun Try.prog Try.f85 f_impl_codesOf = true := by kernel_rfl
theorem o_impl_codesOf : funOb Try.prog Try.f85 f_impl_codesOf = [(121, s_impl_copyInts), (122, s_sort_Ints), (123, s_impl_hasInt)] := by kernel_rfl
theorem l_impl_codesOf : SoundCall Try.prog 85 s_impl_codesOf := by unfold s_impl_codesOf; exact fun_sound_of follows Try.func85 k_impl_codesOf o_impl_codesOf ⟨l_impl_copyInts, l_sort_Ints, l_impl_hasInt, trivial⟩
theorem k_impl_ReportOf : okFun Try.prog Try.f33 f_impl_ReportOf = true := by kernel_rfl
theorem o_impl_ReportOf : funOb Try.prog Try.f33 f_impl_ReportOf = [(35, s_impl_IsHeld), (85, s_impl_codesOf)] := by kernel_rfl
theorem l_impl_ReportOf : SoundCall Try.prog 33 s_impl_ReportOf := by unfold s_impl_ReportOf; exact fun_sound_of follows Try.func33 k_impl_ReportOf o_impl_ReportOf ⟨l_impl_IsHeld, l_impl_codesOf, trivial⟩
theorem k_laws_has : okFun Try.prog Try.f34 f_laws_has = true := by kernel_rfl
theorem o_laws_has : funOb Try.prog Try.f34 f_laws_has = [] := by kernel_rfl
theorem l_laws_has : SoundCall Try.prog 34 s_laws_has := by unfold s_laws_has; exact fun_sound_of follows Try.func34 k_laws_has o_laws_has trivial
theorem k_impl_IsReport : okFun Try.prog Try.f36 f_impl_IsReport = true := by kernel_rfl
theorem o_impl_IsReport : funOb Try.prog Try.f36 f_impl_IsReport = [(87, s_impl_isCode)] := by kernel_rfl
theorem l_impl_IsReport : SoundCall Try.prog 36 s_impl_IsReport := by unfold s_impl_IsReport; exact fun_sound_of follows Try.func36 k_impl_IsReport o_impl_IsReport ⟨l_impl_isCode, trivial⟩
theorem k_impl_sameInts : okFun Try.prog Try.f88 f_impl_sameInts = true := by kernel_rfl
theorem o_impl_sameInts : funOb Try.prog Try.f88 f_impl_sameInts = [] := by kernel_rfl
theorem l_impl_sameInts : SoundCall Try.prog 88 s_impl_sameInts := by unfold s_impl_sameInts; exact fun_sound_of follows Try.func88 k_impl_sameInts o_impl_sameInts trivial
theorem k_impl_SameReport : okFun Try.prog Try.f37 f_impl_SameReport = true := by kernel_rfl
theorem o_impl_SameReport : funOb Try.prog Try.f37 f_impl_SameReport = [(88, s_impl_sameInts)] := by kernel_rfl
theorem l_impl_SameReport : SoundCall Try.prog 37 s_impl_SameReport := by unfold s_impl_SameReport; exact fun_sound_of follows Try.func37 k_impl_SameReport o_impl_SameReport ⟨l_impl_sameInts, trivial⟩
theorem k_impl_LayersOn : okFun Try.prog Try.f38 f_impl_LayersOn = true := by kernel_rfl
theorem o_impl_LayersOn : funOb Try.prog Try.f38 f_impl_LayersOn = [(35, s_impl_IsHeld)] := by kernel_rfl
theorem l_impl_LayersOn : SoundCall Try.prog 38 s_impl_LayersOn := by unfold s_impl_LayersOn; exact fun_sound_of follows Try.func38 k_impl_LayersOn o_impl_LayersOn ⟨l_impl_IsHeld, trivial⟩
theorem k_laws_FnHeldReports : okFun Try.prog Try.f8 f_laws_FnHeldReports = true := by kernel_rfl
theorem o_laws_FnHeldReports : funOb Try.prog Try.f8 f_laws_FnHeldReports = [(19, s_laws_big), (32, s_spec_MakeHeld), (33, s_impl_ReportOf), (34, s_laws_has), (35, s_impl_IsHeld), (36, s_impl_IsReport), (33, s_impl_ReportOf), (37, s_impl_SameReport), (38, s_impl_LayersOn), (38, s_impl_LayersOn)] := by kernel_rfl
theorem l_laws_FnHeldReports : SoundCall Try.prog 8 s_laws_FnHeldReports := by unfold s_laws_FnHeldReports; exact fun_sound_of follows Try.func8 k_laws_FnHeldReports o_laws_FnHeldReports ⟨l_laws_big, l_spec_MakeHeld, l_impl_ReportOf, l_laws_has, l_impl_IsHeld, l_impl_IsReport, l_impl_ReportOf, l_impl_SameReport, l_impl_LayersOn, l_impl_LayersOn, trivial⟩

end Go.Proofs.Ytkjnachjeoeihaa
