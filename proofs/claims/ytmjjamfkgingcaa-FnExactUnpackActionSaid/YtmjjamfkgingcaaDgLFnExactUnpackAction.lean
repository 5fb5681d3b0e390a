/-
  EACH ABSTRACT FUNCTION IS THE SEAT's OWN: checked by the kernel, function by function (written by program, ag.py).
-/
import Derived.Test.YtmjjamfkgingcaaChecked
import Derived.Test.YtmjjamfkgingcaaLibA
import Derived.KernelRfl
import Derived.Test.YtmjjamfkgingcaaDgP1
namespace Go.Proofs.Ytmjjamfkgingcaa
open Go.Ag

theorem follows : Try.prog.follows .mixedOrders = true := by kernel_rfl
theorem k_laws_toByteS : okFun Try.prog Try.f16 f_laws_toByteS = true := by kernel_rfl
theorem o_laws_toByteS : funOb Try.prog Try.f16 f_laws_toByteS = [] := by kernel_rfl
theorem l_laws_toByteS : SoundCall Try.prog 16 s_laws_toByteS := by unfold s_laws_toByteS; exact fun_sound_of follows Try.func16 k_laws_toByteS o_laws_toByteS trivial
theorem k_spec_l1In : okFun Try.prog Try.f66 f_spec_l1In = true := by kernel_rfl
theorem o_spec_l1In : funOb Try.prog Try.f66 f_spec_l1In = [] := by kernel_rfl
theorem l_spec_l1In : SoundCall Try.prog 66 s_spec_l1In := by unfold s_spec_l1In; exact fun_sound_of follows Try.func66 k_spec_l1In o_spec_l1In trivial
theorem k_spec_IsAction : okFun Try.prog Try.f64 f_spec_IsAction = true := by kernel_rfl
theorem o_spec_IsAction : funOb Try.prog Try.f64 f_spec_IsAction = [(66, s_spec_l1In), (66, s_spec_l1In), (66, s_spec_l1In), (66, s_spec_l1In)] := by kernel_rfl
theorem l_spec_IsAction : SoundCall Try.prog 64 s_spec_IsAction := by unfold s_spec_IsAction; exact fun_sound_of follows Try.func64 k_spec_IsAction o_spec_IsAction ⟨l_spec_l1In, l_spec_l1In, l_spec_l1In, l_spec_l1In, trivial⟩
theorem k_spec_UnpackAction : okFun Try.prog Try.f15 f_spec_UnpackAction = true := by kernel_rfl
theorem o_spec_UnpackAction : funOb Try.prog Try.f15 f_spec_UnpackAction = [(64, s_spec_IsAction)] := by kernel_rfl
theorem l_spec_UnpackAction : SoundCall Try.prog 15 s_spec_UnpackAction := by unfold s_spec_UnpackAction; exact fun_sound_of follows Try.func15 k_spec_UnpackAction o_spec_UnpackAction ⟨l_spec_IsAction, trivial⟩
theorem k_impl_isCode : okFun Try.prog Try.f105 f_impl_isCode = true := by kernel_rfl
theorem o_impl_isCode : funOb Try.prog Try.f105 f_impl_isCode = [] := by kernel_rfl
theorem l_impl_isCode : SoundCall Try.prog 105 s_impl_isCode := by unfold s_impl_isCode; exact fun_sound_of follows Try.func105 k_impl_isCode o_impl_isCode trivial
theorem k_impl_isMods : okFun Try.prog Try.f106 f_impl_isMods = true := by kernel_rfl
theorem o_impl_isMods : funOb Try.prog Try.f106 f_impl_isMods = [] := by kernel_rfl
theorem l_impl_isMods : SoundCall Try.prog 106 s_impl_isMods := by unfold s_impl_isMods; exact fun_sound_of follows Try.func106 k_impl_isMods o_impl_isMods trivial
theorem k_impl_isUpper : okFun Try.prog Try.f107 f_impl_isUpper = true := by kernel_rfl
theorem o_impl_isUpper : funOb Try.prog Try.f107 f_impl_isUpper = [] := by kernel_rfl
theorem l_impl_isUpper : SoundCall Try.prog 107 s_impl_isUpper := by unfold s_impl_isUpper; exact fun_sound_of follows Try.func107 k_impl_isUpper o_impl_isUpper trivial
theorem k_impl_IsAction : okFun Try.prog Try.f65 f_impl_IsAction = true := by kernel_rfl
theorem o_impl_IsAction : funOb Try.prog Try.f65 f_impl_IsAction = [(105, s_impl_isCode), (106, s_impl_isMods), (107, s_impl_isUpper), (105, s_impl_isCode), (106, s_impl_isMods), (105, s_impl_isCode), (107, s_impl_isUpper), (106, s_impl_isMods)] := by kernel_rfl
theorem l_impl_IsAction : SoundCall Try.prog 65 s_impl_IsAction := by unfold s_impl_IsAction; exact fun_sound_of follows Try.func65 k_impl_IsAction o_impl_IsAction ⟨l_impl_isCode, l_impl_isMods, l_impl_isUpper, l_impl_isCode, l_impl_isMods, l_impl_isCode, l_impl_isUpper, l_impl_isMods, trivial⟩
theorem k_impl_UnpackAction : okFun Try.prog Try.f17 f_impl_UnpackAction = true := by kernel_rfl
theorem o_impl_UnpackAction : funOb Try.prog Try.f17 f_impl_UnpackAction = [(65, s_impl_IsAction)] := by kernel_rfl
theorem l_impl_UnpackAction : SoundCall Try.prog 17 s_impl_UnpackAction := by unfold s_impl_UnpackAction; exact fun_sound_of follows Try.func17 k_impl_UnpackAction o_impl_UnpackAction ⟨l_impl_IsAction, trivial⟩
theorem k_laws_eqAction : okFun Try.prog Try.f18 f_laws_eqAction = true := by kernel_rfl
theorem o_laws_eqAction : funOb Try.prog Try.f18 f_laws_eqAction = [] := by kernel_rfl
theorem l_laws_eqAction : SoundCall Try.prog 18 s_laws_eqAction := by unfold s_laws_eqAction; exact fun_sound_of follows Try.func18 k_laws_eqAction o_laws_eqAction trivial
theorem k_laws_eqByteS : okFun Try.prog Try.f19 f_laws_eqByteS = true := by kernel_rfl
theorem o_laws_eqByteS : funOb Try.prog Try.f19 f_laws_eqByteS = [] := by kernel_rfl
theorem l_laws_eqByteS : SoundCall Try.prog 19 s_laws_eqByteS := by unfold s_laws_eqByteS; exact fun_sound_of follows Try.func19 k_laws_eqByteS o_laws_eqByteS trivial
theorem k_laws_FnExactUnpackAction : okFun Try.prog Try.f3 f_laws_FnExactUnpackAction = true := by kernel_rfl
theorem o_laws_FnExactUnpackAction : funOb Try.prog Try.f3 f_laws_FnExactUnpackAction = [(16, s_laws_toByteS), (15, s_spec_UnpackAction), (16, s_laws_toByteS), (17, s_impl_UnpackAction), (18, s_laws_eqAction), (16, s_laws_toByteS), (19, s_laws_eqByteS)] := by kernel_rfl
theorem l_laws_FnExactUnpackAction : SoundCall Try.prog 3 s_laws_FnExactUnpackAction := by unfold s_laws_FnExactUnpackAction; exact fun_sound_of follows Try.func3 k_laws_FnExactUnpackAction o_laws_FnExactUnpackAction ⟨l_laws_toByteS, l_spec_UnpackAction, l_laws_toByteS, l_impl_UnpackAction, l_laws_eqAction, l_laws_toByteS, l_laws_eqByteS, trivial⟩

end Go.Proofs.Ytmjjamfkgingcaa
