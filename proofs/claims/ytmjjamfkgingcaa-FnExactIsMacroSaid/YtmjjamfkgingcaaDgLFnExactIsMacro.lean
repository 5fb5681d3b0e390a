/-
  EACH ABSTRACT FUNCTION IS THE SEAT's OWN: checked by the kernel, function by function (written by program, ag.py).
-/
import Derived.Test.YtmjjamfkgingcaaChecked
import Derived.KernelRfl
import Derived.Test.YtmjjamfkgingcaaLibF
namespace Go.Proofs.Ytmjjamfkgingcaa
open Go.Ag

theorem follows : Try.prog.follows .mixedOrders = true := by kernel_rfl
theorem k_laws_szStepS : okFun Try.prog Try.f59 f_laws_szStepS = true := by kernel_rfl
theorem o_laws_szStepS : funOb Try.prog Try.f59 f_laws_szStepS = [] := by kernel_rfl
theorem l_laws_szStepS : SoundCall Try.prog 59 s_laws_szStepS := by unfold s_laws_szStepS; exact fun_sound_of follows Try.func59 k_laws_szStepS o_laws_szStepS trivial
theorem k_laws_toStep : okFun Try.prog Try.f102 f_laws_toStep = true := by kernel_rfl
theorem o_laws_toStep : funOb Try.prog Try.f102 f_laws_toStep = [] := by kernel_rfl
theorem l_laws_toStep : SoundCall Try.prog 102 s_laws_toStep := by unfold s_laws_toStep; exact fun_sound_of follows Try.func102 k_laws_toStep o_laws_toStep trivial
theorem k_laws_toStepS : okFun Try.prog Try.f61 f_laws_toStepS = true := by kernel_rfl
theorem o_laws_toStepS : funOb Try.prog Try.f61 f_laws_toStepS = [(102, s_laws_toStep)] := by kernel_rfl
theorem l_laws_toStepS : SoundCall Try.prog 61 s_laws_toStepS := by unfold s_laws_toStepS; exact fun_sound_of follows Try.func61 k_laws_toStepS o_laws_toStepS ⟨l_laws_toStep, trivial⟩
theorem k_spec_l8Find : okFun Try.prog Try.f99 f_spec_l8Find = true := by kernel_rfl
theorem o_spec_l8Find : funOb Try.prog Try.f99 f_spec_l8Find = [] := by kernel_rfl
theorem l_spec_l8Find : SoundCall Try.prog 99 s_spec_l8Find := by unfold s_spec_l8Find; exact fun_sound_of follows Try.func99 k_spec_l8Find o_spec_l8Find trivial
theorem k_spec_l1In : okFun Try.prog Try.f66 f_spec_l1In = true := by kernel_rfl
theorem o_spec_l1In : funOb Try.prog Try.f66 f_spec_l1In = [] := by kernel_rfl
theorem l_spec_l1In : SoundCall Try.prog 66 s_spec_l1In := by unfold s_spec_l1In; exact fun_sound_of follows Try.func66 k_spec_l1In o_spec_l1In trivial
theorem k_spec_l8Action : okFun Try.prog Try.f100 f_spec_l8Action = true := by kernel_rfl
theorem o_spec_l8Action : funOb Try.prog Try.f100 f_spec_l8Action = [] := by kernel_rfl
theorem l_spec_l8Action : SoundCall Try.prog 100 s_spec_l8Action := by unfold s_spec_l8Action; exact fun_sound_of follows Try.func100 k_spec_l8Action o_spec_l8Action trivial
theorem k_spec_IsAction : okFun Try.prog Try.f64 f_spec_IsAction = true := by kernel_rfl
theorem o_spec_IsAction : funOb Try.prog Try.f64 f_spec_IsAction = [(66, s_spec_l1In), (66, s_spec_l1In), (66, s_spec_l1In), (66, s_spec_l1In)] := by kernel_rfl
theorem l_spec_IsAction : SoundCall Try.prog 64 s_spec_IsAction := by unfold s_spec_IsAction; exact fun_sound_of follows Try.func64 k_spec_IsAction o_spec_IsAction ⟨l_spec_l1In, l_spec_l1In, l_spec_l1In, l_spec_l1In, trivial⟩
theorem k_spec_l8Without : okFun Try.prog Try.f101 f_spec_l8Without = true := by kernel_rfl
theorem o_spec_l8Without : funOb Try.prog Try.f101 f_spec_l8Without = [] := by kernel_rfl
theorem l_spec_l8Without : SoundCall Try.prog 101 s_spec_l8Without := by unfold s_spec_l8Without; exact fun_sound_of follows Try.func101 k_spec_l8Without o_spec_l8Without trivial
theorem k_spec_IsMacro : okFun Try.prog Try.f60 f_spec_IsMacro = true := by kernel_rfl
theorem o_spec_IsMacro : funOb Try.prog Try.f60 f_spec_IsMacro = [(99, s_spec_l8Find), (66, s_spec_l1In), (100, s_spec_l8Action), (64, s_spec_IsAction), (100, s_spec_l8Action), (101, s_spec_l8Without)] := by kernel_rfl
theorem l_spec_IsMacro : SoundCall Try.prog 60 s_spec_IsMacro := by unfold s_spec_IsMacro; exact fun_sound_of follows Try.func60 k_spec_IsMacro o_spec_IsMacro ⟨l_spec_l8Find, l_spec_l1In, l_spec_l8Action, l_spec_IsAction, l_spec_l8Action, l_spec_l8Without, trivial⟩
theorem k_impl_pairAt : okFun Try.prog Try.f103 f_impl_pairAt = true := by kernel_rfl
theorem o_impl_pairAt : funOb Try.prog Try.f103 f_impl_pairAt = [] := by kernel_rfl
theorem l_impl_pairAt : SoundCall Try.prog 103 s_impl_pairAt := by unfold s_impl_pairAt; exact fun_sound_of follows Try.func103 k_impl_pairAt o_impl_pairAt trivial
theorem k_impl_isCode : okFun Try.prog Try.f105 f_impl_isCode = true := by kernel_rfl
theorem o_impl_isCode : funOb Try.prog Try.f105 f_impl_isCode = [] := by kernel_rfl
theorem l_impl_isCode : SoundCall Try.prog 105 s_impl_isCode := by unfold s_impl_isCode; exact fun_sound_of follows Try.func105 k_impl_isCode o_impl_isCode trivial
theorem k_impl_isMods : okFun Try.prog Try.f106 f_impl_isMods = true := by kernel_rfl
theorem o_impl_isMods : funOb Try.prog Try.f106 f_impl_isMods = [] := by kernel_rfl
theorem l_impl_isMods : SoundCall Try.prog 106 s_impl_isMods := by unfold s_impl_isMods; exact fun_sound_of follows Try.func106 k_impl_isMods o_impl_isMods trivial
theorem k_impl_isUpper : okFun Try.prog Try.f107 f_impl_isUpper = true := by kernel_rfl
theorem o_impl_isUpper : funOb Try.prog Try.f107 f_impl_isUpper = [] := by kernel_rfl
theorem l_impl_isUpper : SoundCall Try.prog 107 s_impl_isUpper := by unfold s_impl_isUpper; exact fun_sound_of follows Try.func107 k_impl_isUpper o_impl_isUpper trivial
theorem k_impl_IsAction : okFun Try.prog Try.f65 f_impl_IsAction = true := by kernel_rfl
theorem o_impl_IsAction : funOb Try.prog Try.f65 f_impl_IsAction = [(105, s_impl_isCode), (106, s_impl_isMods), (107, s_impl_isUpper), (105, s_impl_isCode), (106, s_impl_isMods), (105, s_impl_isCode), (107, s_impl_isUpper), (106, s_impl_isMods)] := by kernel_rfl
theorem l_impl_IsAction : SoundCall Try.prog 65 s_impl_IsAction := by unfold s_impl_IsAction; exact fun_sound_of follows Try.func65 k_impl_IsAction o_impl_IsAction ⟨l_impl_isCode, l_impl_isMods, l_impl_isUpper, l_impl_isCode, l_impl_isMods, l_impl_isCode, l_impl_isUpper, l_impl_isMods, trivial⟩
theorem k_impl_IsMacro : okFun Try.prog Try.f62 f_impl_IsMacro = true := by kernel_rfl
theorem o_impl_IsMacro : funOb Try.prog Try.f62 f_impl_IsMacro = [(103, s_impl_pairAt), (65, s_impl_IsAction)] := by kernel_rfl
theorem l_impl_IsMacro : SoundCall Try.prog 62 s_impl_IsMacro := by unfold s_impl_IsMacro; exact fun_sound_of follows Try.func62 k_impl_IsMacro o_impl_IsMacro ⟨l_impl_pairAt, l_impl_IsAction, trivial⟩
theorem k_laws_eqStep : okFun Try.prog Try.f104 f_laws_eqStep = true := by kernel_rfl
theorem o_laws_eqStep : funOb Try.prog Try.f104 f_laws_eqStep = [] := by kernel_rfl
theorem l_laws_eqStep : SoundCall Try.prog 104 s_laws_eqStep := by unfold s_laws_eqStep; exact fun_sound_of follows Try.func104 k_laws_eqStep o_laws_eqStep trivial
theorem k_laws_eqStepS : okFun Try.prog Try.f63 f_laws_eqStepS = true := by kernel_rfl
theorem o_laws_eqStepS : funOb Try.prog Try.f63 f_laws_eqStepS = [(104, s_laws_eqStep)] := by kernel_rfl
theorem l_laws_eqStepS : SoundCall Try.prog 63 s_laws_eqStepS := by unfold s_laws_eqStepS; exact fun_sound_of follows Try.func63 k_laws_eqStepS o_laws_eqStepS ⟨l_laws_eqStep, trivial⟩
theorem k_laws_FnExactIsMacro : okFun Try.prog Try.f14 f_laws_FnExactIsMacro = true := by kernel_rfl
theorem o_laws_FnExactIsMacro : funOb Try.prog Try.f14 f_laws_FnExactIsMacro = [(59, s_laws_szStepS), (61, s_laws_toStepS), (60, s_spec_IsMacro), (61, s_laws_toStepS), (62, s_impl_IsMacro), (61, s_laws_toStepS), (63, s_laws_eqStepS)] := by kernel_rfl
theorem l_laws_FnExactIsMacro : SoundCall Try.prog 14 s_laws_FnExactIsMacro := by unfold s_laws_FnExactIsMacro; exact fun_sound_of follows Try.func14 k_laws_FnExactIsMacro o_laws_FnExactIsMacro ⟨l_laws_szStepS, l_laws_toStepS, l_spec_IsMacro, l_laws_toStepS, l_impl_IsMacro, l_laws_toStepS, l_laws_eqStepS, trivial⟩

end Go.Proofs.Ytmjjamfkgingcaa
