/-
  EACH ABSTRACT FUNCTION IS THE SEAT's OWN: checked by the kernel, function by function (written by program, ag.py).
-/
import Derived.Test.YtmjjamfkgingcaaChecked
import Derived.KernelRfl
import Derived.Test.YtmjjamfkgingcaaLibE
namespace Go.Proofs.Ytmjjamfkgingcaa
open Go.Ag

theorem follows : Try.prog.follows .mixedOrders = true := by kernel_rfl
theorem k_laws_szComboS : okFun Try.prog Try.f20 f_laws_szComboS = true := by kernel_rfl
theorem o_laws_szComboS : funOb Try.prog Try.f20 f_laws_szComboS = [] := by kernel_rfl
theorem l_laws_szComboS : SoundCall Try.prog 20 s_laws_szComboS := by unfold s_laws_szComboS; exact fun_sound_of follows Try.func20 k_laws_szComboS o_laws_szComboS trivial
theorem k_laws_toCombo : okFun Try.prog Try.f68 f_laws_toCombo = true := by kernel_rfl
theorem o_laws_toCombo : funOb Try.prog Try.f68 f_laws_toCombo = [] := by kernel_rfl
theorem l_laws_toCombo : SoundCall Try.prog 68 s_laws_toCombo := by unfold s_laws_toCombo; exact fun_sound_of follows Try.func68 k_laws_toCombo o_laws_toCombo trivial
theorem k_laws_toComboS : okFun Try.prog Try.f22 f_laws_toComboS = true := by kernel_rfl
theorem o_laws_toComboS : funOb Try.prog Try.f22 f_laws_toComboS = [(68, s_laws_toCombo)] := by kernel_rfl
theorem l_laws_toComboS : SoundCall Try.prog 22 s_laws_toComboS := by unfold s_laws_toComboS; exact fun_sound_of follows Try.func22 k_laws_toComboS o_laws_toComboS ⟨l_laws_toCombo, trivial⟩
theorem k_spec_l1In : okFun Try.prog Try.f66 f_spec_l1In = true := by kernel_rfl
theorem o_spec_l1In : funOb Try.prog Try.f66 f_spec_l1In = [] := by kernel_rfl
theorem l_spec_l1In : SoundCall Try.prog 66 s_spec_l1In := by unfold s_spec_l1In; exact fun_sound_of follows Try.func66 k_spec_l1In o_spec_l1In trivial
theorem k_spec_l11Count : okFun Try.prog Try.f67 f_spec_l11Count = true := by kernel_rfl
theorem o_spec_l11Count : funOb Try.prog Try.f67 f_spec_l11Count = [] := by kernel_rfl
theorem l_spec_l11Count : SoundCall Try.prog 67 s_spec_l11Count := by unfold s_spec_l11Count; exact fun_sound_of follows Try.func67 k_spec_l11Count o_spec_l11Count trivial
theorem k_spec_IsCombos : okFun Try.prog Try.f21 f_spec_IsCombos = true := by kernel_rfl
theorem o_spec_IsCombos : funOb Try.prog Try.f21 f_spec_IsCombos = [(66, s_spec_l1In), (67, s_spec_l11Count), (66, s_spec_l1In), (66, s_spec_l1In)] := by kernel_rfl
theorem l_spec_IsCombos : SoundCall Try.prog 21 s_spec_IsCombos := by unfold s_spec_IsCombos; exact fun_sound_of follows Try.func21 k_spec_IsCombos o_spec_IsCombos ⟨l_spec_l1In, l_spec_l11Count, l_spec_l1In, l_spec_l1In, trivial⟩
theorem k_math_bits_OnesCount32 : okFun Try.prog Try.f108 f_math_bits_OnesCount32 = true := by kernel_rfl
theorem o_math_bits_OnesCount32 : funOb Try.prog Try.f108 f_math_bits_OnesCount32 = [] := by kernel_rfl
theorem l_math_bits_OnesCount32 : SoundCall Try.prog 108 s_math_bits_OnesCount32 := by unfold s_math_bits_OnesCount32; exact fun_sound_of follows Try.func108 k_math_bits_OnesCount32 o_math_bits_OnesCount32 trivial
theorem k_math_bits_OnesCount64 : okFun Try.prog Try.f109 f_math_bits_OnesCount64 = true := by kernel_rfl
theorem o_math_bits_OnesCount64 : funOb Try.prog Try.f109 f_math_bits_OnesCount64 = [] := by kernel_rfl
theorem l_math_bits_OnesCount64 : SoundCall Try.prog 109 s_math_bits_OnesCount64 := by unfold s_math_bits_OnesCount64; exact fun_sound_of follows Try.func109 k_math_bits_OnesCount64 o_math_bits_OnesCount64 trivial
theorem k_math_bits_OnesCount : okFun Try.prog Try.f69 f_math_bits_OnesCount = true := by kernel_rfl
theorem o_math_bits_OnesCount : funOb Try.prog Try.f69 f_math_bits_OnesCount = [(108, s_math_bits_OnesCount32), (109, s_math_bits_OnesCount64)] := by kernel_rfl
theorem l_math_bits_OnesCount : SoundCall Try.prog 69 s_math_bits_OnesCount := by unfold s_math_bits_OnesCount; exact fun_sound_of follows Try.func69 k_math_bits_OnesCount o_math_bits_OnesCount ⟨l_math_bits_OnesCount32, l_math_bits_OnesCount64, trivial⟩
theorem k_impl_IsCombos : okFun Try.prog Try.f23 f_impl_IsCombos = true := by kernel_rfl
theorem o_impl_IsCombos : funOb Try.prog Try.f23 f_impl_IsCombos = [(69, s_math_bits_OnesCount)] := by kernel_rfl
theorem l_impl_IsCombos : SoundCall Try.prog 23 s_impl_IsCombos := by unfold s_impl_IsCombos; exact fun_sound_of follows Try.func23 k_impl_IsCombos o_impl_IsCombos ⟨l_math_bits_OnesCount, trivial⟩
theorem k_laws_eqCombo : okFun Try.prog Try.f70 f_laws_eqCombo = true := by kernel_rfl
theorem o_laws_eqCombo : funOb Try.prog Try.f70 f_laws_eqCombo = [] := by kernel_rfl
theorem l_laws_eqCombo : SoundCall Try.prog 70 s_laws_eqCombo := by unfold s_laws_eqCombo; exact fun_sound_of follows Try.func70 k_laws_eqCombo o_laws_eqCombo trivial
theorem k_laws_eqComboS : okFun Try.prog Try.f24 f_laws_eqComboS = true := by kernel_rfl
theorem o_laws_eqComboS : funOb Try.prog Try.f24 f_laws_eqComboS = [(70, s_laws_eqCombo)] := by kernel_rfl
theorem l_laws_eqComboS : SoundCall Try.prog 24 s_laws_eqComboS := by unfold s_laws_eqComboS; exact fun_sound_of follows Try.func24 k_laws_eqComboS o_laws_eqComboS ⟨l_laws_eqCombo, trivial⟩
theorem k_laws_FnExactIsCombos : okFun Try.prog Try.f4 f_laws_FnExactIsCombos = true := by kernel_rfl
theorem o_laws_FnExactIsCombos : funOb Try.prog Try.f4 f_laws_FnExactIsCombos = [(20, s_laws_szComboS), (22, s_laws_toComboS), (21, s_spec_IsCombos), (22, s_laws_toComboS), (23, s_impl_IsCombos), (22, s_laws_toComboS), (24, s_laws_eqComboS)] := by kernel_rfl
theorem l_laws_FnExactIsCombos : SoundCall Try.prog 4 s_laws_FnExactIsCombos := by unfold s_laws_FnExactIsCombos; exact fun_sound_of follows Try.func4 k_laws_FnExactIsCombos o_laws_FnExactIsCombos ⟨l_laws_szComboS, l_laws_toComboS, l_spec_IsCombos, l_laws_toComboS, l_impl_IsCombos, l_laws_toComboS, l_laws_eqComboS, trivial⟩

end Go.Proofs.Ytmjjamfkgingcaa
