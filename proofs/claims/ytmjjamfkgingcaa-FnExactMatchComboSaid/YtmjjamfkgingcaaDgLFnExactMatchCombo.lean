/-
  EACH ABSTRACT FUNCTION IS THE SEAT's OWN: checked by the kernel, function by function (written by program, ag.py).
-/
import Derived.Test.YtmjjamfkgingcaaChecked
import Derived.KernelRfl
import Derived.Test.YtmjjamfkgingcaaLibF
namespace Go.Proofs.Ytmjjamfkgingcaa
open Go.Ag

theorem follows : Try.prog.follows .mixedOrders = true := by kernel_rfl
theorem k_laws_szComboS : okFun Try.prog Try.f20 f_laws_szComboS = true := by kernel_rfl
theorem o_laws_szComboS : funOb Try.prog Try.f20 f_laws_szComboS = [] := by kernel_rfl
theorem l_laws_szComboS : SoundCall Try.prog 20 s_laws_szComboS := by unfold s_laws_szComboS; exact fun_sound_of follows Try.func20 k_laws_szComboS o_laws_szComboS trivial
theorem k_laws_szEventS : okFun Try.prog Try.f25 f_laws_szEventS = true := by kernel_rfl
theorem o_laws_szEventS : funOb Try.prog Try.f25 f_laws_szEventS = [] := by kernel_rfl
theorem l_laws_szEventS : SoundCall Try.prog 25 s_laws_szEventS := by unfold s_laws_szEventS; exact fun_sound_of follows Try.func25 k_laws_szEventS o_laws_szEventS trivial
theorem k_laws_toCombo : okFun Try.prog Try.f68 f_laws_toCombo = true := by kernel_rfl
theorem o_laws_toCombo : funOb Try.prog Try.f68 f_laws_toCombo = [] := by kernel_rfl
theorem l_laws_toCombo : SoundCall Try.prog 68 s_laws_toCombo := by unfold s_laws_toCombo; exact fun_sound_of follows Try.func68 k_laws_toCombo o_laws_toCombo trivial
theorem k_laws_toComboS : okFun Try.prog Try.f22 f_laws_toComboS = true := by kernel_rfl
theorem o_laws_toComboS : funOb Try.prog Try.f22 f_laws_toComboS = [(68, s_laws_toCombo)] := by kernel_rfl
theorem l_laws_toComboS : SoundCall Try.prog 22 s_laws_toComboS := by unfold s_laws_toComboS; exact fun_sound_of follows Try.func22 k_laws_toComboS o_laws_toComboS ⟨l_laws_toCombo, trivial⟩
theorem k_laws_toEvent : okFun Try.prog Try.f73 f_laws_toEvent = true := by kernel_rfl
theorem o_laws_toEvent : funOb Try.prog Try.f73 f_laws_toEvent = [] := by kernel_rfl
theorem l_laws_toEvent : SoundCall Try.prog 73 s_laws_toEvent := by unfold s_laws_toEvent; exact fun_sound_of follows Try.func73 k_laws_toEvent o_laws_toEvent trivial
theorem k_laws_toEventS : okFun Try.prog Try.f28 f_laws_toEventS = true := by kernel_rfl
theorem o_laws_toEventS : funOb Try.prog Try.f28 f_laws_toEventS = [(73, s_laws_toEvent)] := by kernel_rfl
theorem l_laws_toEventS : SoundCall Try.prog 28 s_laws_toEventS := by unfold s_laws_toEventS; exact fun_sound_of follows Try.func28 k_laws_toEventS o_laws_toEventS ⟨l_laws_toEvent, trivial⟩
theorem k_spec_l1In : okFun Try.prog Try.f66 f_spec_l1In = true := by kernel_rfl
theorem o_spec_l1In : funOb Try.prog Try.f66 f_spec_l1In = [] := by kernel_rfl
theorem l_spec_l1In : SoundCall Try.prog 66 s_spec_l1In := by unfold s_spec_l1In; exact fun_sound_of follows Try.func66 k_spec_l1In o_spec_l1In trivial
theorem k_spec_l11Count : okFun Try.prog Try.f67 f_spec_l11Count = true := by kernel_rfl
theorem o_spec_l11Count : funOb Try.prog Try.f67 f_spec_l11Count = [] := by kernel_rfl
theorem l_spec_l11Count : SoundCall Try.prog 67 s_spec_l11Count := by unfold s_spec_l11Count; exact fun_sound_of follows Try.func67 k_spec_l11Count o_spec_l11Count trivial
theorem k_spec_IsCombos : okFun Try.prog Try.f21 f_spec_IsCombos = true := by kernel_rfl
theorem o_spec_IsCombos : funOb Try.prog Try.f21 f_spec_IsCombos = [(66, s_spec_l1In), (67, s_spec_l11Count), (66, s_spec_l1In), (66, s_spec_l1In)] := by kernel_rfl
theorem l_spec_IsCombos : SoundCall Try.prog 21 s_spec_IsCombos := by unfold s_spec_IsCombos; exact fun_sound_of follows Try.func21 k_spec_IsCombos o_spec_IsCombos ⟨l_spec_l1In, l_spec_l11Count, l_spec_l1In, l_spec_l1In, trivial⟩
theorem k_spec_IsEvent : okFun Try.prog Try.f72 f_spec_IsEvent = true := by kernel_rfl
theorem o_spec_IsEvent : funOb Try.prog Try.f72 f_spec_IsEvent = [(66, s_spec_l1In), (66, s_spec_l1In)] := by kernel_rfl
theorem l_spec_IsEvent : SoundCall Try.prog 72 s_spec_IsEvent := by unfold s_spec_IsEvent; exact fun_sound_of follows Try.func72 k_spec_IsEvent o_spec_IsEvent ⟨l_spec_l1In, l_spec_l1In, trivial⟩
theorem k_spec_l11Switch : okFun Try.prog Try.f93 f_spec_l11Switch = true := by kernel_rfl
theorem o_spec_l11Switch : funOb Try.prog Try.f93 f_spec_l11Switch = [(72, s_spec_IsEvent)] := by kernel_rfl
theorem l_spec_l11Switch : SoundCall Try.prog 93 s_spec_l11Switch := by unfold s_spec_l11Switch; exact fun_sound_of follows Try.func93 k_spec_l11Switch o_spec_l11Switch ⟨l_spec_IsEvent, trivial⟩
theorem k_spec_l11Fits : okFun Try.prog Try.f94 f_spec_l11Fits = true := by kernel_rfl
theorem o_spec_l11Fits : funOb Try.prog Try.f94 f_spec_l11Fits = [] := by kernel_rfl
theorem l_spec_l11Fits : SoundCall Try.prog 94 s_spec_l11Fits := by unfold s_spec_l11Fits; exact fun_sound_of follows Try.func94 k_spec_l11Fits o_spec_l11Fits trivial
theorem k_spec_l11Out : okFun Try.prog Try.f95 f_spec_l11Out = true := by kernel_rfl
theorem o_spec_l11Out : funOb Try.prog Try.f95 f_spec_l11Out = [] := by kernel_rfl
theorem l_spec_l11Out : SoundCall Try.prog 95 s_spec_l11Out := by unfold s_spec_l11Out; exact fun_sound_of follows Try.func95 k_spec_l11Out o_spec_l11Out trivial
theorem k_spec_MatchCombo : okFun Try.prog Try.f57 f_spec_MatchCombo = true := by kernel_rfl
theorem o_spec_MatchCombo : funOb Try.prog Try.f57 f_spec_MatchCombo = [(21, s_spec_IsCombos), (66, s_spec_l1In), (93, s_spec_l11Switch), (94, s_spec_l11Fits), (93, s_spec_l11Switch), (94, s_spec_l11Fits), (95, s_spec_l11Out), (95, s_spec_l11Out)] := by kernel_rfl
theorem l_spec_MatchCombo : SoundCall Try.prog 57 s_spec_MatchCombo := by unfold s_spec_MatchCombo; exact fun_sound_of follows Try.func57 k_spec_MatchCombo o_spec_MatchCombo ⟨l_spec_IsCombos, l_spec_l1In, l_spec_l11Switch, l_spec_l11Fits, l_spec_l11Switch, l_spec_l11Fits, l_spec_l11Out, l_spec_l11Out, trivial⟩
theorem k_math_bits_OnesCount32 : okFun Try.prog Try.f108 f_math_bits_OnesCount32 = true := by kernel_rfl
theorem o_math_bits_OnesCount32 : funOb Try.prog Try.f108 f_math_bits_OnesCount32 = [] := by kernel_rfl
theorem l_math_bits_OnesCount32 : SoundCall Try.prog 108 s_math_bits_OnesCount32 := by unfold s_math_bits_OnesCount32; exact fun_sound_of follows Try.func108 k_math_bits_OnesCount32 o_math_bits_OnesCount32 trivial
theorem k_math_bits_OnesCount64 : okFun Try.prog Try.f109 f_math_bits_OnesCount64 = true := by kernel_rfl
theorem o_math_bits_OnesCount64 : funOb Try.prog Try.f109 f_math_bits_OnesCount64 = [] := by kernel_rfl
theorem l_math_bits_OnesCount64 : SoundCall Try.prog 109 s_math_bits_OnesCount64 := by unfold s_math_bits_OnesCount64; exact fun_sound_of follows Try.func109 k_math_bits_OnesCount64 o_math_bits_OnesCount64 trivial
theorem k_math_bits_OnesCount : okFun Try.prog Try.f69 f_math_bits_OnesCount = true := by kernel_rfl
theorem o_math_bits_OnesCount : funOb Try.prog Try.f69 f_math_bits_OnesCount = [(108, s_math_bits_OnesCount32), (109, s_math_bits_OnesCount64)] := by kernel_rfl
theorem l_math_bits_OnesCount : SoundCall Try.prog 69 s_math_bits_OnesCount := by unfold s_math_bits_OnesCount; exact fun_sound_of follows Try.func69 k_math_bits_OnesCount o_math_bits_OnesCount ⟨l_math_bits_OnesCount32, l_math_bits_OnesCount64, trivial⟩
theorem k_impl_IsCombos : okFun Try.prog Try.f23 f_impl_IsCombos = true := by kernel_rfl
theorem o_impl_IsCombos : funOb Try.prog Try.f23 f_impl_IsCombos = [(69, s_math_bits_OnesCount)] := by kernel_rfl
theorem l_impl_IsCombos : SoundCall Try.prog 23 s_impl_IsCombos := by unfold s_impl_IsCombos; exact fun_sound_of follows Try.func23 k_impl_IsCombos o_impl_IsCombos ⟨l_math_bits_OnesCount, trivial⟩
theorem k_impl_IsEvent : okFun Try.prog Try.f75 f_impl_IsEvent = true := by kernel_rfl
theorem o_impl_IsEvent : funOb Try.prog Try.f75 f_impl_IsEvent = [] := by kernel_rfl
theorem l_impl_IsEvent : SoundCall Try.prog 75 s_impl_IsEvent := by unfold s_impl_IsEvent; exact fun_sound_of follows Try.func75 k_impl_IsEvent o_impl_IsEvent trivial
theorem k_impl_isSwitchEvent : okFun Try.prog Try.f96 f_impl_isSwitchEvent = true := by kernel_rfl
theorem o_impl_isSwitchEvent : funOb Try.prog Try.f96 f_impl_isSwitchEvent = [(75, s_impl_IsEvent)] := by kernel_rfl
theorem l_impl_isSwitchEvent : SoundCall Try.prog 96 s_impl_isSwitchEvent := by unfold s_impl_isSwitchEvent; exact fun_sound_of follows Try.func96 k_impl_isSwitchEvent o_impl_isSwitchEvent ⟨l_impl_IsEvent, trivial⟩
theorem k_impl_within : okFun Try.prog Try.f97 f_impl_within = true := by kernel_rfl
theorem o_impl_within : funOb Try.prog Try.f97 f_impl_within = [] := by kernel_rfl
theorem l_impl_within : SoundCall Try.prog 97 s_impl_within := by unfold s_impl_within; exact fun_sound_of follows Try.func97 k_impl_within o_impl_within trivial
theorem k_impl_wholeCombo : okFun Try.prog Try.f98 f_impl_wholeCombo = true := by kernel_rfl
theorem o_impl_wholeCombo : funOb Try.prog Try.f98 f_impl_wholeCombo = [] := by kernel_rfl
theorem l_impl_wholeCombo : SoundCall Try.prog 98 s_impl_wholeCombo := by unfold s_impl_wholeCombo; exact fun_sound_of follows Try.func98 k_impl_wholeCombo o_impl_wholeCombo trivial
theorem k_impl_MatchCombo : okFun Try.prog Try.f58 f_impl_MatchCombo = true := by kernel_rfl
theorem o_impl_MatchCombo : funOb Try.prog Try.f58 f_impl_MatchCombo = [(23, s_impl_IsCombos), (96, s_impl_isSwitchEvent), (97, s_impl_within), (96, s_impl_isSwitchEvent), (97, s_impl_within), (98, s_impl_wholeCombo), (98, s_impl_wholeCombo)] := by kernel_rfl
theorem l_impl_MatchCombo : SoundCall Try.prog 58 s_impl_MatchCombo := by unfold s_impl_MatchCombo; exact fun_sound_of follows Try.func58 k_impl_MatchCombo o_impl_MatchCombo ⟨l_impl_IsCombos, l_impl_isSwitchEvent, l_impl_within, l_impl_isSwitchEvent, l_impl_within, l_impl_wholeCombo, l_impl_wholeCombo, trivial⟩
theorem k_laws_eqCombo : okFun Try.prog Try.f70 f_laws_eqCombo = true := by kernel_rfl
theorem o_laws_eqCombo : funOb Try.prog Try.f70 f_laws_eqCombo = [] := by kernel_rfl
theorem l_laws_eqCombo : SoundCall Try.prog 70 s_laws_eqCombo := by unfold s_laws_eqCombo; exact fun_sound_of follows Try.func70 k_laws_eqCombo o_laws_eqCombo trivial
theorem k_laws_eqComboS : okFun Try.prog Try.f24 f_laws_eqComboS = true := by kernel_rfl
theorem o_laws_eqComboS : funOb Try.prog Try.f24 f_laws_eqComboS = [(70, s_laws_eqCombo)] := by kernel_rfl
theorem l_laws_eqComboS : SoundCall Try.prog 24 s_laws_eqComboS := by unfold s_laws_eqComboS; exact fun_sound_of follows Try.func24 k_laws_eqComboS o_laws_eqComboS ⟨l_laws_eqCombo, trivial⟩
theorem k_laws_eqEvent : okFun Try.prog Try.f77 f_laws_eqEvent = true := by kernel_rfl
theorem o_laws_eqEvent : funOb Try.prog Try.f77 f_laws_eqEvent = [] := by kernel_rfl
theorem l_laws_eqEvent : SoundCall Try.prog 77 s_laws_eqEvent := by unfold s_laws_eqEvent; exact fun_sound_of follows Try.func77 k_laws_eqEvent o_laws_eqEvent trivial
theorem k_laws_eqEventS : okFun Try.prog Try.f30 f_laws_eqEventS = true := by kernel_rfl
theorem o_laws_eqEventS : funOb Try.prog Try.f30 f_laws_eqEventS = [(77, s_laws_eqEvent)] := by kernel_rfl
theorem l_laws_eqEventS : SoundCall Try.prog 30 s_laws_eqEventS := by unfold s_laws_eqEventS; exact fun_sound_of follows Try.func30 k_laws_eqEventS o_laws_eqEventS ⟨l_laws_eqEvent, trivial⟩
theorem k_laws_FnExactMatchCombo : okFun Try.prog Try.f13 f_laws_FnExactMatchCombo = true := by kernel_rfl
theorem o_laws_FnExactMatchCombo : funOb Try.prog Try.f13 f_laws_FnExactMatchCombo = [(20, s_laws_szComboS), (25, s_laws_szEventS), (22, s_laws_toComboS), (28, s_laws_toEventS), (57, s_spec_MatchCombo), (22, s_laws_toComboS), (28, s_laws_toEventS), (58, s_impl_MatchCombo), (22, s_laws_toComboS), (24, s_laws_eqComboS), (28, s_laws_toEventS), (30, s_laws_eqEventS)] := by kernel_rfl
theorem l_laws_FnExactMatchCombo : SoundCall Try.prog 13 s_laws_FnExactMatchCombo := by unfold s_laws_FnExactMatchCombo; exact fun_sound_of follows Try.func13 k_laws_FnExactMatchCombo o_laws_FnExactMatchCombo ⟨l_laws_szComboS, l_laws_szEventS, l_laws_toComboS, l_laws_toEventS, l_spec_MatchCombo, l_laws_toComboS, l_laws_toEventS, l_impl_MatchCombo, l_laws_toComboS, l_laws_eqComboS, l_laws_toEventS, l_laws_eqEventS, trivial⟩

end Go.Proofs.Ytmjjamfkgingcaa
