/-
  EACH ABSTRACT FUNCTION IS THE SEAT's OWN: checked by the kernel, function by function (written by program, ag.py).
-/
import Derived.Test.YtmjjamfkgingcaaChecked
import Derived.Test.YtmjjamfkgingcaaLibA
import Derived.KernelRfl
import Derived.Test.YtmjjamfkgingcaaDgP6
namespace Go.Proofs.Ytmjjamfkgingcaa
open Go.Ag

theorem follows : Try.prog.follows .mixedOrders = true := by kernel_rfl
theorem k_laws_szEventS : okFun Try.prog Try.f25 f_laws_szEventS = true := by kernel_rfl
theorem o_laws_szEventS : funOb Try.prog Try.f25 f_laws_szEventS = [] := by kernel_rfl
theorem l_laws_szEventS : SoundCall Try.prog 25 s_laws_szEventS := by unfold s_laws_szEventS; exact fun_sound_of follows Try.func25 k_laws_szEventS o_laws_szEventS trivial
theorem k_laws_toTiming : okFun Try.prog Try.f27 f_laws_toTiming = true := by kernel_rfl
theorem o_laws_toTiming : funOb Try.prog Try.f27 f_laws_toTiming = [] := by kernel_rfl
theorem l_laws_toTiming : SoundCall Try.prog 27 s_laws_toTiming := by unfold s_laws_toTiming; exact fun_sound_of follows Try.func27 k_laws_toTiming o_laws_toTiming trivial
theorem k_laws_toEvent : okFun Try.prog Try.f73 f_laws_toEvent = true := by kernel_rfl
theorem o_laws_toEvent : funOb Try.prog Try.f73 f_laws_toEvent = [] := by kernel_rfl
theorem l_laws_toEvent : SoundCall Try.prog 73 s_laws_toEvent := by unfold s_laws_toEvent; exact fun_sound_of follows Try.func73 k_laws_toEvent o_laws_toEvent trivial
theorem k_laws_toEventS : okFun Try.prog Try.f28 f_laws_toEventS = true := by kernel_rfl
theorem o_laws_toEventS : funOb Try.prog Try.f28 f_laws_toEventS = [(73, s_laws_toEvent)] := by kernel_rfl
theorem l_laws_toEventS : SoundCall Try.prog 28 s_laws_toEventS := by unfold s_laws_toEventS; exact fun_sound_of follows Try.func28 k_laws_toEventS o_laws_toEventS ⟨l_laws_toEvent, trivial⟩
theorem k_spec_l1In : okFun Try.prog Try.f66 f_spec_l1In = true := by kernel_rfl
theorem o_spec_l1In : funOb Try.prog Try.f66 f_spec_l1In = [] := by kernel_rfl
theorem l_spec_l1In : SoundCall Try.prog 66 s_spec_l1In := by unfold s_spec_l1In; exact fun_sound_of follows Try.func66 k_spec_l1In o_spec_l1In trivial
theorem k_spec_IsTiming : okFun Try.prog Try.f71 f_spec_IsTiming = true := by kernel_rfl
theorem o_spec_IsTiming : funOb Try.prog Try.f71 f_spec_IsTiming = [(66, s_spec_l1In), (66, s_spec_l1In), (66, s_spec_l1In)] := by kernel_rfl
theorem l_spec_IsTiming : SoundCall Try.prog 71 s_spec_IsTiming := by unfold s_spec_IsTiming; exact fun_sound_of follows Try.func71 k_spec_IsTiming o_spec_IsTiming ⟨l_spec_l1In, l_spec_l1In, l_spec_l1In, trivial⟩
theorem k_spec_IsEvent : okFun Try.prog Try.f72 f_spec_IsEvent = true := by kernel_rfl
theorem o_spec_IsEvent : funOb Try.prog Try.f72 f_spec_IsEvent = [(66, s_spec_l1In), (66, s_spec_l1In)] := by kernel_rfl
theorem l_spec_IsEvent : SoundCall Try.prog 72 s_spec_IsEvent := by unfold s_spec_IsEvent; exact fun_sound_of follows Try.func72 k_spec_IsEvent o_spec_IsEvent ⟨l_spec_l1In, l_spec_l1In, trivial⟩
theorem k_spec_ChoiceOf : okFun Try.prog Try.f26 f_spec_ChoiceOf = true := by kernel_rfl
theorem o_spec_ChoiceOf : funOb Try.prog Try.f26 f_spec_ChoiceOf = [(71, s_spec_IsTiming), (66, s_spec_l1In), (72, s_spec_IsEvent)] := by kernel_rfl
theorem l_spec_ChoiceOf : SoundCall Try.prog 26 s_spec_ChoiceOf := by unfold s_spec_ChoiceOf; exact fun_sound_of follows Try.func26 k_spec_ChoiceOf o_spec_ChoiceOf ⟨l_spec_IsTiming, l_spec_l1In, l_spec_IsEvent, trivial⟩
theorem k_impl_IsTiming : okFun Try.prog Try.f74 f_impl_IsTiming = true := by kernel_rfl
theorem o_impl_IsTiming : funOb Try.prog Try.f74 f_impl_IsTiming = [] := by kernel_rfl
theorem l_impl_IsTiming : SoundCall Try.prog 74 s_impl_IsTiming := by unfold s_impl_IsTiming; exact fun_sound_of follows Try.func74 k_impl_IsTiming o_impl_IsTiming trivial
theorem k_impl_IsEvent : okFun Try.prog Try.f75 f_impl_IsEvent = true := by kernel_rfl
theorem o_impl_IsEvent : funOb Try.prog Try.f75 f_impl_IsEvent = [] := by kernel_rfl
theorem l_impl_IsEvent : SoundCall Try.prog 75 s_impl_IsEvent := by unfold s_impl_IsEvent; exact fun_sound_of follows Try.func75 k_impl_IsEvent o_impl_IsEvent trivial
theorem k_impl_bit : okFun Try.prog Try.f76 f_impl_bit = true := by kernel_rfl
theorem o_impl_bit : funOb Try.prog Try.f76 f_impl_bit = [] := by kernel_rfl
theorem l_impl_bit : SoundCall Try.prog 76 s_impl_bit := by unfold s_impl_bit; exact fun_sound_of follows Try.func76 k_impl_bit o_impl_bit trivial
theorem k_impl_ChoiceOf : okFun Try.prog Try.f29 f_impl_ChoiceOf = true := by kernel_rfl
theorem o_impl_ChoiceOf : funOb Try.prog Try.f29 f_impl_ChoiceOf = [(74, s_impl_IsTiming), (75, s_impl_IsEvent), (76, s_impl_bit)] := by kernel_rfl
theorem l_impl_ChoiceOf : SoundCall Try.prog 29 s_impl_ChoiceOf := by unfold s_impl_ChoiceOf; exact fun_sound_of follows Try.func29 k_impl_ChoiceOf o_impl_ChoiceOf ⟨l_impl_IsTiming, l_impl_IsEvent, l_impl_bit, trivial⟩
theorem k_laws_eqEvent : okFun Try.prog Try.f77 f_laws_eqEvent = true := by kernel_rfl
theorem o_laws_eqEvent : funOb Try.prog Try.f77 f_laws_eqEvent = [] := by kernel_rfl
theorem l_laws_eqEvent : SoundCall Try.prog 77 s_laws_eqEvent := by unfold s_laws_eqEvent; exact fun_sound_of follows Try.func77 k_laws_eqEvent o_laws_eqEvent trivial
theorem k_laws_eqEventS : okFun Try.prog Try.f30 f_laws_eqEventS = true := by kernel_rfl
theorem o_laws_eqEventS : funOb Try.prog Try.f30 f_laws_eqEventS = [(77, s_laws_eqEvent)] := by kernel_rfl
theorem l_laws_eqEventS : SoundCall Try.prog 30 s_laws_eqEventS := by unfold s_laws_eqEventS; exact fun_sound_of follows Try.func30 k_laws_eqEventS o_laws_eqEventS ⟨l_laws_eqEvent, trivial⟩
theorem k_laws_FnExactChoiceOf : okFun Try.prog Try.f5 f_laws_FnExactChoiceOf = true := by kernel_rfl
theorem o_laws_FnExactChoiceOf : funOb Try.prog Try.f5 f_laws_FnExactChoiceOf = [(25, s_laws_szEventS), (27, s_laws_toTiming), (28, s_laws_toEventS), (26, s_spec_ChoiceOf), (28, s_laws_toEventS), (27, s_laws_toTiming), (29, s_impl_ChoiceOf), (28, s_laws_toEventS), (30, s_laws_eqEventS)] := by kernel_rfl
theorem l_laws_FnExactChoiceOf : SoundCall Try.prog 5 s_laws_FnExactChoiceOf := by unfold s_laws_FnExactChoiceOf; exact fun_sound_of follows Try.func5 k_laws_FnExactChoiceOf o_laws_FnExactChoiceOf ⟨l_laws_szEventS, l_laws_toTiming, l_laws_toEventS, l_spec_ChoiceOf, l_laws_toEventS, l_laws_toTiming, l_impl_ChoiceOf, l_laws_toEventS, l_laws_eqEventS, trivial⟩

end Go.Proofs.Ytmjjamfkgingcaa
