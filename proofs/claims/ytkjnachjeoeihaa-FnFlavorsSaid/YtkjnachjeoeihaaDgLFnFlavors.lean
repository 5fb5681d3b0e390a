/-
  EACH ABSTRACT FUNCTION IS THE SEAT's OWN: checked by the kernel, function by function (written by program, ag.py).
-/
import Derived.Test.YtkjnachjeoeihaaChecked
import Derived.KernelRfl
import Derived.Test.YtkjnachjeoeihaaLibF
namespace Go.Proofs.Ytkjnachjeoeihaa
open Go.Ag

theorem follows : Try.prog.follows .mixedOrders = true := by kernel_rfl
theorem k_laws_big : okFun Try.prog Try.f19 f_laws_big = true := by kernel_rfl
theorem o_laws_big : funOb Try.prog Try.f19 f_laws_big = [] := by kernel_rfl
theorem l_laws_big : SoundCall Try.prog 19 s_laws_big := by unfold s_laws_big; exact fun_sound_of follows Try.func19 k_laws_big o_laws_big trivial
theorem k_spec_l1New : okFun Try.prog Try.f60 f_spec_l1New = true := by kernel_rfl
theorem o_spec_l1New : funOb Try.prog Try.f60 f_spec_l1New = [] := by kernel_rfl
theorem l_spec_l1New : SoundCall Try.prog 60 s_spec_l1New := by unfold s_spec_l1New; exact fun_sound_of follows Try.func60 k_spec_l1New o_spec_l1New trivial
theorem k_spec_l1Byte : okFun Try.prog Try.f113 f_spec_l1Byte = true := by kernel_rfl
theorem o_spec_l1Byte : funOb Try.prog Try.f113 f_spec_l1Byte = [] := by kernel_rfl
theorem l_spec_l1Byte : SoundCall Try.prog 113 s_spec_l1Byte := by unfold s_spec_l1Byte; exact fun_sound_of follows Try.func113 k_spec_l1Byte o_spec_l1Byte trivial
theorem k_spec_l1Below : okFun Try.prog Try.f65 f_spec_l1Below = true := by kernel_rfl
theorem o_spec_l1Below : funOb Try.prog Try.f65 f_spec_l1Below = [(113, s_spec_l1Byte), (113, s_spec_l1Byte), (113, s_spec_l1Byte), (113, s_spec_l1Byte), (113, s_spec_l1Byte)] := by kernel_rfl
theorem l_spec_l1Below : SoundCall Try.prog 65 s_spec_l1Below := by unfold s_spec_l1Below; exact fun_sound_of follows Try.func65 k_spec_l1Below o_spec_l1Below ⟨l_spec_l1Byte, l_spec_l1Byte, l_spec_l1Byte, l_spec_l1Byte, l_spec_l1Byte, trivial⟩
theorem k_spec_l1PickInt : okFun Try.prog Try.f64 f_spec_l1PickInt = true := by kernel_rfl
theorem o_spec_l1PickInt : funOb Try.prog Try.f64 f_spec_l1PickInt = [(65, s_spec_l1Below)] := by kernel_rfl
theorem l_spec_l1PickInt : SoundCall Try.prog 64 s_spec_l1PickInt := by unfold s_spec_l1PickInt; exact fun_sound_of follows Try.func64 k_spec_l1PickInt o_spec_l1PickInt ⟨l_spec_l1Below, trivial⟩
theorem k_spec_l10Timing : okFun Try.prog Try.f61 f_spec_l10Timing = true := by kernel_rfl
theorem o_spec_l10Timing : funOb Try.prog Try.f61 f_spec_l10Timing = [(65, s_spec_l1Below), (64, s_spec_l1PickInt), (65, s_spec_l1Below)] := by kernel_rfl
theorem l_spec_l10Timing : SoundCall Try.prog 61 s_spec_l10Timing := by unfold s_spec_l10Timing; exact fun_sound_of follows Try.func61 k_spec_l10Timing o_spec_l10Timing ⟨l_spec_l1Below, l_spec_l1PickInt, l_spec_l1Below, trivial⟩
theorem k_spec_l4Draw : okFun Try.prog Try.f62 f_spec_l4Draw = true := by kernel_rfl
theorem o_spec_l4Draw : funOb Try.prog Try.f62 f_spec_l4Draw = [(65, s_spec_l1Below), (64, s_spec_l1PickInt), (65, s_spec_l1Below)] := by kernel_rfl
theorem l_spec_l4Draw : SoundCall Try.prog 62 s_spec_l4Draw := by unfold s_spec_l4Draw; exact fun_sound_of follows Try.func62 k_spec_l4Draw o_spec_l4Draw ⟨l_spec_l1Below, l_spec_l1PickInt, l_spec_l1Below, trivial⟩
theorem k_spec_l1Once : okFun Try.prog Try.f63 f_spec_l1Once = true := by kernel_rfl
theorem o_spec_l1Once : funOb Try.prog Try.f63 f_spec_l1Once = [(65, s_spec_l1Below)] := by kernel_rfl
theorem l_spec_l1Once : SoundCall Try.prog 63 s_spec_l1Once := by unfold s_spec_l1Once; exact fun_sound_of follows Try.func63 k_spec_l1Once o_spec_l1Once ⟨l_spec_l1Below, trivial⟩
theorem k_spec_DrawChoiceOf : okFun Try.prog Try.f20 f_spec_DrawChoiceOf = true := by kernel_rfl
theorem o_spec_DrawChoiceOf : funOb Try.prog Try.f20 f_spec_DrawChoiceOf = [(60, s_spec_l1New), (61, s_spec_l10Timing), (62, s_spec_l4Draw), (63, s_spec_l1Once), (65, s_spec_l1Below), (64, s_spec_l1PickInt), (65, s_spec_l1Below), (64, s_spec_l1PickInt), (64, s_spec_l1PickInt)] := by kernel_rfl
theorem l_spec_DrawChoiceOf : SoundCall Try.prog 20 s_spec_DrawChoiceOf := by unfold s_spec_DrawChoiceOf; exact fun_sound_of follows Try.func20 k_spec_DrawChoiceOf o_spec_DrawChoiceOf ⟨l_spec_l1New, l_spec_l10Timing, l_spec_l4Draw, l_spec_l1Once, l_spec_l1Below, l_spec_l1PickInt, l_spec_l1Below, l_spec_l1PickInt, l_spec_l1PickInt, trivial⟩
theorem k_spec_l1In : okFun Try.prog Try.f70 f_spec_l1In = true := by kernel_rfl
theorem o_spec_l1In : funOb Try.prog Try.f70 f_spec_l1In = [] := by kernel_rfl
theorem l_spec_l1In : SoundCall Try.prog 70 s_spec_l1In := by unfold s_spec_l1In; exact fun_sound_of follows Try.func70 k_spec_l1In o_spec_l1In trivial
theorem k_spec_IsEvent : okFun Try.prog Try.f66 f_spec_IsEvent = true := by kernel_rfl
theorem o_spec_IsEvent : funOb Try.prog Try.f66 f_spec_IsEvent = [(70, s_spec_l1In), (70, s_spec_l1In)] := by kernel_rfl
theorem l_spec_IsEvent : SoundCall Try.prog 66 s_spec_IsEvent := by unfold s_spec_IsEvent; exact fun_sound_of follows Try.func66 k_spec_IsEvent o_spec_IsEvent ⟨l_spec_l1In, l_spec_l1In, trivial⟩
theorem k_spec_IsEvents : okFun Try.prog Try.f21 f_spec_IsEvents = true := by kernel_rfl
theorem o_spec_IsEvents : funOb Try.prog Try.f21 f_spec_IsEvents = [(66, s_spec_IsEvent)] := by kernel_rfl
theorem l_spec_IsEvents : SoundCall Try.prog 21 s_spec_IsEvents := by unfold s_spec_IsEvents; exact fun_sound_of follows Try.func21 k_spec_IsEvents o_spec_IsEvents ⟨l_spec_IsEvent, trivial⟩
theorem k_spec_IsTiming : okFun Try.prog Try.f23 f_spec_IsTiming = true := by kernel_rfl
theorem o_spec_IsTiming : funOb Try.prog Try.f23 f_spec_IsTiming = [(70, s_spec_l1In), (70, s_spec_l1In), (70, s_spec_l1In)] := by kernel_rfl
theorem l_spec_IsTiming : SoundCall Try.prog 23 s_spec_IsTiming := by unfold s_spec_IsTiming; exact fun_sound_of follows Try.func23 k_spec_IsTiming o_spec_IsTiming ⟨l_spec_l1In, l_spec_l1In, l_spec_l1In, trivial⟩
theorem k_impl_IsTiming : okFun Try.prog Try.f67 f_impl_IsTiming = true := by kernel_rfl
theorem o_impl_IsTiming : funOb Try.prog Try.f67 f_impl_IsTiming = [] := by kernel_rfl
theorem l_impl_IsTiming : SoundCall Try.prog 67 s_impl_IsTiming := by unfold s_impl_IsTiming; exact fun_sound_of follows Try.func67 k_impl_IsTiming o_impl_IsTiming trivial
theorem k_impl_IsEvent : okFun Try.prog Try.f68 f_impl_IsEvent = true := by kernel_rfl
theorem o_impl_IsEvent : funOb Try.prog Try.f68 f_impl_IsEvent = [] := by kernel_rfl
theorem l_impl_IsEvent : SoundCall Try.prog 68 s_impl_IsEvent := by unfold s_impl_IsEvent; exact fun_sound_of follows Try.func68 k_impl_IsEvent o_impl_IsEvent trivial
theorem k_impl_bit : okFun Try.prog Try.f69 f_impl_bit = true := by kernel_rfl
theorem o_impl_bit : funOb Try.prog Try.f69 f_impl_bit = [] := by kernel_rfl
theorem l_impl_bit : SoundCall Try.prog 69 s_impl_bit := by unfold s_impl_bit; exact fun_sound_of follows Try.func69 k_impl_bit o_impl_bit trivial
theorem k_impl_ChoiceOf : okFun Try.prog Try.f22 f_impl_ChoiceOf = true := by kernel_rfl
theorem o_impl_ChoiceOf : funOb Try.prog Try.f22 f_impl_ChoiceOf = [(67, s_impl_IsTiming), (68, s_impl_IsEvent), (69, s_impl_bit)] := by kernel_rfl
theorem l_impl_ChoiceOf : SoundCall Try.prog 22 s_impl_ChoiceOf := by unfold s_impl_ChoiceOf; exact fun_sound_of follows Try.func22 k_impl_ChoiceOf o_impl_ChoiceOf ⟨l_impl_IsTiming, l_impl_IsEvent, l_impl_bit, trivial⟩
theorem k_spec_ChoiceOf : okFun Try.prog Try.f24 f_spec_ChoiceOf = true := by kernel_rfl
theorem o_spec_ChoiceOf : funOb Try.prog Try.f24 f_spec_ChoiceOf = [(23, s_spec_IsTiming), (70, s_spec_l1In), (66, s_spec_IsEvent)] := by kernel_rfl
theorem l_spec_ChoiceOf : SoundCall Try.prog 24 s_spec_ChoiceOf := by unfold s_spec_ChoiceOf; exact fun_sound_of follows Try.func24 k_spec_ChoiceOf o_spec_ChoiceOf ⟨l_spec_IsTiming, l_spec_l1In, l_spec_IsEvent, trivial⟩
theorem k_laws_FnFlavors : okFun Try.prog Try.f5 f_laws_FnFlavors = true := by kernel_rfl
theorem o_laws_FnFlavors : funOb Try.prog Try.f5 f_laws_FnFlavors = [(19, s_laws_big), (20, s_spec_DrawChoiceOf), (21, s_spec_IsEvents), (23, s_spec_IsTiming), (22, s_impl_ChoiceOf), (24, s_spec_ChoiceOf), (22, s_impl_ChoiceOf), (22, s_impl_ChoiceOf)] := by kernel_rfl
theorem l_laws_FnFlavors : SoundCall Try.prog 5 s_laws_FnFlavors := by unfold s_laws_FnFlavors; exact fun_sound_of follows Try.func5 k_laws_FnFlavors o_laws_FnFlavors ⟨l_laws_big, l_spec_DrawChoiceOf, l_spec_IsEvents, l_spec_IsTiming, l_impl_ChoiceOf, l_spec_ChoiceOf, l_impl_ChoiceOf, l_impl_ChoiceOf, trivial⟩

end Go.Proofs.Ytkjnachjeoeihaa
