/-
  EACH ABSTRACT FUNCTION IS THE SEAT's OWN: checked by the kernel, function by function (written by program, ag.py).
-/
import Derived.Test.YtmjjamfkgingcaaChecked
import Derived.Test.YtmjjamfkgingcaaLibA
import Derived.KernelRfl
import Derived.Test.YtmjjamfkgingcaaDgP2
namespace Go.Proofs.Ytmjjamfkgingcaa
open Go.Ag

theorem follows : Try.prog.follows .mixedOrders = true := by kernel_rfl
theorem k_laws_szHeldS : okFun Try.prog Try.f31 f_laws_szHeldS = true := by kernel_rfl
theorem o_laws_szHeldS : funOb Try.prog Try.f31 f_laws_szHeldS = [] := by kernel_rfl
theorem l_laws_szHeldS : SoundCall Try.prog 31 s_laws_szHeldS := by unfold s_laws_szHeldS; exact fun_sound_of follows Try.func31 k_laws_szHeldS o_laws_szHeldS trivial
theorem k_laws_toAction : okFun Try.prog Try.f110 f_laws_toAction = true := by kernel_rfl
theorem o_laws_toAction : funOb Try.prog Try.f110 f_laws_toAction = [] := by kernel_rfl
theorem l_laws_toAction : SoundCall Try.prog 110 s_laws_toAction := by unfold s_laws_toAction; exact fun_sound_of follows Try.func110 k_laws_toAction o_laws_toAction trivial
theorem k_laws_toHeld : okFun Try.prog Try.f79 f_laws_toHeld = true := by kernel_rfl
theorem o_laws_toHeld : funOb Try.prog Try.f79 f_laws_toHeld = [(110, s_laws_toAction)] := by kernel_rfl
theorem l_laws_toHeld : SoundCall Try.prog 79 s_laws_toHeld := by unfold s_laws_toHeld; exact fun_sound_of follows Try.func79 k_laws_toHeld o_laws_toHeld ⟨l_laws_toAction, trivial⟩
theorem k_laws_toHeldS : okFun Try.prog Try.f33 f_laws_toHeldS = true := by kernel_rfl
theorem o_laws_toHeldS : funOb Try.prog Try.f33 f_laws_toHeldS = [(79, s_laws_toHeld)] := by kernel_rfl
theorem l_laws_toHeldS : SoundCall Try.prog 33 s_laws_toHeldS := by unfold s_laws_toHeldS; exact fun_sound_of follows Try.func33 k_laws_toHeldS o_laws_toHeldS ⟨l_laws_toHeld, trivial⟩
theorem k_spec_l1In : okFun Try.prog Try.f66 f_spec_l1In = true := by kernel_rfl
theorem o_spec_l1In : funOb Try.prog Try.f66 f_spec_l1In = [] := by kernel_rfl
theorem l_spec_l1In : SoundCall Try.prog 66 s_spec_l1In := by unfold s_spec_l1In; exact fun_sound_of follows Try.func66 k_spec_l1In o_spec_l1In trivial
theorem k_spec_IsAction : okFun Try.prog Try.f64 f_spec_IsAction = true := by kernel_rfl
theorem o_spec_IsAction : funOb Try.prog Try.f64 f_spec_IsAction = [(66, s_spec_l1In), (66, s_spec_l1In), (66, s_spec_l1In), (66, s_spec_l1In)] := by kernel_rfl
theorem l_spec_IsAction : SoundCall Try.prog 64 s_spec_IsAction := by unfold s_spec_IsAction; exact fun_sound_of follows Try.func64 k_spec_IsAction o_spec_IsAction ⟨l_spec_l1In, l_spec_l1In, l_spec_l1In, l_spec_l1In, trivial⟩
theorem k_spec_IsTapHold : okFun Try.prog Try.f78 f_spec_IsTapHold = true := by kernel_rfl
theorem o_spec_IsTapHold : funOb Try.prog Try.f78 f_spec_IsTapHold = [(64, s_spec_IsAction)] := by kernel_rfl
theorem l_spec_IsTapHold : SoundCall Try.prog 78 s_spec_IsTapHold := by unfold s_spec_IsTapHold; exact fun_sound_of follows Try.func78 k_spec_IsTapHold o_spec_IsTapHold ⟨l_spec_IsAction, trivial⟩
theorem k_spec_IsHeld : okFun Try.prog Try.f32 f_spec_IsHeld = true := by kernel_rfl
theorem o_spec_IsHeld : funOb Try.prog Try.f32 f_spec_IsHeld = [(66, s_spec_l1In), (64, s_spec_IsAction), (78, s_spec_IsTapHold)] := by kernel_rfl
theorem l_spec_IsHeld : SoundCall Try.prog 32 s_spec_IsHeld := by unfold s_spec_IsHeld; exact fun_sound_of follows Try.func32 k_spec_IsHeld o_spec_IsHeld ⟨l_spec_l1In, l_spec_IsAction, l_spec_IsTapHold, trivial⟩
theorem k_spec_LayersOn : okFun Try.prog Try.f41 f_spec_LayersOn = true := by kernel_rfl
theorem o_spec_LayersOn : funOb Try.prog Try.f41 f_spec_LayersOn = [(66, s_spec_l1In), (32, s_spec_IsHeld)] := by kernel_rfl
theorem l_spec_LayersOn : SoundCall Try.prog 41 s_spec_LayersOn := by unfold s_spec_LayersOn; exact fun_sound_of follows Try.func41 k_spec_LayersOn o_spec_LayersOn ⟨l_spec_l1In, l_spec_IsHeld, trivial⟩
theorem k_impl_bit : okFun Try.prog Try.f76 f_impl_bit = true := by kernel_rfl
theorem o_impl_bit : funOb Try.prog Try.f76 f_impl_bit = [] := by kernel_rfl
theorem l_impl_bit : SoundCall Try.prog 76 s_impl_bit := by unfold s_impl_bit; exact fun_sound_of follows Try.func76 k_impl_bit o_impl_bit trivial
theorem k_impl_isCode : okFun Try.prog Try.f105 f_impl_isCode = true := by kernel_rfl
theorem o_impl_isCode : funOb Try.prog Try.f105 f_impl_isCode = [] := by kernel_rfl
theorem l_impl_isCode : SoundCall Try.prog 105 s_impl_isCode := by unfold s_impl_isCode; exact fun_sound_of follows Try.func105 k_impl_isCode o_impl_isCode trivial
theorem k_impl_isMods : okFun Try.prog Try.f106 f_impl_isMods = true := by kernel_rfl
theorem o_impl_isMods : funOb Try.prog Try.f106 f_impl_isMods = [] := by kernel_rfl
theorem l_impl_isMods : SoundCall Try.prog 106 s_impl_isMods := by unfold s_impl_isMods; exact fun_sound_of follows Try.func106 k_impl_isMods o_impl_isMods trivial
theorem k_impl_isUpper : okFun Try.prog Try.f107 f_impl_isUpper = true := by kernel_rfl
theorem o_impl_isUpper : funOb Try.prog Try.f107 f_impl_isUpper = [] := by kernel_rfl
theorem l_impl_isUpper : SoundCall Try.prog 107 s_impl_isUpper := by unfold s_impl_isUpper; exact fun_sound_of follows Try.func107 k_impl_isUpper o_impl_isUpper trivial
theorem k_impl_IsAction : okFun Try.prog Try.f65 f_impl_IsAction = true := by kernel_rfl
theorem o_impl_IsAction : funOb Try.prog Try.f65 f_impl_IsAction = [(105, s_impl_isCode), (106, s_impl_isMods), (107, s_impl_isUpper), (105, s_impl_isCode), (106, s_impl_isMods), (105, s_impl_isCode), (107, s_impl_isUpper), (106, s_impl_isMods)] := by kernel_rfl
theorem l_impl_IsAction : SoundCall Try.prog 65 s_impl_IsAction := by unfold s_impl_IsAction; exact fun_sound_of follows Try.func65 k_impl_IsAction o_impl_IsAction ⟨l_impl_isCode, l_impl_isMods, l_impl_isUpper, l_impl_isCode, l_impl_isMods, l_impl_isCode, l_impl_isUpper, l_impl_isMods, trivial⟩
theorem k_impl_IsHeld : okFun Try.prog Try.f34 f_impl_IsHeld = true := by kernel_rfl
theorem o_impl_IsHeld : funOb Try.prog Try.f34 f_impl_IsHeld = [(76, s_impl_bit), (65, s_impl_IsAction)] := by kernel_rfl
theorem l_impl_IsHeld : SoundCall Try.prog 34 s_impl_IsHeld := by unfold s_impl_IsHeld; exact fun_sound_of follows Try.func34 k_impl_IsHeld o_impl_IsHeld ⟨l_impl_bit, l_impl_IsAction, trivial⟩
theorem k_impl_LayersOn : okFun Try.prog Try.f42 f_impl_LayersOn = true := by kernel_rfl
theorem o_impl_LayersOn : funOb Try.prog Try.f42 f_impl_LayersOn = [(34, s_impl_IsHeld)] := by kernel_rfl
theorem l_impl_LayersOn : SoundCall Try.prog 42 s_impl_LayersOn := by unfold s_impl_LayersOn; exact fun_sound_of follows Try.func42 k_impl_LayersOn o_impl_LayersOn ⟨l_impl_IsHeld, trivial⟩
theorem k_laws_eqAction : okFun Try.prog Try.f18 f_laws_eqAction = true := by kernel_rfl
theorem o_laws_eqAction : funOb Try.prog Try.f18 f_laws_eqAction = [] := by kernel_rfl
theorem l_laws_eqAction : SoundCall Try.prog 18 s_laws_eqAction := by unfold s_laws_eqAction; exact fun_sound_of follows Try.func18 k_laws_eqAction o_laws_eqAction trivial
theorem k_laws_eqHeld : okFun Try.prog Try.f80 f_laws_eqHeld = true := by kernel_rfl
theorem o_laws_eqHeld : funOb Try.prog Try.f80 f_laws_eqHeld = [(18, s_laws_eqAction)] := by kernel_rfl
theorem l_laws_eqHeld : SoundCall Try.prog 80 s_laws_eqHeld := by unfold s_laws_eqHeld; exact fun_sound_of follows Try.func80 k_laws_eqHeld o_laws_eqHeld ⟨l_laws_eqAction, trivial⟩
theorem k_laws_eqHeldS : okFun Try.prog Try.f35 f_laws_eqHeldS = true := by kernel_rfl
theorem o_laws_eqHeldS : funOb Try.prog Try.f35 f_laws_eqHeldS = [(80, s_laws_eqHeld)] := by kernel_rfl
theorem l_laws_eqHeldS : SoundCall Try.prog 35 s_laws_eqHeldS := by unfold s_laws_eqHeldS; exact fun_sound_of follows Try.func35 k_laws_eqHeldS o_laws_eqHeldS ⟨l_laws_eqHeld, trivial⟩
theorem k_laws_FnExactLayersOn : okFun Try.prog Try.f8 f_laws_FnExactLayersOn = true := by kernel_rfl
theorem o_laws_FnExactLayersOn : funOb Try.prog Try.f8 f_laws_FnExactLayersOn = [(31, s_laws_szHeldS), (33, s_laws_toHeldS), (41, s_spec_LayersOn), (33, s_laws_toHeldS), (42, s_impl_LayersOn), (33, s_laws_toHeldS), (35, s_laws_eqHeldS)] := by kernel_rfl
theorem l_laws_FnExactLayersOn : SoundCall Try.prog 8 s_laws_FnExactLayersOn := by unfold s_laws_FnExactLayersOn; exact fun_sound_of follows Try.func8 k_laws_FnExactLayersOn o_laws_FnExactLayersOn ⟨l_laws_szHeldS, l_laws_toHeldS, l_spec_LayersOn, l_laws_toHeldS, l_impl_LayersOn, l_laws_toHeldS, l_laws_eqHeldS, trivial⟩

end Go.Proofs.Ytmjjamfkgingcaa
