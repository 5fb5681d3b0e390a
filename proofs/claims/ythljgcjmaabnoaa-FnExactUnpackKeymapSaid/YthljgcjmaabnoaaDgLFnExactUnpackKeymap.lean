/-
  EACH ABSTRACT FUNCTION IS THE SEAT's OWN: checked by the kernel, function by function (written by program, ag.py).
-/
import Derived.Test.YthljgcjmaabnoaaChecked
import Derived.KernelRfl
import Derived.Test.YthljgcjmaabnoaaLibF
namespace Go.Proofs.Ythljgcjmaabnoaa
open Go.Ag

theorem follows : Try.prog.follows .mixedOrders = true := by kernel_rfl
theorem k_laws_toByteS : okFun Try.prog Try.f16 f_laws_toByteS = true := by kernel_rfl
theorem o_laws_toByteS : funOb Try.prog Try.f16 f_laws_toByteS = [] := by kernel_rfl
theorem l_laws_toByteS : SoundCall Try.prog 16 s_laws_toByteS := by unfold s_laws_toByteS; exact fun_sound_of follows Try.func16 k_laws_toByteS o_laws_toByteS trivial
theorem k_spec_l1In : okFun Try.prog Try.f96 f_spec_l1In = true := by kernel_rfl
theorem o_spec_l1In : funOb Try.prog Try.f96 f_spec_l1In = [] := by kernel_rfl
theorem l_spec_l1In : SoundCall Try.prog 96 s_spec_l1In := by unfold s_spec_l1In; exact fun_sound_of follows Try.func96 k_spec_l1In o_spec_l1In trivial
theorem k_spec_IsAction : okFun Try.prog Try.f132 f_spec_IsAction = true := by kernel_rfl
theorem o_spec_IsAction : funOb Try.prog Try.f132 f_spec_IsAction = [(96, s_spec_l1In), (96, s_spec_l1In), (96, s_spec_l1In), (96, s_spec_l1In)] := by kernel_rfl
theorem l_spec_IsAction : SoundCall Try.prog 132 s_spec_IsAction := by unfold s_spec_IsAction; exact fun_sound_of follows Try.func132 k_spec_IsAction o_spec_IsAction ⟨l_spec_l1In, l_spec_l1In, l_spec_l1In, l_spec_l1In, trivial⟩
theorem k_spec_UnpackAction : okFun Try.prog Try.f93 f_spec_UnpackAction = true := by kernel_rfl
theorem o_spec_UnpackAction : funOb Try.prog Try.f93 f_spec_UnpackAction = [(132, s_spec_IsAction)] := by kernel_rfl
theorem l_spec_UnpackAction : SoundCall Try.prog 93 s_spec_UnpackAction := by unfold s_spec_UnpackAction; exact fun_sound_of follows Try.func93 k_spec_UnpackAction o_spec_UnpackAction ⟨l_spec_IsAction, trivial⟩
theorem k_spec_IsKeymap : okFun Try.prog Try.f86 f_spec_IsKeymap = true := by kernel_rfl
theorem o_spec_IsKeymap : funOb Try.prog Try.f86 f_spec_IsKeymap = [(132, s_spec_IsAction), (96, s_spec_l1In), (96, s_spec_l1In)] := by kernel_rfl
theorem l_spec_IsKeymap : SoundCall Try.prog 86 s_spec_IsKeymap := by unfold s_spec_IsKeymap; exact fun_sound_of follows Try.func86 k_spec_IsKeymap o_spec_IsKeymap ⟨l_spec_IsAction, l_spec_l1In, l_spec_l1In, trivial⟩
theorem k_spec_UnpackKeymap : okFun Try.prog Try.f38 f_spec_UnpackKeymap = true := by kernel_rfl
theorem o_spec_UnpackKeymap : funOb Try.prog Try.f38 f_spec_UnpackKeymap = [(93, s_spec_UnpackAction), (86, s_spec_IsKeymap)] := by kernel_rfl
theorem l_spec_UnpackKeymap : SoundCall Try.prog 38 s_spec_UnpackKeymap := by unfold s_spec_UnpackKeymap; exact fun_sound_of follows Try.func38 k_spec_UnpackKeymap o_spec_UnpackKeymap ⟨l_spec_UnpackAction, l_spec_IsKeymap, trivial⟩
theorem k_impl_isCode : okFun Try.prog Try.f130 f_impl_isCode = true := by kernel_rfl
theorem o_impl_isCode : funOb Try.prog Try.f130 f_impl_isCode = [] := by kernel_rfl
theorem l_impl_isCode : SoundCall Try.prog 130 s_impl_isCode := by unfold s_impl_isCode; exact fun_sound_of follows Try.func130 k_impl_isCode o_impl_isCode trivial
theorem k_impl_isMods : okFun Try.prog Try.f149 f_impl_isMods = true := by kernel_rfl
theorem o_impl_isMods : funOb Try.prog Try.f149 f_impl_isMods = [] := by kernel_rfl
theorem l_impl_isMods : SoundCall Try.prog 149 s_impl_isMods := by unfold s_impl_isMods; exact fun_sound_of follows Try.func149 k_impl_isMods o_impl_isMods trivial
theorem k_impl_isUpper : okFun Try.prog Try.f150 f_impl_isUpper = true := by kernel_rfl
theorem o_impl_isUpper : funOb Try.prog Try.f150 f_impl_isUpper = [] := by kernel_rfl
theorem l_impl_isUpper : SoundCall Try.prog 150 s_impl_isUpper := by unfold s_impl_isUpper; exact fun_sound_of follows Try.func150 k_impl_isUpper o_impl_isUpper trivial
theorem k_impl_IsAction : okFun Try.prog Try.f134 f_impl_IsAction = true := by kernel_rfl
theorem o_impl_IsAction : funOb Try.prog Try.f134 f_impl_IsAction = [(130, s_impl_isCode), (149, s_impl_isMods), (150, s_impl_isUpper), (130, s_impl_isCode), (149, s_impl_isMods), (130, s_impl_isCode), (150, s_impl_isUpper), (149, s_impl_isMods)] := by kernel_rfl
theorem l_impl_IsAction : SoundCall Try.prog 134 s_impl_IsAction := by unfold s_impl_IsAction; exact fun_sound_of follows Try.func134 k_impl_IsAction o_impl_IsAction ⟨l_impl_isCode, l_impl_isMods, l_impl_isUpper, l_impl_isCode, l_impl_isMods, l_impl_isCode, l_impl_isUpper, l_impl_isMods, trivial⟩
theorem k_impl_UnpackAction : okFun Try.prog Try.f94 f_impl_UnpackAction = true := by kernel_rfl
theorem o_impl_UnpackAction : funOb Try.prog Try.f94 f_impl_UnpackAction = [(134, s_impl_IsAction)] := by kernel_rfl
theorem l_impl_UnpackAction : SoundCall Try.prog 94 s_impl_UnpackAction := by unfold s_impl_UnpackAction; exact fun_sound_of follows Try.func94 k_impl_UnpackAction o_impl_UnpackAction ⟨l_impl_IsAction, trivial⟩
theorem k_impl_IsKeymap : okFun Try.prog Try.f89 f_impl_IsKeymap = true := by kernel_rfl
theorem o_impl_IsKeymap : funOb Try.prog Try.f89 f_impl_IsKeymap = [(134, s_impl_IsAction)] := by kernel_rfl
theorem l_impl_IsKeymap : SoundCall Try.prog 89 s_impl_IsKeymap := by unfold s_impl_IsKeymap; exact fun_sound_of follows Try.func89 k_impl_IsKeymap o_impl_IsKeymap ⟨l_impl_IsAction, trivial⟩
theorem k_impl_UnpackKeymap : okFun Try.prog Try.f39 f_impl_UnpackKeymap = true := by kernel_rfl
theorem o_impl_UnpackKeymap : funOb Try.prog Try.f39 f_impl_UnpackKeymap = [(94, s_impl_UnpackAction), (89, s_impl_IsKeymap)] := by kernel_rfl
theorem l_impl_UnpackKeymap : SoundCall Try.prog 39 s_impl_UnpackKeymap := by unfold s_impl_UnpackKeymap; exact fun_sound_of follows Try.func39 k_impl_UnpackKeymap o_impl_UnpackKeymap ⟨l_impl_UnpackAction, l_impl_IsKeymap, trivial⟩
theorem k_laws_eqAction : okFun Try.prog Try.f142 f_laws_eqAction = true := by kernel_rfl
theorem o_laws_eqAction : funOb Try.prog Try.f142 f_laws_eqAction = [] := by kernel_rfl
theorem l_laws_eqAction : SoundCall Try.prog 142 s_laws_eqAction := by unfold s_laws_eqAction; exact fun_sound_of follows Try.func142 k_laws_eqAction o_laws_eqAction trivial
theorem k_laws_eqActionS : okFun Try.prog Try.f135 f_laws_eqActionS = true := by kernel_rfl
theorem o_laws_eqActionS : funOb Try.prog Try.f135 f_laws_eqActionS = [(142, s_laws_eqAction)] := by kernel_rfl
theorem l_laws_eqActionS : SoundCall Try.prog 135 s_laws_eqActionS := by unfold s_laws_eqActionS; exact fun_sound_of follows Try.func135 k_laws_eqActionS o_laws_eqActionS ⟨l_laws_eqAction, trivial⟩
theorem k_laws_eqActionSS : okFun Try.prog Try.f91 f_laws_eqActionSS = true := by kernel_rfl
theorem o_laws_eqActionSS : funOb Try.prog Try.f91 f_laws_eqActionSS = [(135, s_laws_eqActionS)] := by kernel_rfl
theorem l_laws_eqActionSS : SoundCall Try.prog 91 s_laws_eqActionSS := by unfold s_laws_eqActionSS; exact fun_sound_of follows Try.func91 k_laws_eqActionSS o_laws_eqActionSS ⟨l_laws_eqActionS, trivial⟩
theorem k_laws_eqKeymap : okFun Try.prog Try.f36 f_laws_eqKeymap = true := by kernel_rfl
theorem o_laws_eqKeymap : funOb Try.prog Try.f36 f_laws_eqKeymap = [(91, s_laws_eqActionSS)] := by kernel_rfl
theorem l_laws_eqKeymap : SoundCall Try.prog 36 s_laws_eqKeymap := by unfold s_laws_eqKeymap; exact fun_sound_of follows Try.func36 k_laws_eqKeymap o_laws_eqKeymap ⟨l_laws_eqActionSS, trivial⟩
theorem k_laws_eqByteS : okFun Try.prog Try.f19 f_laws_eqByteS = true := by kernel_rfl
theorem o_laws_eqByteS : funOb Try.prog Try.f19 f_laws_eqByteS = [] := by kernel_rfl
theorem l_laws_eqByteS : SoundCall Try.prog 19 s_laws_eqByteS := by unfold s_laws_eqByteS; exact fun_sound_of follows Try.func19 k_laws_eqByteS o_laws_eqByteS trivial
theorem k_laws_markByteS : okFun Try.prog Try.f20 f_laws_markByteS = true := by kernel_rfl
theorem o_laws_markByteS : funOb Try.prog Try.f20 f_laws_markByteS = [] := by kernel_rfl
theorem l_laws_markByteS : SoundCall Try.prog 20 s_laws_markByteS := by unfold s_laws_markByteS; exact fun_sound_of follows Try.func20 k_laws_markByteS o_laws_markByteS trivial
theorem k_laws_markActionS : okFun Try.prog Try.f136 f_laws_markActionS = true := by kernel_rfl
theorem o_laws_markActionS : funOb Try.prog Try.f136 f_laws_markActionS = [] := by kernel_rfl
theorem l_laws_markActionS : SoundCall Try.prog 136 s_laws_markActionS := by unfold s_laws_markActionS; exact fun_sound_of follows Try.func136 k_laws_markActionS o_laws_markActionS trivial
theorem k_laws_markActionSS : okFun Try.prog Try.f92 f_laws_markActionSS = true := by kernel_rfl
theorem o_laws_markActionSS : funOb Try.prog Try.f92 f_laws_markActionSS = [(136, s_laws_markActionS)] := by kernel_rfl
theorem l_laws_markActionSS : SoundCall Try.prog 92 s_laws_markActionSS := by unfold s_laws_markActionSS; exact fun_sound_of follows Try.func92 k_laws_markActionSS o_laws_markActionSS ⟨l_laws_markActionS, trivial⟩
theorem k_laws_markKeymap : okFun Try.prog Try.f37 f_laws_markKeymap = true := by kernel_rfl
theorem o_laws_markKeymap : funOb Try.prog Try.f37 f_laws_markKeymap = [(92, s_laws_markActionSS)] := by kernel_rfl
theorem l_laws_markKeymap : SoundCall Try.prog 37 s_laws_markKeymap := by unfold s_laws_markKeymap; exact fun_sound_of follows Try.func37 k_laws_markKeymap o_laws_markKeymap ⟨l_laws_markActionSS, trivial⟩
theorem k_laws_heldActionS : okFun Try.prog Try.f137 f_laws_heldActionS = true := by kernel_rfl
theorem o_laws_heldActionS : funOb Try.prog Try.f137 f_laws_heldActionS = [] := by kernel_rfl
theorem l_laws_heldActionS : SoundCall Try.prog 137 s_laws_heldActionS := by unfold s_laws_heldActionS; exact fun_sound_of follows Try.func137 k_laws_heldActionS o_laws_heldActionS trivial
theorem k_laws_heldActionSS : okFun Try.prog Try.f95 f_laws_heldActionSS = true := by kernel_rfl
theorem o_laws_heldActionSS : funOb Try.prog Try.f95 f_laws_heldActionSS = [(137, s_laws_heldActionS)] := by kernel_rfl
theorem l_laws_heldActionSS : SoundCall Try.prog 95 s_laws_heldActionSS := by unfold s_laws_heldActionSS; exact fun_sound_of follows Try.func95 k_laws_heldActionSS o_laws_heldActionSS ⟨l_laws_heldActionS, trivial⟩
theorem k_laws_heldKeymap : okFun Try.prog Try.f40 f_laws_heldKeymap = true := by kernel_rfl
theorem o_laws_heldKeymap : funOb Try.prog Try.f40 f_laws_heldKeymap = [(95, s_laws_heldActionSS)] := by kernel_rfl
theorem l_laws_heldKeymap : SoundCall Try.prog 40 s_laws_heldKeymap := by unfold s_laws_heldKeymap; exact fun_sound_of follows Try.func40 k_laws_heldKeymap o_laws_heldKeymap ⟨l_laws_heldActionSS, trivial⟩
theorem k_laws_FnExactUnpackKeymap : okFun Try.prog Try.f8 f_laws_FnExactUnpackKeymap = true := by kernel_rfl
theorem o_laws_FnExactUnpackKeymap : funOb Try.prog Try.f8 f_laws_FnExactUnpackKeymap = [(16, s_laws_toByteS), (38, s_spec_UnpackKeymap), (16, s_laws_toByteS), (39, s_impl_UnpackKeymap), (36, s_laws_eqKeymap), (16, s_laws_toByteS), (19, s_laws_eqByteS), (20, s_laws_markByteS), (36, s_laws_eqKeymap), (37, s_laws_markKeymap), (40, s_laws_heldKeymap), (16, s_laws_toByteS), (39, s_impl_UnpackKeymap), (36, s_laws_eqKeymap), (40, s_laws_heldKeymap)] := by kernel_rfl
theorem l_laws_FnExactUnpackKeymap : SoundCall Try.prog 8 s_laws_FnExactUnpackKeymap := by unfold s_laws_FnExactUnpackKeymap; exact fun_sound_of follows Try.func8 k_laws_FnExactUnpackKeymap o_laws_FnExactUnpackKeymap ⟨l_laws_toByteS, l_spec_UnpackKeymap, l_laws_toByteS, l_impl_UnpackKeymap, l_laws_eqKeymap, l_laws_toByteS, l_laws_eqByteS, l_laws_markByteS, l_laws_eqKeymap, l_laws_markKeymap, l_laws_heldKeymap, l_laws_toByteS, l_impl_UnpackKeymap, l_laws_eqKeymap, l_laws_heldKeymap, trivial⟩

end Go.Proofs.Ythljgcjmaabnoaa
