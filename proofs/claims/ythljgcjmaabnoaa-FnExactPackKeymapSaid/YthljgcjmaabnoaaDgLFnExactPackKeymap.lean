/-
  EACH ABSTRACT FUNCTION IS THE SEAT's OWN: checked by the kernel, function by function (written by program, ag.py).
-/
import Derived.Test.YthljgcjmaabnoaaChecked
import Derived.KernelRfl
import Derived.Test.YthljgcjmaabnoaaLibF
namespace Go.Proofs.Ythljgcjmaabnoaa
open Go.Ag

theorem follows : Try.prog.follows .mixedOrders = true := by kernel_rfl
theorem k_laws_szActionS : okFun Try.prog Try.f131 f_laws_szActionS = true := by kernel_rfl
theorem o_laws_szActionS : funOb Try.prog Try.f131 f_laws_szActionS = [] := by kernel_rfl
theorem l_laws_szActionS : SoundCall Try.prog 131 s_laws_szActionS := by unfold s_laws_szActionS; exact fun_sound_of follows Try.func131 k_laws_szActionS o_laws_szActionS trivial
theorem k_laws_szActionSS : okFun Try.prog Try.f85 f_laws_szActionSS = true := by kernel_rfl
theorem o_laws_szActionSS : funOb Try.prog Try.f85 f_laws_szActionSS = [(131, s_laws_szActionS)] := by kernel_rfl
theorem l_laws_szActionSS : SoundCall Try.prog 85 s_laws_szActionSS := by unfold s_laws_szActionSS; exact fun_sound_of follows Try.func85 k_laws_szActionSS o_laws_szActionSS ⟨l_laws_szActionS, trivial⟩
theorem k_laws_szKeymap : okFun Try.prog Try.f32 f_laws_szKeymap = true := by kernel_rfl
theorem o_laws_szKeymap : funOb Try.prog Try.f32 f_laws_szKeymap = [(85, s_laws_szActionSS)] := by kernel_rfl
theorem l_laws_szKeymap : SoundCall Try.prog 32 s_laws_szKeymap := by unfold s_laws_szKeymap; exact fun_sound_of follows Try.func32 k_laws_szKeymap o_laws_szKeymap ⟨l_laws_szActionSS, trivial⟩
theorem k_laws_toAction : okFun Try.prog Try.f42 f_laws_toAction = true := by kernel_rfl
theorem o_laws_toAction : funOb Try.prog Try.f42 f_laws_toAction = [] := by kernel_rfl
theorem l_laws_toAction : SoundCall Try.prog 42 s_laws_toAction := by unfold s_laws_toAction; exact fun_sound_of follows Try.func42 k_laws_toAction o_laws_toAction trivial
theorem k_laws_toActionS : okFun Try.prog Try.f133 f_laws_toActionS = true := by kernel_rfl
theorem o_laws_toActionS : funOb Try.prog Try.f133 f_laws_toActionS = [(42, s_laws_toAction)] := by kernel_rfl
theorem l_laws_toActionS : SoundCall Try.prog 133 s_laws_toActionS := by unfold s_laws_toActionS; exact fun_sound_of follows Try.func133 k_laws_toActionS o_laws_toActionS ⟨l_laws_toAction, trivial⟩
theorem k_laws_toActionSS : okFun Try.prog Try.f88 f_laws_toActionSS = true := by kernel_rfl
theorem o_laws_toActionSS : funOb Try.prog Try.f88 f_laws_toActionSS = [(133, s_laws_toActionS)] := by kernel_rfl
theorem l_laws_toActionSS : SoundCall Try.prog 88 s_laws_toActionSS := by unfold s_laws_toActionSS; exact fun_sound_of follows Try.func88 k_laws_toActionSS o_laws_toActionSS ⟨l_laws_toActionS, trivial⟩
theorem k_laws_toKeymap : okFun Try.prog Try.f34 f_laws_toKeymap = true := by kernel_rfl
theorem o_laws_toKeymap : funOb Try.prog Try.f34 f_laws_toKeymap = [(88, s_laws_toActionSS)] := by kernel_rfl
theorem l_laws_toKeymap : SoundCall Try.prog 34 s_laws_toKeymap := by unfold s_laws_toKeymap; exact fun_sound_of follows Try.func34 k_laws_toKeymap o_laws_toKeymap ⟨l_laws_toActionSS, trivial⟩
theorem k_spec_l1In : okFun Try.prog Try.f96 f_spec_l1In = true := by kernel_rfl
theorem o_spec_l1In : funOb Try.prog Try.f96 f_spec_l1In = [] := by kernel_rfl
theorem l_spec_l1In : SoundCall Try.prog 96 s_spec_l1In := by unfold s_spec_l1In; exact fun_sound_of follows Try.func96 k_spec_l1In o_spec_l1In trivial
theorem k_spec_IsAction : okFun Try.prog Try.f132 f_spec_IsAction = true := by kernel_rfl
theorem o_spec_IsAction : funOb Try.prog Try.f132 f_spec_IsAction = [(96, s_spec_l1In), (96, s_spec_l1In), (96, s_spec_l1In), (96, s_spec_l1In)] := by kernel_rfl
theorem l_spec_IsAction : SoundCall Try.prog 132 s_spec_IsAction := by unfold s_spec_IsAction; exact fun_sound_of follows Try.func132 k_spec_IsAction o_spec_IsAction ⟨l_spec_l1In, l_spec_l1In, l_spec_l1In, l_spec_l1In, trivial⟩
theorem k_spec_IsKeymap : okFun Try.prog Try.f86 f_spec_IsKeymap = true := by kernel_rfl
theorem o_spec_IsKeymap : funOb Try.prog Try.f86 f_spec_IsKeymap = [(132, s_spec_IsAction), (96, s_spec_l1In), (96, s_spec_l1In)] := by kernel_rfl
theorem l_spec_IsKeymap : SoundCall Try.prog 86 s_spec_IsKeymap := by unfold s_spec_IsKeymap; exact fun_sound_of follows Try.func86 k_spec_IsKeymap o_spec_IsKeymap ⟨l_spec_IsAction, l_spec_l1In, l_spec_l1In, trivial⟩
theorem k_spec_PackAction : okFun Try.prog Try.f87 f_spec_PackAction = true := by kernel_rfl
theorem o_spec_PackAction : funOb Try.prog Try.f87 f_spec_PackAction = [(132, s_spec_IsAction)] := by kernel_rfl
theorem l_spec_PackAction : SoundCall Try.prog 87 s_spec_PackAction := by unfold s_spec_PackAction; exact fun_sound_of follows Try.func87 k_spec_PackAction o_spec_PackAction ⟨l_spec_IsAction, trivial⟩
theorem k_spec_PackKeymap : okFun Try.prog Try.f33 f_spec_PackKeymap = true := by kernel_rfl
theorem o_spec_PackKeymap : funOb Try.prog Try.f33 f_spec_PackKeymap = [(86, s_spec_IsKeymap), (87, s_spec_PackAction)] := by kernel_rfl
theorem l_spec_PackKeymap : SoundCall Try.prog 33 s_spec_PackKeymap := by unfold s_spec_PackKeymap; exact fun_sound_of follows Try.func33 k_spec_PackKeymap o_spec_PackKeymap ⟨l_spec_IsKeymap, l_spec_PackAction, trivial⟩
theorem k_impl_isCode : okFun Try.prog Try.f130 f_impl_isCode = true := by kernel_rfl
theorem o_impl_isCode : funOb Try.prog Try.f130 f_impl_isCode = [] := by kernel_rfl
theorem l_impl_isCode : SoundCall Try.prog 130 s_impl_isCode := by unfold s_impl_isCode; exact fun_sound_of follows Try.func130 k_impl_isCode o_impl_isCode trivial
theorem k_impl_isMods : okFun Try.prog Try.f149 f_impl_isMods = true := by kernel_rfl
theorem o_impl_isMods : funOb Try.prog Try.f149 f_impl_isMods = [] := by kernel_rfl
theorem l_impl_isMods : SoundCall Try.prog 149 s_impl_isMods := by unfold s_impl_isMods; exact fun_sound_of follows Try.func149 k_impl_isMods o_impl_isMods trivial
theorem k_impl_isUpper : okFun Try.prog Try.f150 f_impl_isUpper = true := by kernel_rfl
theorem o_impl_isUpper : funOb Try.prog Try.f150 f_impl_isUpper = [] := by kernel_rfl
theorem l_impl_isUpper : SoundCall Try.prog 150 s_impl_isUpper := by unfold s_impl_isUpper; exact fun_sound_of follows Try.func150 k_impl_isUpper o_impl_isUpper trivial
theorem k_impl_IsAction : okFun Try.prog Try.f134 f_impl_IsAction = true := by kernel_rfl
theorem o_impl_IsAction : funOb Try.prog Try.f134 f_impl_IsAction = [(130, s_impl_isCode), (149, s_impl_isMods), (150, s_impl_isUpper), (130, s_impl_isCode), (149, s_impl_isMods), (130, s_impl_isCode), (150, s_impl_isUpper), (149, s_impl_isMods)] := by kernel_rfl
theorem l_impl_IsAction : SoundCall Try.prog 134 s_impl_IsAction := by unfold s_impl_IsAction; exact fun_sound_of follows Try.func134 k_impl_IsAction o_impl_IsAction ⟨l_impl_isCode, l_impl_isMods, l_impl_isUpper, l_impl_isCode, l_impl_isMods, l_impl_isCode, l_impl_isUpper, l_impl_isMods, trivial⟩
theorem k_impl_IsKeymap : okFun Try.prog Try.f89 f_impl_IsKeymap = true := by kernel_rfl
theorem o_impl_IsKeymap : funOb Try.prog Try.f89 f_impl_IsKeymap = [(134, s_impl_IsAction)] := by kernel_rfl
theorem l_impl_IsKeymap : SoundCall Try.prog 89 s_impl_IsKeymap := by unfold s_impl_IsKeymap; exact fun_sound_of follows Try.func89 k_impl_IsKeymap o_impl_IsKeymap ⟨l_impl_IsAction, trivial⟩
theorem k_impl_PackAction : okFun Try.prog Try.f90 f_impl_PackAction = true := by kernel_rfl
theorem o_impl_PackAction : funOb Try.prog Try.f90 f_impl_PackAction = [(134, s_impl_IsAction)] := by kernel_rfl
theorem l_impl_PackAction : SoundCall Try.prog 90 s_impl_PackAction := by unfold s_impl_PackAction; exact fun_sound_of follows Try.func90 k_impl_PackAction o_impl_PackAction ⟨l_impl_IsAction, trivial⟩
theorem k_impl_PackKeymap : okFun Try.prog Try.f35 f_impl_PackKeymap = true := by kernel_rfl
theorem o_impl_PackKeymap : funOb Try.prog Try.f35 f_impl_PackKeymap = [(89, s_impl_IsKeymap), (90, s_impl_PackAction)] := by kernel_rfl
theorem l_impl_PackKeymap : SoundCall Try.prog 35 s_impl_PackKeymap := by unfold s_impl_PackKeymap; exact fun_sound_of follows Try.func35 k_impl_PackKeymap o_impl_PackKeymap ⟨l_impl_IsKeymap, l_impl_PackAction, trivial⟩
theorem k_laws_eqByteS : okFun Try.prog Try.f19 f_laws_eqByteS = true := by kernel_rfl
theorem o_laws_eqByteS : funOb Try.prog Try.f19 f_laws_eqByteS = [] := by kernel_rfl
theorem l_laws_eqByteS : SoundCall Try.prog 19 s_laws_eqByteS := by unfold s_laws_eqByteS; exact fun_sound_of follows Try.func19 k_laws_eqByteS o_laws_eqByteS trivial
theorem k_laws_eqAction : okFun Try.prog Try.f142 f_laws_eqAction = true := by kernel_rfl
theorem o_laws_eqAction : funOb Try.prog Try.f142 f_laws_eqAction = [] := by kernel_rfl
theorem l_laws_eqAction : SoundCall Try.prog 142 s_laws_eqAction := by unfold s_laws_eqAction; exact fun_sound_of follows Try.func142 k_laws_eqAction o_laws_eqAction trivial
theorem k_laws_eqActionS : okFun Try.prog Try.f135 f_laws_eqActionS = true := by kernel_rfl
theorem o_laws_eqActionS : funOb Try.prog Try.f135 f_laws_eqActionS = [(142, s_laws_eqAction)] := by kernel_rfl
theorem l_laws_eqActionS : SoundCall Try.prog 135 s_laws_eqActionS := by unfold s_laws_eqActionS; exact fun_sound_of follows Try.func135 k_laws_eqActionS o_laws_eqActionS ⟨l_laws_eqAction, trivial⟩
theorem k_laws_eqActionSS : okFun Try.prog Try.f91 f_laws_eqActionSS = true := by kernel_rfl
theorem o_laws_eqActionSS : funOb Try.prog Try.f91 f_laws_eqActionSS = [(135, s_laws_eqActionS)] := by kernel_rfl
theorem l_laws_eqActionSS : SoundCall Try.prog 91 s_laws_eqActionSS := by unfold s_laws_eqActionSS; exact fun_sound_of follows Try.func91 k_laws_eqActionSS o_laws_eqActionSS ⟨l_laws_eqActionS, trivial⟩
theorem k_laws_eqKeymap : okFun Try.prog Try.f36 f_laws_eqKeymap = true := by kernel_rfl
theorem o_laws_eqKeymap : funOb Try.prog Try.f36 f_laws_eqKeymap = [(91, s_laws_eqActionSS)] := by kernel_rfl
theorem l_laws_eqKeymap : SoundCall Try.prog 36 s_laws_eqKeymap := by unfold s_laws_eqKeymap; exact fun_sound_of follows Try.func36 k_laws_eqKeymap o_laws_eqKeymap ⟨l_laws_eqActionSS, trivial⟩
theorem k_laws_markActionS : okFun Try.prog Try.f136 f_laws_markActionS = true := by kernel_rfl
theorem o_laws_markActionS : funOb Try.prog Try.f136 f_laws_markActionS = [] := by kernel_rfl
theorem l_laws_markActionS : SoundCall Try.prog 136 s_laws_markActionS := by unfold s_laws_markActionS; exact fun_sound_of follows Try.func136 k_laws_markActionS o_laws_markActionS trivial
theorem k_laws_markActionSS : okFun Try.prog Try.f92 f_laws_markActionSS = true := by kernel_rfl
theorem o_laws_markActionSS : funOb Try.prog Try.f92 f_laws_markActionSS = [(136, s_laws_markActionS)] := by kernel_rfl
theorem l_laws_markActionSS : SoundCall Try.prog 92 s_laws_markActionSS := by unfold s_laws_markActionSS; exact fun_sound_of follows Try.func92 k_laws_markActionSS o_laws_markActionSS ⟨l_laws_markActionS, trivial⟩
theorem k_laws_markKeymap : okFun Try.prog Try.f37 f_laws_markKeymap = true := by kernel_rfl
theorem o_laws_markKeymap : funOb Try.prog Try.f37 f_laws_markKeymap = [(92, s_laws_markActionSS)] := by kernel_rfl
theorem l_laws_markKeymap : SoundCall Try.prog 37 s_laws_markKeymap := by unfold s_laws_markKeymap; exact fun_sound_of follows Try.func37 k_laws_markKeymap o_laws_markKeymap ⟨l_laws_markActionSS, trivial⟩
theorem k_laws_markByteS : okFun Try.prog Try.f20 f_laws_markByteS = true := by kernel_rfl
theorem o_laws_markByteS : funOb Try.prog Try.f20 f_laws_markByteS = [] := by kernel_rfl
theorem l_laws_markByteS : SoundCall Try.prog 20 s_laws_markByteS := by unfold s_laws_markByteS; exact fun_sound_of follows Try.func20 k_laws_markByteS o_laws_markByteS trivial
theorem k_laws_heldByteS : okFun Try.prog Try.f27 f_laws_heldByteS = true := by kernel_rfl
theorem o_laws_heldByteS : funOb Try.prog Try.f27 f_laws_heldByteS = [] := by kernel_rfl
theorem l_laws_heldByteS : SoundCall Try.prog 27 s_laws_heldByteS := by unfold s_laws_heldByteS; exact fun_sound_of follows Try.func27 k_laws_heldByteS o_laws_heldByteS trivial
theorem k_laws_FnExactPackKeymap : okFun Try.prog Try.f7 f_laws_FnExactPackKeymap = true := by kernel_rfl
theorem o_laws_FnExactPackKeymap : funOb Try.prog Try.f7 f_laws_FnExactPackKeymap = [(32, s_laws_szKeymap), (34, s_laws_toKeymap), (33, s_spec_PackKeymap), (34, s_laws_toKeymap), (35, s_impl_PackKeymap), (19, s_laws_eqByteS), (34, s_laws_toKeymap), (36, s_laws_eqKeymap), (37, s_laws_markKeymap), (19, s_laws_eqByteS), (20, s_laws_markByteS), (27, s_laws_heldByteS), (34, s_laws_toKeymap), (35, s_impl_PackKeymap), (19, s_laws_eqByteS), (27, s_laws_heldByteS)] := by kernel_rfl
theorem l_laws_FnExactPackKeymap : SoundCall Try.prog 7 s_laws_FnExactPackKeymap := by unfold s_laws_FnExactPackKeymap; exact fun_sound_of follows Try.func7 k_laws_FnExactPackKeymap o_laws_FnExactPackKeymap ⟨l_laws_szKeymap, l_laws_toKeymap, l_spec_PackKeymap, l_laws_toKeymap, l_impl_PackKeymap, l_laws_eqByteS, l_laws_toKeymap, l_laws_eqKeymap, l_laws_markKeymap, l_laws_eqByteS, l_laws_markByteS, l_laws_heldByteS, l_laws_toKeymap, l_impl_PackKeymap, l_laws_eqByteS, l_laws_heldByteS, trivial⟩

end Go.Proofs.Ythljgcjmaabnoaa
