/-
  EACH ABSTRACT FUNCTION IS THE SEAT's OWN: checked by the kernel, function by function (written by program, ag.py).
-/
import Derived.Test.YtmjjamfkgingcaaChecked
import Derived.Test.YtmjjamfkgingcaaLibA
import Derived.KernelRfl
import Derived.Test.YtmjjamfkgingcaaDgP3
namespace Go.Proofs.Ytmjjamfkgingcaa
open Go.Ag

theorem follows : Try.prog.follows .mixedOrders = true := by kernel_rfl
theorem k_laws_szActionS : okFun Try.prog Try.f115 f_laws_szActionS = true := by kernel_rfl
theorem o_laws_szActionS : funOb Try.prog Try.f115 f_laws_szActionS = [] := by kernel_rfl
theorem l_laws_szActionS : SoundCall Try.prog 115 s_laws_szActionS := by unfold s_laws_szActionS; exact fun_sound_of follows Try.func115 k_laws_szActionS o_laws_szActionS trivial
theorem k_laws_szActionSS : okFun Try.prog Try.f86 f_laws_szActionSS = true := by kernel_rfl
theorem o_laws_szActionSS : funOb Try.prog Try.f86 f_laws_szActionSS = [(115, s_laws_szActionS)] := by kernel_rfl
theorem l_laws_szActionSS : SoundCall Try.prog 86 s_laws_szActionSS := by unfold s_laws_szActionSS; exact fun_sound_of follows Try.func86 k_laws_szActionSS o_laws_szActionSS ⟨l_laws_szActionS, trivial⟩
theorem k_laws_szKeymap : okFun Try.prog Try.f43 f_laws_szKeymap = true := by kernel_rfl
theorem o_laws_szKeymap : funOb Try.prog Try.f43 f_laws_szKeymap = [(86, s_laws_szActionSS)] := by kernel_rfl
theorem l_laws_szKeymap : SoundCall Try.prog 43 s_laws_szKeymap := by unfold s_laws_szKeymap; exact fun_sound_of follows Try.func43 k_laws_szKeymap o_laws_szKeymap ⟨l_laws_szActionSS, trivial⟩
theorem k_laws_toAction : okFun Try.prog Try.f110 f_laws_toAction = true := by kernel_rfl
theorem o_laws_toAction : funOb Try.prog Try.f110 f_laws_toAction = [] := by kernel_rfl
theorem l_laws_toAction : SoundCall Try.prog 110 s_laws_toAction := by unfold s_laws_toAction; exact fun_sound_of follows Try.func110 k_laws_toAction o_laws_toAction trivial
theorem k_laws_toActionS : okFun Try.prog Try.f116 f_laws_toActionS = true := by kernel_rfl
theorem o_laws_toActionS : funOb Try.prog Try.f116 f_laws_toActionS = [(110, s_laws_toAction)] := by kernel_rfl
theorem l_laws_toActionS : SoundCall Try.prog 116 s_laws_toActionS := by unfold s_laws_toActionS; exact fun_sound_of follows Try.func116 k_laws_toActionS o_laws_toActionS ⟨l_laws_toAction, trivial⟩
theorem k_laws_toActionSS : okFun Try.prog Try.f87 f_laws_toActionSS = true := by kernel_rfl
theorem o_laws_toActionSS : funOb Try.prog Try.f87 f_laws_toActionSS = [(116, s_laws_toActionS)] := by kernel_rfl
theorem l_laws_toActionSS : SoundCall Try.prog 87 s_laws_toActionSS := by unfold s_laws_toActionSS; exact fun_sound_of follows Try.func87 k_laws_toActionSS o_laws_toActionSS ⟨l_laws_toActionS, trivial⟩
theorem k_laws_toKeymap : okFun Try.prog Try.f45 f_laws_toKeymap = true := by kernel_rfl
theorem o_laws_toKeymap : funOb Try.prog Try.f45 f_laws_toKeymap = [(87, s_laws_toActionSS)] := by kernel_rfl
theorem l_laws_toKeymap : SoundCall Try.prog 45 s_laws_toKeymap := by unfold s_laws_toKeymap; exact fun_sound_of follows Try.func45 k_laws_toKeymap o_laws_toKeymap ⟨l_laws_toActionSS, trivial⟩
theorem k_spec_l1In : okFun Try.prog Try.f66 f_spec_l1In = true := by kernel_rfl
theorem o_spec_l1In : funOb Try.prog Try.f66 f_spec_l1In = [] := by kernel_rfl
theorem l_spec_l1In : SoundCall Try.prog 66 s_spec_l1In := by unfold s_spec_l1In; exact fun_sound_of follows Try.func66 k_spec_l1In o_spec_l1In trivial
theorem k_spec_IsAction : okFun Try.prog Try.f64 f_spec_IsAction = true := by kernel_rfl
theorem o_spec_IsAction : funOb Try.prog Try.f64 f_spec_IsAction = [(66, s_spec_l1In), (66, s_spec_l1In), (66, s_spec_l1In), (66, s_spec_l1In)] := by kernel_rfl
theorem l_spec_IsAction : SoundCall Try.prog 64 s_spec_IsAction := by unfold s_spec_IsAction; exact fun_sound_of follows Try.func64 k_spec_IsAction o_spec_IsAction ⟨l_spec_l1In, l_spec_l1In, l_spec_l1In, l_spec_l1In, trivial⟩
theorem k_spec_IsKeymap : okFun Try.prog Try.f44 f_spec_IsKeymap = true := by kernel_rfl
theorem o_spec_IsKeymap : funOb Try.prog Try.f44 f_spec_IsKeymap = [(64, s_spec_IsAction), (66, s_spec_l1In), (66, s_spec_l1In)] := by kernel_rfl
theorem l_spec_IsKeymap : SoundCall Try.prog 44 s_spec_IsKeymap := by unfold s_spec_IsKeymap; exact fun_sound_of follows Try.func44 k_spec_IsKeymap o_spec_IsKeymap ⟨l_spec_IsAction, l_spec_l1In, l_spec_l1In, trivial⟩
theorem k_spec_LayerAt : okFun Try.prog Try.f48 f_spec_LayerAt = true := by kernel_rfl
theorem o_spec_LayerAt : funOb Try.prog Try.f48 f_spec_LayerAt = [(44, s_spec_IsKeymap), (66, s_spec_l1In)] := by kernel_rfl
theorem l_spec_LayerAt : SoundCall Try.prog 48 s_spec_LayerAt := by unfold s_spec_LayerAt; exact fun_sound_of follows Try.func48 k_spec_LayerAt o_spec_LayerAt ⟨l_spec_IsKeymap, l_spec_l1In, trivial⟩
theorem k_spec_ActionAt : okFun Try.prog Try.f50 f_spec_ActionAt = true := by kernel_rfl
theorem o_spec_ActionAt : funOb Try.prog Try.f50 f_spec_ActionAt = [(48, s_spec_LayerAt)] := by kernel_rfl
theorem l_spec_ActionAt : SoundCall Try.prog 50 s_spec_ActionAt := by unfold s_spec_ActionAt; exact fun_sound_of follows Try.func50 k_spec_ActionAt o_spec_ActionAt ⟨l_spec_LayerAt, trivial⟩
theorem k_impl_isCode : okFun Try.prog Try.f105 f_impl_isCode = true := by kernel_rfl
theorem o_impl_isCode : funOb Try.prog Try.f105 f_impl_isCode = [] := by kernel_rfl
theorem l_impl_isCode : SoundCall Try.prog 105 s_impl_isCode := by unfold s_impl_isCode; exact fun_sound_of follows Try.func105 k_impl_isCode o_impl_isCode trivial
theorem k_impl_isMods : okFun Try.prog Try.f106 f_impl_isMods = true := by kernel_rfl
theorem o_impl_isMods : funOb Try.prog Try.f106 f_impl_isMods = [] := by kernel_rfl
theorem l_impl_isMods : SoundCall Try.prog 106 s_impl_isMods := by unfold s_impl_isMods; exact fun_sound_of follows Try.func106 k_impl_isMods o_impl_isMods trivial
theorem k_impl_isUpper : okFun Try.prog Try.f107 f_impl_isUpper = true := by kernel_rfl
theorem o_impl_isUpper : funOb Try.prog Try.f107 f_impl_isUpper = [] := by kernel_rfl
theorem l_impl_isUpper : SoundCall Try.prog 107 s_impl_isUpper := by unfold s_impl_isUpper; exact fun_sound_of follows Try.func107 k_impl_isUpper o_impl_isUpper trivial
theorem k_impl_IsAction : okFun Try.prog Try.f65 f_impl_IsAction = true := by kernel_rfl
theorem o_impl_IsAction : funOb Try.prog Try.f65 f_impl_IsAction = [(105, s_impl_isCode), (106, s_impl_isMods), (107, s_impl_isUpper), (105, s_impl_isCode), (106, s_impl_isMods), (105, s_impl_isCode), (107, s_impl_isUpper), (106, s_impl_isMods)] := by kernel_rfl
theorem l_impl_IsAction : SoundCall Try.prog 65 s_impl_IsAction := by unfold s_impl_IsAction; exact fun_sound_of follows Try.func65 k_impl_IsAction o_impl_IsAction ⟨l_impl_isCode, l_impl_isMods, l_impl_isUpper, l_impl_isCode, l_impl_isMods, l_impl_isCode, l_impl_isUpper, l_impl_isMods, trivial⟩
theorem k_impl_IsKeymap : okFun Try.prog Try.f46 f_impl_IsKeymap = true := by kernel_rfl
theorem o_impl_IsKeymap : funOb Try.prog Try.f46 f_impl_IsKeymap = [(65, s_impl_IsAction)] := by kernel_rfl
theorem l_impl_IsKeymap : SoundCall Try.prog 46 s_impl_IsKeymap := by unfold s_impl_IsKeymap; exact fun_sound_of follows Try.func46 k_impl_IsKeymap o_impl_IsKeymap ⟨l_impl_IsAction, trivial⟩
theorem k_impl_bit : okFun Try.prog Try.f76 f_impl_bit = true := by kernel_rfl
theorem o_impl_bit : funOb Try.prog Try.f76 f_impl_bit = [] := by kernel_rfl
theorem l_impl_bit : SoundCall Try.prog 76 s_impl_bit := by unfold s_impl_bit; exact fun_sound_of follows Try.func76 k_impl_bit o_impl_bit trivial
theorem k_impl_layerAt : okFun Try.prog Try.f89 f_impl_layerAt = true := by kernel_rfl
theorem o_impl_layerAt : funOb Try.prog Try.f89 f_impl_layerAt = [(76, s_impl_bit)] := by kernel_rfl
theorem l_impl_layerAt : SoundCall Try.prog 89 s_impl_layerAt := by unfold s_impl_layerAt; exact fun_sound_of follows Try.func89 k_impl_layerAt o_impl_layerAt ⟨l_impl_bit, trivial⟩
theorem k_impl_LayerAt : okFun Try.prog Try.f49 f_impl_LayerAt = true := by kernel_rfl
theorem o_impl_LayerAt : funOb Try.prog Try.f49 f_impl_LayerAt = [(46, s_impl_IsKeymap), (89, s_impl_layerAt)] := by kernel_rfl
theorem l_impl_LayerAt : SoundCall Try.prog 49 s_impl_LayerAt := by unfold s_impl_LayerAt; exact fun_sound_of follows Try.func49 k_impl_LayerAt o_impl_LayerAt ⟨l_impl_IsKeymap, l_impl_layerAt, trivial⟩
theorem k_impl_ActionAt : okFun Try.prog Try.f51 f_impl_ActionAt = true := by kernel_rfl
theorem o_impl_ActionAt : funOb Try.prog Try.f51 f_impl_ActionAt = [(49, s_impl_LayerAt)] := by kernel_rfl
theorem l_impl_ActionAt : SoundCall Try.prog 51 s_impl_ActionAt := by unfold s_impl_ActionAt; exact fun_sound_of follows Try.func51 k_impl_ActionAt o_impl_ActionAt ⟨l_impl_LayerAt, trivial⟩
theorem k_laws_eqAction : okFun Try.prog Try.f18 f_laws_eqAction = true := by kernel_rfl
theorem o_laws_eqAction : funOb Try.prog Try.f18 f_laws_eqAction = [] := by kernel_rfl
theorem l_laws_eqAction : SoundCall Try.prog 18 s_laws_eqAction := by unfold s_laws_eqAction; exact fun_sound_of follows Try.func18 k_laws_eqAction o_laws_eqAction trivial
theorem k_laws_eqActionS : okFun Try.prog Try.f117 f_laws_eqActionS = true := by kernel_rfl
theorem o_laws_eqActionS : funOb Try.prog Try.f117 f_laws_eqActionS = [(18, s_laws_eqAction)] := by kernel_rfl
theorem l_laws_eqActionS : SoundCall Try.prog 117 s_laws_eqActionS := by unfold s_laws_eqActionS; exact fun_sound_of follows Try.func117 k_laws_eqActionS o_laws_eqActionS ⟨l_laws_eqAction, trivial⟩
theorem k_laws_eqActionSS : okFun Try.prog Try.f88 f_laws_eqActionSS = true := by kernel_rfl
theorem o_laws_eqActionSS : funOb Try.prog Try.f88 f_laws_eqActionSS = [(117, s_laws_eqActionS)] := by kernel_rfl
theorem l_laws_eqActionSS : SoundCall Try.prog 88 s_laws_eqActionSS := by unfold s_laws_eqActionSS; exact fun_sound_of follows Try.func88 k_laws_eqActionSS o_laws_eqActionSS ⟨l_laws_eqActionS, trivial⟩
theorem k_laws_eqKeymap : okFun Try.prog Try.f47 f_laws_eqKeymap = true := by kernel_rfl
theorem o_laws_eqKeymap : funOb Try.prog Try.f47 f_laws_eqKeymap = [(88, s_laws_eqActionSS)] := by kernel_rfl
theorem l_laws_eqKeymap : SoundCall Try.prog 47 s_laws_eqKeymap := by unfold s_laws_eqKeymap; exact fun_sound_of follows Try.func47 k_laws_eqKeymap o_laws_eqKeymap ⟨l_laws_eqActionSS, trivial⟩
theorem k_laws_FnExactActionAt : okFun Try.prog Try.f11 f_laws_FnExactActionAt = true := by kernel_rfl
theorem o_laws_FnExactActionAt : funOb Try.prog Try.f11 f_laws_FnExactActionAt = [(43, s_laws_szKeymap), (45, s_laws_toKeymap), (50, s_spec_ActionAt), (45, s_laws_toKeymap), (51, s_impl_ActionAt), (18, s_laws_eqAction), (45, s_laws_toKeymap), (47, s_laws_eqKeymap)] := by kernel_rfl
theorem l_laws_FnExactActionAt : SoundCall Try.prog 11 s_laws_FnExactActionAt := by unfold s_laws_FnExactActionAt; exact fun_sound_of follows Try.func11 k_laws_FnExactActionAt o_laws_FnExactActionAt ⟨l_laws_szKeymap, l_laws_toKeymap, l_spec_ActionAt, l_laws_toKeymap, l_impl_ActionAt, l_laws_eqAction, l_laws_toKeymap, l_laws_eqKeymap, trivial⟩

end Go.Proofs.Ytmjjamfkgingcaa
