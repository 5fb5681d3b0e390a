/-
  EACH ABSTRACT FUNCTION IS THE SEAT's OWN: checked by the kernel, function by function (written by program, ag.py).
-/
import Derived.Test.YtmjjamfkgingcaaChecked
import Derived.KernelRfl
import Derived.Test.YtmjjamfkgingcaaLibF
namespace Go.Proofs.Ytmjjamfkgingcaa
open Go.Ag

theorem follows : Try.prog.follows .mixedOrders = true := by kernel_rfl
theorem k_laws_szActionS : okFun Try.prog Try.f115 f_laws_szActionS = true := by kernel_rfl
theorem o_laws_szActionS : funOb Try.prog Try.f115 f_laws_szActionS = [] := by kernel_rfl
theorem l_laws_szActionS : SoundCall Try.prog 115 s_laws_szActionS := by unfold s_laws_szActionS; exact fun_sound_of follows Try.func115 k_laws_szActionS o_laws_szActionS trivial
theorem k_laws_szActionSS : okFun Try.prog Try.f86 f_laws_szActionSS = true := by kernel_rfl
theorem o_laws_szActionSS : funOb Try.prog Try.f86 f_laws_szActionSS = [(115, s_laws_szActionS)] := by kernel_rfl
theorem l_laws_szActionSS : SoundCall Try.prog 86 s_laws_szActionSS := by unfold s_laws_szActionSS; exact fun_sound_of follows Try.func86 k_laws_szActionSS o_laws_szActionSS ⟨l_laws_szActionS, trivial⟩
theorem k_laws_szKeymap : okFun Try.prog Try.f43 f_laws_szKeymap = true := by kernel_rfl
theorem o_laws_szKeymap : funOb Try.prog Try.f43 f_laws_szKeymap = [(86, s_laws_szActionSS)] := by kernel_rfl
theorem l_laws_szKeymap : SoundCall Try.prog 43 s_laws_szKeymap := by unfold s_laws_szKeymap; exact fun_sound_of follows Try.func43 k_laws_szKeymap o_laws_szKeymap ⟨l_laws_szActionSS, trivial⟩
theorem k_laws_szStepS : okFun Try.prog Try.f59 f_laws_szStepS = true := by kernel_rfl
theorem o_laws_szStepS : funOb Try.prog Try.f59 f_laws_szStepS = [] := by kernel_rfl
theorem l_laws_szStepS : SoundCall Try.prog 59 s_laws_szStepS := by unfold s_laws_szStepS; exact fun_sound_of follows Try.func59 k_laws_szStepS o_laws_szStepS trivial
theorem k_laws_szStepSS : okFun Try.prog Try.f90 f_laws_szStepSS = true := by kernel_rfl
theorem o_laws_szStepSS : funOb Try.prog Try.f90 f_laws_szStepSS = [(59, s_laws_szStepS)] := by kernel_rfl
theorem l_laws_szStepSS : SoundCall Try.prog 90 s_laws_szStepSS := by unfold s_laws_szStepSS; exact fun_sound_of follows Try.func90 k_laws_szStepSS o_laws_szStepSS ⟨l_laws_szStepS, trivial⟩
theorem k_laws_szHeldS : okFun Try.prog Try.f31 f_laws_szHeldS = true := by kernel_rfl
theorem o_laws_szHeldS : funOb Try.prog Try.f31 f_laws_szHeldS = [] := by kernel_rfl
theorem l_laws_szHeldS : SoundCall Try.prog 31 s_laws_szHeldS := by unfold s_laws_szHeldS; exact fun_sound_of follows Try.func31 k_laws_szHeldS o_laws_szHeldS trivial
theorem k_laws_szEngine : okFun Try.prog Try.f52 f_laws_szEngine = true := by kernel_rfl
theorem o_laws_szEngine : funOb Try.prog Try.f52 f_laws_szEngine = [(43, s_laws_szKeymap), (90, s_laws_szStepSS), (31, s_laws_szHeldS)] := by kernel_rfl
theorem l_laws_szEngine : SoundCall Try.prog 52 s_laws_szEngine := by unfold s_laws_szEngine; exact fun_sound_of follows Try.func52 k_laws_szEngine o_laws_szEngine ⟨l_laws_szKeymap, l_laws_szStepSS, l_laws_szHeldS, trivial⟩
theorem k_laws_toAction : okFun Try.prog Try.f110 f_laws_toAction = true := by kernel_rfl
theorem o_laws_toAction : funOb Try.prog Try.f110 f_laws_toAction = [] := by kernel_rfl
theorem l_laws_toAction : SoundCall Try.prog 110 s_laws_toAction := by unfold s_laws_toAction; exact fun_sound_of follows Try.func110 k_laws_toAction o_laws_toAction trivial
theorem k_laws_toActionS : okFun Try.prog Try.f116 f_laws_toActionS = true := by kernel_rfl
theorem o_laws_toActionS : funOb Try.prog Try.f116 f_laws_toActionS = [(110, s_laws_toAction)] := by kernel_rfl
theorem l_laws_toActionS : SoundCall Try.prog 116 s_laws_toActionS := by unfold s_laws_toActionS; exact fun_sound_of follows Try.func116 k_laws_toActionS o_laws_toActionS ⟨l_laws_toAction, trivial⟩
theorem k_laws_toActionSS : okFun Try.prog Try.f87 f_laws_toActionSS = true := by kernel_rfl
theorem o_laws_toActionSS : funOb Try.prog Try.f87 f_laws_toActionSS = [(116, s_laws_toActionS)] := by kernel_rfl
theorem l_laws_toActionSS : SoundCall Try.prog 87 s_laws_toActionSS := by unfold s_laws_toActionSS; exact fun_sound_of follows Try.func87 k_laws_toActionSS o_laws_toActionSS ⟨l_laws_toActionS, trivial⟩
theorem k_laws_toKeymap : okFun Try.prog Try.f45 f_laws_toKeymap = true := by kernel_rfl
theorem o_laws_toKeymap : funOb Try.prog Try.f45 f_laws_toKeymap = [(87, s_laws_toActionSS)] := by kernel_rfl
theorem l_laws_toKeymap : SoundCall Try.prog 45 s_laws_toKeymap := by unfold s_laws_toKeymap; exact fun_sound_of follows Try.func45 k_laws_toKeymap o_laws_toKeymap ⟨l_laws_toActionSS, trivial⟩
theorem k_laws_toStep : okFun Try.prog Try.f102 f_laws_toStep = true := by kernel_rfl
theorem o_laws_toStep : funOb Try.prog Try.f102 f_laws_toStep = [] := by kernel_rfl
theorem l_laws_toStep : SoundCall Try.prog 102 s_laws_toStep := by unfold s_laws_toStep; exact fun_sound_of follows Try.func102 k_laws_toStep o_laws_toStep trivial
theorem k_laws_toStepS : okFun Try.prog Try.f61 f_laws_toStepS = true := by kernel_rfl
theorem o_laws_toStepS : funOb Try.prog Try.f61 f_laws_toStepS = [(102, s_laws_toStep)] := by kernel_rfl
theorem l_laws_toStepS : SoundCall Try.prog 61 s_laws_toStepS := by unfold s_laws_toStepS; exact fun_sound_of follows Try.func61 k_laws_toStepS o_laws_toStepS ⟨l_laws_toStep, trivial⟩
theorem k_laws_toStepSS : okFun Try.prog Try.f91 f_laws_toStepSS = true := by kernel_rfl
theorem o_laws_toStepSS : funOb Try.prog Try.f91 f_laws_toStepSS = [(61, s_laws_toStepS)] := by kernel_rfl
theorem l_laws_toStepSS : SoundCall Try.prog 91 s_laws_toStepSS := by unfold s_laws_toStepSS; exact fun_sound_of follows Try.func91 k_laws_toStepSS o_laws_toStepSS ⟨l_laws_toStepS, trivial⟩
theorem k_laws_toHeld : okFun Try.prog Try.f79 f_laws_toHeld = true := by kernel_rfl
theorem o_laws_toHeld : funOb Try.prog Try.f79 f_laws_toHeld = [(110, s_laws_toAction)] := by kernel_rfl
theorem l_laws_toHeld : SoundCall Try.prog 79 s_laws_toHeld := by unfold s_laws_toHeld; exact fun_sound_of follows Try.func79 k_laws_toHeld o_laws_toHeld ⟨l_laws_toAction, trivial⟩
theorem k_laws_toHeldS : okFun Try.prog Try.f33 f_laws_toHeldS = true := by kernel_rfl
theorem o_laws_toHeldS : funOb Try.prog Try.f33 f_laws_toHeldS = [(79, s_laws_toHeld)] := by kernel_rfl
theorem l_laws_toHeldS : SoundCall Try.prog 33 s_laws_toHeldS := by unfold s_laws_toHeldS; exact fun_sound_of follows Try.func33 k_laws_toHeldS o_laws_toHeldS ⟨l_laws_toHeld, trivial⟩
theorem k_laws_toEngine : okFun Try.prog Try.f54 f_laws_toEngine = true := by kernel_rfl
theorem o_laws_toEngine : funOb Try.prog Try.f54 f_laws_toEngine = [(45, s_laws_toKeymap), (91, s_laws_toStepSS), (33, s_laws_toHeldS)] := by kernel_rfl
theorem l_laws_toEngine : SoundCall Try.prog 54 s_laws_toEngine := by unfold s_laws_toEngine; exact fun_sound_of follows Try.func54 k_laws_toEngine o_laws_toEngine ⟨l_laws_toKeymap, l_laws_toStepSS, l_laws_toHeldS, trivial⟩
theorem k_spec_HeldAt : okFun Try.prog Try.f53 f_spec_HeldAt = true := by kernel_rfl
theorem o_spec_HeldAt : funOb Try.prog Try.f53 f_spec_HeldAt = [] := by kernel_rfl
theorem l_spec_HeldAt : SoundCall Try.prog 53 s_spec_HeldAt := by unfold s_spec_HeldAt; exact fun_sound_of follows Try.func53 k_spec_HeldAt o_spec_HeldAt trivial
theorem k_impl_HeldAt : okFun Try.prog Try.f55 f_impl_HeldAt = true := by kernel_rfl
theorem o_impl_HeldAt : funOb Try.prog Try.f55 f_impl_HeldAt = [] := by kernel_rfl
theorem l_impl_HeldAt : SoundCall Try.prog 55 s_impl_HeldAt := by unfold s_impl_HeldAt; exact fun_sound_of follows Try.func55 k_impl_HeldAt o_impl_HeldAt trivial
theorem k_laws_eqAction : okFun Try.prog Try.f18 f_laws_eqAction = true := by kernel_rfl
theorem o_laws_eqAction : funOb Try.prog Try.f18 f_laws_eqAction = [] := by kernel_rfl
theorem l_laws_eqAction : SoundCall Try.prog 18 s_laws_eqAction := by unfold s_laws_eqAction; exact fun_sound_of follows Try.func18 k_laws_eqAction o_laws_eqAction trivial
theorem k_laws_eqActionS : okFun Try.prog Try.f117 f_laws_eqActionS = true := by kernel_rfl
theorem o_laws_eqActionS : funOb Try.prog Try.f117 f_laws_eqActionS = [(18, s_laws_eqAction)] := by kernel_rfl
theorem l_laws_eqActionS : SoundCall Try.prog 117 s_laws_eqActionS := by unfold s_laws_eqActionS; exact fun_sound_of follows Try.func117 k_laws_eqActionS o_laws_eqActionS ⟨l_laws_eqAction, trivial⟩
theorem k_laws_eqActionSS : okFun Try.prog Try.f88 f_laws_eqActionSS = true := by kernel_rfl
theorem o_laws_eqActionSS : funOb Try.prog Try.f88 f_laws_eqActionSS = [(117, s_laws_eqActionS)] := by kernel_rfl
theorem l_laws_eqActionSS : SoundCall Try.prog 88 s_laws_eqActionSS := by unfold s_laws_eqActionSS; exact fun_sound_of follows Try.func88 k_laws_eqActionSS o_laws_eqActionSS ⟨l_laws_eqActionS, trivial⟩
theorem k_laws_eqKeymap : okFun Try.prog Try.f47 f_laws_eqKeymap = true := by kernel_rfl
theorem o_laws_eqKeymap : funOb Try.prog Try.f47 f_laws_eqKeymap = [(88, s_laws_eqActionSS)] := by kernel_rfl
theorem l_laws_eqKeymap : SoundCall Try.prog 47 s_laws_eqKeymap := by unfold s_laws_eqKeymap; exact fun_sound_of follows Try.func47 k_laws_eqKeymap o_laws_eqKeymap ⟨l_laws_eqActionSS, trivial⟩
theorem k_laws_eqStep : okFun Try.prog Try.f104 f_laws_eqStep = true := by kernel_rfl
theorem o_laws_eqStep : funOb Try.prog Try.f104 f_laws_eqStep = [] := by kernel_rfl
theorem l_laws_eqStep : SoundCall Try.prog 104 s_laws_eqStep := by unfold s_laws_eqStep; exact fun_sound_of follows Try.func104 k_laws_eqStep o_laws_eqStep trivial
theorem k_laws_eqStepS : okFun Try.prog Try.f63 f_laws_eqStepS = true := by kernel_rfl
theorem o_laws_eqStepS : funOb Try.prog Try.f63 f_laws_eqStepS = [(104, s_laws_eqStep)] := by kernel_rfl
theorem l_laws_eqStepS : SoundCall Try.prog 63 s_laws_eqStepS := by unfold s_laws_eqStepS; exact fun_sound_of follows Try.func63 k_laws_eqStepS o_laws_eqStepS ⟨l_laws_eqStep, trivial⟩
theorem k_laws_eqStepSS : okFun Try.prog Try.f92 f_laws_eqStepSS = true := by kernel_rfl
theorem o_laws_eqStepSS : funOb Try.prog Try.f92 f_laws_eqStepSS = [(63, s_laws_eqStepS)] := by kernel_rfl
theorem l_laws_eqStepSS : SoundCall Try.prog 92 s_laws_eqStepSS := by unfold s_laws_eqStepSS; exact fun_sound_of follows Try.func92 k_laws_eqStepSS o_laws_eqStepSS ⟨l_laws_eqStepS, trivial⟩
theorem k_laws_eqHeld : okFun Try.prog Try.f80 f_laws_eqHeld = true := by kernel_rfl
theorem o_laws_eqHeld : funOb Try.prog Try.f80 f_laws_eqHeld = [(18, s_laws_eqAction)] := by kernel_rfl
theorem l_laws_eqHeld : SoundCall Try.prog 80 s_laws_eqHeld := by unfold s_laws_eqHeld; exact fun_sound_of follows Try.func80 k_laws_eqHeld o_laws_eqHeld ⟨l_laws_eqAction, trivial⟩
theorem k_laws_eqHeldS : okFun Try.prog Try.f35 f_laws_eqHeldS = true := by kernel_rfl
theorem o_laws_eqHeldS : funOb Try.prog Try.f35 f_laws_eqHeldS = [(80, s_laws_eqHeld)] := by kernel_rfl
theorem l_laws_eqHeldS : SoundCall Try.prog 35 s_laws_eqHeldS := by unfold s_laws_eqHeldS; exact fun_sound_of follows Try.func35 k_laws_eqHeldS o_laws_eqHeldS ⟨l_laws_eqHeld, trivial⟩
theorem k_laws_eqEngine : okFun Try.prog Try.f56 f_laws_eqEngine = true := by kernel_rfl
theorem o_laws_eqEngine : funOb Try.prog Try.f56 f_laws_eqEngine = [(47, s_laws_eqKeymap), (92, s_laws_eqStepSS), (35, s_laws_eqHeldS)] := by kernel_rfl
theorem l_laws_eqEngine : SoundCall Try.prog 56 s_laws_eqEngine := by unfold s_laws_eqEngine; exact fun_sound_of follows Try.func56 k_laws_eqEngine o_laws_eqEngine ⟨l_laws_eqKeymap, l_laws_eqStepSS, l_laws_eqHeldS, trivial⟩
theorem k_laws_FnExactHeldAt : okFun Try.prog Try.f12 f_laws_FnExactHeldAt = true := by kernel_rfl
theorem o_laws_FnExactHeldAt : funOb Try.prog Try.f12 f_laws_FnExactHeldAt = [(52, s_laws_szEngine), (54, s_laws_toEngine), (53, s_spec_HeldAt), (54, s_laws_toEngine), (55, s_impl_HeldAt), (54, s_laws_toEngine), (56, s_laws_eqEngine)] := by kernel_rfl
theorem l_laws_FnExactHeldAt : SoundCall Try.prog 12 s_laws_FnExactHeldAt := by unfold s_laws_FnExactHeldAt; exact fun_sound_of follows Try.func12 k_laws_FnExactHeldAt o_laws_FnExactHeldAt ⟨l_laws_szEngine, l_laws_toEngine, l_spec_HeldAt, l_laws_toEngine, l_impl_HeldAt, l_laws_toEngine, l_laws_eqEngine, trivial⟩

end Go.Proofs.Ytmjjamfkgingcaa
