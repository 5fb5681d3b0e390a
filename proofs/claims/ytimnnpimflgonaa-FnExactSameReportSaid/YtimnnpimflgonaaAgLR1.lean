/-
  EACH ABSTRACT FUNCTION IS THE SEAT's OWN: checked by the kernel, function by function (written by program, ag.py).
-/
import Derived.Test.YtimnnpimflgonaaChecked
import Derived.Test.YtimnnpimflgonaaAgFun
import Derived.KernelRfl
import Derived.Test.YtimnnpimflgonaaAgPR1
namespace Go.Proofs.Ytimnnpimflgonaa
open Go.Ag

theorem follows : Try.prog.follows .mixedOrders = true := by kernel_rfl
theorem k_spec_l1In : okFun Try.prog Try.f31 f_spec_l1In = true := by kernel_rfl
theorem o_spec_l1In : funOb Try.prog Try.f31 f_spec_l1In = [] := by kernel_rfl
theorem l_spec_l1In : SoundCall Try.prog 31 s_spec_l1In := by unfold s_spec_l1In; exact fun_sound_of follows Try.func31 k_spec_l1In o_spec_l1In trivial
theorem k_spec_IsWordCode : okFun Try.prog Try.f9 f_spec_IsWordCode = true := by kernel_rfl
theorem o_spec_IsWordCode : funOb Try.prog Try.f9 f_spec_IsWordCode = [(31, s_spec_l1In)] := by kernel_rfl
theorem l_spec_IsWordCode : SoundCall Try.prog 9 s_spec_IsWordCode := by unfold s_spec_IsWordCode; exact fun_sound_of follows Try.func9 k_spec_IsWordCode o_spec_IsWordCode ⟨l_spec_l1In, trivial⟩
theorem k_impl_IsWordCode : okFun Try.prog Try.f10 f_impl_IsWordCode = true := by kernel_rfl
theorem o_impl_IsWordCode : funOb Try.prog Try.f10 f_impl_IsWordCode = [] := by kernel_rfl
theorem l_impl_IsWordCode : SoundCall Try.prog 10 s_impl_IsWordCode := by unfold s_impl_IsWordCode; exact fun_sound_of follows Try.func10 k_impl_IsWordCode o_impl_IsWordCode trivial
theorem k_laws_FnExactIsWordCode : okFun Try.prog Try.f3 f_laws_FnExactIsWordCode = true := by kernel_rfl
theorem o_laws_FnExactIsWordCode : funOb Try.prog Try.f3 f_laws_FnExactIsWordCode = [(9, s_spec_IsWordCode), (10, s_impl_IsWordCode)] := by kernel_rfl
theorem l_laws_FnExactIsWordCode : SoundCall Try.prog 3 s_laws_FnExactIsWordCode := by unfold s_laws_FnExactIsWordCode; exact fun_sound_of follows Try.func3 k_laws_FnExactIsWordCode o_laws_FnExactIsWordCode ⟨l_spec_IsWordCode, l_impl_IsWordCode, trivial⟩
theorem k_laws_toTiming : okFun Try.prog Try.f12 f_laws_toTiming = true := by kernel_rfl
theorem o_laws_toTiming : funOb Try.prog Try.f12 f_laws_toTiming = [] := by kernel_rfl
theorem l_laws_toTiming : SoundCall Try.prog 12 s_laws_toTiming := by unfold s_laws_toTiming; exact fun_sound_of follows Try.func12 k_laws_toTiming o_laws_toTiming trivial
theorem k_spec_IsTiming : okFun Try.prog Try.f11 f_spec_IsTiming = true := by kernel_rfl
theorem o_spec_IsTiming : funOb Try.prog Try.f11 f_spec_IsTiming = [(31, s_spec_l1In), (31, s_spec_l1In), (31, s_spec_l1In)] := by kernel_rfl
theorem l_spec_IsTiming : SoundCall Try.prog 11 s_spec_IsTiming := by unfold s_spec_IsTiming; exact fun_sound_of follows Try.func11 k_spec_IsTiming o_spec_IsTiming ⟨l_spec_l1In, l_spec_l1In, l_spec_l1In, trivial⟩
theorem k_impl_IsTiming : okFun Try.prog Try.f13 f_impl_IsTiming = true := by kernel_rfl
theorem o_impl_IsTiming : funOb Try.prog Try.f13 f_impl_IsTiming = [] := by kernel_rfl
theorem l_impl_IsTiming : SoundCall Try.prog 13 s_impl_IsTiming := by unfold s_impl_IsTiming; exact fun_sound_of follows Try.func13 k_impl_IsTiming o_impl_IsTiming trivial
theorem k_laws_FnExactIsTiming : okFun Try.prog Try.f4 f_laws_FnExactIsTiming = true := by kernel_rfl
theorem o_laws_FnExactIsTiming : funOb Try.prog Try.f4 f_laws_FnExactIsTiming = [(12, s_laws_toTiming), (11, s_spec_IsTiming), (12, s_laws_toTiming), (13, s_impl_IsTiming)] := by kernel_rfl
theorem l_laws_FnExactIsTiming : SoundCall Try.prog 4 s_laws_FnExactIsTiming := by unfold s_laws_FnExactIsTiming; exact fun_sound_of follows Try.func4 k_laws_FnExactIsTiming o_laws_FnExactIsTiming ⟨l_laws_toTiming, l_spec_IsTiming, l_laws_toTiming, l_impl_IsTiming, trivial⟩
theorem k_laws_szIntS : okFun Try.prog Try.f32 f_laws_szIntS = true := by kernel_rfl
theorem o_laws_szIntS : funOb Try.prog Try.f32 f_laws_szIntS = [] := by kernel_rfl
theorem l_laws_szIntS : SoundCall Try.prog 32 s_laws_szIntS := by unfold s_laws_szIntS; exact fun_sound_of follows Try.func32 k_laws_szIntS o_laws_szIntS trivial
theorem k_laws_szReport : okFun Try.prog Try.f14 f_laws_szReport = true := by kernel_rfl
theorem o_laws_szReport : funOb Try.prog Try.f14 f_laws_szReport = [(32, s_laws_szIntS)] := by kernel_rfl
theorem l_laws_szReport : SoundCall Try.prog 14 s_laws_szReport := by unfold s_laws_szReport; exact fun_sound_of follows Try.func14 k_laws_szReport o_laws_szReport ⟨l_laws_szIntS, trivial⟩
theorem k_laws_toIntS : okFun Try.prog Try.f33 f_laws_toIntS = true := by kernel_rfl
theorem o_laws_toIntS : funOb Try.prog Try.f33 f_laws_toIntS = [] := by kernel_rfl
theorem l_laws_toIntS : SoundCall Try.prog 33 s_laws_toIntS := by unfold s_laws_toIntS; exact fun_sound_of follows Try.func33 k_laws_toIntS o_laws_toIntS trivial
theorem k_laws_toReport : okFun Try.prog Try.f16 f_laws_toReport = true := by kernel_rfl
theorem o_laws_toReport : funOb Try.prog Try.f16 f_laws_toReport = [(33, s_laws_toIntS)] := by kernel_rfl
theorem l_laws_toReport : SoundCall Try.prog 16 s_laws_toReport := by unfold s_laws_toReport; exact fun_sound_of follows Try.func16 k_laws_toReport o_laws_toReport ⟨l_laws_toIntS, trivial⟩
theorem k_spec_IsReport : okFun Try.prog Try.f15 f_spec_IsReport = true := by kernel_rfl
theorem o_spec_IsReport : funOb Try.prog Try.f15 f_spec_IsReport = [(31, s_spec_l1In), (31, s_spec_l1In)] := by kernel_rfl
theorem l_spec_IsReport : SoundCall Try.prog 15 s_spec_IsReport := by unfold s_spec_IsReport; exact fun_sound_of follows Try.func15 k_spec_IsReport o_spec_IsReport ⟨l_spec_l1In, l_spec_l1In, trivial⟩
theorem k_impl_isCode : okFun Try.prog Try.f34 f_impl_isCode = true := by kernel_rfl
theorem o_impl_isCode : funOb Try.prog Try.f34 f_impl_isCode = [] := by kernel_rfl
theorem l_impl_isCode : SoundCall Try.prog 34 s_impl_isCode := by unfold s_impl_isCode; exact fun_sound_of follows Try.func34 k_impl_isCode o_impl_isCode trivial
theorem k_impl_IsReport : okFun Try.prog Try.f17 f_impl_IsReport = true := by kernel_rfl
theorem o_impl_IsReport : funOb Try.prog Try.f17 f_impl_IsReport = [(34, s_impl_isCode)] := by kernel_rfl
theorem l_impl_IsReport : SoundCall Try.prog 17 s_impl_IsReport := by unfold s_impl_IsReport; exact fun_sound_of follows Try.func17 k_impl_IsReport o_impl_IsReport ⟨l_impl_isCode, trivial⟩
theorem k_laws_eqIntS : okFun Try.prog Try.f35 f_laws_eqIntS = true := by kernel_rfl
theorem o_laws_eqIntS : funOb Try.prog Try.f35 f_laws_eqIntS = [] := by kernel_rfl
theorem l_laws_eqIntS : SoundCall Try.prog 35 s_laws_eqIntS := by unfold s_laws_eqIntS; exact fun_sound_of follows Try.func35 k_laws_eqIntS o_laws_eqIntS trivial
theorem k_laws_eqReport : okFun Try.prog Try.f18 f_laws_eqReport = true := by kernel_rfl
theorem o_laws_eqReport : funOb Try.prog Try.f18 f_laws_eqReport = [(35, s_laws_eqIntS)] := by kernel_rfl
theorem l_laws_eqReport : SoundCall Try.prog 18 s_laws_eqReport := by unfold s_laws_eqReport; exact fun_sound_of follows Try.func18 k_laws_eqReport o_laws_eqReport ⟨l_laws_eqIntS, trivial⟩
theorem k_laws_FnExactIsReport : okFun Try.prog Try.f5 f_laws_FnExactIsReport = true := by kernel_rfl
theorem o_laws_FnExactIsReport : funOb Try.prog Try.f5 f_laws_FnExactIsReport = [(14, s_laws_szReport), (16, s_laws_toReport), (15, s_spec_IsReport), (16, s_laws_toReport), (17, s_impl_IsReport), (16, s_laws_toReport), (18, s_laws_eqReport)] := by kernel_rfl
theorem l_laws_FnExactIsReport : SoundCall Try.prog 5 s_laws_FnExactIsReport := by unfold s_laws_FnExactIsReport; exact fun_sound_of follows Try.func5 k_laws_FnExactIsReport o_laws_FnExactIsReport ⟨l_laws_szReport, l_laws_toReport, l_spec_IsReport, l_laws_toReport, l_impl_IsReport, l_laws_toReport, l_laws_eqReport, trivial⟩
theorem k_spec_SameReport : okFun Try.prog Try.f19 f_spec_SameReport = true := by kernel_rfl
theorem o_spec_SameReport : funOb Try.prog Try.f19 f_spec_SameReport = [] := by kernel_rfl
theorem l_spec_SameReport : SoundCall Try.prog 19 s_spec_SameReport := by unfold s_spec_SameReport; exact fun_sound_of follows Try.func19 k_spec_SameReport o_spec_SameReport trivial
theorem k_impl_sameInts : okFun Try.prog Try.f36 f_impl_sameInts = true := by kernel_rfl
theorem o_impl_sameInts : funOb Try.prog Try.f36 f_impl_sameInts = [] := by kernel_rfl
theorem l_impl_sameInts : SoundCall Try.prog 36 s_impl_sameInts := by unfold s_impl_sameInts; exact fun_sound_of follows Try.func36 k_impl_sameInts o_impl_sameInts trivial
theorem k_impl_SameReport : okFun Try.prog Try.f20 f_impl_SameReport = true := by kernel_rfl
theorem o_impl_SameReport : funOb Try.prog Try.f20 f_impl_SameReport = [(36, s_impl_sameInts)] := by kernel_rfl
theorem l_impl_SameReport : SoundCall Try.prog 20 s_impl_SameReport := by unfold s_impl_SameReport; exact fun_sound_of follows Try.func20 k_impl_SameReport o_impl_SameReport ⟨l_impl_sameInts, trivial⟩
theorem k_laws_FnExactSameReport : okFun Try.prog Try.f6 f_laws_FnExactSameReport = true := by kernel_rfl
theorem o_laws_FnExactSameReport : funOb Try.prog Try.f6 f_laws_FnExactSameReport = [(14, s_laws_szReport), (14, s_laws_szReport), (16, s_laws_toReport), (16, s_laws_toReport), (19, s_spec_SameReport), (16, s_laws_toReport), (16, s_laws_toReport), (20, s_impl_SameReport), (16, s_laws_toReport), (18, s_laws_eqReport), (16, s_laws_toReport), (18, s_laws_eqReport)] := by kernel_rfl
theorem l_laws_FnExactSameReport : SoundCall Try.prog 6 s_laws_FnExactSameReport := by unfold s_laws_FnExactSameReport; exact fun_sound_of follows Try.func6 k_laws_FnExactSameReport o_laws_FnExactSameReport ⟨l_laws_szReport, l_laws_szReport, l_laws_toReport, l_laws_toReport, l_spec_SameReport, l_laws_toReport, l_laws_toReport, l_impl_SameReport, l_laws_toReport, l_laws_eqReport, l_laws_toReport, l_laws_eqReport, trivial⟩
theorem k_laws_toByteS : okFun Try.prog Try.f22 f_laws_toByteS = true := by kernel_rfl
theorem o_laws_toByteS : funOb Try.prog Try.f22 f_laws_toByteS = [] := by kernel_rfl
theorem l_laws_toByteS : SoundCall Try.prog 22 s_laws_toByteS := by unfold s_laws_toByteS; exact fun_sound_of follows Try.func22 k_laws_toByteS o_laws_toByteS trivial
theorem k_spec_ReadBits : okFun Try.prog Try.f21 f_spec_ReadBits = true := by kernel_rfl
theorem o_spec_ReadBits : funOb Try.prog Try.f21 f_spec_ReadBits = [] := by kernel_rfl
theorem l_spec_ReadBits : SoundCall Try.prog 21 s_spec_ReadBits := by unfold s_spec_ReadBits; exact fun_sound_of follows Try.func21 k_spec_ReadBits o_spec_ReadBits trivial
theorem k_impl_ReadBits : okFun Try.prog Try.f23 f_impl_ReadBits = true := by kernel_rfl
theorem o_impl_ReadBits : funOb Try.prog Try.f23 f_impl_ReadBits = [] := by kernel_rfl
theorem l_impl_ReadBits : SoundCall Try.prog 23 s_impl_ReadBits := by unfold s_impl_ReadBits; exact fun_sound_of follows Try.func23 k_impl_ReadBits o_impl_ReadBits trivial
theorem k_laws_eqByteS : okFun Try.prog Try.f24 f_laws_eqByteS = true := by kernel_rfl
theorem o_laws_eqByteS : funOb Try.prog Try.f24 f_laws_eqByteS = [] := by kernel_rfl
theorem l_laws_eqByteS : SoundCall Try.prog 24 s_laws_eqByteS := by unfold s_laws_eqByteS; exact fun_sound_of follows Try.func24 k_laws_eqByteS o_laws_eqByteS trivial
theorem k_laws_markByteS : okFun Try.prog Try.f25 f_laws_markByteS = true := by kernel_rfl
theorem o_laws_markByteS : funOb Try.prog Try.f25 f_laws_markByteS = [] := by kernel_rfl
theorem l_laws_markByteS : SoundCall Try.prog 25 s_laws_markByteS := by unfold s_laws_markByteS; exact fun_sound_of follows Try.func25 k_laws_markByteS o_laws_markByteS trivial
theorem k_laws_markIntS : okFun Try.prog Try.f37 f_laws_markIntS = true := by kernel_rfl
theorem o_laws_markIntS : funOb Try.prog Try.f37 f_laws_markIntS = [] := by kernel_rfl
theorem l_laws_markIntS : SoundCall Try.prog 37 s_laws_markIntS := by unfold s_laws_markIntS; exact fun_sound_of follows Try.func37 k_laws_markIntS o_laws_markIntS trivial
theorem k_laws_markReport : okFun Try.prog Try.f26 f_laws_markReport = true := by kernel_rfl
theorem o_laws_markReport : funOb Try.prog Try.f26 f_laws_markReport = [(37, s_laws_markIntS)] := by kernel_rfl
theorem l_laws_markReport : SoundCall Try.prog 26 s_laws_markReport := by unfold s_laws_markReport; exact fun_sound_of follows Try.func26 k_laws_markReport o_laws_markReport ⟨l_laws_markIntS, trivial⟩
theorem k_laws_heldIntS : okFun Try.prog Try.f38 f_laws_heldIntS = true := by kernel_rfl
theorem o_laws_heldIntS : funOb Try.prog Try.f38 f_laws_heldIntS = [] := by kernel_rfl
theorem l_laws_heldIntS : SoundCall Try.prog 38 s_laws_heldIntS := by unfold s_laws_heldIntS; exact fun_sound_of follows Try.func38 k_laws_heldIntS o_laws_heldIntS trivial
theorem k_laws_heldReport : okFun Try.prog Try.f27 f_laws_heldReport = true := by kernel_rfl
theorem o_laws_heldReport : funOb Try.prog Try.f27 f_laws_heldReport = [(38, s_laws_heldIntS)] := by kernel_rfl
theorem l_laws_heldReport : SoundCall Try.prog 27 s_laws_heldReport := by unfold s_laws_heldReport; exact fun_sound_of follows Try.func27 k_laws_heldReport o_laws_heldReport ⟨l_laws_heldIntS, trivial⟩
theorem k_laws_FnExactReadBits : okFun Try.prog Try.f7 f_laws_FnExactReadBits = true := by kernel_rfl
theorem o_laws_FnExactReadBits : funOb Try.prog Try.f7 f_laws_FnExactReadBits = [(22, s_laws_toByteS), (21, s_spec_ReadBits), (22, s_laws_toByteS), (23, s_impl_ReadBits), (18, s_laws_eqReport), (22, s_laws_toByteS), (24, s_laws_eqByteS), (25, s_laws_markByteS), (18, s_laws_eqReport), (26, s_laws_markReport), (27, s_laws_heldReport), (22, s_laws_toByteS), (23, s_impl_ReadBits), (18, s_laws_eqReport), (27, s_laws_heldReport)] := by kernel_rfl
theorem l_laws_FnExactReadBits : SoundCall Try.prog 7 s_laws_FnExactReadBits := by unfold s_laws_FnExactReadBits; exact fun_sound_of follows Try.func7 k_laws_FnExactReadBits o_laws_FnExactReadBits ⟨l_laws_toByteS, l_spec_ReadBits, l_laws_toByteS, l_impl_ReadBits, l_laws_eqReport, l_laws_toByteS, l_laws_eqByteS, l_laws_markByteS, l_laws_eqReport, l_laws_markReport, l_laws_heldReport, l_laws_toByteS, l_impl_ReadBits, l_laws_eqReport, l_laws_heldReport, trivial⟩
theorem k_spec_IsAction : okFun Try.prog Try.f39 f_spec_IsAction = true := by kernel_rfl
theorem o_spec_IsAction : funOb Try.prog Try.f39 f_spec_IsAction = [(31, s_spec_l1In), (31, s_spec_l1In), (31, s_spec_l1In), (31, s_spec_l1In)] := by kernel_rfl
theorem l_spec_IsAction : SoundCall Try.prog 39 s_spec_IsAction := by unfold s_spec_IsAction; exact fun_sound_of follows Try.func39 k_spec_IsAction o_spec_IsAction ⟨l_spec_l1In, l_spec_l1In, l_spec_l1In, l_spec_l1In, trivial⟩
theorem k_spec_UnpackAction : okFun Try.prog Try.f28 f_spec_UnpackAction = true := by kernel_rfl
theorem o_spec_UnpackAction : funOb Try.prog Try.f28 f_spec_UnpackAction = [(39, s_spec_IsAction)] := by kernel_rfl
theorem l_spec_UnpackAction : SoundCall Try.prog 28 s_spec_UnpackAction := by unfold s_spec_UnpackAction; exact fun_sound_of follows Try.func28 k_spec_UnpackAction o_spec_UnpackAction ⟨l_spec_IsAction, trivial⟩
theorem k_impl_isMods : okFun Try.prog Try.f41 f_impl_isMods = true := by kernel_rfl
theorem o_impl_isMods : funOb Try.prog Try.f41 f_impl_isMods = [] := by kernel_rfl
theorem l_impl_isMods : SoundCall Try.prog 41 s_impl_isMods := by unfold s_impl_isMods; exact fun_sound_of follows Try.func41 k_impl_isMods o_impl_isMods trivial
theorem k_impl_isUpper : okFun Try.prog Try.f42 f_impl_isUpper = true := by kernel_rfl
theorem o_impl_isUpper : funOb Try.prog Try.f42 f_impl_isUpper = [] := by kernel_rfl
theorem l_impl_isUpper : SoundCall Try.prog 42 s_impl_isUpper := by unfold s_impl_isUpper; exact fun_sound_of follows Try.func42 k_impl_isUpper o_impl_isUpper trivial
theorem k_impl_IsAction : okFun Try.prog Try.f40 f_impl_IsAction = true := by kernel_rfl
theorem o_impl_IsAction : funOb Try.prog Try.f40 f_impl_IsAction = [(34, s_impl_isCode), (41, s_impl_isMods), (42, s_impl_isUpper), (34, s_impl_isCode), (41, s_impl_isMods), (34, s_impl_isCode), (42, s_impl_isUpper), (41, s_impl_isMods)] := by kernel_rfl
theorem l_impl_IsAction : SoundCall Try.prog 40 s_impl_IsAction := by unfold s_impl_IsAction; exact fun_sound_of follows Try.func40 k_impl_IsAction o_impl_IsAction ⟨l_impl_isCode, l_impl_isMods, l_impl_isUpper, l_impl_isCode, l_impl_isMods, l_impl_isCode, l_impl_isUpper, l_impl_isMods, trivial⟩
theorem k_impl_UnpackAction : okFun Try.prog Try.f29 f_impl_UnpackAction = true := by kernel_rfl
theorem o_impl_UnpackAction : funOb Try.prog Try.f29 f_impl_UnpackAction = [(40, s_impl_IsAction)] := by kernel_rfl
theorem l_impl_UnpackAction : SoundCall Try.prog 29 s_impl_UnpackAction := by unfold s_impl_UnpackAction; exact fun_sound_of follows Try.func29 k_impl_UnpackAction o_impl_UnpackAction ⟨l_impl_IsAction, trivial⟩
theorem k_laws_eqAction : okFun Try.prog Try.f30 f_laws_eqAction = true := by kernel_rfl
theorem o_laws_eqAction : funOb Try.prog Try.f30 f_laws_eqAction = [] := by kernel_rfl
theorem l_laws_eqAction : SoundCall Try.prog 30 s_laws_eqAction := by unfold s_laws_eqAction; exact fun_sound_of follows Try.func30 k_laws_eqAction o_laws_eqAction trivial
theorem k_laws_FnExactUnpackAction : okFun Try.prog Try.f8 f_laws_FnExactUnpackAction = true := by kernel_rfl
theorem o_laws_FnExactUnpackAction : funOb Try.prog Try.f8 f_laws_FnExactUnpackAction = [(22, s_laws_toByteS), (28, s_spec_UnpackAction), (22, s_laws_toByteS), (29, s_impl_UnpackAction), (30, s_laws_eqAction), (22, s_laws_toByteS), (24, s_laws_eqByteS)] := by kernel_rfl
theorem l_laws_FnExactUnpackAction : SoundCall Try.prog 8 s_laws_FnExactUnpackAction := by unfold s_laws_FnExactUnpackAction; exact fun_sound_of follows Try.func8 k_laws_FnExactUnpackAction o_laws_FnExactUnpackAction ⟨l_laws_toByteS, l_spec_UnpackAction, l_laws_toByteS, l_impl_UnpackAction, l_laws_eqAction, l_laws_toByteS, l_laws_eqByteS, trivial⟩

end Go.Proofs.Ytimnnpimflgonaa
