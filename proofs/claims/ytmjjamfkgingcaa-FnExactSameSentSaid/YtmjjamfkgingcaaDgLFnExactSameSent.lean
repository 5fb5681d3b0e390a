/-
  EACH ABSTRACT FUNCTION IS THE SEAT's OWN: checked by the kernel, function by function (written by program, ag.py).
-/
import Derived.Test.YtmjjamfkgingcaaChecked
import Derived.Test.YtmjjamfkgingcaaLibA
import Derived.KernelRfl
import Derived.Test.YtmjjamfkgingcaaDgP5
namespace Go.Proofs.Ytmjjamfkgingcaa
open Go.Ag

theorem follows : Try.prog.follows .mixedOrders = true := by kernel_rfl
theorem k_laws_szIntS : okFun Try.prog Try.f118 f_laws_szIntS = true := by kernel_rfl
theorem o_laws_szIntS : funOb Try.prog Try.f118 f_laws_szIntS = [] := by kernel_rfl
theorem l_laws_szIntS : SoundCall Try.prog 118 s_laws_szIntS := by unfold s_laws_szIntS; exact fun_sound_of follows Try.func118 k_laws_szIntS o_laws_szIntS trivial
theorem k_laws_szReport : okFun Try.prog Try.f111 f_laws_szReport = true := by kernel_rfl
theorem o_laws_szReport : funOb Try.prog Try.f111 f_laws_szReport = [(118, s_laws_szIntS)] := by kernel_rfl
theorem l_laws_szReport : SoundCall Try.prog 111 s_laws_szReport := by unfold s_laws_szReport; exact fun_sound_of follows Try.func111 k_laws_szReport o_laws_szReport ⟨l_laws_szIntS, trivial⟩
theorem k_laws_szSent : okFun Try.prog Try.f81 f_laws_szSent = true := by kernel_rfl
theorem o_laws_szSent : funOb Try.prog Try.f81 f_laws_szSent = [(111, s_laws_szReport)] := by kernel_rfl
theorem l_laws_szSent : SoundCall Try.prog 81 s_laws_szSent := by unfold s_laws_szSent; exact fun_sound_of follows Try.func81 k_laws_szSent o_laws_szSent ⟨l_laws_szReport, trivial⟩
theorem k_laws_szSentS : okFun Try.prog Try.f36 f_laws_szSentS = true := by kernel_rfl
theorem o_laws_szSentS : funOb Try.prog Try.f36 f_laws_szSentS = [(81, s_laws_szSent)] := by kernel_rfl
theorem l_laws_szSentS : SoundCall Try.prog 36 s_laws_szSentS := by unfold s_laws_szSentS; exact fun_sound_of follows Try.func36 k_laws_szSentS o_laws_szSentS ⟨l_laws_szSent, trivial⟩
theorem k_laws_toIntS : okFun Try.prog Try.f119 f_laws_toIntS = true := by kernel_rfl
theorem o_laws_toIntS : funOb Try.prog Try.f119 f_laws_toIntS = [] := by kernel_rfl
theorem l_laws_toIntS : SoundCall Try.prog 119 s_laws_toIntS := by unfold s_laws_toIntS; exact fun_sound_of follows Try.func119 k_laws_toIntS o_laws_toIntS trivial
theorem k_laws_toReport : okFun Try.prog Try.f112 f_laws_toReport = true := by kernel_rfl
theorem o_laws_toReport : funOb Try.prog Try.f112 f_laws_toReport = [(119, s_laws_toIntS)] := by kernel_rfl
theorem l_laws_toReport : SoundCall Try.prog 112 s_laws_toReport := by unfold s_laws_toReport; exact fun_sound_of follows Try.func112 k_laws_toReport o_laws_toReport ⟨l_laws_toIntS, trivial⟩
theorem k_laws_toSent : okFun Try.prog Try.f83 f_laws_toSent = true := by kernel_rfl
theorem o_laws_toSent : funOb Try.prog Try.f83 f_laws_toSent = [(112, s_laws_toReport)] := by kernel_rfl
theorem l_laws_toSent : SoundCall Try.prog 83 s_laws_toSent := by unfold s_laws_toSent; exact fun_sound_of follows Try.func83 k_laws_toSent o_laws_toSent ⟨l_laws_toReport, trivial⟩
theorem k_laws_toSentS : okFun Try.prog Try.f38 f_laws_toSentS = true := by kernel_rfl
theorem o_laws_toSentS : funOb Try.prog Try.f38 f_laws_toSentS = [(83, s_laws_toSent)] := by kernel_rfl
theorem l_laws_toSentS : SoundCall Try.prog 38 s_laws_toSentS := by unfold s_laws_toSentS; exact fun_sound_of follows Try.func38 k_laws_toSentS o_laws_toSentS ⟨l_laws_toSent, trivial⟩
theorem k_spec_SameReport : okFun Try.prog Try.f82 f_spec_SameReport = true := by kernel_rfl
theorem o_spec_SameReport : funOb Try.prog Try.f82 f_spec_SameReport = [] := by kernel_rfl
theorem l_spec_SameReport : SoundCall Try.prog 82 s_spec_SameReport := by unfold s_spec_SameReport; exact fun_sound_of follows Try.func82 k_spec_SameReport o_spec_SameReport trivial
theorem k_spec_SameSent : okFun Try.prog Try.f37 f_spec_SameSent = true := by kernel_rfl
theorem o_spec_SameSent : funOb Try.prog Try.f37 f_spec_SameSent = [(82, s_spec_SameReport)] := by kernel_rfl
theorem l_spec_SameSent : SoundCall Try.prog 37 s_spec_SameSent := by unfold s_spec_SameSent; exact fun_sound_of follows Try.func37 k_spec_SameSent o_spec_SameSent ⟨l_spec_SameReport, trivial⟩
theorem k_impl_sameInts : okFun Try.prog Try.f113 f_impl_sameInts = true := by kernel_rfl
theorem o_impl_sameInts : funOb Try.prog Try.f113 f_impl_sameInts = [] := by kernel_rfl
theorem l_impl_sameInts : SoundCall Try.prog 113 s_impl_sameInts := by unfold s_impl_sameInts; exact fun_sound_of follows Try.func113 k_impl_sameInts o_impl_sameInts trivial
theorem k_impl_SameReport : okFun Try.prog Try.f84 f_impl_SameReport = true := by kernel_rfl
theorem o_impl_SameReport : funOb Try.prog Try.f84 f_impl_SameReport = [(113, s_impl_sameInts)] := by kernel_rfl
theorem l_impl_SameReport : SoundCall Try.prog 84 s_impl_SameReport := by unfold s_impl_SameReport; exact fun_sound_of follows Try.func84 k_impl_SameReport o_impl_SameReport ⟨l_impl_sameInts, trivial⟩
theorem k_impl_SameSent : okFun Try.prog Try.f39 f_impl_SameSent = true := by kernel_rfl
theorem o_impl_SameSent : funOb Try.prog Try.f39 f_impl_SameSent = [(84, s_impl_SameReport)] := by kernel_rfl
theorem l_impl_SameSent : SoundCall Try.prog 39 s_impl_SameSent := by unfold s_impl_SameSent; exact fun_sound_of follows Try.func39 k_impl_SameSent o_impl_SameSent ⟨l_impl_SameReport, trivial⟩
theorem k_laws_eqIntS : okFun Try.prog Try.f120 f_laws_eqIntS = true := by kernel_rfl
theorem o_laws_eqIntS : funOb Try.prog Try.f120 f_laws_eqIntS = [] := by kernel_rfl
theorem l_laws_eqIntS : SoundCall Try.prog 120 s_laws_eqIntS := by unfold s_laws_eqIntS; exact fun_sound_of follows Try.func120 k_laws_eqIntS o_laws_eqIntS trivial
theorem k_laws_eqReport : okFun Try.prog Try.f114 f_laws_eqReport = true := by kernel_rfl
theorem o_laws_eqReport : funOb Try.prog Try.f114 f_laws_eqReport = [(120, s_laws_eqIntS)] := by kernel_rfl
theorem l_laws_eqReport : SoundCall Try.prog 114 s_laws_eqReport := by unfold s_laws_eqReport; exact fun_sound_of follows Try.func114 k_laws_eqReport o_laws_eqReport ⟨l_laws_eqIntS, trivial⟩
theorem k_laws_eqSent : okFun Try.prog Try.f85 f_laws_eqSent = true := by kernel_rfl
theorem o_laws_eqSent : funOb Try.prog Try.f85 f_laws_eqSent = [(114, s_laws_eqReport)] := by kernel_rfl
theorem l_laws_eqSent : SoundCall Try.prog 85 s_laws_eqSent := by unfold s_laws_eqSent; exact fun_sound_of follows Try.func85 k_laws_eqSent o_laws_eqSent ⟨l_laws_eqReport, trivial⟩
theorem k_laws_eqSentS : okFun Try.prog Try.f40 f_laws_eqSentS = true := by kernel_rfl
theorem o_laws_eqSentS : funOb Try.prog Try.f40 f_laws_eqSentS = [(85, s_laws_eqSent)] := by kernel_rfl
theorem l_laws_eqSentS : SoundCall Try.prog 40 s_laws_eqSentS := by unfold s_laws_eqSentS; exact fun_sound_of follows Try.func40 k_laws_eqSentS o_laws_eqSentS ⟨l_laws_eqSent, trivial⟩
theorem k_laws_FnExactSameSent : okFun Try.prog Try.f7 f_laws_FnExactSameSent = true := by kernel_rfl
theorem o_laws_FnExactSameSent : funOb Try.prog Try.f7 f_laws_FnExactSameSent = [(36, s_laws_szSentS), (36, s_laws_szSentS), (38, s_laws_toSentS), (38, s_laws_toSentS), (37, s_spec_SameSent), (38, s_laws_toSentS), (38, s_laws_toSentS), (39, s_impl_SameSent), (38, s_laws_toSentS), (40, s_laws_eqSentS), (38, s_laws_toSentS), (40, s_laws_eqSentS)] := by kernel_rfl
theorem l_laws_FnExactSameSent : SoundCall Try.prog 7 s_laws_FnExactSameSent := by unfold s_laws_FnExactSameSent; exact fun_sound_of follows Try.func7 k_laws_FnExactSameSent o_laws_FnExactSameSent ⟨l_laws_szSentS, l_laws_szSentS, l_laws_toSentS, l_laws_toSentS, l_spec_SameSent, l_laws_toSentS, l_laws_toSentS, l_impl_SameSent, l_laws_toSentS, l_laws_eqSentS, l_laws_toSentS, l_laws_eqSentS, trivial⟩

end Go.Proofs.Ytmjjamfkgingcaa
