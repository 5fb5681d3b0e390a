/-
  EACH ABSTRACT FUNCTION IS THE SEAT's OWN: checked by the kernel, function by function (written by program, ag.py).
-/
import Derived.Test.YthljgcjmaabnoaaChecked
import Derived.KernelRfl
import Derived.Test.YthljgcjmaabnoaaLibF
namespace Go.Proofs.Ythljgcjmaabnoaa
open Go.Ag

theorem follows : Try.prog.follows .mixedOrders = true := by kernel_rfl
theorem k_laws_toByteS : okFun Try.prog Try.f16 f_laws_toByteS = true := by kernel_rfl
theorem o_laws_toByteS : funOb Try.prog Try.f16 f_laws_toByteS = [] := by kernel_rfl
theorem l_laws_toByteS : SoundCall Try.prog 16 s_laws_toByteS := by unfold s_laws_toByteS; exact fun_sound_of follows Try.func16 k_laws_toByteS o_laws_toByteS trivial
theorem k_spec_ReadBits : okFun Try.prog Try.f15 f_spec_ReadBits = true := by kernel_rfl
theorem o_spec_ReadBits : funOb Try.prog Try.f15 f_spec_ReadBits = [] := by kernel_rfl
theorem l_spec_ReadBits : SoundCall Try.prog 15 s_spec_ReadBits := by unfold s_spec_ReadBits; exact fun_sound_of follows Try.func15 k_spec_ReadBits o_spec_ReadBits trivial
theorem k_impl_ReadBits : okFun Try.prog Try.f17 f_impl_ReadBits = true := by kernel_rfl
theorem o_impl_ReadBits : funOb Try.prog Try.f17 f_impl_ReadBits = [] := by kernel_rfl
theorem l_impl_ReadBits : SoundCall Try.prog 17 s_impl_ReadBits := by unfold s_impl_ReadBits; exact fun_sound_of follows Try.func17 k_impl_ReadBits o_impl_ReadBits trivial
theorem k_laws_eqIntS : okFun Try.prog Try.f77 f_laws_eqIntS = true := by kernel_rfl
theorem o_laws_eqIntS : funOb Try.prog Try.f77 f_laws_eqIntS = [] := by kernel_rfl
theorem l_laws_eqIntS : SoundCall Try.prog 77 s_laws_eqIntS := by unfold s_laws_eqIntS; exact fun_sound_of follows Try.func77 k_laws_eqIntS o_laws_eqIntS trivial
theorem k_laws_eqReport : okFun Try.prog Try.f18 f_laws_eqReport = true := by kernel_rfl
theorem o_laws_eqReport : funOb Try.prog Try.f18 f_laws_eqReport = [(77, s_laws_eqIntS)] := by kernel_rfl
theorem l_laws_eqReport : SoundCall Try.prog 18 s_laws_eqReport := by unfold s_laws_eqReport; exact fun_sound_of follows Try.func18 k_laws_eqReport o_laws_eqReport ⟨l_laws_eqIntS, trivial⟩
theorem k_laws_eqByteS : okFun Try.prog Try.f19 f_laws_eqByteS = true := by kernel_rfl
theorem o_laws_eqByteS : funOb Try.prog Try.f19 f_laws_eqByteS = [] := by kernel_rfl
theorem l_laws_eqByteS : SoundCall Try.prog 19 s_laws_eqByteS := by unfold s_laws_eqByteS; exact fun_sound_of follows Try.func19 k_laws_eqByteS o_laws_eqByteS trivial
theorem k_laws_markByteS : okFun Try.prog Try.f20 f_laws_markByteS = true := by kernel_rfl
theorem o_laws_markByteS : funOb Try.prog Try.f20 f_laws_markByteS = [] := by kernel_rfl
theorem l_laws_markByteS : SoundCall Try.prog 20 s_laws_markByteS := by unfold s_laws_markByteS; exact fun_sound_of follows Try.func20 k_laws_markByteS o_laws_markByteS trivial
theorem k_laws_markIntS : okFun Try.prog Try.f78 f_laws_markIntS = true := by kernel_rfl
theorem o_laws_markIntS : funOb Try.prog Try.f78 f_laws_markIntS = [] := by kernel_rfl
theorem l_laws_markIntS : SoundCall Try.prog 78 s_laws_markIntS := by unfold s_laws_markIntS; exact fun_sound_of follows Try.func78 k_laws_markIntS o_laws_markIntS trivial
theorem k_laws_markReport : okFun Try.prog Try.f21 f_laws_markReport = true := by kernel_rfl
theorem o_laws_markReport : funOb Try.prog Try.f21 f_laws_markReport = [(78, s_laws_markIntS)] := by kernel_rfl
theorem l_laws_markReport : SoundCall Try.prog 21 s_laws_markReport := by unfold s_laws_markReport; exact fun_sound_of follows Try.func21 k_laws_markReport o_laws_markReport ⟨l_laws_markIntS, trivial⟩
theorem k_laws_heldIntS : okFun Try.prog Try.f79 f_laws_heldIntS = true := by kernel_rfl
theorem o_laws_heldIntS : funOb Try.prog Try.f79 f_laws_heldIntS = [] := by kernel_rfl
theorem l_laws_heldIntS : SoundCall Try.prog 79 s_laws_heldIntS := by unfold s_laws_heldIntS; exact fun_sound_of follows Try.func79 k_laws_heldIntS o_laws_heldIntS trivial
theorem k_laws_heldReport : okFun Try.prog Try.f22 f_laws_heldReport = true := by kernel_rfl
theorem o_laws_heldReport : funOb Try.prog Try.f22 f_laws_heldReport = [(79, s_laws_heldIntS)] := by kernel_rfl
theorem l_laws_heldReport : SoundCall Try.prog 22 s_laws_heldReport := by unfold s_laws_heldReport; exact fun_sound_of follows Try.func22 k_laws_heldReport o_laws_heldReport ⟨l_laws_heldIntS, trivial⟩
theorem k_laws_FnExactReadBits : okFun Try.prog Try.f3 f_laws_FnExactReadBits = true := by kernel_rfl
theorem o_laws_FnExactReadBits : funOb Try.prog Try.f3 f_laws_FnExactReadBits = [(16, s_laws_toByteS), (15, s_spec_ReadBits), (16, s_laws_toByteS), (17, s_impl_ReadBits), (18, s_laws_eqReport), (16, s_laws_toByteS), (19, s_laws_eqByteS), (20, s_laws_markByteS), (18, s_laws_eqReport), (21, s_laws_markReport), (22, s_laws_heldReport), (16, s_laws_toByteS), (17, s_impl_ReadBits), (18, s_laws_eqReport), (22, s_laws_heldReport)] := by kernel_rfl
theorem l_laws_FnExactReadBits : SoundCall Try.prog 3 s_laws_FnExactReadBits := by unfold s_laws_FnExactReadBits; exact fun_sound_of follows Try.func3 k_laws_FnExactReadBits o_laws_FnExactReadBits ⟨l_laws_toByteS, l_spec_ReadBits, l_laws_toByteS, l_impl_ReadBits, l_laws_eqReport, l_laws_toByteS, l_laws_eqByteS, l_laws_markByteS, l_laws_eqReport, l_laws_markReport, l_laws_heldReport, l_laws_toByteS, l_impl_ReadBits, l_laws_eqReport, l_laws_heldReport, trivial⟩

end Go.Proofs.Ythljgcjmaabnoaa
