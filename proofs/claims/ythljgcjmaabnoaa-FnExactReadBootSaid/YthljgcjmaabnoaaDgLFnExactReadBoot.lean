/-
 EACH ABSTRACT FUNCTION IS THE SEAT's OWN: checked by the kernel,function by function (written by program,ag.py).
-/
import Derived.Test.YthljgcjmaabnoaaChecked
import Derived.KernelRfl
import Derived.Test.YthljgcjmaabnoaaLibF
namespace Go.Proofs.Ythljgcjmaabnoaa
open Go.Ag
theorem follows:Try.prog.follows .mixedOrders=true:=by kernel_rfl
theorem k_laws_szIntS:okFun Try.prog Try.f80 f_laws_szIntS=true:=by kernel_rfl
theorem o_laws_szIntS:funOb Try.prog Try.f80 f_laws_szIntS=[]:=by kernel_rfl
theorem l_laws_szIntS:SoundCall Try.prog 80 s_laws_szIntS:=by unfold s_laws_szIntS;exact fun_sound_of follows Try.func80 k_laws_szIntS o_laws_szIntS trivial
theorem k_laws_szReport:okFun Try.prog Try.f23 f_laws_szReport=true:=by kernel_rfl
theorem o_laws_szReport:funOb Try.prog Try.f23 f_laws_szReport=[(80,s_laws_szIntS)]:=by kernel_rfl
theorem l_laws_szReport:SoundCall Try.prog 23 s_laws_szReport:=by unfold s_laws_szReport;exact fun_sound_of follows Try.func23 k_laws_szReport o_laws_szReport ⟨l_laws_szIntS,trivial⟩
theorem k_laws_toByteS:okFun Try.prog Try.f16 f_laws_toByteS=true:=by kernel_rfl
theorem o_laws_toByteS:funOb Try.prog Try.f16 f_laws_toByteS=[]:=by kernel_rfl
theorem l_laws_toByteS:SoundCall Try.prog 16 s_laws_toByteS:=by unfold s_laws_toByteS;exact fun_sound_of follows Try.func16 k_laws_toByteS o_laws_toByteS trivial
theorem k_laws_toIntS:okFun Try.prog Try.f82 f_laws_toIntS=true:=by kernel_rfl
theorem o_laws_toIntS:funOb Try.prog Try.f82 f_laws_toIntS=[]:=by kernel_rfl
theorem l_laws_toIntS:SoundCall Try.prog 82 s_laws_toIntS:=by unfold s_laws_toIntS;exact fun_sound_of follows Try.func82 k_laws_toIntS o_laws_toIntS trivial
theorem k_laws_toReport:okFun Try.prog Try.f25 f_laws_toReport=true:=by kernel_rfl
theorem o_laws_toReport:funOb Try.prog Try.f25 f_laws_toReport=[(82,s_laws_toIntS)]:=by kernel_rfl
theorem l_laws_toReport:SoundCall Try.prog 25 s_laws_toReport:=by unfold s_laws_toReport;exact fun_sound_of follows Try.func25 k_laws_toReport o_laws_toReport ⟨l_laws_toIntS,trivial⟩
theorem k_spec_l1In:okFun Try.prog Try.f96 f_spec_l1In=true:=by kernel_rfl
theorem o_spec_l1In:funOb Try.prog Try.f96 f_spec_l1In=[]:=by kernel_rfl
theorem l_spec_l1In:SoundCall Try.prog 96 s_spec_l1In:=by unfold s_spec_l1In;exact fun_sound_of follows Try.func96 k_spec_l1In o_spec_l1In trivial
theorem k_spec_IsReport:okFun Try.prog Try.f81 f_spec_IsReport=true:=by kernel_rfl
theorem o_spec_IsReport:funOb Try.prog Try.f81 f_spec_IsReport=[(96,s_spec_l1In),(96,s_spec_l1In)]:=by kernel_rfl
theorem l_spec_IsReport:SoundCall Try.prog 81 s_spec_IsReport:=by unfold s_spec_IsReport;exact fun_sound_of follows Try.func81 k_spec_IsReport o_spec_IsReport ⟨l_spec_l1In,l_spec_l1In,trivial⟩
theorem k_spec_ReadBoot:okFun Try.prog Try.f30 f_spec_ReadBoot=true:=by kernel_rfl
theorem o_spec_ReadBoot:funOb Try.prog Try.f30 f_spec_ReadBoot=[(81,s_spec_IsReport),(81,s_spec_IsReport)]:=by kernel_rfl
theorem l_spec_ReadBoot:SoundCall Try.prog 30 s_spec_ReadBoot:=by unfold s_spec_ReadBoot;exact fun_sound_of follows Try.func30 k_spec_ReadBoot o_spec_ReadBoot ⟨l_spec_IsReport,l_spec_IsReport,trivial⟩
theorem k_impl_isCode:okFun Try.prog Try.f130 f_impl_isCode=true:=by kernel_rfl
theorem o_impl_isCode:funOb Try.prog Try.f130 f_impl_isCode=[]:=by kernel_rfl
theorem l_impl_isCode:SoundCall Try.prog 130 s_impl_isCode:=by unfold s_impl_isCode;exact fun_sound_of follows Try.func130 k_impl_isCode o_impl_isCode trivial
theorem k_impl_IsReport:okFun Try.prog Try.f83 f_impl_IsReport=true:=by kernel_rfl
theorem o_impl_IsReport:funOb Try.prog Try.f83 f_impl_IsReport=[(130,s_impl_isCode)]:=by kernel_rfl
theorem l_impl_IsReport:SoundCall Try.prog 83 s_impl_IsReport:=by unfold s_impl_IsReport;exact fun_sound_of follows Try.func83 k_impl_IsReport o_impl_IsReport ⟨l_impl_isCode,trivial⟩
theorem k_impl_copyInts:okFun Try.prog Try.f84 f_impl_copyInts=true:=by kernel_rfl
theorem o_impl_copyInts:funOb Try.prog Try.f84 f_impl_copyInts=[]:=by kernel_rfl
theorem l_impl_copyInts:SoundCall Try.prog 84 s_impl_copyInts:=by unfold s_impl_copyInts;exact fun_sound_of follows Try.func84 k_impl_copyInts o_impl_copyInts trivial
theorem k_impl_BootBytes:okFun Try.prog Try.f29 f_impl_BootBytes=true:=by kernel_rfl
theorem o_impl_BootBytes:funOb Try.prog Try.f29 f_impl_BootBytes=[(83,s_impl_IsReport)]:=by kernel_rfl
theorem l_impl_BootBytes:SoundCall Try.prog 29 s_impl_BootBytes:=by unfold s_impl_BootBytes;exact fun_sound_of follows Try.func29 k_impl_BootBytes o_impl_BootBytes ⟨l_impl_IsReport,trivial⟩
theorem k_impl_ReadBoot:okFun Try.prog Try.f31 f_impl_ReadBoot=true:=by kernel_rfl
theorem o_impl_ReadBoot:funOb Try.prog Try.f31 f_impl_ReadBoot=[(83,s_impl_IsReport),(84,s_impl_copyInts),(83,s_impl_IsReport),(29,s_impl_BootBytes)]:=by kernel_rfl
theorem l_impl_ReadBoot:SoundCall Try.prog 31 s_impl_ReadBoot:=by unfold s_impl_ReadBoot;exact fun_sound_of follows Try.func31 k_impl_ReadBoot o_impl_ReadBoot ⟨l_impl_IsReport,l_impl_copyInts,l_impl_IsReport,l_impl_BootBytes,trivial⟩
theorem k_laws_eqIntS:okFun Try.prog Try.f77 f_laws_eqIntS=true:=by kernel_rfl
theorem o_laws_eqIntS:funOb Try.prog Try.f77 f_laws_eqIntS=[]:=by kernel_rfl
theorem l_laws_eqIntS:SoundCall Try.prog 77 s_laws_eqIntS:=by unfold s_laws_eqIntS;exact fun_sound_of follows Try.func77 k_laws_eqIntS o_laws_eqIntS trivial
theorem k_laws_eqReport:okFun Try.prog Try.f18 f_laws_eqReport=true:=by kernel_rfl
theorem o_laws_eqReport:funOb Try.prog Try.f18 f_laws_eqReport=[(77,s_laws_eqIntS)]:=by kernel_rfl
theorem l_laws_eqReport:SoundCall Try.prog 18 s_laws_eqReport:=by unfold s_laws_eqReport;exact fun_sound_of follows Try.func18 k_laws_eqReport o_laws_eqReport ⟨l_laws_eqIntS,trivial⟩
theorem k_laws_eqByteS:okFun Try.prog Try.f19 f_laws_eqByteS=true:=by kernel_rfl
theorem o_laws_eqByteS:funOb Try.prog Try.f19 f_laws_eqByteS=[]:=by kernel_rfl
theorem l_laws_eqByteS:SoundCall Try.prog 19 s_laws_eqByteS:=by unfold s_laws_eqByteS;exact fun_sound_of follows Try.func19 k_laws_eqByteS o_laws_eqByteS trivial
theorem k_laws_markByteS:okFun Try.prog Try.f20 f_laws_markByteS=true:=by kernel_rfl
theorem o_laws_markByteS:funOb Try.prog Try.f20 f_laws_markByteS=[]:=by kernel_rfl
theorem l_laws_markByteS:SoundCall Try.prog 20 s_laws_markByteS:=by unfold s_laws_markByteS;exact fun_sound_of follows Try.func20 k_laws_markByteS o_laws_markByteS trivial
theorem k_laws_markIntS:okFun Try.prog Try.f78 f_laws_markIntS=true:=by kernel_rfl
theorem o_laws_markIntS:funOb Try.prog Try.f78 f_laws_markIntS=[]:=by kernel_rfl
theorem l_laws_markIntS:SoundCall Try.prog 78 s_laws_markIntS:=by unfold s_laws_markIntS;exact fun_sound_of follows Try.func78 k_laws_markIntS o_laws_markIntS trivial
theorem k_laws_markReport:okFun Try.prog Try.f21 f_laws_markReport=true:=by kernel_rfl
theorem o_laws_markReport:funOb Try.prog Try.f21 f_laws_markReport=[(78,s_laws_markIntS)]:=by kernel_rfl
theorem l_laws_markReport:SoundCall Try.prog 21 s_laws_markReport:=by unfold s_laws_markReport;exact fun_sound_of follows Try.func21 k_laws_markReport o_laws_markReport ⟨l_laws_markIntS,trivial⟩
theorem k_laws_heldIntS:okFun Try.prog Try.f79 f_laws_heldIntS=true:=by kernel_rfl
theorem o_laws_heldIntS:funOb Try.prog Try.f79 f_laws_heldIntS=[]:=by kernel_rfl
theorem l_laws_heldIntS:SoundCall Try.prog 79 s_laws_heldIntS:=by unfold s_laws_heldIntS;exact fun_sound_of follows Try.func79 k_laws_heldIntS o_laws_heldIntS trivial
theorem k_laws_heldReport:okFun Try.prog Try.f22 f_laws_heldReport=true:=by kernel_rfl
theorem o_laws_heldReport:funOb Try.prog Try.f22 f_laws_heldReport=[(79,s_laws_heldIntS)]:=by kernel_rfl
theorem l_laws_heldReport:SoundCall Try.prog 22 s_laws_heldReport:=by unfold s_laws_heldReport;exact fun_sound_of follows Try.func22 k_laws_heldReport o_laws_heldReport ⟨l_laws_heldIntS,trivial⟩
theorem k_laws_FnExactReadBoot:okFun Try.prog Try.f6 f_laws_FnExactReadBoot=true:=by kernel_rfl
theorem o_laws_FnExactReadBoot:funOb Try.prog Try.f6 f_laws_FnExactReadBoot=[(23,s_laws_szReport),(16,s_laws_toByteS),(25,s_laws_toReport),(30,s_spec_ReadBoot),(16,s_laws_toByteS),(25,s_laws_toReport),(31,s_impl_ReadBoot),(18,s_laws_eqReport),(16,s_laws_toByteS),(19,s_laws_eqByteS),(25,s_laws_toReport),(18,s_laws_eqReport),(20,s_laws_markByteS),(21,s_laws_markReport),(18,s_laws_eqReport),(21,s_laws_markReport),(22,s_laws_heldReport),(16,s_laws_toByteS),(25,s_laws_toReport),(31,s_impl_ReadBoot),(18,s_laws_eqReport),(22,s_laws_heldReport)]:=by kernel_rfl
theorem l_laws_FnExactReadBoot:SoundCall Try.prog 6 s_laws_FnExactReadBoot:=by unfold s_laws_FnExactReadBoot;exact fun_sound_of follows Try.func6 k_laws_FnExactReadBoot o_laws_FnExactReadBoot ⟨l_laws_szReport,l_laws_toByteS,l_laws_toReport,l_spec_ReadBoot,l_laws_toByteS,l_laws_toReport,l_impl_ReadBoot,l_laws_eqReport,l_laws_toByteS,l_laws_eqByteS,l_laws_toReport,l_laws_eqReport,l_laws_markByteS,l_laws_markReport,l_laws_eqReport,l_laws_markReport,l_laws_heldReport,l_laws_toByteS,l_laws_toReport,l_impl_ReadBoot,l_laws_eqReport,l_laws_heldReport,trivial⟩
end Go.Proofs.Ythljgcjmaabnoaa
