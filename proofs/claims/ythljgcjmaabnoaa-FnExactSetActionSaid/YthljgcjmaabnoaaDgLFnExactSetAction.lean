/-
 EACH ABSTRACT FUNCTION IS THE SEAT's OWN: checked by the kernel,function by function (written by program,ag.py).
-/
import Derived.Test.YthljgcjmaabnoaaChecked
import Derived.KernelRfl
import Derived.Test.YthljgcjmaabnoaaLibF
namespace Go.Proofs.Ythljgcjmaabnoaa
open Go.Ag
theorem follows:Try.prog.follows .mixedOrders=true:=by kernel_rfl
theorem k_laws_szActionS:okFun Try.prog Try.f131 f_laws_szActionS=true:=by kernel_rfl
theorem o_laws_szActionS:funOb Try.prog Try.f131 f_laws_szActionS=[]:=by kernel_rfl
theorem l_laws_szActionS:SoundCall Try.prog 131 s_laws_szActionS:=by unfold s_laws_szActionS;exact fun_sound_of follows Try.func131 k_laws_szActionS o_laws_szActionS trivial
theorem k_laws_szActionSS:okFun Try.prog Try.f85 f_laws_szActionSS=true:=by kernel_rfl
theorem o_laws_szActionSS:funOb Try.prog Try.f85 f_laws_szActionSS=[(131,s_laws_szActionS)]:=by kernel_rfl
theorem l_laws_szActionSS:SoundCall Try.prog 85 s_laws_szActionSS:=by unfold s_laws_szActionSS;exact fun_sound_of follows Try.func85 k_laws_szActionSS o_laws_szActionSS ⟨l_laws_szActionS,trivial⟩
theorem k_laws_szKeymap:okFun Try.prog Try.f32 f_laws_szKeymap=true:=by kernel_rfl
theorem o_laws_szKeymap:funOb Try.prog Try.f32 f_laws_szKeymap=[(85,s_laws_szActionSS)]:=by kernel_rfl
theorem l_laws_szKeymap:SoundCall Try.prog 32 s_laws_szKeymap:=by unfold s_laws_szKeymap;exact fun_sound_of follows Try.func32 k_laws_szKeymap o_laws_szKeymap ⟨l_laws_szActionSS,trivial⟩
theorem k_laws_toAction:okFun Try.prog Try.f42 f_laws_toAction=true:=by kernel_rfl
theorem o_laws_toAction:funOb Try.prog Try.f42 f_laws_toAction=[]:=by kernel_rfl
theorem l_laws_toAction:SoundCall Try.prog 42 s_laws_toAction:=by unfold s_laws_toAction;exact fun_sound_of follows Try.func42 k_laws_toAction o_laws_toAction trivial
theorem k_laws_toActionS:okFun Try.prog Try.f133 f_laws_toActionS=true:=by kernel_rfl
theorem o_laws_toActionS:funOb Try.prog Try.f133 f_laws_toActionS=[(42,s_laws_toAction)]:=by kernel_rfl
theorem l_laws_toActionS:SoundCall Try.prog 133 s_laws_toActionS:=by unfold s_laws_toActionS;exact fun_sound_of follows Try.func133 k_laws_toActionS o_laws_toActionS ⟨l_laws_toAction,trivial⟩
theorem k_laws_toActionSS:okFun Try.prog Try.f88 f_laws_toActionSS=true:=by kernel_rfl
theorem o_laws_toActionSS:funOb Try.prog Try.f88 f_laws_toActionSS=[(133,s_laws_toActionS)]:=by kernel_rfl
theorem l_laws_toActionSS:SoundCall Try.prog 88 s_laws_toActionSS:=by unfold s_laws_toActionSS;exact fun_sound_of follows Try.func88 k_laws_toActionSS o_laws_toActionSS ⟨l_laws_toActionS,trivial⟩
theorem k_laws_toKeymap:okFun Try.prog Try.f34 f_laws_toKeymap=true:=by kernel_rfl
theorem o_laws_toKeymap:funOb Try.prog Try.f34 f_laws_toKeymap=[(88,s_laws_toActionSS)]:=by kernel_rfl
theorem l_laws_toKeymap:SoundCall Try.prog 34 s_laws_toKeymap:=by unfold s_laws_toKeymap;exact fun_sound_of follows Try.func34 k_laws_toKeymap o_laws_toKeymap ⟨l_laws_toActionSS,trivial⟩
theorem k_spec_l1In:okFun Try.prog Try.f96 f_spec_l1In=true:=by kernel_rfl
theorem o_spec_l1In:funOb Try.prog Try.f96 f_spec_l1In=[]:=by kernel_rfl
theorem l_spec_l1In:SoundCall Try.prog 96 s_spec_l1In:=by unfold s_spec_l1In;exact fun_sound_of follows Try.func96 k_spec_l1In o_spec_l1In trivial
theorem k_spec_IsAction:okFun Try.prog Try.f132 f_spec_IsAction=true:=by kernel_rfl
theorem o_spec_IsAction:funOb Try.prog Try.f132 f_spec_IsAction=[(96,s_spec_l1In),(96,s_spec_l1In),(96,s_spec_l1In),(96,s_spec_l1In)]:=by kernel_rfl
theorem l_spec_IsAction:SoundCall Try.prog 132 s_spec_IsAction:=by unfold s_spec_IsAction;exact fun_sound_of follows Try.func132 k_spec_IsAction o_spec_IsAction ⟨l_spec_l1In,l_spec_l1In,l_spec_l1In,l_spec_l1In,trivial⟩
theorem k_spec_IsKeymap:okFun Try.prog Try.f86 f_spec_IsKeymap=true:=by kernel_rfl
theorem o_spec_IsKeymap:funOb Try.prog Try.f86 f_spec_IsKeymap=[(132,s_spec_IsAction),(96,s_spec_l1In),(96,s_spec_l1In)]:=by kernel_rfl
theorem l_spec_IsKeymap:SoundCall Try.prog 86 s_spec_IsKeymap:=by unfold s_spec_IsKeymap;exact fun_sound_of follows Try.func86 k_spec_IsKeymap o_spec_IsKeymap ⟨l_spec_IsAction,l_spec_l1In,l_spec_l1In,trivial⟩
theorem k_spec_l6Copy:okFun Try.prog Try.f97 f_spec_l6Copy=true:=by kernel_rfl
theorem o_spec_l6Copy:funOb Try.prog Try.f97 f_spec_l6Copy=[]:=by kernel_rfl
theorem l_spec_l6Copy:SoundCall Try.prog 97 s_spec_l6Copy:=by unfold s_spec_l6Copy;exact fun_sound_of follows Try.func97 k_spec_l6Copy o_spec_l6Copy trivial
theorem k_spec_SetAction:okFun Try.prog Try.f41 f_spec_SetAction=true:=by kernel_rfl
theorem o_spec_SetAction:funOb Try.prog Try.f41 f_spec_SetAction=[(86,s_spec_IsKeymap),(96,s_spec_l1In),(96,s_spec_l1In),(97,s_spec_l6Copy),(86,s_spec_IsKeymap)]:=by kernel_rfl
theorem l_spec_SetAction:SoundCall Try.prog 41 s_spec_SetAction:=by unfold s_spec_SetAction;exact fun_sound_of follows Try.func41 k_spec_SetAction o_spec_SetAction ⟨l_spec_IsKeymap,l_spec_l1In,l_spec_l1In,l_spec_l6Copy,l_spec_IsKeymap,trivial⟩
theorem k_impl_isCode:okFun Try.prog Try.f130 f_impl_isCode=true:=by kernel_rfl
theorem o_impl_isCode:funOb Try.prog Try.f130 f_impl_isCode=[]:=by kernel_rfl
theorem l_impl_isCode:SoundCall Try.prog 130 s_impl_isCode:=by unfold s_impl_isCode;exact fun_sound_of follows Try.func130 k_impl_isCode o_impl_isCode trivial
theorem k_impl_isMods:okFun Try.prog Try.f149 f_impl_isMods=true:=by kernel_rfl
theorem o_impl_isMods:funOb Try.prog Try.f149 f_impl_isMods=[]:=by kernel_rfl
theorem l_impl_isMods:SoundCall Try.prog 149 s_impl_isMods:=by unfold s_impl_isMods;exact fun_sound_of follows Try.func149 k_impl_isMods o_impl_isMods trivial
theorem k_impl_isUpper:okFun Try.prog Try.f150 f_impl_isUpper=true:=by kernel_rfl
theorem o_impl_isUpper:funOb Try.prog Try.f150 f_impl_isUpper=[]:=by kernel_rfl
theorem l_impl_isUpper:SoundCall Try.prog 150 s_impl_isUpper:=by unfold s_impl_isUpper;exact fun_sound_of follows Try.func150 k_impl_isUpper o_impl_isUpper trivial
theorem k_impl_IsAction:okFun Try.prog Try.f134 f_impl_IsAction=true:=by kernel_rfl
theorem o_impl_IsAction:funOb Try.prog Try.f134 f_impl_IsAction=[(130,s_impl_isCode),(149,s_impl_isMods),(150,s_impl_isUpper),(130,s_impl_isCode),(149,s_impl_isMods),(130,s_impl_isCode),(150,s_impl_isUpper),(149,s_impl_isMods)]:=by kernel_rfl
theorem l_impl_IsAction:SoundCall Try.prog 134 s_impl_IsAction:=by unfold s_impl_IsAction;exact fun_sound_of follows Try.func134 k_impl_IsAction o_impl_IsAction ⟨l_impl_isCode,l_impl_isMods,l_impl_isUpper,l_impl_isCode,l_impl_isMods,l_impl_isCode,l_impl_isUpper,l_impl_isMods,trivial⟩
theorem k_impl_IsKeymap:okFun Try.prog Try.f89 f_impl_IsKeymap=true:=by kernel_rfl
theorem o_impl_IsKeymap:funOb Try.prog Try.f89 f_impl_IsKeymap=[(134,s_impl_IsAction)]:=by kernel_rfl
theorem l_impl_IsKeymap:SoundCall Try.prog 89 s_impl_IsKeymap:=by unfold s_impl_IsKeymap;exact fun_sound_of follows Try.func89 k_impl_IsKeymap o_impl_IsKeymap ⟨l_impl_IsAction,trivial⟩
theorem k_impl_copyKeymap:okFun Try.prog Try.f98 f_impl_copyKeymap=true:=by kernel_rfl
theorem o_impl_copyKeymap:funOb Try.prog Try.f98 f_impl_copyKeymap=[]:=by kernel_rfl
theorem l_impl_copyKeymap:SoundCall Try.prog 98 s_impl_copyKeymap:=by unfold s_impl_copyKeymap;exact fun_sound_of follows Try.func98 k_impl_copyKeymap o_impl_copyKeymap trivial
theorem k_impl_SetAction:okFun Try.prog Try.f43 f_impl_SetAction=true:=by kernel_rfl
theorem o_impl_SetAction:funOb Try.prog Try.f43 f_impl_SetAction=[(89,s_impl_IsKeymap),(98,s_impl_copyKeymap),(89,s_impl_IsKeymap)]:=by kernel_rfl
theorem l_impl_SetAction:SoundCall Try.prog 43 s_impl_SetAction:=by unfold s_impl_SetAction;exact fun_sound_of follows Try.func43 k_impl_SetAction o_impl_SetAction ⟨l_impl_IsKeymap,l_impl_copyKeymap,l_impl_IsKeymap,trivial⟩
theorem k_laws_eqAction:okFun Try.prog Try.f142 f_laws_eqAction=true:=by kernel_rfl
theorem o_laws_eqAction:funOb Try.prog Try.f142 f_laws_eqAction=[]:=by kernel_rfl
theorem l_laws_eqAction:SoundCall Try.prog 142 s_laws_eqAction:=by unfold s_laws_eqAction;exact fun_sound_of follows Try.func142 k_laws_eqAction o_laws_eqAction trivial
theorem k_laws_eqActionS:okFun Try.prog Try.f135 f_laws_eqActionS=true:=by kernel_rfl
theorem o_laws_eqActionS:funOb Try.prog Try.f135 f_laws_eqActionS=[(142,s_laws_eqAction)]:=by kernel_rfl
theorem l_laws_eqActionS:SoundCall Try.prog 135 s_laws_eqActionS:=by unfold s_laws_eqActionS;exact fun_sound_of follows Try.func135 k_laws_eqActionS o_laws_eqActionS ⟨l_laws_eqAction,trivial⟩
theorem k_laws_eqActionSS:okFun Try.prog Try.f91 f_laws_eqActionSS=true:=by kernel_rfl
theorem o_laws_eqActionSS:funOb Try.prog Try.f91 f_laws_eqActionSS=[(135,s_laws_eqActionS)]:=by kernel_rfl
theorem l_laws_eqActionSS:SoundCall Try.prog 91 s_laws_eqActionSS:=by unfold s_laws_eqActionSS;exact fun_sound_of follows Try.func91 k_laws_eqActionSS o_laws_eqActionSS ⟨l_laws_eqActionS,trivial⟩
theorem k_laws_eqKeymap:okFun Try.prog Try.f36 f_laws_eqKeymap=true:=by kernel_rfl
theorem o_laws_eqKeymap:funOb Try.prog Try.f36 f_laws_eqKeymap=[(91,s_laws_eqActionSS)]:=by kernel_rfl
theorem l_laws_eqKeymap:SoundCall Try.prog 36 s_laws_eqKeymap:=by unfold s_laws_eqKeymap;exact fun_sound_of follows Try.func36 k_laws_eqKeymap o_laws_eqKeymap ⟨l_laws_eqActionSS,trivial⟩
theorem k_laws_markActionS:okFun Try.prog Try.f136 f_laws_markActionS=true:=by kernel_rfl
theorem o_laws_markActionS:funOb Try.prog Try.f136 f_laws_markActionS=[]:=by kernel_rfl
theorem l_laws_markActionS:SoundCall Try.prog 136 s_laws_markActionS:=by unfold s_laws_markActionS;exact fun_sound_of follows Try.func136 k_laws_markActionS o_laws_markActionS trivial
theorem k_laws_markActionSS:okFun Try.prog Try.f92 f_laws_markActionSS=true:=by kernel_rfl
theorem o_laws_markActionSS:funOb Try.prog Try.f92 f_laws_markActionSS=[(136,s_laws_markActionS)]:=by kernel_rfl
theorem l_laws_markActionSS:SoundCall Try.prog 92 s_laws_markActionSS:=by unfold s_laws_markActionSS;exact fun_sound_of follows Try.func92 k_laws_markActionSS o_laws_markActionSS ⟨l_laws_markActionS,trivial⟩
theorem k_laws_markKeymap:okFun Try.prog Try.f37 f_laws_markKeymap=true:=by kernel_rfl
theorem o_laws_markKeymap:funOb Try.prog Try.f37 f_laws_markKeymap=[(92,s_laws_markActionSS)]:=by kernel_rfl
theorem l_laws_markKeymap:SoundCall Try.prog 37 s_laws_markKeymap:=by unfold s_laws_markKeymap;exact fun_sound_of follows Try.func37 k_laws_markKeymap o_laws_markKeymap ⟨l_laws_markActionSS,trivial⟩
theorem k_laws_heldActionS:okFun Try.prog Try.f137 f_laws_heldActionS=true:=by kernel_rfl
theorem o_laws_heldActionS:funOb Try.prog Try.f137 f_laws_heldActionS=[]:=by kernel_rfl
theorem l_laws_heldActionS:SoundCall Try.prog 137 s_laws_heldActionS:=by unfold s_laws_heldActionS;exact fun_sound_of follows Try.func137 k_laws_heldActionS o_laws_heldActionS trivial
theorem k_laws_heldActionSS:okFun Try.prog Try.f95 f_laws_heldActionSS=true:=by kernel_rfl
theorem o_laws_heldActionSS:funOb Try.prog Try.f95 f_laws_heldActionSS=[(137,s_laws_heldActionS)]:=by kernel_rfl
theorem l_laws_heldActionSS:SoundCall Try.prog 95 s_laws_heldActionSS:=by unfold s_laws_heldActionSS;exact fun_sound_of follows Try.func95 k_laws_heldActionSS o_laws_heldActionSS ⟨l_laws_heldActionS,trivial⟩
theorem k_laws_heldKeymap:okFun Try.prog Try.f40 f_laws_heldKeymap=true:=by kernel_rfl
theorem o_laws_heldKeymap:funOb Try.prog Try.f40 f_laws_heldKeymap=[(95,s_laws_heldActionSS)]:=by kernel_rfl
theorem l_laws_heldKeymap:SoundCall Try.prog 40 s_laws_heldKeymap:=by unfold s_laws_heldKeymap;exact fun_sound_of follows Try.func40 k_laws_heldKeymap o_laws_heldKeymap ⟨l_laws_heldActionSS,trivial⟩
theorem k_laws_FnExactSetAction:okFun Try.prog Try.f9 f_laws_FnExactSetAction=true:=by kernel_rfl
theorem o_laws_FnExactSetAction:funOb Try.prog Try.f9 f_laws_FnExactSetAction=[(32,s_laws_szKeymap),(34,s_laws_toKeymap),(42,s_laws_toAction),(41,s_spec_SetAction),(34,s_laws_toKeymap),(42,s_laws_toAction),(43,s_impl_SetAction),(36,s_laws_eqKeymap),(34,s_laws_toKeymap),(36,s_laws_eqKeymap),(37,s_laws_markKeymap),(36,s_laws_eqKeymap),(37,s_laws_markKeymap),(40,s_laws_heldKeymap),(34,s_laws_toKeymap),(42,s_laws_toAction),(43,s_impl_SetAction),(36,s_laws_eqKeymap),(40,s_laws_heldKeymap)]:=by kernel_rfl
theorem l_laws_FnExactSetAction:SoundCall Try.prog 9 s_laws_FnExactSetAction:=by unfold s_laws_FnExactSetAction;exact fun_sound_of follows Try.func9 k_laws_FnExactSetAction o_laws_FnExactSetAction ⟨l_laws_szKeymap,l_laws_toKeymap,l_laws_toAction,l_spec_SetAction,l_laws_toKeymap,l_laws_toAction,l_impl_SetAction,l_laws_eqKeymap,l_laws_toKeymap,l_laws_eqKeymap,l_laws_markKeymap,l_laws_eqKeymap,l_laws_markKeymap,l_laws_heldKeymap,l_laws_toKeymap,l_laws_toAction,l_impl_SetAction,l_laws_eqKeymap,l_laws_heldKeymap,trivial⟩
end Go.Proofs.Ythljgcjmaabnoaa
