/-
 EACH ABSTRACT FUNCTION IS THE SEAT's OWN: checked by the kernel,function by function (written by program,ag.py).
-/
import Derived.Test.YthljgcjmaabnoaaChecked
import Derived.KernelRfl
import Derived.Test.YthljgcjmaabnoaaLibG
namespace Go.Proofs.Ythljgcjmaabnoaa
open Go.Ag
theorem follows:Try.prog.follows .mixedOrders=true:=by kernel_rfl
theorem k_laws_szActionS:okFun Try.prog Try.f131 f_laws_szActionS=true:=by kernel_rfl
theorem o_laws_szActionS:funOb Try.prog Try.f131 f_laws_szActionS=[]:=by kernel_rfl
theorem l_laws_szActionS:SoundCall Try.prog 131 s_laws_szActionS:=by unfold s_laws_szActionS;exact fun_sound_of follows Try.func131 k_laws_szActionS o_laws_szActionS trivial
theorem k_laws_szActionSS:okFun Try.prog Try.f85 f_laws_szActionSS=true:=by kernel_rfl
theorem o_laws_szActionSS:funOb Try.prog Try.f85 f_laws_szActionSS=[(131,s_laws_szActionS)]:=by kernel_rfl
theorem l_laws_szActionSS:SoundCall Try.prog 85 s_laws_szActionSS:=by unfold s_laws_szActionSS;exact fun_sound_of follows Try.func85 k_laws_szActionSS o_laws_szActionSS ⟨l_laws_szActionS,trivial⟩
theorem k_laws_szKeymap:okFun Try.prog Try.f32 f_laws_szKeymap=true:=by kernel_rfl
theorem o_laws_szKeymap:funOb Try.prog Try.f32 f_laws_szKeymap=[(85,s_laws_szActionSS)]:=by kernel_rfl
theorem l_laws_szKeymap:SoundCall Try.prog 32 s_laws_szKeymap:=by unfold s_laws_szKeymap;exact fun_sound_of follows Try.func32 k_laws_szKeymap o_laws_szKeymap ⟨l_laws_szActionSS,trivial⟩
theorem k_laws_szStepS:okFun Try.prog Try.f59 f_laws_szStepS=true:=by kernel_rfl
theorem o_laws_szStepS:funOb Try.prog Try.f59 f_laws_szStepS=[]:=by kernel_rfl
theorem l_laws_szStepS:SoundCall Try.prog 59 s_laws_szStepS:=by unfold s_laws_szStepS;exact fun_sound_of follows Try.func59 k_laws_szStepS o_laws_szStepS trivial
theorem k_laws_szStepSS:okFun Try.prog Try.f50 f_laws_szStepSS=true:=by kernel_rfl
theorem o_laws_szStepSS:funOb Try.prog Try.f50 f_laws_szStepSS=[(59,s_laws_szStepS)]:=by kernel_rfl
theorem l_laws_szStepSS:SoundCall Try.prog 50 s_laws_szStepSS:=by unfold s_laws_szStepSS;exact fun_sound_of follows Try.func50 k_laws_szStepSS o_laws_szStepSS ⟨l_laws_szStepS,trivial⟩
theorem k_laws_toAction:okFun Try.prog Try.f42 f_laws_toAction=true:=by kernel_rfl
theorem o_laws_toAction:funOb Try.prog Try.f42 f_laws_toAction=[]:=by kernel_rfl
theorem l_laws_toAction:SoundCall Try.prog 42 s_laws_toAction:=by unfold s_laws_toAction;exact fun_sound_of follows Try.func42 k_laws_toAction o_laws_toAction trivial
theorem k_laws_toActionS:okFun Try.prog Try.f133 f_laws_toActionS=true:=by kernel_rfl
theorem o_laws_toActionS:funOb Try.prog Try.f133 f_laws_toActionS=[(42,s_laws_toAction)]:=by kernel_rfl
theorem l_laws_toActionS:SoundCall Try.prog 133 s_laws_toActionS:=by unfold s_laws_toActionS;exact fun_sound_of follows Try.func133 k_laws_toActionS o_laws_toActionS ⟨l_laws_toAction,trivial⟩
theorem k_laws_toActionSS:okFun Try.prog Try.f88 f_laws_toActionSS=true:=by kernel_rfl
theorem o_laws_toActionSS:funOb Try.prog Try.f88 f_laws_toActionSS=[(133,s_laws_toActionS)]:=by kernel_rfl
theorem l_laws_toActionSS:SoundCall Try.prog 88 s_laws_toActionSS:=by unfold s_laws_toActionSS;exact fun_sound_of follows Try.func88 k_laws_toActionSS o_laws_toActionSS ⟨l_laws_toActionS,trivial⟩
theorem k_laws_toKeymap:okFun Try.prog Try.f34 f_laws_toKeymap=true:=by kernel_rfl
theorem o_laws_toKeymap:funOb Try.prog Try.f34 f_laws_toKeymap=[(88,s_laws_toActionSS)]:=by kernel_rfl
theorem l_laws_toKeymap:SoundCall Try.prog 34 s_laws_toKeymap:=by unfold s_laws_toKeymap;exact fun_sound_of follows Try.func34 k_laws_toKeymap o_laws_toKeymap ⟨l_laws_toActionSS,trivial⟩
theorem k_laws_toStep:okFun Try.prog Try.f113 f_laws_toStep=true:=by kernel_rfl
theorem o_laws_toStep:funOb Try.prog Try.f113 f_laws_toStep=[]:=by kernel_rfl
theorem l_laws_toStep:SoundCall Try.prog 113 s_laws_toStep:=by unfold s_laws_toStep;exact fun_sound_of follows Try.func113 k_laws_toStep o_laws_toStep trivial
theorem k_laws_toStepS:okFun Try.prog Try.f61 f_laws_toStepS=true:=by kernel_rfl
theorem o_laws_toStepS:funOb Try.prog Try.f61 f_laws_toStepS=[(113,s_laws_toStep)]:=by kernel_rfl
theorem l_laws_toStepS:SoundCall Try.prog 61 s_laws_toStepS:=by unfold s_laws_toStepS;exact fun_sound_of follows Try.func61 k_laws_toStepS o_laws_toStepS ⟨l_laws_toStep,trivial⟩
theorem k_laws_toStepSS:okFun Try.prog Try.f52 f_laws_toStepSS=true:=by kernel_rfl
theorem o_laws_toStepSS:funOb Try.prog Try.f52 f_laws_toStepSS=[(61,s_laws_toStepS)]:=by kernel_rfl
theorem l_laws_toStepSS:SoundCall Try.prog 52 s_laws_toStepSS:=by unfold s_laws_toStepSS;exact fun_sound_of follows Try.func52 k_laws_toStepSS o_laws_toStepSS ⟨l_laws_toStepS,trivial⟩
theorem k_spec_l1In:okFun Try.prog Try.f96 f_spec_l1In=true:=by kernel_rfl
theorem o_spec_l1In:funOb Try.prog Try.f96 f_spec_l1In=[]:=by kernel_rfl
theorem l_spec_l1In:SoundCall Try.prog 96 s_spec_l1In:=by unfold s_spec_l1In;exact fun_sound_of follows Try.func96 k_spec_l1In o_spec_l1In trivial
theorem k_spec_IsAction:okFun Try.prog Try.f132 f_spec_IsAction=true:=by kernel_rfl
theorem o_spec_IsAction:funOb Try.prog Try.f132 f_spec_IsAction=[(96,s_spec_l1In),(96,s_spec_l1In),(96,s_spec_l1In),(96,s_spec_l1In)]:=by kernel_rfl
theorem l_spec_IsAction:SoundCall Try.prog 132 s_spec_IsAction:=by unfold s_spec_IsAction;exact fun_sound_of follows Try.func132 k_spec_IsAction o_spec_IsAction ⟨l_spec_l1In,l_spec_l1In,l_spec_l1In,l_spec_l1In,trivial⟩
theorem k_spec_IsKeymap:okFun Try.prog Try.f86 f_spec_IsKeymap=true:=by kernel_rfl
theorem o_spec_IsKeymap:funOb Try.prog Try.f86 f_spec_IsKeymap=[(132,s_spec_IsAction),(96,s_spec_l1In),(96,s_spec_l1In)]:=by kernel_rfl
theorem l_spec_IsKeymap:SoundCall Try.prog 86 s_spec_IsKeymap:=by unfold s_spec_IsKeymap;exact fun_sound_of follows Try.func86 k_spec_IsKeymap o_spec_IsKeymap ⟨l_spec_IsAction,l_spec_l1In,l_spec_l1In,trivial⟩
theorem k_spec_IsTapHold:okFun Try.prog Try.f138 f_spec_IsTapHold=true:=by kernel_rfl
theorem o_spec_IsTapHold:funOb Try.prog Try.f138 f_spec_IsTapHold=[(132,s_spec_IsAction)]:=by kernel_rfl
theorem l_spec_IsTapHold:SoundCall Try.prog 138 s_spec_IsTapHold:=by unfold s_spec_IsTapHold;exact fun_sound_of follows Try.func138 k_spec_IsTapHold o_spec_IsTapHold ⟨l_spec_IsAction,trivial⟩
theorem k_spec_IsHeld:okFun Try.prog Try.f99 f_spec_IsHeld=true:=by kernel_rfl
theorem o_spec_IsHeld:funOb Try.prog Try.f99 f_spec_IsHeld=[(96,s_spec_l1In),(132,s_spec_IsAction),(138,s_spec_IsTapHold)]:=by kernel_rfl
theorem l_spec_IsHeld:SoundCall Try.prog 99 s_spec_IsHeld:=by unfold s_spec_IsHeld;exact fun_sound_of follows Try.func99 k_spec_IsHeld o_spec_IsHeld ⟨l_spec_l1In,l_spec_IsAction,l_spec_IsTapHold,trivial⟩
theorem k_spec_l8Find:okFun Try.prog Try.f112 f_spec_l8Find=true:=by kernel_rfl
theorem o_spec_l8Find:funOb Try.prog Try.f112 f_spec_l8Find=[]:=by kernel_rfl
theorem l_spec_l8Find:SoundCall Try.prog 112 s_spec_l8Find:=by unfold s_spec_l8Find;exact fun_sound_of follows Try.func112 k_spec_l8Find o_spec_l8Find trivial
theorem k_spec_l8Action:okFun Try.prog Try.f109 f_spec_l8Action=true:=by kernel_rfl
theorem o_spec_l8Action:funOb Try.prog Try.f109 f_spec_l8Action=[]:=by kernel_rfl
theorem l_spec_l8Action:SoundCall Try.prog 109 s_spec_l8Action:=by unfold s_spec_l8Action;exact fun_sound_of follows Try.func109 k_spec_l8Action o_spec_l8Action trivial
theorem k_spec_l8Without:okFun Try.prog Try.f111 f_spec_l8Without=true:=by kernel_rfl
theorem o_spec_l8Without:funOb Try.prog Try.f111 f_spec_l8Without=[]:=by kernel_rfl
theorem l_spec_l8Without:SoundCall Try.prog 111 s_spec_l8Without:=by unfold s_spec_l8Without;exact fun_sound_of follows Try.func111 k_spec_l8Without o_spec_l8Without trivial
theorem k_spec_IsMacro:okFun Try.prog Try.f108 f_spec_IsMacro=true:=by kernel_rfl
theorem o_spec_IsMacro:funOb Try.prog Try.f108 f_spec_IsMacro=[(112,s_spec_l8Find),(96,s_spec_l1In),(109,s_spec_l8Action),(132,s_spec_IsAction),(109,s_spec_l8Action),(111,s_spec_l8Without)]:=by kernel_rfl
theorem l_spec_IsMacro:SoundCall Try.prog 108 s_spec_IsMacro:=by unfold s_spec_IsMacro;exact fun_sound_of follows Try.func108 k_spec_IsMacro o_spec_IsMacro ⟨l_spec_l8Find,l_spec_l1In,l_spec_l8Action,l_spec_IsAction,l_spec_l8Action,l_spec_l8Without,trivial⟩
theorem k_spec_IsEngine:okFun Try.prog Try.f69 f_spec_IsEngine=true:=by kernel_rfl
theorem o_spec_IsEngine:funOb Try.prog Try.f69 f_spec_IsEngine=[(86,s_spec_IsKeymap),(99,s_spec_IsHeld),(108,s_spec_IsMacro),(96,s_spec_l1In),(96,s_spec_l1In)]:=by kernel_rfl
theorem l_spec_IsEngine:SoundCall Try.prog 69 s_spec_IsEngine:=by unfold s_spec_IsEngine;exact fun_sound_of follows Try.func69 k_spec_IsEngine o_spec_IsEngine ⟨l_spec_IsKeymap,l_spec_IsHeld,l_spec_IsMacro,l_spec_l1In,l_spec_l1In,trivial⟩
theorem k_spec_l6Copy:okFun Try.prog Try.f97 f_spec_l6Copy=true:=by kernel_rfl
theorem o_spec_l6Copy:funOb Try.prog Try.f97 f_spec_l6Copy=[]:=by kernel_rfl
theorem l_spec_l6Copy:SoundCall Try.prog 97 s_spec_l6Copy:=by unfold s_spec_l6Copy;exact fun_sound_of follows Try.func97 k_spec_l6Copy o_spec_l6Copy trivial
theorem k_spec_l9Copy:okFun Try.prog Try.f104 f_spec_l9Copy=true:=by kernel_rfl
theorem o_spec_l9Copy:funOb Try.prog Try.f104 f_spec_l9Copy=[(97,s_spec_l6Copy)]:=by kernel_rfl
theorem l_spec_l9Copy:SoundCall Try.prog 104 s_spec_l9Copy:=by unfold s_spec_l9Copy;exact fun_sound_of follows Try.func104 k_spec_l9Copy o_spec_l9Copy ⟨l_spec_l6Copy,trivial⟩
theorem k_spec_NewEngine:okFun Try.prog Try.f51 f_spec_NewEngine=true:=by kernel_rfl
theorem o_spec_NewEngine:funOb Try.prog Try.f51 f_spec_NewEngine=[(69,s_spec_IsEngine),(104,s_spec_l9Copy)]:=by kernel_rfl
theorem l_spec_NewEngine:SoundCall Try.prog 51 s_spec_NewEngine:=by unfold s_spec_NewEngine;exact fun_sound_of follows Try.func51 k_spec_NewEngine o_spec_NewEngine ⟨l_spec_IsEngine,l_spec_l9Copy,trivial⟩
theorem k_impl_copyKeymap:okFun Try.prog Try.f98 f_impl_copyKeymap=true:=by kernel_rfl
theorem o_impl_copyKeymap:funOb Try.prog Try.f98 f_impl_copyKeymap=[]:=by kernel_rfl
theorem l_impl_copyKeymap:SoundCall Try.prog 98 s_impl_copyKeymap:=by unfold s_impl_copyKeymap;exact fun_sound_of follows Try.func98 k_impl_copyKeymap o_impl_copyKeymap trivial
theorem k_impl_copyMacros:okFun Try.prog Try.f105 f_impl_copyMacros=true:=by kernel_rfl
theorem o_impl_copyMacros:funOb Try.prog Try.f105 f_impl_copyMacros=[]:=by kernel_rfl
theorem l_impl_copyMacros:SoundCall Try.prog 105 s_impl_copyMacros:=by unfold s_impl_copyMacros;exact fun_sound_of follows Try.func105 k_impl_copyMacros o_impl_copyMacros trivial
theorem k_impl_isCode:okFun Try.prog Try.f130 f_impl_isCode=true:=by kernel_rfl
theorem o_impl_isCode:funOb Try.prog Try.f130 f_impl_isCode=[]:=by kernel_rfl
theorem l_impl_isCode:SoundCall Try.prog 130 s_impl_isCode:=by unfold s_impl_isCode;exact fun_sound_of follows Try.func130 k_impl_isCode o_impl_isCode trivial
theorem k_impl_isMods:okFun Try.prog Try.f149 f_impl_isMods=true:=by kernel_rfl
theorem o_impl_isMods:funOb Try.prog Try.f149 f_impl_isMods=[]:=by kernel_rfl
theorem l_impl_isMods:SoundCall Try.prog 149 s_impl_isMods:=by unfold s_impl_isMods;exact fun_sound_of follows Try.func149 k_impl_isMods o_impl_isMods trivial
theorem k_impl_isUpper:okFun Try.prog Try.f150 f_impl_isUpper=true:=by kernel_rfl
theorem o_impl_isUpper:funOb Try.prog Try.f150 f_impl_isUpper=[]:=by kernel_rfl
theorem l_impl_isUpper:SoundCall Try.prog 150 s_impl_isUpper:=by unfold s_impl_isUpper;exact fun_sound_of follows Try.func150 k_impl_isUpper o_impl_isUpper trivial
theorem k_impl_IsAction:okFun Try.prog Try.f134 f_impl_IsAction=true:=by kernel_rfl
theorem o_impl_IsAction:funOb Try.prog Try.f134 f_impl_IsAction=[(130,s_impl_isCode),(149,s_impl_isMods),(150,s_impl_isUpper),(130,s_impl_isCode),(149,s_impl_isMods),(130,s_impl_isCode),(150,s_impl_isUpper),(149,s_impl_isMods)]:=by kernel_rfl
theorem l_impl_IsAction:SoundCall Try.prog 134 s_impl_IsAction:=by unfold s_impl_IsAction;exact fun_sound_of follows Try.func134 k_impl_IsAction o_impl_IsAction ⟨l_impl_isCode,l_impl_isMods,l_impl_isUpper,l_impl_isCode,l_impl_isMods,l_impl_isCode,l_impl_isUpper,l_impl_isMods,trivial⟩
theorem k_impl_IsKeymap:okFun Try.prog Try.f89 f_impl_IsKeymap=true:=by kernel_rfl
theorem o_impl_IsKeymap:funOb Try.prog Try.f89 f_impl_IsKeymap=[(134,s_impl_IsAction)]:=by kernel_rfl
theorem l_impl_IsKeymap:SoundCall Try.prog 89 s_impl_IsKeymap:=by unfold s_impl_IsKeymap;exact fun_sound_of follows Try.func89 k_impl_IsKeymap o_impl_IsKeymap ⟨l_impl_IsAction,trivial⟩
theorem k_impl_bit:okFun Try.prog Try.f139 f_impl_bit=true:=by kernel_rfl
theorem o_impl_bit:funOb Try.prog Try.f139 f_impl_bit=[]:=by kernel_rfl
theorem l_impl_bit:SoundCall Try.prog 139 s_impl_bit:=by unfold s_impl_bit;exact fun_sound_of follows Try.func139 k_impl_bit o_impl_bit trivial
theorem k_impl_IsHeld:okFun Try.prog Try.f101 f_impl_IsHeld=true:=by kernel_rfl
theorem o_impl_IsHeld:funOb Try.prog Try.f101 f_impl_IsHeld=[(139,s_impl_bit),(134,s_impl_IsAction)]:=by kernel_rfl
theorem l_impl_IsHeld:SoundCall Try.prog 101 s_impl_IsHeld:=by unfold s_impl_IsHeld;exact fun_sound_of follows Try.func101 k_impl_IsHeld o_impl_IsHeld ⟨l_impl_bit,l_impl_IsAction,trivial⟩
theorem k_impl_pairAt:okFun Try.prog Try.f116 f_impl_pairAt=true:=by kernel_rfl
theorem o_impl_pairAt:funOb Try.prog Try.f116 f_impl_pairAt=[]:=by kernel_rfl
theorem l_impl_pairAt:SoundCall Try.prog 116 s_impl_pairAt:=by unfold s_impl_pairAt;exact fun_sound_of follows Try.func116 k_impl_pairAt o_impl_pairAt trivial
theorem k_impl_IsMacro:okFun Try.prog Try.f114 f_impl_IsMacro=true:=by kernel_rfl
theorem o_impl_IsMacro:funOb Try.prog Try.f114 f_impl_IsMacro=[(116,s_impl_pairAt),(134,s_impl_IsAction)]:=by kernel_rfl
theorem l_impl_IsMacro:SoundCall Try.prog 114 s_impl_IsMacro:=by unfold s_impl_IsMacro;exact fun_sound_of follows Try.func114 k_impl_IsMacro o_impl_IsMacro ⟨l_impl_pairAt,l_impl_IsAction,trivial⟩
theorem k_impl_IsEngine:okFun Try.prog Try.f71 f_impl_IsEngine=true:=by kernel_rfl
theorem o_impl_IsEngine:funOb Try.prog Try.f71 f_impl_IsEngine=[(89,s_impl_IsKeymap),(101,s_impl_IsHeld),(114,s_impl_IsMacro)]:=by kernel_rfl
theorem l_impl_IsEngine:SoundCall Try.prog 71 s_impl_IsEngine:=by unfold s_impl_IsEngine;exact fun_sound_of follows Try.func71 k_impl_IsEngine o_impl_IsEngine ⟨l_impl_IsKeymap,l_impl_IsHeld,l_impl_IsMacro,trivial⟩
theorem k_impl_NewEngine:okFun Try.prog Try.f53 f_impl_NewEngine=true:=by kernel_rfl
theorem o_impl_NewEngine:funOb Try.prog Try.f53 f_impl_NewEngine=[(98,s_impl_copyKeymap),(105,s_impl_copyMacros),(71,s_impl_IsEngine)]:=by kernel_rfl
theorem l_impl_NewEngine:SoundCall Try.prog 53 s_impl_NewEngine:=by unfold s_impl_NewEngine;exact fun_sound_of follows Try.func53 k_impl_NewEngine o_impl_NewEngine ⟨l_impl_copyKeymap,l_impl_copyMacros,l_impl_IsEngine,trivial⟩
theorem k_laws_eqAction:okFun Try.prog Try.f142 f_laws_eqAction=true:=by kernel_rfl
theorem o_laws_eqAction:funOb Try.prog Try.f142 f_laws_eqAction=[]:=by kernel_rfl
theorem l_laws_eqAction:SoundCall Try.prog 142 s_laws_eqAction:=by unfold s_laws_eqAction;exact fun_sound_of follows Try.func142 k_laws_eqAction o_laws_eqAction trivial
theorem k_laws_eqActionS:okFun Try.prog Try.f135 f_laws_eqActionS=true:=by kernel_rfl
theorem o_laws_eqActionS:funOb Try.prog Try.f135 f_laws_eqActionS=[(142,s_laws_eqAction)]:=by kernel_rfl
theorem l_laws_eqActionS:SoundCall Try.prog 135 s_laws_eqActionS:=by unfold s_laws_eqActionS;exact fun_sound_of follows Try.func135 k_laws_eqActionS o_laws_eqActionS ⟨l_laws_eqAction,trivial⟩
theorem k_laws_eqActionSS:okFun Try.prog Try.f91 f_laws_eqActionSS=true:=by kernel_rfl
theorem o_laws_eqActionSS:funOb Try.prog Try.f91 f_laws_eqActionSS=[(135,s_laws_eqActionS)]:=by kernel_rfl
theorem l_laws_eqActionSS:SoundCall Try.prog 91 s_laws_eqActionSS:=by unfold s_laws_eqActionSS;exact fun_sound_of follows Try.func91 k_laws_eqActionSS o_laws_eqActionSS ⟨l_laws_eqActionS,trivial⟩
theorem k_laws_eqKeymap:okFun Try.prog Try.f36 f_laws_eqKeymap=true:=by kernel_rfl
theorem o_laws_eqKeymap:funOb Try.prog Try.f36 f_laws_eqKeymap=[(91,s_laws_eqActionSS)]:=by kernel_rfl
theorem l_laws_eqKeymap:SoundCall Try.prog 36 s_laws_eqKeymap:=by unfold s_laws_eqKeymap;exact fun_sound_of follows Try.func36 k_laws_eqKeymap o_laws_eqKeymap ⟨l_laws_eqActionSS,trivial⟩
theorem k_laws_eqStep:okFun Try.prog Try.f117 f_laws_eqStep=true:=by kernel_rfl
theorem o_laws_eqStep:funOb Try.prog Try.f117 f_laws_eqStep=[]:=by kernel_rfl
theorem l_laws_eqStep:SoundCall Try.prog 117 s_laws_eqStep:=by unfold s_laws_eqStep;exact fun_sound_of follows Try.func117 k_laws_eqStep o_laws_eqStep trivial
theorem k_laws_eqStepS:okFun Try.prog Try.f64 f_laws_eqStepS=true:=by kernel_rfl
theorem o_laws_eqStepS:funOb Try.prog Try.f64 f_laws_eqStepS=[(117,s_laws_eqStep)]:=by kernel_rfl
theorem l_laws_eqStepS:SoundCall Try.prog 64 s_laws_eqStepS:=by unfold s_laws_eqStepS;exact fun_sound_of follows Try.func64 k_laws_eqStepS o_laws_eqStepS ⟨l_laws_eqStep,trivial⟩
theorem k_laws_eqStepSS:okFun Try.prog Try.f55 f_laws_eqStepSS=true:=by kernel_rfl
theorem o_laws_eqStepSS:funOb Try.prog Try.f55 f_laws_eqStepSS=[(64,s_laws_eqStepS)]:=by kernel_rfl
theorem l_laws_eqStepSS:SoundCall Try.prog 55 s_laws_eqStepSS:=by unfold s_laws_eqStepSS;exact fun_sound_of follows Try.func55 k_laws_eqStepSS o_laws_eqStepSS ⟨l_laws_eqStepS,trivial⟩
theorem k_laws_eqHeld:okFun Try.prog Try.f103 f_laws_eqHeld=true:=by kernel_rfl
theorem o_laws_eqHeld:funOb Try.prog Try.f103 f_laws_eqHeld=[(142,s_laws_eqAction)]:=by kernel_rfl
theorem l_laws_eqHeld:SoundCall Try.prog 103 s_laws_eqHeld:=by unfold s_laws_eqHeld;exact fun_sound_of follows Try.func103 k_laws_eqHeld o_laws_eqHeld ⟨l_laws_eqAction,trivial⟩
theorem k_laws_eqHeldS:okFun Try.prog Try.f48 f_laws_eqHeldS=true:=by kernel_rfl
theorem o_laws_eqHeldS:funOb Try.prog Try.f48 f_laws_eqHeldS=[(103,s_laws_eqHeld)]:=by kernel_rfl
theorem l_laws_eqHeldS:SoundCall Try.prog 48 s_laws_eqHeldS:=by unfold s_laws_eqHeldS;exact fun_sound_of follows Try.func48 k_laws_eqHeldS o_laws_eqHeldS ⟨l_laws_eqHeld,trivial⟩
theorem k_laws_eqEngine:okFun Try.prog Try.f54 f_laws_eqEngine=true:=by kernel_rfl
theorem o_laws_eqEngine:funOb Try.prog Try.f54 f_laws_eqEngine=[(36,s_laws_eqKeymap),(55,s_laws_eqStepSS),(48,s_laws_eqHeldS)]:=by kernel_rfl
theorem l_laws_eqEngine:SoundCall Try.prog 54 s_laws_eqEngine:=by unfold s_laws_eqEngine;exact fun_sound_of follows Try.func54 k_laws_eqEngine o_laws_eqEngine ⟨l_laws_eqKeymap,l_laws_eqStepSS,l_laws_eqHeldS,trivial⟩
theorem k_laws_markActionS:okFun Try.prog Try.f136 f_laws_markActionS=true:=by kernel_rfl
theorem o_laws_markActionS:funOb Try.prog Try.f136 f_laws_markActionS=[]:=by kernel_rfl
theorem l_laws_markActionS:SoundCall Try.prog 136 s_laws_markActionS:=by unfold s_laws_markActionS;exact fun_sound_of follows Try.func136 k_laws_markActionS o_laws_markActionS trivial
theorem k_laws_markActionSS:okFun Try.prog Try.f92 f_laws_markActionSS=true:=by kernel_rfl
theorem o_laws_markActionSS:funOb Try.prog Try.f92 f_laws_markActionSS=[(136,s_laws_markActionS)]:=by kernel_rfl
theorem l_laws_markActionSS:SoundCall Try.prog 92 s_laws_markActionSS:=by unfold s_laws_markActionSS;exact fun_sound_of follows Try.func92 k_laws_markActionSS o_laws_markActionSS ⟨l_laws_markActionS,trivial⟩
theorem k_laws_markKeymap:okFun Try.prog Try.f37 f_laws_markKeymap=true:=by kernel_rfl
theorem o_laws_markKeymap:funOb Try.prog Try.f37 f_laws_markKeymap=[(92,s_laws_markActionSS)]:=by kernel_rfl
theorem l_laws_markKeymap:SoundCall Try.prog 37 s_laws_markKeymap:=by unfold s_laws_markKeymap;exact fun_sound_of follows Try.func37 k_laws_markKeymap o_laws_markKeymap ⟨l_laws_markActionSS,trivial⟩
theorem k_laws_markStepS:okFun Try.prog Try.f65 f_laws_markStepS=true:=by kernel_rfl
theorem o_laws_markStepS:funOb Try.prog Try.f65 f_laws_markStepS=[]:=by kernel_rfl
theorem l_laws_markStepS:SoundCall Try.prog 65 s_laws_markStepS:=by unfold s_laws_markStepS;exact fun_sound_of follows Try.func65 k_laws_markStepS o_laws_markStepS trivial
theorem k_laws_markStepSS:okFun Try.prog Try.f56 f_laws_markStepSS=true:=by kernel_rfl
theorem o_laws_markStepSS:funOb Try.prog Try.f56 f_laws_markStepSS=[(65,s_laws_markStepS)]:=by kernel_rfl
theorem l_laws_markStepSS:SoundCall Try.prog 56 s_laws_markStepSS:=by unfold s_laws_markStepSS;exact fun_sound_of follows Try.func56 k_laws_markStepSS o_laws_markStepSS ⟨l_laws_markStepS,trivial⟩
theorem k_laws_markHeldS:okFun Try.prog Try.f49 f_laws_markHeldS=true:=by kernel_rfl
theorem o_laws_markHeldS:funOb Try.prog Try.f49 f_laws_markHeldS=[]:=by kernel_rfl
theorem l_laws_markHeldS:SoundCall Try.prog 49 s_laws_markHeldS:=by unfold s_laws_markHeldS;exact fun_sound_of follows Try.func49 k_laws_markHeldS o_laws_markHeldS trivial
theorem k_laws_markEngine:okFun Try.prog Try.f57 f_laws_markEngine=true:=by kernel_rfl
theorem o_laws_markEngine:funOb Try.prog Try.f57 f_laws_markEngine=[(37,s_laws_markKeymap),(56,s_laws_markStepSS),(49,s_laws_markHeldS)]:=by kernel_rfl
theorem l_laws_markEngine:SoundCall Try.prog 57 s_laws_markEngine:=by unfold s_laws_markEngine;exact fun_sound_of follows Try.func57 k_laws_markEngine o_laws_markEngine ⟨l_laws_markKeymap,l_laws_markStepSS,l_laws_markHeldS,trivial⟩
theorem k_laws_heldActionS:okFun Try.prog Try.f137 f_laws_heldActionS=true:=by kernel_rfl
theorem o_laws_heldActionS:funOb Try.prog Try.f137 f_laws_heldActionS=[]:=by kernel_rfl
theorem l_laws_heldActionS:SoundCall Try.prog 137 s_laws_heldActionS:=by unfold s_laws_heldActionS;exact fun_sound_of follows Try.func137 k_laws_heldActionS o_laws_heldActionS trivial
theorem k_laws_heldActionSS:okFun Try.prog Try.f95 f_laws_heldActionSS=true:=by kernel_rfl
theorem o_laws_heldActionSS:funOb Try.prog Try.f95 f_laws_heldActionSS=[(137,s_laws_heldActionS)]:=by kernel_rfl
theorem l_laws_heldActionSS:SoundCall Try.prog 95 s_laws_heldActionSS:=by unfold s_laws_heldActionSS;exact fun_sound_of follows Try.func95 k_laws_heldActionSS o_laws_heldActionSS ⟨l_laws_heldActionS,trivial⟩
theorem k_laws_heldKeymap:okFun Try.prog Try.f40 f_laws_heldKeymap=true:=by kernel_rfl
theorem o_laws_heldKeymap:funOb Try.prog Try.f40 f_laws_heldKeymap=[(95,s_laws_heldActionSS)]:=by kernel_rfl
theorem l_laws_heldKeymap:SoundCall Try.prog 40 s_laws_heldKeymap:=by unfold s_laws_heldKeymap;exact fun_sound_of follows Try.func40 k_laws_heldKeymap o_laws_heldKeymap ⟨l_laws_heldActionSS,trivial⟩
theorem k_laws_heldStepS:okFun Try.prog Try.f143 f_laws_heldStepS=true:=by kernel_rfl
theorem o_laws_heldStepS:funOb Try.prog Try.f143 f_laws_heldStepS=[]:=by kernel_rfl
theorem l_laws_heldStepS:SoundCall Try.prog 143 s_laws_heldStepS:=by unfold s_laws_heldStepS;exact fun_sound_of follows Try.func143 k_laws_heldStepS o_laws_heldStepS trivial
theorem k_laws_heldStepSS:okFun Try.prog Try.f106 f_laws_heldStepSS=true:=by kernel_rfl
theorem o_laws_heldStepSS:funOb Try.prog Try.f106 f_laws_heldStepSS=[(143,s_laws_heldStepS)]:=by kernel_rfl
theorem l_laws_heldStepSS:SoundCall Try.prog 106 s_laws_heldStepSS:=by unfold s_laws_heldStepSS;exact fun_sound_of follows Try.func106 k_laws_heldStepSS o_laws_heldStepSS ⟨l_laws_heldStepS,trivial⟩
theorem k_laws_heldHeldS:okFun Try.prog Try.f107 f_laws_heldHeldS=true:=by kernel_rfl
theorem o_laws_heldHeldS:funOb Try.prog Try.f107 f_laws_heldHeldS=[]:=by kernel_rfl
theorem l_laws_heldHeldS:SoundCall Try.prog 107 s_laws_heldHeldS:=by unfold s_laws_heldHeldS;exact fun_sound_of follows Try.func107 k_laws_heldHeldS o_laws_heldHeldS trivial
theorem k_laws_heldEngine:okFun Try.prog Try.f58 f_laws_heldEngine=true:=by kernel_rfl
theorem o_laws_heldEngine:funOb Try.prog Try.f58 f_laws_heldEngine=[(40,s_laws_heldKeymap),(106,s_laws_heldStepSS),(107,s_laws_heldHeldS)]:=by kernel_rfl
theorem l_laws_heldEngine:SoundCall Try.prog 58 s_laws_heldEngine:=by unfold s_laws_heldEngine;exact fun_sound_of follows Try.func58 k_laws_heldEngine o_laws_heldEngine ⟨l_laws_heldKeymap,l_laws_heldStepSS,l_laws_heldHeldS,trivial⟩
theorem k_laws_FnExactNewEngine:okFun Try.prog Try.f11 f_laws_FnExactNewEngine=true:=by kernel_rfl
theorem o_laws_FnExactNewEngine:funOb Try.prog Try.f11 f_laws_FnExactNewEngine=[(32,s_laws_szKeymap),(50,s_laws_szStepSS),(34,s_laws_toKeymap),(52,s_laws_toStepSS),(51,s_spec_NewEngine),(34,s_laws_toKeymap),(52,s_laws_toStepSS),(53,s_impl_NewEngine),(54,s_laws_eqEngine),(34,s_laws_toKeymap),(36,s_laws_eqKeymap),(52,s_laws_toStepSS),(55,s_laws_eqStepSS),(37,s_laws_markKeymap),(56,s_laws_markStepSS),(54,s_laws_eqEngine),(57,s_laws_markEngine),(58,s_laws_heldEngine),(34,s_laws_toKeymap),(52,s_laws_toStepSS),(53,s_impl_NewEngine),(54,s_laws_eqEngine),(58,s_laws_heldEngine)]:=by kernel_rfl
theorem l_laws_FnExactNewEngine:SoundCall Try.prog 11 s_laws_FnExactNewEngine:=by unfold s_laws_FnExactNewEngine;exact fun_sound_of follows Try.func11 k_laws_FnExactNewEngine o_laws_FnExactNewEngine ⟨l_laws_szKeymap,l_laws_szStepSS,l_laws_toKeymap,l_laws_toStepSS,l_spec_NewEngine,l_laws_toKeymap,l_laws_toStepSS,l_impl_NewEngine,l_laws_eqEngine,l_laws_toKeymap,l_laws_eqKeymap,l_laws_toStepSS,l_laws_eqStepSS,l_laws_markKeymap,l_laws_markStepSS,l_laws_eqEngine,l_laws_markEngine,l_laws_heldEngine,l_laws_toKeymap,l_laws_toStepSS,l_impl_NewEngine,l_laws_eqEngine,l_laws_heldEngine,trivial⟩
end Go.Proofs.Ythljgcjmaabnoaa
