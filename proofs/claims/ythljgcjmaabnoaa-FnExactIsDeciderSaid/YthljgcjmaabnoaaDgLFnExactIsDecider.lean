/-
 EACH ABSTRACT FUNCTION IS THE SEAT's OWN: checked by the kernel,function by function (written by program,ag.py).
-/
import Derived.Test.YthljgcjmaabnoaaChecked
import Derived.KernelRfl
import Derived.Test.YthljgcjmaabnoaaLibF
namespace Go.Proofs.Ythljgcjmaabnoaa
open Go.Ag
theorem follows:Try.prog.follows .mixedOrders=true:=by kernel_rfl
theorem k_laws_szActionS:okFun Try.prog Try.f131 f_laws_szActionS=true:=by kernel_rfl
theorem o_laws_szActionS:funOb Try.prog Try.f131 f_laws_szActionS=[]:=by kernel_rfl
theorem l_laws_szActionS:SoundCall Try.prog 131 s_laws_szActionS:=by unfold s_laws_szActionS;exact fun_sound_of follows Try.func131 k_laws_szActionS o_laws_szActionS trivial
theorem k_laws_szActionSS:okFun Try.prog Try.f85 f_laws_szActionSS=true:=by kernel_rfl
theorem o_laws_szActionSS:funOb Try.prog Try.f85 f_laws_szActionSS=[(131,s_laws_szActionS)]:=by kernel_rfl
theorem l_laws_szActionSS:SoundCall Try.prog 85 s_laws_szActionSS:=by unfold s_laws_szActionSS;exact fun_sound_of follows Try.func85 k_laws_szActionSS o_laws_szActionSS ⟨l_laws_szActionS,trivial⟩
theorem k_laws_szKeymap:okFun Try.prog Try.f32 f_laws_szKeymap=true:=by kernel_rfl
theorem o_laws_szKeymap:funOb Try.prog Try.f32 f_laws_szKeymap=[(85,s_laws_szActionSS)]:=by kernel_rfl
theorem l_laws_szKeymap:SoundCall Try.prog 32 s_laws_szKeymap:=by unfold s_laws_szKeymap;exact fun_sound_of follows Try.func32 k_laws_szKeymap o_laws_szKeymap ⟨l_laws_szActionSS,trivial⟩
theorem k_laws_szStepS:okFun Try.prog Try.f59 f_laws_szStepS=true:=by kernel_rfl
theorem o_laws_szStepS:funOb Try.prog Try.f59 f_laws_szStepS=[]:=by kernel_rfl
theorem l_laws_szStepS:SoundCall Try.prog 59 s_laws_szStepS:=by unfold s_laws_szStepS;exact fun_sound_of follows Try.func59 k_laws_szStepS o_laws_szStepS trivial
theorem k_laws_szStepSS:okFun Try.prog Try.f50 f_laws_szStepSS=true:=by kernel_rfl
theorem o_laws_szStepSS:funOb Try.prog Try.f50 f_laws_szStepSS=[(59,s_laws_szStepS)]:=by kernel_rfl
theorem l_laws_szStepSS:SoundCall Try.prog 50 s_laws_szStepSS:=by unfold s_laws_szStepSS;exact fun_sound_of follows Try.func50 k_laws_szStepSS o_laws_szStepSS ⟨l_laws_szStepS,trivial⟩
theorem k_laws_szHeldS:okFun Try.prog Try.f44 f_laws_szHeldS=true:=by kernel_rfl
theorem o_laws_szHeldS:funOb Try.prog Try.f44 f_laws_szHeldS=[]:=by kernel_rfl
theorem l_laws_szHeldS:SoundCall Try.prog 44 s_laws_szHeldS:=by unfold s_laws_szHeldS;exact fun_sound_of follows Try.func44 k_laws_szHeldS o_laws_szHeldS trivial
theorem k_laws_szEngine:okFun Try.prog Try.f68 f_laws_szEngine=true:=by kernel_rfl
theorem o_laws_szEngine:funOb Try.prog Try.f68 f_laws_szEngine=[(32,s_laws_szKeymap),(50,s_laws_szStepSS),(44,s_laws_szHeldS)]:=by kernel_rfl
theorem l_laws_szEngine:SoundCall Try.prog 68 s_laws_szEngine:=by unfold s_laws_szEngine;exact fun_sound_of follows Try.func68 k_laws_szEngine o_laws_szEngine ⟨l_laws_szKeymap,l_laws_szStepSS,l_laws_szHeldS,trivial⟩
theorem k_laws_szEventS:okFun Try.prog Try.f118 f_laws_szEventS=true:=by kernel_rfl
theorem o_laws_szEventS:funOb Try.prog Try.f118 f_laws_szEventS=[]:=by kernel_rfl
theorem l_laws_szEventS:SoundCall Try.prog 118 s_laws_szEventS:=by unfold s_laws_szEventS;exact fun_sound_of follows Try.func118 k_laws_szEventS o_laws_szEventS trivial
theorem k_laws_szDecider:okFun Try.prog Try.f72 f_laws_szDecider=true:=by kernel_rfl
theorem o_laws_szDecider:funOb Try.prog Try.f72 f_laws_szDecider=[(68,s_laws_szEngine),(118,s_laws_szEventS)]:=by kernel_rfl
theorem l_laws_szDecider:SoundCall Try.prog 72 s_laws_szDecider:=by unfold s_laws_szDecider;exact fun_sound_of follows Try.func72 k_laws_szDecider o_laws_szDecider ⟨l_laws_szEngine,l_laws_szEventS,trivial⟩
theorem k_laws_toAction:okFun Try.prog Try.f42 f_laws_toAction=true:=by kernel_rfl
theorem o_laws_toAction:funOb Try.prog Try.f42 f_laws_toAction=[]:=by kernel_rfl
theorem l_laws_toAction:SoundCall Try.prog 42 s_laws_toAction:=by unfold s_laws_toAction;exact fun_sound_of follows Try.func42 k_laws_toAction o_laws_toAction trivial
theorem k_laws_toActionS:okFun Try.prog Try.f133 f_laws_toActionS=true:=by kernel_rfl
theorem o_laws_toActionS:funOb Try.prog Try.f133 f_laws_toActionS=[(42,s_laws_toAction)]:=by kernel_rfl
theorem l_laws_toActionS:SoundCall Try.prog 133 s_laws_toActionS:=by unfold s_laws_toActionS;exact fun_sound_of follows Try.func133 k_laws_toActionS o_laws_toActionS ⟨l_laws_toAction,trivial⟩
theorem k_laws_toActionSS:okFun Try.prog Try.f88 f_laws_toActionSS=true:=by kernel_rfl
theorem o_laws_toActionSS:funOb Try.prog Try.f88 f_laws_toActionSS=[(133,s_laws_toActionS)]:=by kernel_rfl
theorem l_laws_toActionSS:SoundCall Try.prog 88 s_laws_toActionSS:=by unfold s_laws_toActionSS;exact fun_sound_of follows Try.func88 k_laws_toActionSS o_laws_toActionSS ⟨l_laws_toActionS,trivial⟩
theorem k_laws_toKeymap:okFun Try.prog Try.f34 f_laws_toKeymap=true:=by kernel_rfl
theorem o_laws_toKeymap:funOb Try.prog Try.f34 f_laws_toKeymap=[(88,s_laws_toActionSS)]:=by kernel_rfl
theorem l_laws_toKeymap:SoundCall Try.prog 34 s_laws_toKeymap:=by unfold s_laws_toKeymap;exact fun_sound_of follows Try.func34 k_laws_toKeymap o_laws_toKeymap ⟨l_laws_toActionSS,trivial⟩
theorem k_laws_toStep:okFun Try.prog Try.f113 f_laws_toStep=true:=by kernel_rfl
theorem o_laws_toStep:funOb Try.prog Try.f113 f_laws_toStep=[]:=by kernel_rfl
theorem l_laws_toStep:SoundCall Try.prog 113 s_laws_toStep:=by unfold s_laws_toStep;exact fun_sound_of follows Try.func113 k_laws_toStep o_laws_toStep trivial
theorem k_laws_toStepS:okFun Try.prog Try.f61 f_laws_toStepS=true:=by kernel_rfl
theorem o_laws_toStepS:funOb Try.prog Try.f61 f_laws_toStepS=[(113,s_laws_toStep)]:=by kernel_rfl
theorem l_laws_toStepS:SoundCall Try.prog 61 s_laws_toStepS:=by unfold s_laws_toStepS;exact fun_sound_of follows Try.func61 k_laws_toStepS o_laws_toStepS ⟨l_laws_toStep,trivial⟩
theorem k_laws_toStepSS:okFun Try.prog Try.f52 f_laws_toStepSS=true:=by kernel_rfl
theorem o_laws_toStepSS:funOb Try.prog Try.f52 f_laws_toStepSS=[(61,s_laws_toStepS)]:=by kernel_rfl
theorem l_laws_toStepSS:SoundCall Try.prog 52 s_laws_toStepSS:=by unfold s_laws_toStepSS;exact fun_sound_of follows Try.func52 k_laws_toStepSS o_laws_toStepSS ⟨l_laws_toStepS,trivial⟩
theorem k_laws_toHeld:okFun Try.prog Try.f100 f_laws_toHeld=true:=by kernel_rfl
theorem o_laws_toHeld:funOb Try.prog Try.f100 f_laws_toHeld=[(42,s_laws_toAction)]:=by kernel_rfl
theorem l_laws_toHeld:SoundCall Try.prog 100 s_laws_toHeld:=by unfold s_laws_toHeld;exact fun_sound_of follows Try.func100 k_laws_toHeld o_laws_toHeld ⟨l_laws_toAction,trivial⟩
theorem k_laws_toHeldS:okFun Try.prog Try.f46 f_laws_toHeldS=true:=by kernel_rfl
theorem o_laws_toHeldS:funOb Try.prog Try.f46 f_laws_toHeldS=[(100,s_laws_toHeld)]:=by kernel_rfl
theorem l_laws_toHeldS:SoundCall Try.prog 46 s_laws_toHeldS:=by unfold s_laws_toHeldS;exact fun_sound_of follows Try.func46 k_laws_toHeldS o_laws_toHeldS ⟨l_laws_toHeld,trivial⟩
theorem k_laws_toEngine:okFun Try.prog Try.f70 f_laws_toEngine=true:=by kernel_rfl
theorem o_laws_toEngine:funOb Try.prog Try.f70 f_laws_toEngine=[(34,s_laws_toKeymap),(52,s_laws_toStepSS),(46,s_laws_toHeldS)]:=by kernel_rfl
theorem l_laws_toEngine:SoundCall Try.prog 70 s_laws_toEngine:=by unfold s_laws_toEngine;exact fun_sound_of follows Try.func70 k_laws_toEngine o_laws_toEngine ⟨l_laws_toKeymap,l_laws_toStepSS,l_laws_toHeldS,trivial⟩
theorem k_laws_toTiming:okFun Try.prog Try.f122 f_laws_toTiming=true:=by kernel_rfl
theorem o_laws_toTiming:funOb Try.prog Try.f122 f_laws_toTiming=[]:=by kernel_rfl
theorem l_laws_toTiming:SoundCall Try.prog 122 s_laws_toTiming:=by unfold s_laws_toTiming;exact fun_sound_of follows Try.func122 k_laws_toTiming o_laws_toTiming trivial
theorem k_laws_toEvent:okFun Try.prog Try.f146 f_laws_toEvent=true:=by kernel_rfl
theorem o_laws_toEvent:funOb Try.prog Try.f146 f_laws_toEvent=[]:=by kernel_rfl
theorem l_laws_toEvent:SoundCall Try.prog 146 s_laws_toEvent:=by unfold s_laws_toEvent;exact fun_sound_of follows Try.func146 k_laws_toEvent o_laws_toEvent trivial
theorem k_laws_toEventS:okFun Try.prog Try.f123 f_laws_toEventS=true:=by kernel_rfl
theorem o_laws_toEventS:funOb Try.prog Try.f123 f_laws_toEventS=[(146,s_laws_toEvent)]:=by kernel_rfl
theorem l_laws_toEventS:SoundCall Try.prog 123 s_laws_toEventS:=by unfold s_laws_toEventS;exact fun_sound_of follows Try.func123 k_laws_toEventS o_laws_toEventS ⟨l_laws_toEvent,trivial⟩
theorem k_laws_toDecider:okFun Try.prog Try.f74 f_laws_toDecider=true:=by kernel_rfl
theorem o_laws_toDecider:funOb Try.prog Try.f74 f_laws_toDecider=[(70,s_laws_toEngine),(122,s_laws_toTiming),(123,s_laws_toEventS)]:=by kernel_rfl
theorem l_laws_toDecider:SoundCall Try.prog 74 s_laws_toDecider:=by unfold s_laws_toDecider;exact fun_sound_of follows Try.func74 k_laws_toDecider o_laws_toDecider ⟨l_laws_toEngine,l_laws_toTiming,l_laws_toEventS,trivial⟩
theorem k_spec_l1In:okFun Try.prog Try.f96 f_spec_l1In=true:=by kernel_rfl
theorem o_spec_l1In:funOb Try.prog Try.f96 f_spec_l1In=[]:=by kernel_rfl
theorem l_spec_l1In:SoundCall Try.prog 96 s_spec_l1In:=by unfold s_spec_l1In;exact fun_sound_of follows Try.func96 k_spec_l1In o_spec_l1In trivial
theorem k_spec_IsAction:okFun Try.prog Try.f132 f_spec_IsAction=true:=by kernel_rfl
theorem o_spec_IsAction:funOb Try.prog Try.f132 f_spec_IsAction=[(96,s_spec_l1In),(96,s_spec_l1In),(96,s_spec_l1In),(96,s_spec_l1In)]:=by kernel_rfl
theorem l_spec_IsAction:SoundCall Try.prog 132 s_spec_IsAction:=by unfold s_spec_IsAction;exact fun_sound_of follows Try.func132 k_spec_IsAction o_spec_IsAction ⟨l_spec_l1In,l_spec_l1In,l_spec_l1In,l_spec_l1In,trivial⟩
theorem k_spec_IsKeymap:okFun Try.prog Try.f86 f_spec_IsKeymap=true:=by kernel_rfl
theorem o_spec_IsKeymap:funOb Try.prog Try.f86 f_spec_IsKeymap=[(132,s_spec_IsAction),(96,s_spec_l1In),(96,s_spec_l1In)]:=by kernel_rfl
theorem l_spec_IsKeymap:SoundCall Try.prog 86 s_spec_IsKeymap:=by unfold s_spec_IsKeymap;exact fun_sound_of follows Try.func86 k_spec_IsKeymap o_spec_IsKeymap ⟨l_spec_IsAction,l_spec_l1In,l_spec_l1In,trivial⟩
theorem k_spec_IsTapHold:okFun Try.prog Try.f138 f_spec_IsTapHold=true:=by kernel_rfl
theorem o_spec_IsTapHold:funOb Try.prog Try.f138 f_spec_IsTapHold=[(132,s_spec_IsAction)]:=by kernel_rfl
theorem l_spec_IsTapHold:SoundCall Try.prog 138 s_spec_IsTapHold:=by unfold s_spec_IsTapHold;exact fun_sound_of follows Try.func138 k_spec_IsTapHold o_spec_IsTapHold ⟨l_spec_IsAction,trivial⟩
theorem k_spec_IsHeld:okFun Try.prog Try.f99 f_spec_IsHeld=true:=by kernel_rfl
theorem o_spec_IsHeld:funOb Try.prog Try.f99 f_spec_IsHeld=[(96,s_spec_l1In),(132,s_spec_IsAction),(138,s_spec_IsTapHold)]:=by kernel_rfl
theorem l_spec_IsHeld:SoundCall Try.prog 99 s_spec_IsHeld:=by unfold s_spec_IsHeld;exact fun_sound_of follows Try.func99 k_spec_IsHeld o_spec_IsHeld ⟨l_spec_l1In,l_spec_IsAction,l_spec_IsTapHold,trivial⟩
theorem k_spec_l8Find:okFun Try.prog Try.f112 f_spec_l8Find=true:=by kernel_rfl
theorem o_spec_l8Find:funOb Try.prog Try.f112 f_spec_l8Find=[]:=by kernel_rfl
theorem l_spec_l8Find:SoundCall Try.prog 112 s_spec_l8Find:=by unfold s_spec_l8Find;exact fun_sound_of follows Try.func112 k_spec_l8Find o_spec_l8Find trivial
theorem k_spec_l8Action:okFun Try.prog Try.f109 f_spec_l8Action=true:=by kernel_rfl
theorem o_spec_l8Action:funOb Try.prog Try.f109 f_spec_l8Action=[]:=by kernel_rfl
theorem l_spec_l8Action:SoundCall Try.prog 109 s_spec_l8Action:=by unfold s_spec_l8Action;exact fun_sound_of follows Try.func109 k_spec_l8Action o_spec_l8Action trivial
theorem k_spec_l8Without:okFun Try.prog Try.f111 f_spec_l8Without=true:=by kernel_rfl
theorem o_spec_l8Without:funOb Try.prog Try.f111 f_spec_l8Without=[]:=by kernel_rfl
theorem l_spec_l8Without:SoundCall Try.prog 111 s_spec_l8Without:=by unfold s_spec_l8Without;exact fun_sound_of follows Try.func111 k_spec_l8Without o_spec_l8Without trivial
theorem k_spec_IsMacro:okFun Try.prog Try.f108 f_spec_IsMacro=true:=by kernel_rfl
theorem o_spec_IsMacro:funOb Try.prog Try.f108 f_spec_IsMacro=[(112,s_spec_l8Find),(96,s_spec_l1In),(109,s_spec_l8Action),(132,s_spec_IsAction),(109,s_spec_l8Action),(111,s_spec_l8Without)]:=by kernel_rfl
theorem l_spec_IsMacro:SoundCall Try.prog 108 s_spec_IsMacro:=by unfold s_spec_IsMacro;exact fun_sound_of follows Try.func108 k_spec_IsMacro o_spec_IsMacro ⟨l_spec_l8Find,l_spec_l1In,l_spec_l8Action,l_spec_IsAction,l_spec_l8Action,l_spec_l8Without,trivial⟩
theorem k_spec_IsEngine:okFun Try.prog Try.f69 f_spec_IsEngine=true:=by kernel_rfl
theorem o_spec_IsEngine:funOb Try.prog Try.f69 f_spec_IsEngine=[(86,s_spec_IsKeymap),(99,s_spec_IsHeld),(108,s_spec_IsMacro),(96,s_spec_l1In),(96,s_spec_l1In)]:=by kernel_rfl
theorem l_spec_IsEngine:SoundCall Try.prog 69 s_spec_IsEngine:=by unfold s_spec_IsEngine;exact fun_sound_of follows Try.func69 k_spec_IsEngine o_spec_IsEngine ⟨l_spec_IsKeymap,l_spec_IsHeld,l_spec_IsMacro,l_spec_l1In,l_spec_l1In,trivial⟩
theorem k_spec_IsTiming:okFun Try.prog Try.f119 f_spec_IsTiming=true:=by kernel_rfl
theorem o_spec_IsTiming:funOb Try.prog Try.f119 f_spec_IsTiming=[(96,s_spec_l1In),(96,s_spec_l1In),(96,s_spec_l1In)]:=by kernel_rfl
theorem l_spec_IsTiming:SoundCall Try.prog 119 s_spec_IsTiming:=by unfold s_spec_IsTiming;exact fun_sound_of follows Try.func119 k_spec_IsTiming o_spec_IsTiming ⟨l_spec_l1In,l_spec_l1In,l_spec_l1In,trivial⟩
theorem k_spec_l10Bit:okFun Try.prog Try.f145 f_spec_l10Bit=true:=by kernel_rfl
theorem o_spec_l10Bit:funOb Try.prog Try.f145 f_spec_l10Bit=[(96,s_spec_l1In)]:=by kernel_rfl
theorem l_spec_l10Bit:SoundCall Try.prog 145 s_spec_l10Bit:=by unfold s_spec_l10Bit;exact fun_sound_of follows Try.func145 k_spec_l10Bit o_spec_l10Bit ⟨l_spec_l1In,trivial⟩
theorem k_spec_l10Held:okFun Try.prog Try.f121 f_spec_l10Held=true:=by kernel_rfl
theorem o_spec_l10Held:funOb Try.prog Try.f121 f_spec_l10Held=[(145,s_spec_l10Bit)]:=by kernel_rfl
theorem l_spec_l10Held:SoundCall Try.prog 121 s_spec_l10Held:=by unfold s_spec_l10Held;exact fun_sound_of follows Try.func121 k_spec_l10Held o_spec_l10Held ⟨l_spec_l10Bit,trivial⟩
theorem k_spec_IsEvent:okFun Try.prog Try.f144 f_spec_IsEvent=true:=by kernel_rfl
theorem o_spec_IsEvent:funOb Try.prog Try.f144 f_spec_IsEvent=[(96,s_spec_l1In),(96,s_spec_l1In)]:=by kernel_rfl
theorem l_spec_IsEvent:SoundCall Try.prog 144 s_spec_IsEvent:=by unfold s_spec_IsEvent;exact fun_sound_of follows Try.func144 k_spec_IsEvent o_spec_IsEvent ⟨l_spec_l1In,l_spec_l1In,trivial⟩
theorem k_spec_l10Follows:okFun Try.prog Try.f120 f_spec_l10Follows=true:=by kernel_rfl
theorem o_spec_l10Follows:funOb Try.prog Try.f120 f_spec_l10Follows=[(144,s_spec_IsEvent)]:=by kernel_rfl
theorem l_spec_l10Follows:SoundCall Try.prog 120 s_spec_l10Follows:=by unfold s_spec_l10Follows;exact fun_sound_of follows Try.func120 k_spec_l10Follows o_spec_l10Follows ⟨l_spec_IsEvent,trivial⟩
theorem k_spec_IsDecider:okFun Try.prog Try.f73 f_spec_IsDecider=true:=by kernel_rfl
theorem o_spec_IsDecider:funOb Try.prog Try.f73 f_spec_IsDecider=[(69,s_spec_IsEngine),(119,s_spec_IsTiming),(96,s_spec_l1In),(96,s_spec_l1In),(121,s_spec_l10Held),(120,s_spec_l10Follows),(96,s_spec_l1In),(96,s_spec_l1In)]:=by kernel_rfl
theorem l_spec_IsDecider:SoundCall Try.prog 73 s_spec_IsDecider:=by unfold s_spec_IsDecider;exact fun_sound_of follows Try.func73 k_spec_IsDecider o_spec_IsDecider ⟨l_spec_IsEngine,l_spec_IsTiming,l_spec_l1In,l_spec_l1In,l_spec_l10Held,l_spec_l10Follows,l_spec_l1In,l_spec_l1In,trivial⟩
theorem k_impl_isCode:okFun Try.prog Try.f130 f_impl_isCode=true:=by kernel_rfl
theorem o_impl_isCode:funOb Try.prog Try.f130 f_impl_isCode=[]:=by kernel_rfl
theorem l_impl_isCode:SoundCall Try.prog 130 s_impl_isCode:=by unfold s_impl_isCode;exact fun_sound_of follows Try.func130 k_impl_isCode o_impl_isCode trivial
theorem k_impl_isMods:okFun Try.prog Try.f149 f_impl_isMods=true:=by kernel_rfl
theorem o_impl_isMods:funOb Try.prog Try.f149 f_impl_isMods=[]:=by kernel_rfl
theorem l_impl_isMods:SoundCall Try.prog 149 s_impl_isMods:=by unfold s_impl_isMods;exact fun_sound_of follows Try.func149 k_impl_isMods o_impl_isMods trivial
theorem k_impl_isUpper:okFun Try.prog Try.f150 f_impl_isUpper=true:=by kernel_rfl
theorem o_impl_isUpper:funOb Try.prog Try.f150 f_impl_isUpper=[]:=by kernel_rfl
theorem l_impl_isUpper:SoundCall Try.prog 150 s_impl_isUpper:=by unfold s_impl_isUpper;exact fun_sound_of follows Try.func150 k_impl_isUpper o_impl_isUpper trivial
theorem k_impl_IsAction:okFun Try.prog Try.f134 f_impl_IsAction=true:=by kernel_rfl
theorem o_impl_IsAction:funOb Try.prog Try.f134 f_impl_IsAction=[(130,s_impl_isCode),(149,s_impl_isMods),(150,s_impl_isUpper),(130,s_impl_isCode),(149,s_impl_isMods),(130,s_impl_isCode),(150,s_impl_isUpper),(149,s_impl_isMods)]:=by kernel_rfl
theorem l_impl_IsAction:SoundCall Try.prog 134 s_impl_IsAction:=by unfold s_impl_IsAction;exact fun_sound_of follows Try.func134 k_impl_IsAction o_impl_IsAction ⟨l_impl_isCode,l_impl_isMods,l_impl_isUpper,l_impl_isCode,l_impl_isMods,l_impl_isCode,l_impl_isUpper,l_impl_isMods,trivial⟩
theorem k_impl_IsKeymap:okFun Try.prog Try.f89 f_impl_IsKeymap=true:=by kernel_rfl
theorem o_impl_IsKeymap:funOb Try.prog Try.f89 f_impl_IsKeymap=[(134,s_impl_IsAction)]:=by kernel_rfl
theorem l_impl_IsKeymap:SoundCall Try.prog 89 s_impl_IsKeymap:=by unfold s_impl_IsKeymap;exact fun_sound_of follows Try.func89 k_impl_IsKeymap o_impl_IsKeymap ⟨l_impl_IsAction,trivial⟩
theorem k_impl_bit:okFun Try.prog Try.f139 f_impl_bit=true:=by kernel_rfl
theorem o_impl_bit:funOb Try.prog Try.f139 f_impl_bit=[]:=by kernel_rfl
theorem l_impl_bit:SoundCall Try.prog 139 s_impl_bit:=by unfold s_impl_bit;exact fun_sound_of follows Try.func139 k_impl_bit o_impl_bit trivial
theorem k_impl_IsHeld:okFun Try.prog Try.f101 f_impl_IsHeld=true:=by kernel_rfl
theorem o_impl_IsHeld:funOb Try.prog Try.f101 f_impl_IsHeld=[(139,s_impl_bit),(134,s_impl_IsAction)]:=by kernel_rfl
theorem l_impl_IsHeld:SoundCall Try.prog 101 s_impl_IsHeld:=by unfold s_impl_IsHeld;exact fun_sound_of follows Try.func101 k_impl_IsHeld o_impl_IsHeld ⟨l_impl_bit,l_impl_IsAction,trivial⟩
theorem k_impl_pairAt:okFun Try.prog Try.f116 f_impl_pairAt=true:=by kernel_rfl
theorem o_impl_pairAt:funOb Try.prog Try.f116 f_impl_pairAt=[]:=by kernel_rfl
theorem l_impl_pairAt:SoundCall Try.prog 116 s_impl_pairAt:=by unfold s_impl_pairAt;exact fun_sound_of follows Try.func116 k_impl_pairAt o_impl_pairAt trivial
theorem k_impl_IsMacro:okFun Try.prog Try.f114 f_impl_IsMacro=true:=by kernel_rfl
theorem o_impl_IsMacro:funOb Try.prog Try.f114 f_impl_IsMacro=[(116,s_impl_pairAt),(134,s_impl_IsAction)]:=by kernel_rfl
theorem l_impl_IsMacro:SoundCall Try.prog 114 s_impl_IsMacro:=by unfold s_impl_IsMacro;exact fun_sound_of follows Try.func114 k_impl_IsMacro o_impl_IsMacro ⟨l_impl_pairAt,l_impl_IsAction,trivial⟩
theorem k_impl_IsEngine:okFun Try.prog Try.f71 f_impl_IsEngine=true:=by kernel_rfl
theorem o_impl_IsEngine:funOb Try.prog Try.f71 f_impl_IsEngine=[(89,s_impl_IsKeymap),(101,s_impl_IsHeld),(114,s_impl_IsMacro)]:=by kernel_rfl
theorem l_impl_IsEngine:SoundCall Try.prog 71 s_impl_IsEngine:=by unfold s_impl_IsEngine;exact fun_sound_of follows Try.func71 k_impl_IsEngine o_impl_IsEngine ⟨l_impl_IsKeymap,l_impl_IsHeld,l_impl_IsMacro,trivial⟩
theorem k_impl_IsTiming:okFun Try.prog Try.f124 f_impl_IsTiming=true:=by kernel_rfl
theorem o_impl_IsTiming:funOb Try.prog Try.f124 f_impl_IsTiming=[]:=by kernel_rfl
theorem l_impl_IsTiming:SoundCall Try.prog 124 s_impl_IsTiming:=by unfold s_impl_IsTiming;exact fun_sound_of follows Try.func124 k_impl_IsTiming o_impl_IsTiming trivial
theorem k_impl_heldMask:okFun Try.prog Try.f126 f_impl_heldMask=true:=by kernel_rfl
theorem o_impl_heldMask:funOb Try.prog Try.f126 f_impl_heldMask=[]:=by kernel_rfl
theorem l_impl_heldMask:SoundCall Try.prog 126 s_impl_heldMask:=by unfold s_impl_heldMask;exact fun_sound_of follows Try.func126 k_impl_heldMask o_impl_heldMask trivial
theorem k_impl_IsEvent:okFun Try.prog Try.f152 f_impl_IsEvent=true:=by kernel_rfl
theorem o_impl_IsEvent:funOb Try.prog Try.f152 f_impl_IsEvent=[]:=by kernel_rfl
theorem l_impl_IsEvent:SoundCall Try.prog 152 s_impl_IsEvent:=by unfold s_impl_IsEvent;exact fun_sound_of follows Try.func152 k_impl_IsEvent o_impl_IsEvent trivial
theorem k_impl_follow:okFun Try.prog Try.f147 f_impl_follow=true:=by kernel_rfl
theorem o_impl_follow:funOb Try.prog Try.f147 f_impl_follow=[(152,s_impl_IsEvent),(139,s_impl_bit)]:=by kernel_rfl
theorem l_impl_follow:SoundCall Try.prog 147 s_impl_follow:=by unfold s_impl_follow;exact fun_sound_of follows Try.func147 k_impl_follow o_impl_follow ⟨l_impl_IsEvent,l_impl_bit,trivial⟩
theorem k_impl_queueFits:okFun Try.prog Try.f125 f_impl_queueFits=true:=by kernel_rfl
theorem o_impl_queueFits:funOb Try.prog Try.f125 f_impl_queueFits=[(147,s_impl_follow)]:=by kernel_rfl
theorem l_impl_queueFits:SoundCall Try.prog 125 s_impl_queueFits:=by unfold s_impl_queueFits;exact fun_sound_of follows Try.func125 k_impl_queueFits o_impl_queueFits ⟨l_impl_follow,trivial⟩
theorem k_impl_notBehind:okFun Try.prog Try.f127 f_impl_notBehind=true:=by kernel_rfl
theorem o_impl_notBehind:funOb Try.prog Try.f127 f_impl_notBehind=[]:=by kernel_rfl
theorem l_impl_notBehind:SoundCall Try.prog 127 s_impl_notBehind:=by unfold s_impl_notBehind;exact fun_sound_of follows Try.func127 k_impl_notBehind o_impl_notBehind trivial
theorem k_impl_IsDecider:okFun Try.prog Try.f75 f_impl_IsDecider=true:=by kernel_rfl
theorem o_impl_IsDecider:funOb Try.prog Try.f75 f_impl_IsDecider=[(71,s_impl_IsEngine),(124,s_impl_IsTiming),(126,s_impl_heldMask),(125,s_impl_queueFits),(127,s_impl_notBehind)]:=by kernel_rfl
theorem l_impl_IsDecider:SoundCall Try.prog 75 s_impl_IsDecider:=by unfold s_impl_IsDecider;exact fun_sound_of follows Try.func75 k_impl_IsDecider o_impl_IsDecider ⟨l_impl_IsEngine,l_impl_IsTiming,l_impl_heldMask,l_impl_queueFits,l_impl_notBehind,trivial⟩
theorem k_laws_eqAction:okFun Try.prog Try.f142 f_laws_eqAction=true:=by kernel_rfl
theorem o_laws_eqAction:funOb Try.prog Try.f142 f_laws_eqAction=[]:=by kernel_rfl
theorem l_laws_eqAction:SoundCall Try.prog 142 s_laws_eqAction:=by unfold s_laws_eqAction;exact fun_sound_of follows Try.func142 k_laws_eqAction o_laws_eqAction trivial
theorem k_laws_eqActionS:okFun Try.prog Try.f135 f_laws_eqActionS=true:=by kernel_rfl
theorem o_laws_eqActionS:funOb Try.prog Try.f135 f_laws_eqActionS=[(142,s_laws_eqAction)]:=by kernel_rfl
theorem l_laws_eqActionS:SoundCall Try.prog 135 s_laws_eqActionS:=by unfold s_laws_eqActionS;exact fun_sound_of follows Try.func135 k_laws_eqActionS o_laws_eqActionS ⟨l_laws_eqAction,trivial⟩
theorem k_laws_eqActionSS:okFun Try.prog Try.f91 f_laws_eqActionSS=true:=by kernel_rfl
theorem o_laws_eqActionSS:funOb Try.prog Try.f91 f_laws_eqActionSS=[(135,s_laws_eqActionS)]:=by kernel_rfl
theorem l_laws_eqActionSS:SoundCall Try.prog 91 s_laws_eqActionSS:=by unfold s_laws_eqActionSS;exact fun_sound_of follows Try.func91 k_laws_eqActionSS o_laws_eqActionSS ⟨l_laws_eqActionS,trivial⟩
theorem k_laws_eqKeymap:okFun Try.prog Try.f36 f_laws_eqKeymap=true:=by kernel_rfl
theorem o_laws_eqKeymap:funOb Try.prog Try.f36 f_laws_eqKeymap=[(91,s_laws_eqActionSS)]:=by kernel_rfl
theorem l_laws_eqKeymap:SoundCall Try.prog 36 s_laws_eqKeymap:=by unfold s_laws_eqKeymap;exact fun_sound_of follows Try.func36 k_laws_eqKeymap o_laws_eqKeymap ⟨l_laws_eqActionSS,trivial⟩
theorem k_laws_eqStep:okFun Try.prog Try.f117 f_laws_eqStep=true:=by kernel_rfl
theorem o_laws_eqStep:funOb Try.prog Try.f117 f_laws_eqStep=[]:=by kernel_rfl
theorem l_laws_eqStep:SoundCall Try.prog 117 s_laws_eqStep:=by unfold s_laws_eqStep;exact fun_sound_of follows Try.func117 k_laws_eqStep o_laws_eqStep trivial
theorem k_laws_eqStepS:okFun Try.prog Try.f64 f_laws_eqStepS=true:=by kernel_rfl
theorem o_laws_eqStepS:funOb Try.prog Try.f64 f_laws_eqStepS=[(117,s_laws_eqStep)]:=by kernel_rfl
theorem l_laws_eqStepS:SoundCall Try.prog 64 s_laws_eqStepS:=by unfold s_laws_eqStepS;exact fun_sound_of follows Try.func64 k_laws_eqStepS o_laws_eqStepS ⟨l_laws_eqStep,trivial⟩
theorem k_laws_eqStepSS:okFun Try.prog Try.f55 f_laws_eqStepSS=true:=by kernel_rfl
theorem o_laws_eqStepSS:funOb Try.prog Try.f55 f_laws_eqStepSS=[(64,s_laws_eqStepS)]:=by kernel_rfl
theorem l_laws_eqStepSS:SoundCall Try.prog 55 s_laws_eqStepSS:=by unfold s_laws_eqStepSS;exact fun_sound_of follows Try.func55 k_laws_eqStepSS o_laws_eqStepSS ⟨l_laws_eqStepS,trivial⟩
theorem k_laws_eqHeld:okFun Try.prog Try.f103 f_laws_eqHeld=true:=by kernel_rfl
theorem o_laws_eqHeld:funOb Try.prog Try.f103 f_laws_eqHeld=[(142,s_laws_eqAction)]:=by kernel_rfl
theorem l_laws_eqHeld:SoundCall Try.prog 103 s_laws_eqHeld:=by unfold s_laws_eqHeld;exact fun_sound_of follows Try.func103 k_laws_eqHeld o_laws_eqHeld ⟨l_laws_eqAction,trivial⟩
theorem k_laws_eqHeldS:okFun Try.prog Try.f48 f_laws_eqHeldS=true:=by kernel_rfl
theorem o_laws_eqHeldS:funOb Try.prog Try.f48 f_laws_eqHeldS=[(103,s_laws_eqHeld)]:=by kernel_rfl
theorem l_laws_eqHeldS:SoundCall Try.prog 48 s_laws_eqHeldS:=by unfold s_laws_eqHeldS;exact fun_sound_of follows Try.func48 k_laws_eqHeldS o_laws_eqHeldS ⟨l_laws_eqHeld,trivial⟩
theorem k_laws_eqEngine:okFun Try.prog Try.f54 f_laws_eqEngine=true:=by kernel_rfl
theorem o_laws_eqEngine:funOb Try.prog Try.f54 f_laws_eqEngine=[(36,s_laws_eqKeymap),(55,s_laws_eqStepSS),(48,s_laws_eqHeldS)]:=by kernel_rfl
theorem l_laws_eqEngine:SoundCall Try.prog 54 s_laws_eqEngine:=by unfold s_laws_eqEngine;exact fun_sound_of follows Try.func54 k_laws_eqEngine o_laws_eqEngine ⟨l_laws_eqKeymap,l_laws_eqStepSS,l_laws_eqHeldS,trivial⟩
theorem k_laws_eqTiming:okFun Try.prog Try.f128 f_laws_eqTiming=true:=by kernel_rfl
theorem o_laws_eqTiming:funOb Try.prog Try.f128 f_laws_eqTiming=[]:=by kernel_rfl
theorem l_laws_eqTiming:SoundCall Try.prog 128 s_laws_eqTiming:=by unfold s_laws_eqTiming;exact fun_sound_of follows Try.func128 k_laws_eqTiming o_laws_eqTiming trivial
theorem k_laws_eqEvent:okFun Try.prog Try.f148 f_laws_eqEvent=true:=by kernel_rfl
theorem o_laws_eqEvent:funOb Try.prog Try.f148 f_laws_eqEvent=[]:=by kernel_rfl
theorem l_laws_eqEvent:SoundCall Try.prog 148 s_laws_eqEvent:=by unfold s_laws_eqEvent;exact fun_sound_of follows Try.func148 k_laws_eqEvent o_laws_eqEvent trivial
theorem k_laws_eqEventS:okFun Try.prog Try.f129 f_laws_eqEventS=true:=by kernel_rfl
theorem o_laws_eqEventS:funOb Try.prog Try.f129 f_laws_eqEventS=[(148,s_laws_eqEvent)]:=by kernel_rfl
theorem l_laws_eqEventS:SoundCall Try.prog 129 s_laws_eqEventS:=by unfold s_laws_eqEventS;exact fun_sound_of follows Try.func129 k_laws_eqEventS o_laws_eqEventS ⟨l_laws_eqEvent,trivial⟩
theorem k_laws_eqDecider:okFun Try.prog Try.f76 f_laws_eqDecider=true:=by kernel_rfl
theorem o_laws_eqDecider:funOb Try.prog Try.f76 f_laws_eqDecider=[(54,s_laws_eqEngine),(128,s_laws_eqTiming),(129,s_laws_eqEventS)]:=by kernel_rfl
theorem l_laws_eqDecider:SoundCall Try.prog 76 s_laws_eqDecider:=by unfold s_laws_eqDecider;exact fun_sound_of follows Try.func76 k_laws_eqDecider o_laws_eqDecider ⟨l_laws_eqEngine,l_laws_eqTiming,l_laws_eqEventS,trivial⟩
theorem k_laws_FnExactIsDecider:okFun Try.prog Try.f14 f_laws_FnExactIsDecider=true:=by kernel_rfl
theorem o_laws_FnExactIsDecider:funOb Try.prog Try.f14 f_laws_FnExactIsDecider=[(72,s_laws_szDecider),(74,s_laws_toDecider),(73,s_spec_IsDecider),(74,s_laws_toDecider),(75,s_impl_IsDecider),(74,s_laws_toDecider),(76,s_laws_eqDecider)]:=by kernel_rfl
theorem l_laws_FnExactIsDecider:SoundCall Try.prog 14 s_laws_FnExactIsDecider:=by unfold s_laws_FnExactIsDecider;exact fun_sound_of follows Try.func14 k_laws_FnExactIsDecider o_laws_FnExactIsDecider ⟨l_laws_szDecider,l_laws_toDecider,l_spec_IsDecider,l_laws_toDecider,l_impl_IsDecider,l_laws_toDecider,l_laws_eqDecider,trivial⟩
end Go.Proofs.Ythljgcjmaabnoaa
