/-
 EACH ABSTRACT FUNCTION IS THE SEAT's OWN: checked by the kernel,function by function (written by program,ag.py).
-/
import Derived.Test.YtkjnachjeoeihaaChecked
import Derived.KernelRfl
import Derived.Test.YtkjnachjeoeihaaLibF
namespace Go.Proofs.Ytkjnachjeoeihaa
open Go.Ag
theorem follows:Try.prog.follows .mixedOrders=true:=by kernel_rfl
theorem k_laws_big:okFun Try.prog Try.f19 f_laws_big=true:=by kernel_rfl
theorem o_laws_big:funOb Try.prog Try.f19 f_laws_big=[]:=by kernel_rfl
theorem l_laws_big:SoundCall Try.prog 19 s_laws_big:=by unfold s_laws_big;exact fun_sound_of follows Try.func19 k_laws_big o_laws_big trivial
theorem k_spec_l1New:okFun Try.prog Try.f60 f_spec_l1New=true:=by kernel_rfl
theorem o_spec_l1New:funOb Try.prog Try.f60 f_spec_l1New=[]:=by kernel_rfl
theorem l_spec_l1New:SoundCall Try.prog 60 s_spec_l1New:=by unfold s_spec_l1New;exact fun_sound_of follows Try.func60 k_spec_l1New o_spec_l1New trivial
theorem k_spec_l1Byte:okFun Try.prog Try.f113 f_spec_l1Byte=true:=by kernel_rfl
theorem o_spec_l1Byte:funOb Try.prog Try.f113 f_spec_l1Byte=[]:=by kernel_rfl
theorem l_spec_l1Byte:SoundCall Try.prog 113 s_spec_l1Byte:=by unfold s_spec_l1Byte;exact fun_sound_of follows Try.func113 k_spec_l1Byte o_spec_l1Byte trivial
theorem k_spec_l1Below:okFun Try.prog Try.f65 f_spec_l1Below=true:=by kernel_rfl
theorem o_spec_l1Below:funOb Try.prog Try.f65 f_spec_l1Below=[(113,s_spec_l1Byte),(113,s_spec_l1Byte),(113,s_spec_l1Byte),(113,s_spec_l1Byte),(113,s_spec_l1Byte)]:=by kernel_rfl
theorem l_spec_l1Below:SoundCall Try.prog 65 s_spec_l1Below:=by unfold s_spec_l1Below;exact fun_sound_of follows Try.func65 k_spec_l1Below o_spec_l1Below ⟨l_spec_l1Byte,l_spec_l1Byte,l_spec_l1Byte,l_spec_l1Byte,l_spec_l1Byte,trivial⟩
theorem k_spec_l11Combos:okFun Try.prog Try.f116 f_spec_l11Combos=true:=by kernel_rfl
theorem o_spec_l11Combos:funOb Try.prog Try.f116 f_spec_l11Combos=[(65,s_spec_l1Below),(65,s_spec_l1Below),(65,s_spec_l1Below)]:=by kernel_rfl
theorem l_spec_l11Combos:SoundCall Try.prog 116 s_spec_l11Combos:=by unfold s_spec_l11Combos;exact fun_sound_of follows Try.func116 k_spec_l11Combos o_spec_l11Combos ⟨l_spec_l1Below,l_spec_l1Below,l_spec_l1Below,trivial⟩
theorem k_spec_l1In:okFun Try.prog Try.f70 f_spec_l1In=true:=by kernel_rfl
theorem o_spec_l1In:funOb Try.prog Try.f70 f_spec_l1In=[]:=by kernel_rfl
theorem l_spec_l1In:SoundCall Try.prog 70 s_spec_l1In:=by unfold s_spec_l1In;exact fun_sound_of follows Try.func70 k_spec_l1In o_spec_l1In trivial
theorem k_spec_l11Count:okFun Try.prog Try.f83 f_spec_l11Count=true:=by kernel_rfl
theorem o_spec_l11Count:funOb Try.prog Try.f83 f_spec_l11Count=[]:=by kernel_rfl
theorem l_spec_l11Count:SoundCall Try.prog 83 s_spec_l11Count:=by unfold s_spec_l11Count;exact fun_sound_of follows Try.func83 k_spec_l11Count o_spec_l11Count trivial
theorem k_spec_IsCombos:okFun Try.prog Try.f31 f_spec_IsCombos=true:=by kernel_rfl
theorem o_spec_IsCombos:funOb Try.prog Try.f31 f_spec_IsCombos=[(70,s_spec_l1In),(83,s_spec_l11Count),(70,s_spec_l1In),(70,s_spec_l1In)]:=by kernel_rfl
theorem l_spec_IsCombos:SoundCall Try.prog 31 s_spec_IsCombos:=by unfold s_spec_IsCombos;exact fun_sound_of follows Try.func31 k_spec_IsCombos o_spec_IsCombos ⟨l_spec_l1In,l_spec_l11Count,l_spec_l1In,l_spec_l1In,trivial⟩
theorem k_spec_l11Keys:okFun Try.prog Try.f158 f_spec_l11Keys=true:=by kernel_rfl
theorem o_spec_l11Keys:funOb Try.prog Try.f158 f_spec_l11Keys=[]:=by kernel_rfl
theorem l_spec_l11Keys:SoundCall Try.prog 158 s_spec_l11Keys:=by unfold s_spec_l11Keys;exact fun_sound_of follows Try.func158 k_spec_l11Keys o_spec_l11Keys trivial
theorem k_spec_l11Active:okFun Try.prog Try.f154 f_spec_l11Active=true:=by kernel_rfl
theorem o_spec_l11Active:funOb Try.prog Try.f154 f_spec_l11Active=[(158,s_spec_l11Keys),(70,s_spec_l1In)]:=by kernel_rfl
theorem l_spec_l11Active:SoundCall Try.prog 154 s_spec_l11Active:=by unfold s_spec_l11Active;exact fun_sound_of follows Try.func154 k_spec_l11Active o_spec_l11Active ⟨l_spec_l11Keys,l_spec_l1In,trivial⟩
theorem k_spec_l11Held:okFun Try.prog Try.f155 f_spec_l11Held=true:=by kernel_rfl
theorem o_spec_l11Held:funOb Try.prog Try.f155 f_spec_l11Held=[]:=by kernel_rfl
theorem l_spec_l11Held:SoundCall Try.prog 155 s_spec_l11Held:=by unfold s_spec_l11Held;exact fun_sound_of follows Try.func155 k_spec_l11Held o_spec_l11Held trivial
theorem k_spec_IsEvent:okFun Try.prog Try.f66 f_spec_IsEvent=true:=by kernel_rfl
theorem o_spec_IsEvent:funOb Try.prog Try.f66 f_spec_IsEvent=[(70,s_spec_l1In),(70,s_spec_l1In)]:=by kernel_rfl
theorem l_spec_IsEvent:SoundCall Try.prog 66 s_spec_IsEvent:=by unfold s_spec_IsEvent;exact fun_sound_of follows Try.func66 k_spec_IsEvent o_spec_IsEvent ⟨l_spec_l1In,l_spec_l1In,trivial⟩
theorem k_spec_l10Follows:okFun Try.prog Try.f92 f_spec_l10Follows=true:=by kernel_rfl
theorem o_spec_l10Follows:funOb Try.prog Try.f92 f_spec_l10Follows=[(66,s_spec_IsEvent)]:=by kernel_rfl
theorem l_spec_l10Follows:SoundCall Try.prog 92 s_spec_l10Follows:=by unfold s_spec_l10Follows;exact fun_sound_of follows Try.func92 k_spec_l10Follows o_spec_l10Follows ⟨l_spec_IsEvent,trivial⟩
theorem k_spec_IsCombiner:okFun Try.prog Try.f142 f_spec_IsCombiner=true:=by kernel_rfl
theorem o_spec_IsCombiner:funOb Try.prog Try.f142 f_spec_IsCombiner=[(31,s_spec_IsCombos),(70,s_spec_l1In),(70,s_spec_l1In),(70,s_spec_l1In),(154,s_spec_l11Active),(155,s_spec_l11Held),(92,s_spec_l10Follows)]:=by kernel_rfl
theorem l_spec_IsCombiner:SoundCall Try.prog 142 s_spec_IsCombiner:=by unfold s_spec_IsCombiner;exact fun_sound_of follows Try.func142 k_spec_IsCombiner o_spec_IsCombiner ⟨l_spec_IsCombos,l_spec_l1In,l_spec_l1In,l_spec_l1In,l_spec_l11Active,l_spec_l11Held,l_spec_l10Follows,trivial⟩
theorem k_spec_l11Copy:okFun Try.prog Try.f143 f_spec_l11Copy=true:=by kernel_rfl
theorem o_spec_l11Copy:funOb Try.prog Try.f143 f_spec_l11Copy=[]:=by kernel_rfl
theorem l_spec_l11Copy:SoundCall Try.prog 143 s_spec_l11Copy:=by unfold s_spec_l11Copy;exact fun_sound_of follows Try.func143 k_spec_l11Copy o_spec_l11Copy trivial
theorem k_spec_NewCombiner:okFun Try.prog Try.f115 f_spec_NewCombiner=true:=by kernel_rfl
theorem o_spec_NewCombiner:funOb Try.prog Try.f115 f_spec_NewCombiner=[(142,s_spec_IsCombiner),(143,s_spec_l11Copy)]:=by kernel_rfl
theorem l_spec_NewCombiner:SoundCall Try.prog 115 s_spec_NewCombiner:=by unfold s_spec_NewCombiner;exact fun_sound_of follows Try.func115 k_spec_NewCombiner o_spec_NewCombiner ⟨l_spec_IsCombiner,l_spec_l11Copy,trivial⟩
theorem k_spec_l11New:okFun Try.prog Try.f75 f_spec_l11New=true:=by kernel_rfl
theorem o_spec_l11New:funOb Try.prog Try.f75 f_spec_l11New=[(116,s_spec_l11Combos),(65,s_spec_l1Below),(115,s_spec_NewCombiner)]:=by kernel_rfl
theorem l_spec_l11New:SoundCall Try.prog 75 s_spec_l11New:=by unfold s_spec_l11New;exact fun_sound_of follows Try.func75 k_spec_l11New o_spec_l11New ⟨l_spec_l11Combos,l_spec_l1Below,l_spec_NewCombiner,trivial⟩
theorem k_spec_l1PickInt:okFun Try.prog Try.f64 f_spec_l1PickInt=true:=by kernel_rfl
theorem o_spec_l1PickInt:funOb Try.prog Try.f64 f_spec_l1PickInt=[(65,s_spec_l1Below)]:=by kernel_rfl
theorem l_spec_l1PickInt:SoundCall Try.prog 64 s_spec_l1PickInt:=by unfold s_spec_l1PickInt;exact fun_sound_of follows Try.func64 k_spec_l1PickInt o_spec_l1PickInt ⟨l_spec_l1Below,trivial⟩
theorem k_spec_l11Events:okFun Try.prog Try.f76 f_spec_l11Events=true:=by kernel_rfl
theorem o_spec_l11Events:funOb Try.prog Try.f76 f_spec_l11Events=[(65,s_spec_l1Below),(64,s_spec_l1PickInt),(65,s_spec_l1Below)]:=by kernel_rfl
theorem l_spec_l11Events:SoundCall Try.prog 76 s_spec_l11Events:=by unfold s_spec_l11Events;exact fun_sound_of follows Try.func76 k_spec_l11Events o_spec_l11Events ⟨l_spec_l1Below,l_spec_l1PickInt,l_spec_l1Below,trivial⟩
theorem k_spec_l1Once:okFun Try.prog Try.f63 f_spec_l1Once=true:=by kernel_rfl
theorem o_spec_l1Once:funOb Try.prog Try.f63 f_spec_l1Once=[(65,s_spec_l1Below)]:=by kernel_rfl
theorem l_spec_l1Once:SoundCall Try.prog 63 s_spec_l1Once:=by unfold s_spec_l1Once;exact fun_sound_of follows Try.func63 k_spec_l1Once o_spec_l1Once ⟨l_spec_l1Below,trivial⟩
theorem k_spec_l11Bent:okFun Try.prog Try.f77 f_spec_l11Bent=true:=by kernel_rfl
theorem o_spec_l11Bent:funOb Try.prog Try.f77 f_spec_l11Bent=[(116,s_spec_l11Combos),(63,s_spec_l1Once),(64,s_spec_l1PickInt),(64,s_spec_l1PickInt)]:=by kernel_rfl
theorem l_spec_l11Bent:SoundCall Try.prog 77 s_spec_l11Bent:=by unfold s_spec_l11Bent;exact fun_sound_of follows Try.func77 k_spec_l11Bent o_spec_l11Bent ⟨l_spec_l11Combos,l_spec_l1Once,l_spec_l1PickInt,l_spec_l1PickInt,trivial⟩
theorem k_spec_l11Last:okFun Try.prog Try.f78 f_spec_l11Last=true:=by kernel_rfl
theorem o_spec_l11Last:funOb Try.prog Try.f78 f_spec_l11Last=[]:=by kernel_rfl
theorem l_spec_l11Last:SoundCall Try.prog 78 s_spec_l11Last:=by unfold s_spec_l11Last;exact fun_sound_of follows Try.func78 k_spec_l11Last o_spec_l11Last trivial
theorem k_spec_DrawMatchCombo:okFun Try.prog Try.f29 f_spec_DrawMatchCombo=true:=by kernel_rfl
theorem o_spec_DrawMatchCombo:funOb Try.prog Try.f29 f_spec_DrawMatchCombo=[(60,s_spec_l1New),(75,s_spec_l11New),(76,s_spec_l11Events),(63,s_spec_l1Once),(65,s_spec_l1Below),(64,s_spec_l1PickInt),(63,s_spec_l1Once),(77,s_spec_l11Bent),(64,s_spec_l1PickInt),(78,s_spec_l11Last),(65,s_spec_l1Below)]:=by kernel_rfl
theorem l_spec_DrawMatchCombo:SoundCall Try.prog 29 s_spec_DrawMatchCombo:=by unfold s_spec_DrawMatchCombo;exact fun_sound_of follows Try.func29 k_spec_DrawMatchCombo o_spec_DrawMatchCombo ⟨l_spec_l1New,l_spec_l11New,l_spec_l11Events,l_spec_l1Once,l_spec_l1Below,l_spec_l1PickInt,l_spec_l1Once,l_spec_l11Bent,l_spec_l1PickInt,l_spec_l11Last,l_spec_l1Below,trivial⟩
theorem k_spec_IsEvents:okFun Try.prog Try.f21 f_spec_IsEvents=true:=by kernel_rfl
theorem o_spec_IsEvents:funOb Try.prog Try.f21 f_spec_IsEvents=[(66,s_spec_IsEvent)]:=by kernel_rfl
theorem l_spec_IsEvents:SoundCall Try.prog 21 s_spec_IsEvents:=by unfold s_spec_IsEvents;exact fun_sound_of follows Try.func21 k_spec_IsEvents o_spec_IsEvents ⟨l_spec_IsEvent,trivial⟩
theorem k_math_bits_OnesCount32:okFun Try.prog Try.f144 f_math_bits_OnesCount32=true:=by kernel_rfl
theorem o_math_bits_OnesCount32:funOb Try.prog Try.f144 f_math_bits_OnesCount32=[]:=by kernel_rfl
theorem l_math_bits_OnesCount32:SoundCall Try.prog 144 s_math_bits_OnesCount32:=by unfold s_math_bits_OnesCount32;exact fun_sound_of follows Try.func144 k_math_bits_OnesCount32 o_math_bits_OnesCount32 trivial
theorem k_math_bits_OnesCount64:okFun Try.prog Try.f145 f_math_bits_OnesCount64=true:=by kernel_rfl
theorem o_math_bits_OnesCount64:funOb Try.prog Try.f145 f_math_bits_OnesCount64=[]:=by kernel_rfl
theorem l_math_bits_OnesCount64:SoundCall Try.prog 145 s_math_bits_OnesCount64:=by unfold s_math_bits_OnesCount64;exact fun_sound_of follows Try.func145 k_math_bits_OnesCount64 o_math_bits_OnesCount64 trivial
theorem k_math_bits_OnesCount:okFun Try.prog Try.f117 f_math_bits_OnesCount=true:=by kernel_rfl
theorem o_math_bits_OnesCount:funOb Try.prog Try.f117 f_math_bits_OnesCount=[(144,s_math_bits_OnesCount32),(145,s_math_bits_OnesCount64)]:=by kernel_rfl
theorem l_math_bits_OnesCount:SoundCall Try.prog 117 s_math_bits_OnesCount:=by unfold s_math_bits_OnesCount;exact fun_sound_of follows Try.func117 k_math_bits_OnesCount o_math_bits_OnesCount ⟨l_math_bits_OnesCount32,l_math_bits_OnesCount64,trivial⟩
theorem k_impl_IsCombos:okFun Try.prog Try.f79 f_impl_IsCombos=true:=by kernel_rfl
theorem o_impl_IsCombos:funOb Try.prog Try.f79 f_impl_IsCombos=[(117,s_math_bits_OnesCount)]:=by kernel_rfl
theorem l_impl_IsCombos:SoundCall Try.prog 79 s_impl_IsCombos:=by unfold s_impl_IsCombos;exact fun_sound_of follows Try.func79 k_impl_IsCombos o_impl_IsCombos ⟨l_math_bits_OnesCount,trivial⟩
theorem k_impl_IsEvent:okFun Try.prog Try.f68 f_impl_IsEvent=true:=by kernel_rfl
theorem o_impl_IsEvent:funOb Try.prog Try.f68 f_impl_IsEvent=[]:=by kernel_rfl
theorem l_impl_IsEvent:SoundCall Try.prog 68 s_impl_IsEvent:=by unfold s_impl_IsEvent;exact fun_sound_of follows Try.func68 k_impl_IsEvent o_impl_IsEvent trivial
theorem k_impl_isSwitchEvent:okFun Try.prog Try.f80 f_impl_isSwitchEvent=true:=by kernel_rfl
theorem o_impl_isSwitchEvent:funOb Try.prog Try.f80 f_impl_isSwitchEvent=[(68,s_impl_IsEvent)]:=by kernel_rfl
theorem l_impl_isSwitchEvent:SoundCall Try.prog 80 s_impl_isSwitchEvent:=by unfold s_impl_isSwitchEvent;exact fun_sound_of follows Try.func80 k_impl_isSwitchEvent o_impl_isSwitchEvent ⟨l_impl_IsEvent,trivial⟩
theorem k_impl_within:okFun Try.prog Try.f81 f_impl_within=true:=by kernel_rfl
theorem o_impl_within:funOb Try.prog Try.f81 f_impl_within=[]:=by kernel_rfl
theorem l_impl_within:SoundCall Try.prog 81 s_impl_within:=by unfold s_impl_within;exact fun_sound_of follows Try.func81 k_impl_within o_impl_within trivial
theorem k_impl_wholeCombo:okFun Try.prog Try.f82 f_impl_wholeCombo=true:=by kernel_rfl
theorem o_impl_wholeCombo:funOb Try.prog Try.f82 f_impl_wholeCombo=[]:=by kernel_rfl
theorem l_impl_wholeCombo:SoundCall Try.prog 82 s_impl_wholeCombo:=by unfold s_impl_wholeCombo;exact fun_sound_of follows Try.func82 k_impl_wholeCombo o_impl_wholeCombo trivial
theorem k_impl_MatchCombo:okFun Try.prog Try.f30 f_impl_MatchCombo=true:=by kernel_rfl
theorem o_impl_MatchCombo:funOb Try.prog Try.f30 f_impl_MatchCombo=[(79,s_impl_IsCombos),(80,s_impl_isSwitchEvent),(81,s_impl_within),(80,s_impl_isSwitchEvent),(81,s_impl_within),(82,s_impl_wholeCombo),(82,s_impl_wholeCombo)]:=by kernel_rfl
theorem l_impl_MatchCombo:SoundCall Try.prog 30 s_impl_MatchCombo:=by unfold s_impl_MatchCombo;exact fun_sound_of follows Try.func30 k_impl_MatchCombo o_impl_MatchCombo ⟨l_impl_IsCombos,l_impl_isSwitchEvent,l_impl_within,l_impl_isSwitchEvent,l_impl_within,l_impl_wholeCombo,l_impl_wholeCombo,trivial⟩
theorem k_laws_FnMatches:okFun Try.prog Try.f7 f_laws_FnMatches=true:=by kernel_rfl
theorem o_laws_FnMatches:funOb Try.prog Try.f7 f_laws_FnMatches=[(19,s_laws_big),(29,s_spec_DrawMatchCombo),(21,s_spec_IsEvents),(30,s_impl_MatchCombo),(30,s_impl_MatchCombo),(31,s_spec_IsCombos)]:=by kernel_rfl
theorem l_laws_FnMatches:SoundCall Try.prog 7 s_laws_FnMatches:=by unfold s_laws_FnMatches;exact fun_sound_of follows Try.func7 k_laws_FnMatches o_laws_FnMatches ⟨l_laws_big,l_spec_DrawMatchCombo,l_spec_IsEvents,l_impl_MatchCombo,l_impl_MatchCombo,l_spec_IsCombos,trivial⟩
end Go.Proofs.Ytkjnachjeoeihaa
