/-
 EACH ABSTRACT FUNCTION IS THE SEAT's OWN: checked by the kernel,function by function (written by program,ag.py).
-/
import Derived.Test.YthljgcjmaabnoaaChecked
import Derived.KernelRfl
import Derived.Test.YthljgcjmaabnoaaLibG
import Derived.Shelf.Sort.Plain
import Derived.Shelf.Slices.In.SortNone2
namespace Go.Proofs.Ythljgcjmaabnoaa
open Go.Ag
theorem follows:Try.prog.follows .mixedOrders=true:=by kernel_rfl
open Go.Shelf
def lays191_ren:Go.Shelf.Ren:=⟨fun|191=>140|189=>151|125=>154|257=>153|128=>164|129=>165|294=>155|295=>156|296=>157|297=>158|298=>159|299=>160|216=>161|300=>162|301=>163|328=>166|329=>167|330=>168|331=>169|332=>170|215=>171|343=>172|n=>n,fun|28=>23|0=>0|3=>3|46=>185|51=>195|53=>197|4=>4|183=>188|182=>187|131=>180|5=>5|9=>9|218=>198|222=>202|228=>204|229=>205|n=>n,fun|n=>n⟩
theorem lays191:Go.Proofs.Lays.n191 Try.prog lays191_ren:={
 mixed:=by kernel_rfl
 f125:=Try.func154.trans (congrArg some (by kernel_rfl))
 f128:=Try.func164.trans (congrArg some (by kernel_rfl))
 f129:=Try.func165.trans (congrArg some (by kernel_rfl))
 f189:=Try.func151.trans (congrArg some (by kernel_rfl))
 f191:=Try.func140.trans (congrArg some (by kernel_rfl))
 f215:=Try.func171.trans (congrArg some (by kernel_rfl))
 f216:=Try.func161.trans (congrArg some (by kernel_rfl))
 f257:=Try.func153.trans (congrArg some (by kernel_rfl))
 f294:=Try.func155.trans (congrArg some (by kernel_rfl))
 f295:=Try.func156.trans (congrArg some (by kernel_rfl))
 f296:=Try.func157.trans (congrArg some (by kernel_rfl))
 f297:=Try.func158.trans (congrArg some (by kernel_rfl))
 f298:=Try.func159.trans (congrArg some (by kernel_rfl))
 f299:=Try.func160.trans (congrArg some (by kernel_rfl))
 f300:=Try.func162.trans (congrArg some (by kernel_rfl))
 f301:=Try.func163.trans (congrArg some (by kernel_rfl))
 f328:=Try.func166.trans (congrArg some (by kernel_rfl))
 f329:=Try.func167.trans (congrArg some (by kernel_rfl))
 f330:=Try.func168.trans (congrArg some (by kernel_rfl))
 f331:=Try.func169.trans (congrArg some (by kernel_rfl))
 f332:=Try.func170.trans (congrArg some (by kernel_rfl))
 f343:=Try.func172.trans (congrArg some (by kernel_rfl))
 t0:=Try.underlying0
 a0:=Try.isAgg0
 z0:=Try.sizeOf0
 v0:=Try.zeroValue0
 t3:=Try.underlying3
 a3:=Try.isAgg3
 z3:=Try.sizeOf3
 v3:=Try.zeroValue3
 t4:=Try.underlying4
 a4:=Try.isAgg4
 z4:=Try.sizeOf4
 v4:=Try.zeroValue4
 t5:=Try.underlying5
 a5:=Try.isAgg5
 z5:=Try.sizeOf5
 v5:=Try.zeroValue5
 t9:=Try.underlying9
 a9:=Try.isAgg9
 z9:=Try.sizeOf9
 v9:=Try.zeroValue9
 t28:=Try.underlying23
 a28:=Try.isAgg23
 z28:=Try.sizeOf23
 v28:=Try.zeroValue23
 t46:=Try.underlying185
 a46:=Try.isAgg185
 z46:=Try.sizeOf185
 v46:=Try.zeroValue185
 t51:=Try.underlying195
 a51:=Try.isAgg195
 z51:=Try.sizeOf195
 v51:=Try.zeroValue195
 t53:=Try.underlying197
 a53:=Try.isAgg197
 z53:=Try.sizeOf197
 v53:=Try.zeroValue197
 t131:=Try.underlying180
 a131:=Try.isAgg180
 z131:=Try.sizeOf180
 v131:=Try.zeroValue180
 t182:=Try.underlying187
 a182:=Try.isAgg187
 z182:=Try.sizeOf187
 v182:=Try.zeroValue187
 t183:=Try.underlying188
 a183:=Try.isAgg188
 z183:=Try.sizeOf188
 v183:=Try.zeroValue188
 t218:=Try.underlying198
 a218:=Try.isAgg198
 z218:=Try.sizeOf198
 v218:=Try.zeroValue198
 t222:=Try.underlying202
 a222:=Try.isAgg202
 z222:=Try.sizeOf202
 v222:=Try.zeroValue202
 t228:=Try.underlying204
 a228:=Try.isAgg204
 z228:=Try.sizeOf204
 v228:=Try.zeroValue204
 t229:=Try.underlying205
 a229:=Try.isAgg205
 z229:=Try.sizeOf205
 v229:=Try.zeroValue205 }
theorem l_sort_Ints:Zal Try.prog 140 ZfG:=ZxF ⟨fun blk off cap zs w h1 h2 h3=>Go.Proofs.Any.sort_Ints lays191 blk off cap zs w h1 h2 h3,fun p cap w=>Go.Proofs.Any.sort_Ints_none lays191 p cap w⟩
theorem k_laws_szHeldS:ZcB Try.prog Try.f44 df_laws_szHeldS.er.er=true:=by kernel_rfl
theorem o_laws_szHeldS:ZcA Try.prog Try.f44 df_laws_szHeldS.er.er=[]:=by kernel_rfl
theorem l_laws_szHeldS:Zal Try.prog 44 Zek:=by unfold Zek;exact Zaj follows Try.func44 k_laws_szHeldS o_laws_szHeldS trivial
theorem k_laws_szStepS:ZcB Try.prog Try.f59 df_laws_szStepS.er.er=true:=by kernel_rfl
theorem o_laws_szStepS:ZcA Try.prog Try.f59 df_laws_szStepS.er.er=[]:=by kernel_rfl
theorem l_laws_szStepS:Zal Try.prog 59 Zeh:=by unfold Zeh;exact Zaj follows Try.func59 k_laws_szStepS o_laws_szStepS trivial
theorem k_laws_toAction:ZcB Try.prog Try.f42 df_laws_toAction.er.er=true:=by kernel_rfl
theorem o_laws_toAction:ZcA Try.prog Try.f42 df_laws_toAction.er.er=[]:=by kernel_rfl
theorem l_laws_toAction:Zal Try.prog 42 ZdV:=by unfold ZdV;exact Zaj follows Try.func42 k_laws_toAction o_laws_toAction trivial
theorem k_laws_toHeld:ZcB Try.prog Try.f100 df_laws_toHeld.er.er=true:=by kernel_rfl
theorem o_laws_toHeld:ZcA Try.prog Try.f100 df_laws_toHeld.er.er=[(42,ZdV)]:=by kernel_rfl
theorem l_laws_toHeld:Zal Try.prog 100 Ze2:=by unfold Ze2;exact Zaj follows Try.func100 k_laws_toHeld o_laws_toHeld ⟨l_laws_toAction,trivial⟩
theorem k_laws_toHeldS:ZcB Try.prog Try.f46 df_laws_toHeldS.er.er=true:=by kernel_rfl
theorem o_laws_toHeldS:ZcA Try.prog Try.f46 df_laws_toHeldS.er.er=[(100,Ze2)]:=by kernel_rfl
theorem l_laws_toHeldS:Zal Try.prog 46 Zbj:=by unfold Zbj;exact Zaj follows Try.func46 k_laws_toHeldS o_laws_toHeldS ⟨l_laws_toHeld,trivial⟩
theorem k_laws_toStep:ZcB Try.prog Try.f113 df_laws_toStep.er.er=true:=by kernel_rfl
theorem o_laws_toStep:ZcA Try.prog Try.f113 df_laws_toStep.er.er=[]:=by kernel_rfl
theorem l_laws_toStep:Zal Try.prog 113 Ze3:=by unfold Ze3;exact Zaj follows Try.func113 k_laws_toStep o_laws_toStep trivial
theorem k_laws_toStepS:ZcB Try.prog Try.f61 df_laws_toStepS.er.er=true:=by kernel_rfl
theorem o_laws_toStepS:ZcA Try.prog Try.f61 df_laws_toStepS.er.er=[(113,Ze3)]:=by kernel_rfl
theorem l_laws_toStepS:Zal Try.prog 61 Zbk:=by unfold Zbk;exact Zaj follows Try.func61 k_laws_toStepS o_laws_toStepS ⟨l_laws_toStep,trivial⟩
theorem k_spec_l1In:ZcB Try.prog Try.f96 df_spec_l1In.er.er=true:=by kernel_rfl
theorem o_spec_l1In:ZcA Try.prog Try.f96 df_spec_l1In.er.er=[]:=by kernel_rfl
theorem l_spec_l1In:Zal Try.prog 96 Zbt:=by unfold Zbt;exact Zaj follows Try.func96 k_spec_l1In o_spec_l1In trivial
theorem k_spec_IsAction:ZcB Try.prog Try.f132 df_spec_IsAction.er.er=true:=by kernel_rfl
theorem o_spec_IsAction:ZcA Try.prog Try.f132 df_spec_IsAction.er.er=[(96,Zbt),(96,Zbt),(96,Zbt),(96,Zbt)]:=by kernel_rfl
theorem l_spec_IsAction:Zal Try.prog 132 ZbE:=by unfold ZbE;exact Zaj follows Try.func132 k_spec_IsAction o_spec_IsAction ⟨l_spec_l1In,l_spec_l1In,l_spec_l1In,l_spec_l1In,trivial⟩
theorem k_spec_IsTapHold:ZcB Try.prog Try.f138 df_spec_IsTapHold.er.er=true:=by kernel_rfl
theorem o_spec_IsTapHold:ZcA Try.prog Try.f138 df_spec_IsTapHold.er.er=[(132,ZbE)]:=by kernel_rfl
theorem l_spec_IsTapHold:Zal Try.prog 138 Zda:=by unfold Zda;exact Zaj follows Try.func138 k_spec_IsTapHold o_spec_IsTapHold ⟨l_spec_IsAction,trivial⟩
theorem k_spec_IsHeld:ZcB Try.prog Try.f99 df_spec_IsHeld.er.er=true:=by kernel_rfl
theorem o_spec_IsHeld:ZcA Try.prog Try.f99 df_spec_IsHeld.er.er=[(96,Zbt),(132,ZbE),(138,Zda)]:=by kernel_rfl
theorem l_spec_IsHeld:Zal Try.prog 99 Zdj:=by unfold Zdj;exact Zaj follows Try.func99 k_spec_IsHeld o_spec_IsHeld ⟨l_spec_l1In,l_spec_IsAction,l_spec_IsTapHold,trivial⟩
theorem k_spec_l8Find:ZcB Try.prog Try.f112 df_spec_l8Find.er.er=true:=by kernel_rfl
theorem o_spec_l8Find:ZcA Try.prog Try.f112 df_spec_l8Find.er.er=[]:=by kernel_rfl
theorem l_spec_l8Find:Zal Try.prog 112 Zdc:=by unfold Zdc;exact Zaj follows Try.func112 k_spec_l8Find o_spec_l8Find trivial
theorem k_spec_l8Action:ZcB Try.prog Try.f109 df_spec_l8Action.er.er=true:=by kernel_rfl
theorem o_spec_l8Action:ZcA Try.prog Try.f109 df_spec_l8Action.er.er=[]:=by kernel_rfl
theorem l_spec_l8Action:Zal Try.prog 109 ZbF:=by unfold ZbF;exact Zaj follows Try.func109 k_spec_l8Action o_spec_l8Action trivial
theorem k_spec_l8Without:ZcB Try.prog Try.f111 df_spec_l8Without.er.er=true:=by kernel_rfl
theorem o_spec_l8Without:ZcA Try.prog Try.f111 df_spec_l8Without.er.er=[]:=by kernel_rfl
theorem l_spec_l8Without:Zal Try.prog 111 Zb1:=by unfold Zb1;exact Zaj follows Try.func111 k_spec_l8Without o_spec_l8Without trivial
theorem k_spec_IsMacro:ZcB Try.prog Try.f108 df_spec_IsMacro.er.er=true:=by kernel_rfl
theorem o_spec_IsMacro:ZcA Try.prog Try.f108 df_spec_IsMacro.er.er=[(112,Zdc),(96,Zbt),(109,ZbF),(132,ZbE),(109,ZbF),(111,Zb1)]:=by kernel_rfl
theorem l_spec_IsMacro:Zal Try.prog 108 Zeg:=by unfold Zeg;exact Zaj follows Try.func108 k_spec_IsMacro o_spec_IsMacro ⟨l_spec_l8Find,l_spec_l1In,l_spec_l8Action,l_spec_IsAction,l_spec_l8Action,l_spec_l8Without,trivial⟩
theorem k_spec_ReportOf:ZcB Try.prog Try.f45 df_spec_ReportOf.er.er=true:=by kernel_rfl
theorem o_spec_ReportOf:ZcA Try.prog Try.f45 df_spec_ReportOf.er.er=[(99,Zdj)]:=by kernel_rfl
theorem l_spec_ReportOf:Zal Try.prog 45 ZdK:=by unfold ZdK;exact Zaj follows Try.func45 k_spec_ReportOf o_spec_ReportOf ⟨l_spec_IsHeld,trivial⟩
theorem k_spec_l8Report:ZcB Try.prog Try.f110 df_spec_l8Report.er.er=true:=by kernel_rfl
theorem o_spec_l8Report:ZcA Try.prog Try.f110 df_spec_l8Report.er.er=[(45,ZdK)]:=by kernel_rfl
theorem l_spec_l8Report:Zal Try.prog 110 Zch:=by unfold Zch;exact Zaj follows Try.func110 k_spec_l8Report o_spec_l8Report ⟨l_spec_ReportOf,trivial⟩
theorem k_spec_MacroReports:ZcB Try.prog Try.f60 df_spec_MacroReports.er.er=true:=by kernel_rfl
theorem o_spec_MacroReports:ZcA Try.prog Try.f60 df_spec_MacroReports.er.er=[(99,Zdj),(108,Zeg),(109,ZbF),(110,Zch),(112,Zdc),(111,Zb1),(110,Zch)]:=by kernel_rfl
theorem l_spec_MacroReports:Zal Try.prog 60 Zcb:=by unfold Zcb;exact Zaj follows Try.func60 k_spec_MacroReports o_spec_MacroReports ⟨l_spec_IsHeld,l_spec_IsMacro,l_spec_l8Action,l_spec_l8Report,l_spec_l8Find,l_spec_l8Without,l_spec_l8Report,trivial⟩
theorem k_impl_bit:ZcB Try.prog Try.f139 df_impl_bit.er.er=true:=by kernel_rfl
theorem o_impl_bit:ZcA Try.prog Try.f139 df_impl_bit.er.er=[]:=by kernel_rfl
theorem l_impl_bit:Zal Try.prog 139 Zij:=by unfold Zij;exact Zaj follows Try.func139 k_impl_bit o_impl_bit trivial
theorem k_impl_isCode:ZcB Try.prog Try.f130 df_impl_isCode.er.er=true:=by kernel_rfl
theorem o_impl_isCode:ZcA Try.prog Try.f130 df_impl_isCode.er.er=[]:=by kernel_rfl
theorem l_impl_isCode:Zal Try.prog 130 Zcd:=by unfold Zcd;exact Zaj follows Try.func130 k_impl_isCode o_impl_isCode trivial
theorem k_impl_isMods:ZcB Try.prog Try.f149 df_impl_isMods.er.er=true:=by kernel_rfl
theorem o_impl_isMods:ZcA Try.prog Try.f149 df_impl_isMods.er.er=[]:=by kernel_rfl
theorem l_impl_isMods:Zal Try.prog 149 Zce:=by unfold Zce;exact Zaj follows Try.func149 k_impl_isMods o_impl_isMods trivial
theorem k_impl_isUpper:ZcB Try.prog Try.f150 df_impl_isUpper.er.er=true:=by kernel_rfl
theorem o_impl_isUpper:ZcA Try.prog Try.f150 df_impl_isUpper.er.er=[]:=by kernel_rfl
theorem l_impl_isUpper:Zal Try.prog 150 ZcE:=by unfold ZcE;exact Zaj follows Try.func150 k_impl_isUpper o_impl_isUpper trivial
theorem k_impl_IsAction:ZcB Try.prog Try.f134 df_impl_IsAction.er.er=true:=by kernel_rfl
theorem o_impl_IsAction:ZcA Try.prog Try.f134 df_impl_IsAction.er.er=[(130,Zcd),(149,Zce),(150,ZcE),(130,Zcd),(149,Zce),(130,Zcd),(150,ZcE),(149,Zce)]:=by kernel_rfl
theorem l_impl_IsAction:Zal Try.prog 134 Zcj:=by unfold Zcj;exact Zaj follows Try.func134 k_impl_IsAction o_impl_IsAction ⟨l_impl_isCode,l_impl_isMods,l_impl_isUpper,l_impl_isCode,l_impl_isMods,l_impl_isCode,l_impl_isUpper,l_impl_isMods,trivial⟩
theorem k_impl_IsHeld:ZcB Try.prog Try.f101 df_impl_IsHeld.er.er=true:=by kernel_rfl
theorem o_impl_IsHeld:ZcA Try.prog Try.f101 df_impl_IsHeld.er.er=[(139,Zij),(134,Zcj)]:=by kernel_rfl
theorem l_impl_IsHeld:Zal Try.prog 101 Zdh:=by unfold Zdh;exact Zaj follows Try.func101 k_impl_IsHeld o_impl_IsHeld ⟨l_impl_bit,l_impl_IsAction,trivial⟩
theorem k_impl_pairAt:ZcB Try.prog Try.f116 df_impl_pairAt.er.er=true:=by kernel_rfl
theorem o_impl_pairAt:ZcA Try.prog Try.f116 df_impl_pairAt.er.er=[]:=by kernel_rfl
theorem l_impl_pairAt:Zal Try.prog 116 Zdf:=by unfold Zdf;exact Zaj follows Try.func116 k_impl_pairAt o_impl_pairAt trivial
theorem k_impl_IsMacro:ZcB Try.prog Try.f114 df_impl_IsMacro.er.er=true:=by kernel_rfl
theorem o_impl_IsMacro:ZcA Try.prog Try.f114 df_impl_IsMacro.er.er=[(116,Zdf),(134,Zcj)]:=by kernel_rfl
theorem l_impl_IsMacro:Zal Try.prog 114 Zei:=by unfold Zei;exact Zaj follows Try.func114 k_impl_IsMacro o_impl_IsMacro ⟨l_impl_pairAt,l_impl_IsAction,trivial⟩
theorem k_impl_copyInts:ZcB Try.prog Try.f84 df_impl_copyInts.er.er=true:=by kernel_rfl
theorem o_impl_copyInts:ZcA Try.prog Try.f84 df_impl_copyInts.er.er=[]:=by kernel_rfl
theorem l_impl_copyInts:Zal Try.prog 84 Zci:=by unfold Zci;exact Zaj follows Try.func84 k_impl_copyInts o_impl_copyInts trivial
theorem k_impl_hasInt:ZcB Try.prog Try.f141 df_impl_hasInt.er.er=true:=by kernel_rfl
theorem o_impl_hasInt:ZcA Try.prog Try.f141 df_impl_hasInt.er.er=[]:=by kernel_rfl
theorem l_impl_hasInt:Zal Try.prog 141 ZeS:=by unfold ZeS;exact Zaj follows Try.func141 k_impl_hasInt o_impl_hasInt trivial
theorem k_impl_codesOf:ZcB Try.prog Try.f102 df_impl_codesOf.er.er=true:=by kernel_rfl
theorem o_impl_codesOf:ZcA Try.prog Try.f102 df_impl_codesOf.er.er=[(84,Zci),(140,ZfG),(141,ZeS)]:=by kernel_rfl
theorem l_impl_codesOf:Zal Try.prog 102 ZcN:=by unfold ZcN;exact Zaj follows Try.func102 k_impl_codesOf o_impl_codesOf ⟨l_impl_copyInts,l_sort_Ints,l_impl_hasInt,trivial⟩
theorem k_impl_ReportOf:ZcB Try.prog Try.f47 df_impl_ReportOf.er.er=true:=by kernel_rfl
theorem o_impl_ReportOf:ZcA Try.prog Try.f47 df_impl_ReportOf.er.er=[(101,Zdh),(102,ZcN)]:=by kernel_rfl
theorem l_impl_ReportOf:Zal Try.prog 47 ZdM:=by unfold ZdM;exact Zaj follows Try.func47 k_impl_ReportOf o_impl_ReportOf ⟨l_impl_IsHeld,l_impl_codesOf,trivial⟩
theorem k_impl_withPairs:ZcB Try.prog Try.f115 df_impl_withPairs.er.er=true:=by kernel_rfl
theorem o_impl_withPairs:ZcA Try.prog Try.f115 df_impl_withPairs.er.er=[(84,Zci),(102,ZcN)]:=by kernel_rfl
theorem l_impl_withPairs:Zal Try.prog 115 ZbZ:=by unfold ZbZ;exact Zaj follows Try.func115 k_impl_withPairs o_impl_withPairs ⟨l_impl_copyInts,l_impl_codesOf,trivial⟩
theorem k_impl_MacroReports:ZcB Try.prog Try.f62 df_impl_MacroReports.er.er=true:=by kernel_rfl
theorem o_impl_MacroReports:ZcA Try.prog Try.f62 df_impl_MacroReports.er.er=[(101,Zdh),(114,Zei),(47,ZdM),(115,ZbZ),(116,Zdf),(115,ZbZ)]:=by kernel_rfl
theorem l_impl_MacroReports:Zal Try.prog 62 Zbg:=by unfold Zbg;exact Zaj follows Try.func62 k_impl_MacroReports o_impl_MacroReports ⟨l_impl_IsHeld,l_impl_IsMacro,l_impl_ReportOf,l_impl_withPairs,l_impl_pairAt,l_impl_withPairs,trivial⟩
theorem k_laws_eqIntS:ZcB Try.prog Try.f77 df_laws_eqIntS.er.er=true:=by kernel_rfl
theorem o_laws_eqIntS:ZcA Try.prog Try.f77 df_laws_eqIntS.er.er=[]:=by kernel_rfl
theorem l_laws_eqIntS:Zal Try.prog 77 Ze4:=by unfold Ze4;exact Zaj follows Try.func77 k_laws_eqIntS o_laws_eqIntS trivial
theorem k_laws_eqReport:ZcB Try.prog Try.f18 df_laws_eqReport.er.er=true:=by kernel_rfl
theorem o_laws_eqReport:ZcA Try.prog Try.f18 df_laws_eqReport.er.er=[(77,Ze4)]:=by kernel_rfl
theorem l_laws_eqReport:Zal Try.prog 18 ZdD:=by unfold ZdD;exact Zaj follows Try.func18 k_laws_eqReport o_laws_eqReport ⟨l_laws_eqIntS,trivial⟩
theorem k_laws_eqReportS:ZcB Try.prog Try.f63 df_laws_eqReportS.er.er=true:=by kernel_rfl
theorem o_laws_eqReportS:ZcA Try.prog Try.f63 df_laws_eqReportS.er.er=[(18,ZdD)]:=by kernel_rfl
theorem l_laws_eqReportS:Zal Try.prog 63 Zbh:=by unfold Zbh;exact Zaj follows Try.func63 k_laws_eqReportS o_laws_eqReportS ⟨l_laws_eqReport,trivial⟩
theorem k_laws_eqAction:ZcB Try.prog Try.f142 df_laws_eqAction.er.er=true:=by kernel_rfl
theorem o_laws_eqAction:ZcA Try.prog Try.f142 df_laws_eqAction.er.er=[]:=by kernel_rfl
theorem l_laws_eqAction:Zal Try.prog 142 ZdX:=by unfold ZdX;exact Zaj follows Try.func142 k_laws_eqAction o_laws_eqAction trivial
theorem k_laws_eqHeld:ZcB Try.prog Try.f103 df_laws_eqHeld.er.er=true:=by kernel_rfl
theorem o_laws_eqHeld:ZcA Try.prog Try.f103 df_laws_eqHeld.er.er=[(142,ZdX)]:=by kernel_rfl
theorem l_laws_eqHeld:Zal Try.prog 103 ZeW:=by unfold ZeW;exact Zaj follows Try.func103 k_laws_eqHeld o_laws_eqHeld ⟨l_laws_eqAction,trivial⟩
theorem k_laws_eqHeldS:ZcB Try.prog Try.f48 df_laws_eqHeldS.er.er=true:=by kernel_rfl
theorem o_laws_eqHeldS:ZcA Try.prog Try.f48 df_laws_eqHeldS.er.er=[(103,ZeW)]:=by kernel_rfl
theorem l_laws_eqHeldS:Zal Try.prog 48 Zen:=by unfold Zen;exact Zaj follows Try.func48 k_laws_eqHeldS o_laws_eqHeldS ⟨l_laws_eqHeld,trivial⟩
theorem k_laws_eqStep:ZcB Try.prog Try.f117 df_laws_eqStep.er.er=true:=by kernel_rfl
theorem o_laws_eqStep:ZcA Try.prog Try.f117 df_laws_eqStep.er.er=[]:=by kernel_rfl
theorem l_laws_eqStep:Zal Try.prog 117 Zfa:=by unfold Zfa;exact Zaj follows Try.func117 k_laws_eqStep o_laws_eqStep trivial
theorem k_laws_eqStepS:ZcB Try.prog Try.f64 df_laws_eqStepS.er.er=true:=by kernel_rfl
theorem o_laws_eqStepS:ZcA Try.prog Try.f64 df_laws_eqStepS.er.er=[(117,Zfa)]:=by kernel_rfl
theorem l_laws_eqStepS:Zal Try.prog 64 Zeo:=by unfold Zeo;exact Zaj follows Try.func64 k_laws_eqStepS o_laws_eqStepS ⟨l_laws_eqStep,trivial⟩
theorem k_laws_markHeldS:ZcB Try.prog Try.f49 ZhC=true:=by kernel_rfl
theorem o_laws_markHeldS:ZcA Try.prog Try.f49 ZhC=[]:=by kernel_rfl
theorem l_laws_markHeldS:Zal Try.prog 49 Zb4:=by unfold Zb4;exact Zaj follows Try.func49 k_laws_markHeldS o_laws_markHeldS trivial
theorem k_laws_markStepS:ZcB Try.prog Try.f65 Zho=true:=by kernel_rfl
theorem o_laws_markStepS:ZcA Try.prog Try.f65 Zho=[]:=by kernel_rfl
theorem l_laws_markStepS:Zal Try.prog 65 Zb5:=by unfold Zb5;exact Zaj follows Try.func65 k_laws_markStepS o_laws_markStepS trivial
theorem k_laws_markIntS:ZcB Try.prog Try.f78 Zix=true:=by kernel_rfl
theorem o_laws_markIntS:ZcA Try.prog Try.f78 Zix=[]:=by kernel_rfl
theorem l_laws_markIntS:Zal Try.prog 78 ZdO:=by unfold ZdO;exact Zaj follows Try.func78 k_laws_markIntS o_laws_markIntS trivial
theorem k_laws_markReportS:ZcB Try.prog Try.f66 ZfV=true:=by kernel_rfl
theorem o_laws_markReportS:ZcA Try.prog Try.f66 ZfV=[(78,ZdO)]:=by kernel_rfl
theorem l_laws_markReportS:Zal Try.prog 66 Zbx:=by unfold Zbx;exact Zaj follows Try.func66 k_laws_markReportS o_laws_markReportS ⟨l_laws_markIntS,trivial⟩
theorem k_laws_heldIntS:ZcB Try.prog Try.f79 df_laws_heldIntS.er.er=true:=by kernel_rfl
theorem o_laws_heldIntS:ZcA Try.prog Try.f79 df_laws_heldIntS.er.er=[]:=by kernel_rfl
theorem l_laws_heldIntS:Zal Try.prog 79 ZdT:=by unfold ZdT;exact Zaj follows Try.func79 k_laws_heldIntS o_laws_heldIntS trivial
theorem k_laws_heldReportS:ZcB Try.prog Try.f67 df_laws_heldReportS.er.er=true:=by kernel_rfl
theorem o_laws_heldReportS:ZcA Try.prog Try.f67 df_laws_heldReportS.er.er=[(79,ZdT)]:=by kernel_rfl
theorem l_laws_heldReportS:Zal Try.prog 67 Zbz:=by unfold Zbz;exact Zaj follows Try.func67 k_laws_heldReportS o_laws_heldReportS ⟨l_laws_heldIntS,trivial⟩
theorem k_laws_FnExactMacroReports:ZcB Try.prog Try.f12 df_laws_FnExactMacroReports.er.er=true:=by kernel_rfl
theorem o_laws_FnExactMacroReports:ZcA Try.prog Try.f12 df_laws_FnExactMacroReports.er.er=[(44,Zek),(59,Zeh),(46,Zbj),(61,Zbk),(60,Zcb),(46,Zbj),(61,Zbk),(62,Zbg),(63,Zbh),(46,Zbj),(48,Zen),(61,Zbk),(64,Zeo),(49,Zb4),(65,Zb5),(63,Zbh),(66,Zbx),(67,Zbz),(46,Zbj),(61,Zbk),(62,Zbg),(63,Zbh),(67,Zbz)]:=by kernel_rfl
theorem l_laws_FnExactMacroReports:Zal Try.prog 12 Zbr:=by unfold Zbr;exact Zaj follows Try.func12 k_laws_FnExactMacroReports o_laws_FnExactMacroReports ⟨l_laws_szHeldS,l_laws_szStepS,l_laws_toHeldS,l_laws_toStepS,l_spec_MacroReports,l_laws_toHeldS,l_laws_toStepS,l_impl_MacroReports,l_laws_eqReportS,l_laws_toHeldS,l_laws_eqHeldS,l_laws_toStepS,l_laws_eqStepS,l_laws_markHeldS,l_laws_markStepS,l_laws_eqReportS,l_laws_markReportS,l_laws_heldReportS,l_laws_toHeldS,l_laws_toStepS,l_impl_MacroReports,l_laws_eqReportS,l_laws_heldReportS,trivial⟩
end Go.Proofs.Ythljgcjmaabnoaa
