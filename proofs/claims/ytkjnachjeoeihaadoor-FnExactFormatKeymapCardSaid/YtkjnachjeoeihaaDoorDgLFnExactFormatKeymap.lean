/-
 EACH ABSTRACT FUNCTION IS THE SEAT's OWN: checked by the kernel,function by function (written by program,ag.py).
-/
import Derived.Test.YtkjnachjeoeihaaDoorChecked
import Derived.KernelRfl
import Derived.Test.YtkjnachjeoeihaaDoorLibF
import Derived.Shelf.Strings.OnBuilder
import Derived.Shelf.Strings.SplitCore
import Derived.Shelf.Strings.Search3
import Derived.Shelf.Strings.Count
import Derived.Lib.SplitLaws
import Derived.Lib.IndexBytes
import Derived.Shelf.Strconv.Itoa3
namespace Go.Ag
set_option linter.unusedSimpArgs false
set_option linter.unusedVariables false
set_option linter.unusedSimpArgs false
set_option linter.unusedVariables false
open Go.Shelf Go.RowKit Go.Lib Go.Proofs
set_option maxRecDepth 100000
set_option maxHeartbeats 1000000 in
theorem split_one{P:Program}{ρ:Go.Shelf.Ren}(L:Lays.n146 P ρ)(hi9:(P.info? (ρ.t 9)).map (fun i=>(i.zero,i.size,i.bytes))=some (some (.string ByteArray.empty),1,16))(s:ByteArray)(b:UInt8)(w:World)(hs:s.size<4294967281) :
 Calls P (ρ.f 146) #[.string s,.string ⟨#[b]⟩] w fun e w'=>
  e= .returned (.slice (some ⟨w.heap.size,0,none⟩) (Lib.countB s ⟨#[b]⟩+1) (Lib.countB s ⟨#[b]⟩+1))∧w'=w.alloc (.cells ((Lib.splitB ⟨#[b]⟩ 0 (Lib.countB s ⟨#[b]⟩) s).map Value.string).toArray (ρ.t 9)):=by
 have h1:1≤(ByteArray.mk #[b]).size:=AF _
 have hle:=Lib.countB_le ⟨#[b]⟩ h1 s.size s (AF _)
 have hlen:=Lib.splitB_all ⟨#[b]⟩ h1 0 _ s rfl
 have c:=Any.strings_genSplit_core { L with } hi9 s ⟨#[b]⟩ 0 (-1) (Lib.countB s ⟨#[b]⟩+1) w hs h1 (Ft _)
  (fun x c _=>(Any.strings_Index_one { L with } x b _).mono fun e w' ⟨he,hw⟩=>⟨by rw[he];show _=Ending.returned (Value.int .i64 (Lib.index x.data.toList [b]));rw[Lib.index_one],hw⟩)
  ((Any.strings_Count_one { L with } s b w).mono fun e w' ⟨he,hw⟩=>⟨by rw[he];show _=Ending.returned (Value.int .i64 ((Lib.count s.data.toList [b]:Nat):Int));rw[Lib.count_one];rfl,hw⟩)
  (by decide) (by decide) (by rw[Ab (by decide)];omega)
 rw[Nat.add_sub_cancel,hlen] at c
 have e2:Lib.cellsOf (Lib.splitB ⟨#[b]⟩ 0 (Lib.countB s ⟨#[b]⟩) s) (Lib.countB s ⟨#[b]⟩+1)=((Lib.splitB ⟨#[b]⟩ 0 (Lib.countB s ⟨#[b]⟩) s).map Value.string).toArray:=by rw[← hlen];exact Lib.cellsOf_full _
 rw[e2] at c
 have t3:=L.t3;have t9:=L.t9;have t31:=L.t31
 have a3:=L.a3;have a9:=L.a9;have a31:=L.a31
 have z3:=L.z3;have v3:=L.v3;have z9:=L.z9;have v9:=L.v9;have z31:=L.z31;have v31:=L.v31
 have e221:∀ args w,(callFunc (ρ.f 221) args).run P w= .ok (.enter (ρ.f 221) args) w:=enters_of L.f221 (by kernel_rfl) rfl
 go_enter L.f146,Body.n146_ntmps ρ
 go_wp2_with (go_at_fn (ρ.f 221);refine c.mono ?_;rintro e w' ⟨rfl,hw⟩;rw[hw])
 go_ret
 exact⟨rfl,rfl⟩
theorem code_count:Lib.countB ⟨B9.toArray⟩ ⟨#[32]⟩=55:=by
 show Lib.count B9 [32]=55
 rw[Lib.count_one]
 decide
theorem code_split:Lib.splitB ⟨#[32]⟩ 0 55 ⟨B9.toArray⟩=BO.map fun s=>ByteArray.mk s.toArray:=by
 have h:=Lib.splitB_data ⟨#[32]⟩ 0 55 ⟨B9.toArray⟩
 have e:Lib.splitK [32] 0 55 B9=BO:=by kernel_rfl
 have h:(Lib.splitB ⟨#[32]⟩ 0 55 ⟨B9.toArray⟩).map (·.data.toList)=BO:=h.trans e
 rw[← h,List.map_map]
 conv=>lhs;rw[← List.map_id (Lib.splitB ⟨#[32]⟩ 0 55 ⟨B9.toArray⟩)]
 apply List.map_congr_left
 intro x _
 simp
theorem split_said{P:Program}{ρ:Go.Shelf.Ren}(L:Lays.n146 P ρ)(hi9:(P.info? (ρ.t 9)).map (fun i=>(i.zero,i.size,i.bytes))=some (some (.string ByteArray.empty),1,16)):U1 P (ρ.f 146):=by
 intro w
 refine(split_one L hi9 ⟨B9.toArray⟩ 32 w (by decide)).mono ?_
 rintro e w' ⟨rfl,rfl⟩
 rw[code_count,code_split,List.map_map]
 exact⟨_,rfl,rfl⟩
end Go.Ag
namespace Go.Proofs.YtkjnachjeoeihaaDoor
open Go.Ag
theorem follows:Tryd.prog.follows .mixedOrders=true:=by kernel_rfl
open Go.Shelf Go.Proofs
def lays156_ren:Go.Shelf.Ren:=⟨fun|156=>49|165=>63|166=>64|169=>65|240=>74|241=>75|276=>81|277=>82|n=>n,fun|31=>51|9=>9|3=>3|4=>4|0=>0|20=>20|72=>95|76=>99|70=>93|37=>73|75=>98|127=>107|164=>112|5=>5|80=>101|n=>n,fun|n=>n⟩
theorem lays156:Go.Proofs.Lays.n156 Tryd.prog lays156_ren:={
 mixed:=by kernel_rfl
 f156:=Tryd.func49.trans (congrArg some (by kernel_rfl))
 f165:=Tryd.func63.trans (congrArg some (by kernel_rfl))
 f166:=Tryd.func64.trans (congrArg some (by kernel_rfl))
 f169:=Tryd.func65.trans (congrArg some (by kernel_rfl))
 f240:=Tryd.func74.trans (congrArg some (by kernel_rfl))
 f241:=Tryd.func75.trans (congrArg some (by kernel_rfl))
 f276:=Tryd.func81.trans (congrArg some (by kernel_rfl))
 f277:=Tryd.func82.trans (congrArg some (by kernel_rfl))
 t0:=Tryd.underlying0
 a0:=Tryd.isAgg0
 z0:=Tryd.sizeOf0
 v0:=Tryd.zeroValue0
 t3:=Tryd.underlying3
 a3:=Tryd.isAgg3
 z3:=Tryd.sizeOf3
 v3:=Tryd.zeroValue3
 t4:=Tryd.underlying4
 a4:=Tryd.isAgg4
 z4:=Tryd.sizeOf4
 v4:=Tryd.zeroValue4
 t9:=Tryd.underlying9
 a9:=Tryd.isAgg9
 z9:=Tryd.sizeOf9
 v9:=Tryd.zeroValue9
 t20:=Tryd.underlying20
 a20:=Tryd.isAgg20
 z20:=Tryd.sizeOf20
 v20:=Tryd.zeroValue20
 t31:=Tryd.underlying51
 a31:=Tryd.isAgg51
 z31:=Tryd.sizeOf51
 v31:=Tryd.zeroValue51
 t37:=Tryd.underlying73
 a37:=Tryd.isAgg73
 z37:=Tryd.sizeOf73
 v37:=Tryd.zeroValue73
 t70:=Tryd.underlying93
 a70:=Tryd.isAgg93
 z70:=Tryd.sizeOf93
 v70:=Tryd.zeroValue93
 t72:=Tryd.underlying95
 a72:=Tryd.isAgg95
 z72:=Tryd.sizeOf95
 v72:=Tryd.zeroValue95
 t75:=Tryd.underlying98
 a75:=Tryd.isAgg98
 z75:=Tryd.sizeOf98
 v75:=Tryd.zeroValue98
 t76:=Tryd.underlying99
 a76:=Tryd.isAgg99
 z76:=Tryd.sizeOf99
 v76:=Tryd.zeroValue99
 t127:=Tryd.underlying107
 a127:=Tryd.isAgg107
 z127:=Tryd.sizeOf107
 v127:=Tryd.zeroValue107
 t164:=Tryd.underlying112
 a164:=Tryd.isAgg112
 z164:=Tryd.sizeOf112
 v164:=Tryd.zeroValue112 }
theorem Builder_Extra_156:Builder.Extra Tryd.prog lays156_ren:={
 sizeBuilder:=by kernel_rfl
 liesBuilder:=by kernel_rfl
 t5:=Tryd.underlying5
 a5:=Tryd.isAgg5
 z5:=Tryd.sizeOf5
 v5:=Tryd.zeroValue5
 infoByte:=by kernel_rfl
 cellsByte:=by kernel_rfl
 sizeByte:=by kernel_rfl
 neB5:=by decide }
theorem aY:Aq Tryd.prog 49 Ln:=dj ⟨fun bk o c xs sep w h1 h2 h3 h4 h5=>Go.Proofs.Any.strings_Join lays156 Builder_Extra_156 bk o c xs sep w h1 h2 h3 h4 h5,fun a c sep w=>Go.Proofs.Any.strings_Join_none lays156 Builder_Extra_156 a c sep w⟩
def lays146_ren:Go.Shelf.Ren:=⟨fun|146=>47|221=>62|268=>71|138=>72|143=>73|195=>77|197=>78|218=>79|219=>80|260=>84|217=>85|225=>86|224=>87|267=>88|266=>93|314=>94|n=>n,fun|9=>9|31=>51|3=>3|4=>4|0=>0|105=>109|21=>21|5=>5|46=>117|119=>124|139=>127|138=>126|146=>129|51=>128|n=>n,fun|1=>0|3=>1|4=>2|n=>n⟩
theorem lays146:Go.Proofs.Lays.n146 Tryd.prog lays146_ren:={
 mixed:=by kernel_rfl
 f138:=Tryd.func72.trans (congrArg some (by kernel_rfl))
 f143:=Tryd.func73.trans (congrArg some (by kernel_rfl))
 f146:=Tryd.func47.trans (congrArg some (by kernel_rfl))
 f195:=Tryd.func77.trans (congrArg some (by kernel_rfl))
 f197:=Tryd.func78.trans (congrArg some (by kernel_rfl))
 f217:=Tryd.func85.trans (congrArg some (by kernel_rfl))
 f218:=Tryd.func79.trans (congrArg some (by kernel_rfl))
 f219:=Tryd.func80.trans (congrArg some (by kernel_rfl))
 f221:=Tryd.func62.trans (congrArg some (by kernel_rfl))
 f224:=Tryd.func87.trans (congrArg some (by kernel_rfl))
 f225:=Tryd.func86.trans (congrArg some (by kernel_rfl))
 f260:=Tryd.func84.trans (congrArg some (by kernel_rfl))
 f266:=Tryd.func93.trans (congrArg some (by kernel_rfl))
 f267:=Tryd.func88.trans (congrArg some (by kernel_rfl))
 f268:=Tryd.func71.trans (congrArg some (by kernel_rfl))
 f314:=Tryd.func94.trans (congrArg some (by kernel_rfl))
 t0:=Tryd.underlying0
 a0:=Tryd.isAgg0
 z0:=Tryd.sizeOf0
 v0:=Tryd.zeroValue0
 t3:=Tryd.underlying3
 a3:=Tryd.isAgg3
 z3:=Tryd.sizeOf3
 v3:=Tryd.zeroValue3
 t4:=Tryd.underlying4
 a4:=Tryd.isAgg4
 z4:=Tryd.sizeOf4
 v4:=Tryd.zeroValue4
 t5:=Tryd.underlying5
 a5:=Tryd.isAgg5
 z5:=Tryd.sizeOf5
 v5:=Tryd.zeroValue5
 t9:=Tryd.underlying9
 a9:=Tryd.isAgg9
 z9:=Tryd.sizeOf9
 v9:=Tryd.zeroValue9
 t21:=Tryd.underlying21
 a21:=Tryd.isAgg21
 z21:=Tryd.sizeOf21
 v21:=Tryd.zeroValue21
 t31:=Tryd.underlying51
 a31:=Tryd.isAgg51
 z31:=Tryd.sizeOf51
 v31:=Tryd.zeroValue51
 t46:=Tryd.underlying117
 a46:=Tryd.isAgg117
 z46:=Tryd.sizeOf117
 v46:=Tryd.zeroValue117
 t51:=Tryd.underlying128
 a51:=Tryd.isAgg128
 z51:=Tryd.sizeOf128
 v51:=Tryd.zeroValue128
 t105:=Tryd.underlying109
 a105:=Tryd.isAgg109
 z105:=Tryd.sizeOf109
 v105:=Tryd.zeroValue109
 t119:=Tryd.underlying124
 a119:=Tryd.isAgg124
 z119:=Tryd.sizeOf124
 t138:=Tryd.underlying126
 a138:=Tryd.isAgg126
 z138:=Tryd.sizeOf126
 v138:=Tryd.zeroValue126
 t139:=Tryd.underlying127
 a139:=Tryd.isAgg127
 z139:=Tryd.sizeOf127
 v139:=Tryd.zeroValue127
 t146:=Tryd.underlying129
 a146:=Tryd.isAgg129
 z146:=Tryd.sizeOf129
 v146:=Tryd.zeroValue129
 g1:=by kernel_rfl
 g3:=by kernel_rfl
 g4:=by kernel_rfl }
theorem aI:Aq Tryd.prog 47 JM:=cV (split_said lays146 (by kernel_rfl))
def lays171_ren:Go.Shelf.Ren:=⟨fun|171=>68|243=>76|246=>83|283=>89|284=>90|285=>91|286=>92|129=>96|317=>95|318=>97|319=>98|320=>99|337=>100|338=>101|n=>n,fun|3=>3|9=>9|2=>2|4=>4|171=>118|0=>0|53=>119|37=>73|5=>5|173=>122|212=>132|51=>128|20=>20|213=>133|46=>117|232=>136|233=>137|n=>n,fun|17=>3|18=>4|19=>5|n=>n⟩
theorem lays171:Go.Proofs.Lays.n171 Tryd.prog lays171_ren:={
 mixed:=by kernel_rfl
 f129:=Tryd.func96.trans (congrArg some (by kernel_rfl))
 f171:=Tryd.func68.trans (congrArg some (by kernel_rfl))
 f243:=Tryd.func76.trans (congrArg some (by kernel_rfl))
 f246:=Tryd.func83.trans (congrArg some (by kernel_rfl))
 f283:=Tryd.func89.trans (congrArg some (by kernel_rfl))
 f284:=Tryd.func90.trans (congrArg some (by kernel_rfl))
 f285:=Tryd.func91.trans (congrArg some (by kernel_rfl))
 f286:=Tryd.func92.trans (congrArg some (by kernel_rfl))
 f317:=Tryd.func95.trans (congrArg some (by kernel_rfl))
 f318:=Tryd.func97.trans (congrArg some (by kernel_rfl))
 f319:=Tryd.func98.trans (congrArg some (by kernel_rfl))
 f320:=Tryd.func99.trans (congrArg some (by kernel_rfl))
 f337:=Tryd.func100.trans (congrArg some (by kernel_rfl))
 f338:=Tryd.func101.trans (congrArg some (by kernel_rfl))
 t0:=Tryd.underlying0
 a0:=Tryd.isAgg0
 z0:=Tryd.sizeOf0
 v0:=Tryd.zeroValue0
 t2:=Tryd.underlying2
 a2:=Tryd.isAgg2
 z2:=Tryd.sizeOf2
 v2:=Tryd.zeroValue2
 t3:=Tryd.underlying3
 a3:=Tryd.isAgg3
 z3:=Tryd.sizeOf3
 v3:=Tryd.zeroValue3
 t4:=Tryd.underlying4
 a4:=Tryd.isAgg4
 z4:=Tryd.sizeOf4
 v4:=Tryd.zeroValue4
 t5:=Tryd.underlying5
 a5:=Tryd.isAgg5
 z5:=Tryd.sizeOf5
 v5:=Tryd.zeroValue5
 t9:=Tryd.underlying9
 a9:=Tryd.isAgg9
 z9:=Tryd.sizeOf9
 v9:=Tryd.zeroValue9
 t20:=Tryd.underlying20
 a20:=Tryd.isAgg20
 z20:=Tryd.sizeOf20
 v20:=Tryd.zeroValue20
 t37:=Tryd.underlying73
 a37:=Tryd.isAgg73
 z37:=Tryd.sizeOf73
 v37:=Tryd.zeroValue73
 t46:=Tryd.underlying117
 a46:=Tryd.isAgg117
 z46:=Tryd.sizeOf117
 v46:=Tryd.zeroValue117
 t51:=Tryd.underlying128
 a51:=Tryd.isAgg128
 z51:=Tryd.sizeOf128
 v51:=Tryd.zeroValue128
 t53:=Tryd.underlying119
 a53:=Tryd.isAgg119
 z53:=Tryd.sizeOf119
 v53:=Tryd.zeroValue119
 t171:=Tryd.underlying118
 a171:=Tryd.isAgg118
 z171:=Tryd.sizeOf118
 v171:=Tryd.zeroValue118
 t173:=Tryd.underlying122
 a173:=Tryd.isAgg122
 z173:=Tryd.sizeOf122
 v173:=Tryd.zeroValue122
 t212:=Tryd.underlying132
 a212:=Tryd.isAgg132
 z212:=Tryd.sizeOf132
 v212:=Tryd.zeroValue132
 t213:=Tryd.underlying133
 a213:=Tryd.isAgg133
 z213:=Tryd.sizeOf133
 t232:=Tryd.underlying136
 a232:=Tryd.isAgg136
 z232:=Tryd.sizeOf136
 v232:=Tryd.zeroValue136
 t233:=Tryd.underlying137
 a233:=Tryd.isAgg137
 z233:=Tryd.sizeOf137
 v233:=Tryd.zeroValue137
 g17:=by kernel_rfl
 g18:=by kernel_rfl
 g19:=by kernel_rfl }
theorem aV:Aq Tryd.prog 68 Lk:=c8 fun i hi w=>Go.Proofs.Any.strconv_Itoa_small lays171 i hi w
theorem Zt:Aq Tryd.prog 58 Gr.S:=lF follows Tryd.func58 (by kernel_rfl) (obs:=[]) (by kernel_rfl) trivial
theorem Y9:Aq Tryd.prog 39 Gq.S:=lF follows Tryd.func39 (by kernel_rfl) (obs:=[(58,Gr.S)]) (by kernel_rfl) ⟨Zt,trivial⟩
theorem aP:Aq Tryd.prog 16 Gx.S:=lF follows Tryd.func16 (by kernel_rfl) (obs:=[(39,Gq.S)]) (by kernel_rfl) ⟨Y9,trivial⟩
theorem aM:Aq Tryd.prog 69 GA.S:=lF follows Tryd.func69 (by kernel_rfl) (obs:=[]) (by kernel_rfl) trivial
theorem ZC:Aq Tryd.prog 59 Gu.S:=lF follows Tryd.func59 (by kernel_rfl) (obs:=[(69,GA.S)]) (by kernel_rfl) ⟨aM,trivial⟩
theorem Zj:Aq Tryd.prog 41 Gn.S:=lF follows Tryd.func41 (by kernel_rfl) (obs:=[(59,Gu.S)]) (by kernel_rfl) ⟨ZC,trivial⟩
theorem P5:Aq Tryd.prog 18 D5.S:=lF follows Tryd.func18 (by kernel_rfl) (obs:=[(41,Gn.S)]) (by kernel_rfl) ⟨Zj,trivial⟩
theorem Hj:Aq Tryd.prog 44 BI.S:=lF follows Tryd.func44 (by kernel_rfl) (obs:=[]) (by kernel_rfl) trivial
theorem TH:Aq Tryd.prog 51 Fa.S:=lF follows Tryd.func51 (by kernel_rfl) (obs:=[(44,BI.S),(44,BI.S),(44,BI.S),(44,BI.S)]) (by kernel_rfl) ⟨Hj,Hj,Hj,Hj,trivial⟩
theorem aB:Aq Tryd.prog 40 Fc.S:=lF follows Tryd.func40 (by kernel_rfl) (obs:=[(51,Fa.S),(44,BI.S),(44,BI.S)]) (by kernel_rfl) ⟨TH,Hj,Hj,trivial⟩
theorem Lf:Aq Tryd.prog 53 CP.S:=lF follows Tryd.func53 (by kernel_rfl) (obs:=[]) (by kernel_rfl) trivial
theorem PZ:Aq Tryd.prog 24 D1.S:=lF follows Tryd.func24 (by kernel_rfl) (obs:=[(44,BI.S)]) (by kernel_rfl) ⟨Hj,trivial⟩
theorem ZS:Aq Tryd.prog 61 Gs.S:=lF follows Tryd.func61 (by kernel_rfl) (obs:=[]) (by kernel_rfl) trivial
theorem aQ:Aq Tryd.prog 45 GC.S:=lF follows Tryd.func45 (by kernel_rfl) (obs:=[(61,Gs.S)]) (by kernel_rfl) ⟨ZS,trivial⟩
theorem NF:Aq Tryd.prog 23 Dp.S:=lF follows Tryd.func23 (by kernel_rfl) (obs:=[(44,BI.S),(45,GC.S)]) (by kernel_rfl) ⟨Hj,aQ,trivial⟩
theorem Yw:Aq Tryd.prog 33 Gk.S:=lF follows Tryd.func33 (by kernel_rfl) (obs:=[(51,Fa.S),(53,CP.S),(53,CP.S),(53,CP.S),(24,D1.S),(23,Dp.S),(53,CP.S),(23,Dp.S),(24,D1.S),(53,CP.S),(23,Dp.S),(24,D1.S),(23,Dp.S)]) (by kernel_rfl) ⟨TH,Lf,Lf,Lf,PZ,NF,Lf,NF,PZ,Lf,NF,PZ,NF,trivial⟩
theorem TI:Aq Tryd.prog 25 E7.S:=lF follows Tryd.func25 (by kernel_rfl) (obs:=[]) (by kernel_rfl) trivial
theorem Yv:Aq Tryd.prog 17 Gj.S:=lF follows Tryd.func17 (by kernel_rfl) (obs:=[(40,Fc.S),(33,Gk.S),(25,E7.S),(25,E7.S)]) (by kernel_rfl) ⟨aB,Yw,TI,TI,trivial⟩
theorem Qe:Aq Tryd.prog 46 Dr.S:=lF follows Tryd.func46 (by kernel_rfl) (obs:=[]) (by kernel_rfl) trivial
theorem Qg:Aq Tryd.prog 66 Cw.S:=lF follows Tryd.func66 (by kernel_rfl) (obs:=[]) (by kernel_rfl) trivial
theorem TP:Aq Tryd.prog 67 Dq.S:=lF follows Tryd.func67 (by kernel_rfl) (obs:=[]) (by kernel_rfl) trivial
theorem TB:Aq Tryd.prog 55 E4.S:=lF follows Tryd.func55 (by kernel_rfl) (obs:=[(46,Dr.S),(66,Cw.S),(67,Dq.S),(46,Dr.S),(66,Cw.S),(46,Dr.S),(67,Dq.S),(66,Cw.S)]) (by kernel_rfl) ⟨Qe,Qg,TP,Qe,Qg,Qe,TP,Qg,trivial⟩
theorem aO:Aq Tryd.prog 42 Gz.S:=lF follows Tryd.func42 (by kernel_rfl) (obs:=[(55,E4.S)]) (by kernel_rfl) ⟨TB,trivial⟩
theorem dw:Aq Tryd.prog 48 GH.S:=lF follows Tryd.func48 (by kernel_rfl) (obs:=[]) (by kernel_rfl) trivial
theorem PY:Aq Tryd.prog 29 D2.S:=lF follows Tryd.func29 (by kernel_rfl) (obs:=[(48,GH.S)]) (by kernel_rfl) ⟨dw,trivial⟩
theorem ND:Aq Tryd.prog 28 Dm.S:=lF follows Tryd.func28 (by kernel_rfl) (obs:=[(47,JM)]) (by kernel_rfl) ⟨aI,trivial⟩
theorem Tq:Aq Tryd.prog 56 E3.S:=lF follows Tryd.func56 (by kernel_rfl) (obs:=[(68,Lk)]) (by kernel_rfl) ⟨aV,trivial⟩
theorem bz:Aq Tryd.prog 57 GD.S:=lF follows Tryd.func57 (by kernel_rfl) (obs:=[]) (by kernel_rfl) trivial
theorem Yt:Aq Tryd.prog 37 Gi.S:=lF follows Tryd.func37 (by kernel_rfl) (obs:=[(55,E4.S),(29,D2.S),(28,Dm.S),(28,Dm.S),(29,D2.S),(28,Dm.S),(56,E3.S),(28,Dm.S),(29,D2.S),(57,GD.S),(56,E3.S)]) (by kernel_rfl) ⟨TB,PY,ND,ND,PY,ND,Tq,ND,PY,bz,Tq,trivial⟩
theorem TF:Aq Tryd.prog 30 E6.S:=lF follows Tryd.func30 (by kernel_rfl) (obs:=[(49,Ln)]) (by kernel_rfl) ⟨aY,trivial⟩
theorem Yu:Aq Tryd.prog 19 Gl.S:=lF follows Tryd.func19 (by kernel_rfl) (obs:=[(42,Gz.S),(37,Gi.S),(30,E6.S),(30,E6.S)]) (by kernel_rfl) ⟨aO,Yt,TF,TF,trivial⟩
theorem ay:Aq Tryd.prog 70 GB.S:=lF follows Tryd.func70 (by kernel_rfl) (obs:=[]) (by kernel_rfl) trivial
theorem ZT:Aq Tryd.prog 60 Gt.S:=lF follows Tryd.func60 (by kernel_rfl) (obs:=[(70,GB.S)]) (by kernel_rfl) ⟨ay,trivial⟩
theorem Y6:Aq Tryd.prog 43 Gp.S:=lF follows Tryd.func43 (by kernel_rfl) (obs:=[(60,Gt.S)]) (by kernel_rfl) ⟨ZT,trivial⟩
theorem aH:Aq Tryd.prog 20 Gw.S:=lF follows Tryd.func20 (by kernel_rfl) (obs:=[(43,Gp.S)]) (by kernel_rfl) ⟨Y6,trivial⟩
theorem X7:Aq Tryd.prog 5 Ex.S:=lF follows Tryd.func5 (by kernel_rfl) (obs:=[(16,Gx.S),(18,D5.S),(17,Gj.S),(18,D5.S),(19,Gl.S),(18,D5.S),(20,Gw.S)]) (by kernel_rfl) ⟨aP,P5,Yv,P5,Yu,P5,aH,trivial⟩
end Go.Proofs.YtkjnachjeoeihaaDoor
