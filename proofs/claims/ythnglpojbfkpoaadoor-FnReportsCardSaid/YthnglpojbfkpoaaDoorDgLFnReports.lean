/-
 EACH ABSTRACT FUNCTION IS THE SEAT's OWN: checked by the kernel,function by function (written by program,ag.py).
-/
import Derived.Test.YthnglpojbfkpoaaDoorChecked
import Derived.KernelRfl
import Derived.Test.YthnglpojbfkpoaaDoorLibF
import Derived.Shelf.Strings.OnBuilder
import Derived.Shelf.Strings.SplitCore
import Derived.Shelf.Strings.Search3
import Derived.Shelf.Strings.Count
import Derived.Lib.SplitLaws
import Derived.Lib.IndexBytes
namespace Go.Ag
set_option linter.unusedSimpArgs false
set_option linter.unusedVariables false
set_option linter.unusedSimpArgs false
set_option linter.unusedVariables false
open Go.Shelf Go.RowKit Go.Lib Go.Proofs
set_option maxRecDepth 100000
set_option maxHeartbeats 1000000 in
theorem split_one{P:Program}{ρ:Go.Shelf.Ren}(L:Lays.n146 P ρ)(hi9:(P.info? (ρ.t 9)).map (fun i=>(i.zero,i.size,i.bytes))=some (some (.string ByteArray.empty),1,16))(s:ByteArray)(b:UInt8)(w:World)(hs:s.size<4294967281) :
 Calls P (ρ.f 146) #[.string s,.string ⟨#[b]⟩] w fun e w'=>
  e= .returned (.slice (some ⟨w.heap.size,0,none⟩) (Lib.countB s ⟨#[b]⟩+1) (Lib.countB s ⟨#[b]⟩+1))∧w'=w.alloc (.cells ((Lib.splitB ⟨#[b]⟩ 0 (Lib.countB s ⟨#[b]⟩) s).map Value.string).toArray (ρ.t 9)):=by
 have h1:1≤(ByteArray.mk #[b]).size:=AF _
 have hle:=Lib.countB_le ⟨#[b]⟩ h1 s.size s (AF _)
 have hlen:=Lib.splitB_all ⟨#[b]⟩ h1 0 _ s rfl
 have c:=Any.strings_genSplit_core { L with } hi9 s ⟨#[b]⟩ 0 (-1) (Lib.countB s ⟨#[b]⟩+1) w hs h1 (Ff _)
  (fun x c _=>(Any.strings_Index_one { L with } x b _).mono fun e w' ⟨he,hw⟩=>⟨by rw[he];show _=Ending.returned (Value.int .i64 (Lib.index x.data.toList [b]));rw[Lib.index_one],hw⟩)
  ((Any.strings_Count_one { L with } s b w).mono fun e w' ⟨he,hw⟩=>⟨by rw[he];show _=Ending.returned (Value.int .i64 ((Lib.count s.data.toList [b]:Nat):Int));rw[Lib.count_one];rfl,hw⟩)
  (by decide) (by decide) (by rw[Ab (by decide)];omega)
 rw[Nat.add_sub_cancel,hlen] at c
 have e2:Lib.cellsOf (Lib.splitB ⟨#[b]⟩ 0 (Lib.countB s ⟨#[b]⟩) s) (Lib.countB s ⟨#[b]⟩+1)=((Lib.splitB ⟨#[b]⟩ 0 (Lib.countB s ⟨#[b]⟩) s).map Value.string).toArray:=by rw[← hlen];exact Lib.cellsOf_full _
 rw[e2] at c
 have t3:=L.t3;have t9:=L.t9;have t31:=L.t31
 have a3:=L.a3;have a9:=L.a9;have a31:=L.a31
 have z3:=L.z3;have v3:=L.v3;have z9:=L.z9;have v9:=L.v9;have z31:=L.z31;have v31:=L.v31
 have e221:∀ args w,(callFunc (ρ.f 221) args).run P w= .ok (.enter (ρ.f 221) args) w:=enters_of L.f221 (by kernel_rfl) rfl
 go_enter L.f146,Body.n146_ntmps ρ
 go_wp2_with (go_at_fn (ρ.f 221);refine c.mono ?_;rintro e w' ⟨rfl,hw⟩;rw[hw])
 go_ret
 exact⟨rfl,rfl⟩
theorem code_count:Lib.countB ⟨CF.toArray⟩ ⟨#[32]⟩=55:=by
 show Lib.count CF [32]=55
 rw[Lib.count_one]
 decide
theorem code_split:Lib.splitB ⟨#[32]⟩ 0 55 ⟨CF.toArray⟩=Bi.map fun s=>ByteArray.mk s.toArray:=by
 have h:=Lib.splitB_data ⟨#[32]⟩ 0 55 ⟨CF.toArray⟩
 have e:Lib.splitK [32] 0 55 CF=Bi:=by kernel_rfl
 have h:(Lib.splitB ⟨#[32]⟩ 0 55 ⟨CF.toArray⟩).map (·.data.toList)=Bi:=h.trans e
 rw[← h,List.map_map]
 conv=>lhs;rw[← List.map_id (Lib.splitB ⟨#[32]⟩ 0 55 ⟨CF.toArray⟩)]
 apply List.map_congr_left
 intro x _
 simp
theorem split_said{P:Program}{ρ:Go.Shelf.Ren}(L:Lays.n146 P ρ)(hi9:(P.info? (ρ.t 9)).map (fun i=>(i.zero,i.size,i.bytes))=some (some (.string ByteArray.empty),1,16)):Yr P (ρ.f 146):=by
 intro w
 refine(split_one L hi9 ⟨CF.toArray⟩ 32 w (by decide)).mono ?_
 rintro e w' ⟨rfl,rfl⟩
 rw[code_count,code_split,List.map_map]
 exact⟨_,rfl,rfl⟩
end Go.Ag
namespace Go.Proofs.YthnglpojbfkpoaaDoor
open Go.Ag
theorem follows:Tryd.prog.follows .mixedOrders=true:=by kernel_rfl
open Go.Shelf Go.Proofs
def lays156_ren:Go.Shelf.Ren:=⟨fun|156=>44|165=>52|166=>53|169=>54|240=>64|241=>65|276=>71|277=>72|n=>n,fun|31=>43|9=>9|3=>3|4=>4|0=>0|20=>20|72=>64|76=>68|70=>62|37=>22|75=>67|127=>77|164=>83|5=>5|80=>70|n=>n,fun|n=>n⟩
theorem lays156:Go.Proofs.Lays.n156 Tryd.prog lays156_ren:={
 mixed:=by kernel_rfl
 f156:=Tryd.func44.trans (congrArg some (by kernel_rfl))
 f165:=Tryd.func52.trans (congrArg some (by kernel_rfl))
 f166:=Tryd.func53.trans (congrArg some (by kernel_rfl))
 f169:=Tryd.func54.trans (congrArg some (by kernel_rfl))
 f240:=Tryd.func64.trans (congrArg some (by kernel_rfl))
 f241:=Tryd.func65.trans (congrArg some (by kernel_rfl))
 f276:=Tryd.func71.trans (congrArg some (by kernel_rfl))
 f277:=Tryd.func72.trans (congrArg some (by kernel_rfl))
 t0:=Tryd.underlying0
 a0:=Tryd.isAgg0
 z0:=Tryd.sizeOf0
 v0:=Tryd.zeroValue0
 t3:=Tryd.underlying3
 a3:=Tryd.isAgg3
 z3:=Tryd.sizeOf3
 v3:=Tryd.zeroValue3
 t4:=Tryd.underlying4
 a4:=Tryd.isAgg4
 z4:=Tryd.sizeOf4
 v4:=Tryd.zeroValue4
 t9:=Tryd.underlying9
 a9:=Tryd.isAgg9
 z9:=Tryd.sizeOf9
 v9:=Tryd.zeroValue9
 t20:=Tryd.underlying20
 a20:=Tryd.isAgg20
 z20:=Tryd.sizeOf20
 v20:=Tryd.zeroValue20
 t31:=Tryd.underlying43
 a31:=Tryd.isAgg43
 z31:=Tryd.sizeOf43
 v31:=Tryd.zeroValue43
 t37:=Tryd.underlying22
 a37:=Tryd.isAgg22
 z37:=Tryd.sizeOf22
 v37:=Tryd.zeroValue22
 t70:=Tryd.underlying62
 a70:=Tryd.isAgg62
 z70:=Tryd.sizeOf62
 v70:=Tryd.zeroValue62
 t72:=Tryd.underlying64
 a72:=Tryd.isAgg64
 z72:=Tryd.sizeOf64
 v72:=Tryd.zeroValue64
 t75:=Tryd.underlying67
 a75:=Tryd.isAgg67
 z75:=Tryd.sizeOf67
 v75:=Tryd.zeroValue67
 t76:=Tryd.underlying68
 a76:=Tryd.isAgg68
 z76:=Tryd.sizeOf68
 v76:=Tryd.zeroValue68
 t127:=Tryd.underlying77
 a127:=Tryd.isAgg77
 z127:=Tryd.sizeOf77
 v127:=Tryd.zeroValue77
 t164:=Tryd.underlying83
 a164:=Tryd.isAgg83
 z164:=Tryd.sizeOf83
 v164:=Tryd.zeroValue83 }
theorem Builder_Extra_156:Builder.Extra Tryd.prog lays156_ren:={
 sizeBuilder:=by kernel_rfl
 liesBuilder:=by kernel_rfl
 t5:=Tryd.underlying5
 a5:=Tryd.isAgg5
 z5:=Tryd.sizeOf5
 v5:=Tryd.zeroValue5
 infoByte:=by kernel_rfl
 cellsByte:=by kernel_rfl
 sizeByte:=by kernel_rfl
 neB5:=by decide }
theorem fP:AN Tryd.prog 44 MQ:=jO ⟨fun bk o c xs sep w h1 h2 h3 h4 h5=>Go.Proofs.Any.strings_Join lays156 Builder_Extra_156 bk o c xs sep w h1 h2 h3 h4 h5,fun a c sep w=>Go.Proofs.Any.strings_Join_none lays156 Builder_Extra_156 a c sep w⟩
def lays146_ren:Go.Shelf.Ren:=⟨fun|146=>41|221=>51|268=>61|138=>62|143=>63|195=>68|197=>69|218=>70|219=>50|260=>73|217=>57|225=>58|224=>59|267=>60|266=>66|314=>67|n=>n,fun|9=>9|31=>43|3=>3|4=>4|0=>0|105=>81|21=>21|5=>5|46=>73|119=>86|139=>89|138=>88|146=>79|51=>78|n=>n,fun|1=>0|3=>1|4=>2|n=>n⟩
theorem lays146:Go.Proofs.Lays.n146 Tryd.prog lays146_ren:={
 mixed:=by kernel_rfl
 f138:=Tryd.func62.trans (congrArg some (by kernel_rfl))
 f143:=Tryd.func63.trans (congrArg some (by kernel_rfl))
 f146:=Tryd.func41.trans (congrArg some (by kernel_rfl))
 f195:=Tryd.func68.trans (congrArg some (by kernel_rfl))
 f197:=Tryd.func69.trans (congrArg some (by kernel_rfl))
 f217:=Tryd.func57.trans (congrArg some (by kernel_rfl))
 f218:=Tryd.func70.trans (congrArg some (by kernel_rfl))
 f219:=Tryd.func50.trans (congrArg some (by kernel_rfl))
 f221:=Tryd.func51.trans (congrArg some (by kernel_rfl))
 f224:=Tryd.func59.trans (congrArg some (by kernel_rfl))
 f225:=Tryd.func58.trans (congrArg some (by kernel_rfl))
 f260:=Tryd.func73.trans (congrArg some (by kernel_rfl))
 f266:=Tryd.func66.trans (congrArg some (by kernel_rfl))
 f267:=Tryd.func60.trans (congrArg some (by kernel_rfl))
 f268:=Tryd.func61.trans (congrArg some (by kernel_rfl))
 f314:=Tryd.func67.trans (congrArg some (by kernel_rfl))
 t0:=Tryd.underlying0
 a0:=Tryd.isAgg0
 z0:=Tryd.sizeOf0
 v0:=Tryd.zeroValue0
 t3:=Tryd.underlying3
 a3:=Tryd.isAgg3
 z3:=Tryd.sizeOf3
 v3:=Tryd.zeroValue3
 t4:=Tryd.underlying4
 a4:=Tryd.isAgg4
 z4:=Tryd.sizeOf4
 v4:=Tryd.zeroValue4
 t5:=Tryd.underlying5
 a5:=Tryd.isAgg5
 z5:=Tryd.sizeOf5
 v5:=Tryd.zeroValue5
 t9:=Tryd.underlying9
 a9:=Tryd.isAgg9
 z9:=Tryd.sizeOf9
 v9:=Tryd.zeroValue9
 t21:=Tryd.underlying21
 a21:=Tryd.isAgg21
 z21:=Tryd.sizeOf21
 v21:=Tryd.zeroValue21
 t31:=Tryd.underlying43
 a31:=Tryd.isAgg43
 z31:=Tryd.sizeOf43
 v31:=Tryd.zeroValue43
 t46:=Tryd.underlying73
 a46:=Tryd.isAgg73
 z46:=Tryd.sizeOf73
 v46:=Tryd.zeroValue73
 t51:=Tryd.underlying78
 a51:=Tryd.isAgg78
 z51:=Tryd.sizeOf78
 v51:=Tryd.zeroValue78
 t105:=Tryd.underlying81
 a105:=Tryd.isAgg81
 z105:=Tryd.sizeOf81
 v105:=Tryd.zeroValue81
 t119:=Tryd.underlying86
 a119:=Tryd.isAgg86
 z119:=Tryd.sizeOf86
 t138:=Tryd.underlying88
 a138:=Tryd.isAgg88
 z138:=Tryd.sizeOf88
 v138:=Tryd.zeroValue88
 t139:=Tryd.underlying89
 a139:=Tryd.isAgg89
 z139:=Tryd.sizeOf89
 v139:=Tryd.zeroValue89
 t146:=Tryd.underlying79
 a146:=Tryd.isAgg79
 z146:=Tryd.sizeOf79
 v146:=Tryd.zeroValue79
 g1:=by kernel_rfl
 g3:=by kernel_rfl
 g4:=by kernel_rfl }
theorem WB:AN Tryd.prog 41 IE:=ig (split_said lays146 (by kernel_rfl))
def lays219_ren:Go.Shelf.Ren:=⟨fun|219=>50|217=>57|225=>58|224=>59|267=>60|266=>66|314=>67|n=>n,fun|9=>9|3=>3|4=>4|5=>5|46=>73|146=>79|51=>78|n=>n,fun|1=>0|n=>n⟩
theorem lays219:Go.Proofs.Lays.n219 Tryd.prog lays219_ren:={
 mixed:=by kernel_rfl
 f217:=Tryd.func57.trans (congrArg some (by kernel_rfl))
 f219:=Tryd.func50.trans (congrArg some (by kernel_rfl))
 f224:=Tryd.func59.trans (congrArg some (by kernel_rfl))
 f225:=Tryd.func58.trans (congrArg some (by kernel_rfl))
 f266:=Tryd.func66.trans (congrArg some (by kernel_rfl))
 f267:=Tryd.func60.trans (congrArg some (by kernel_rfl))
 f314:=Tryd.func67.trans (congrArg some (by kernel_rfl))
 t3:=Tryd.underlying3
 a3:=Tryd.isAgg3
 z3:=Tryd.sizeOf3
 v3:=Tryd.zeroValue3
 t4:=Tryd.underlying4
 a4:=Tryd.isAgg4
 z4:=Tryd.sizeOf4
 v4:=Tryd.zeroValue4
 t5:=Tryd.underlying5
 a5:=Tryd.isAgg5
 z5:=Tryd.sizeOf5
 v5:=Tryd.zeroValue5
 t9:=Tryd.underlying9
 a9:=Tryd.isAgg9
 z9:=Tryd.sizeOf9
 v9:=Tryd.zeroValue9
 t46:=Tryd.underlying73
 a46:=Tryd.isAgg73
 z46:=Tryd.sizeOf73
 v46:=Tryd.zeroValue73
 t51:=Tryd.underlying78
 a51:=Tryd.isAgg78
 z51:=Tryd.sizeOf78
 v51:=Tryd.zeroValue78
 t146:=Tryd.underlying79
 a146:=Tryd.isAgg79
 z146:=Tryd.sizeOf79
 v146:=Tryd.zeroValue79
 g1:=by kernel_rfl }
theorem bF:AN Tryd.prog 50 Mr:=iy fun s c w=>Go.Proofs.Any.stringslite_Index_one lays219 s c w
theorem jq:AN Tryd.prog 5 HU.S:=lF follows Tryd.func5 (by kernel_rfl) (obs:=[]) (by kernel_rfl) trivial
theorem k_spec_l1New:He Tryd.prog Tryd.f39 IK.er.er=true:=by kernel_rfl
theorem o_spec_l1New:Hg Tryd.prog Tryd.f39 IK.er.er=[]:=by kernel_rfl
theorem gJ:AN Tryd.prog 39 Li:=by unfold Li;exact JK follows Tryd.func39 k_spec_l1New o_spec_l1New trivial
theorem k_spec_l24New:He Tryd.prog Tryd.f19 IH.er.er=true:=by kernel_rfl
theorem o_spec_l24New:Hg Tryd.prog Tryd.f19 IH.er.er=[(39,Li)]:=by kernel_rfl
theorem gx:AN Tryd.prog 19 Lc:=by unfold Lc;exact JK follows Tryd.func19 k_spec_l24New o_spec_l24New ⟨gJ,trivial⟩
theorem k_spec_l1Byte:He Tryd.prog Tryd.f49 II.er.er=true:=by kernel_rfl
theorem o_spec_l1Byte:Hg Tryd.prog Tryd.f49 II.er.er=[]:=by kernel_rfl
theorem MX:AN Tryd.prog 49 EA:=by unfold EA;exact JK follows Tryd.func49 k_spec_l1Byte o_spec_l1Byte trivial
theorem k_spec_l1Below:He Tryd.prog Tryd.f38 IF.er.er=true:=by kernel_rfl
theorem o_spec_l1Below:Hg Tryd.prog Tryd.f38 IF.er.er=[(49,EA),(49,EA),(49,EA),(49,EA),(49,EA)]:=by kernel_rfl
theorem SQ:AN Tryd.prog 38 GQ:=by unfold GQ;exact JK follows Tryd.func38 k_spec_l1Below o_spec_l1Below ⟨MX,MX,MX,MX,MX,trivial⟩
theorem k_spec_l1PickInt:He Tryd.prog Tryd.f37 IA.er.er=true:=by kernel_rfl
theorem o_spec_l1PickInt:Hg Tryd.prog Tryd.f37 IA.er.er=[(38,GQ)]:=by kernel_rfl
theorem dZ:AN Tryd.prog 37 KU:=by unfold KU;exact JK follows Tryd.func37 k_spec_l1PickInt o_spec_l1PickInt ⟨SQ,trivial⟩
theorem k_spec_l7Report:He Tryd.prog Tryd.f18 IB.er.er=true:=by kernel_rfl
theorem o_spec_l7Report:Hg Tryd.prog Tryd.f18 IB.er.er=[(37,KU),(38,GQ),(38,GQ)]:=by kernel_rfl
theorem eW:AN Tryd.prog 18 KY:=by unfold KY;exact JK follows Tryd.func18 k_spec_l7Report o_spec_l7Report ⟨dZ,SQ,SQ,trivial⟩
theorem Wm:AN Tryd.prog 6 FZ.S:=lF follows Tryd.func6 (by kernel_rfl) (obs:=[(19,Lc),(18,KY)]) (by kernel_rfl) ⟨gx,eW,trivial⟩
theorem gq:AN Tryd.prog 42 HM.S:=lF follows Tryd.func42 (by kernel_rfl) (obs:=[]) (by kernel_rfl) trivial
theorem K6:AN Tryd.prog 24 CP.S:=lF follows Tryd.func24 (by kernel_rfl) (obs:=[(42,HM.S)]) (by kernel_rfl) ⟨gq,trivial⟩
theorem fb:AN Tryd.prog 25 HH.S:=lF follows Tryd.func25 (by kernel_rfl) (obs:=[(41,IE)]) (by kernel_rfl) ⟨WB,trivial⟩
theorem ju:AN Tryd.prog 43 HV.S:=lF follows Tryd.func43 (by kernel_rfl) (obs:=[]) (by kernel_rfl) trivial
theorem Wn:AN Tryd.prog 26 F0.S:=lF follows Tryd.func26 (by kernel_rfl) (obs:=[(43,HV.S)]) (by kernel_rfl) ⟨ju,trivial⟩
theorem fa:AN Tryd.prog 27 HK.S:=lF follows Tryd.func27 (by kernel_rfl) (obs:=[(44,MQ)]) (by kernel_rfl) ⟨fP,trivial⟩
theorem We:AN Tryd.prog 8 ER.S:=lF follows Tryd.func8 (by kernel_rfl) (obs:=[(24,CP.S),(25,HH.S),(26,F0.S),(27,HK.S)]) (by kernel_rfl) ⟨K6,fb,Wn,fa,trivial⟩
theorem bJ:AN Tryd.prog 40 Ht.S:=lF follows Tryd.func40 (by kernel_rfl) (obs:=[(50,Mr)]) (by kernel_rfl) ⟨bF,trivial⟩
theorem gC:AN Tryd.prog 20 HL.S:=lF follows Tryd.func20 (by kernel_rfl) (obs:=[(40,Ht.S)]) (by kernel_rfl) ⟨bJ,trivial⟩
theorem dW:AN Tryd.prog 21 HD.S:=lF follows Tryd.func21 (by kernel_rfl) (obs:=[(26,F0.S)]) (by kernel_rfl) ⟨Wn,trivial⟩
theorem ed:AN Tryd.prog 22 HC.S:=lF follows Tryd.func22 (by kernel_rfl) (obs:=[]) (by kernel_rfl) trivial
theorem gB:AN Tryd.prog 23 HN.S:=lF follows Tryd.func23 (by kernel_rfl) (obs:=[(41,IE)]) (by kernel_rfl) ⟨WB,trivial⟩
theorem bY:AN Tryd.prog 7 HA.S:=lF follows Tryd.func7 (by kernel_rfl) (obs:=[(20,HL.S),(21,HD.S),(22,HC.S),(23,HN.S),(24,CP.S),(8,ER.S)]) (by kernel_rfl) ⟨gC,dW,ed,gB,K6,We,trivial⟩
theorem eT:AN Tryd.prog 10 HG.S:=lF follows Tryd.func10 (by kernel_rfl) (obs:=[(24,CP.S)]) (by kernel_rfl) ⟨K6,trivial⟩
theorem eV:AN Tryd.prog 9 HJ.S:=lF follows Tryd.func9 (by kernel_rfl) (obs:=[]) (by kernel_rfl) trivial
theorem Ww:AN Tryd.prog 12 EW.S:=lF follows Tryd.func12 (by kernel_rfl) (obs:=[(24,CP.S)]) (by kernel_rfl) ⟨K6,trivial⟩
theorem fi:AN Tryd.prog 28 HI.S:=lF follows Tryd.func28 (by kernel_rfl) (obs:=[]) (by kernel_rfl) trivial
theorem eU:AN Tryd.prog 11 HF.S:=lF follows Tryd.func11 (by kernel_rfl) (obs:=[(24,CP.S),(28,HI.S),(24,CP.S),(12,EW.S)]) (by kernel_rfl) ⟨K6,fi,K6,Ww,trivial⟩
theorem fe:AN Tryd.prog 29 F2.S:=lF follows Tryd.func29 (by kernel_rfl) (obs:=[]) (by kernel_rfl) trivial
theorem Pn:AN Tryd.prog 13 C9.S:=lF follows Tryd.func13 (by kernel_rfl) (obs:=[(29,F2.S)]) (by kernel_rfl) ⟨fe,trivial⟩
theorem dX:AN Tryd.prog 3 FA.S:=lF follows Tryd.func3 (by kernel_rfl) (obs:=[(5,HU.S),(6,FZ.S),(6,FZ.S),(8,ER.S),(7,HA.S),(10,HG.S),(9,HJ.S),(12,EW.S),(11,HF.S),(13,C9.S),(13,C9.S),(13,C9.S),(13,C9.S)]) (by kernel_rfl) ⟨jq,Wm,Wm,We,bY,eT,eV,Ww,eU,Pn,Pn,Pn,Pn,trivial⟩
end Go.Proofs.YthnglpojbfkpoaaDoor
