/-
 EACH ABSTRACT FUNCTION IS THE SEAT's OWN: checked by the kernel,function by function (written by program,ag.py).
-/
import Derived.Test.YtbkpfpcnjpggaaaChecked
import Derived.KernelRfl
import Derived.Test.YtbkpfpcnjpggaaaLibH
import Derived.Shelf.Sort.Plain
import Derived.Shelf.Slices.In.SortNone2
namespace Go.Proofs.Ytbkpfpcnjpggaaa
open Go.Ag
theorem follows:Try.prog.follows .mixedOrders=true:=by kernel_rfl
open Go.Shelf
def lays191_ren:Go.Shelf.Ren:=⟨fun|191=>56|189=>83|125=>91|257=>90|128=>101|129=>102|294=>92|295=>93|296=>94|297=>95|298=>96|299=>97|216=>98|300=>99|301=>100|328=>103|329=>104|330=>105|331=>106|332=>107|215=>108|343=>109|n=>n,fun|28=>39|0=>0|3=>3|46=>94|51=>116|53=>118|4=>4|183=>108|182=>107|131=>113|5=>5|9=>9|218=>119|222=>123|228=>125|229=>126|n=>n,fun|n=>n⟩
theorem lays191:Go.Proofs.Lays.n191 Try.prog lays191_ren:={
 mixed:=by kernel_rfl
 f125:=Try.func91.trans (congrArg some (by kernel_rfl))
 f128:=Try.func101.trans (congrArg some (by kernel_rfl))
 f129:=Try.func102.trans (congrArg some (by kernel_rfl))
 f189:=Try.func83.trans (congrArg some (by kernel_rfl))
 f191:=Try.func56.trans (congrArg some (by kernel_rfl))
 f215:=Try.func108.trans (congrArg some (by kernel_rfl))
 f216:=Try.func98.trans (congrArg some (by kernel_rfl))
 f257:=Try.func90.trans (congrArg some (by kernel_rfl))
 f294:=Try.func92.trans (congrArg some (by kernel_rfl))
 f295:=Try.func93.trans (congrArg some (by kernel_rfl))
 f296:=Try.func94.trans (congrArg some (by kernel_rfl))
 f297:=Try.func95.trans (congrArg some (by kernel_rfl))
 f298:=Try.func96.trans (congrArg some (by kernel_rfl))
 f299:=Try.func97.trans (congrArg some (by kernel_rfl))
 f300:=Try.func99.trans (congrArg some (by kernel_rfl))
 f301:=Try.func100.trans (congrArg some (by kernel_rfl))
 f328:=Try.func103.trans (congrArg some (by kernel_rfl))
 f329:=Try.func104.trans (congrArg some (by kernel_rfl))
 f330:=Try.func105.trans (congrArg some (by kernel_rfl))
 f331:=Try.func106.trans (congrArg some (by kernel_rfl))
 f332:=Try.func107.trans (congrArg some (by kernel_rfl))
 f343:=Try.func109.trans (congrArg some (by kernel_rfl))
 t0:=Try.underlying0
 a0:=Try.isAgg0
 z0:=Try.sizeOf0
 v0:=Try.zeroValue0
 t3:=Try.underlying3
 a3:=Try.isAgg3
 z3:=Try.sizeOf3
 v3:=Try.zeroValue3
 t4:=Try.underlying4
 a4:=Try.isAgg4
 z4:=Try.sizeOf4
 v4:=Try.zeroValue4
 t5:=Try.underlying5
 a5:=Try.isAgg5
 z5:=Try.sizeOf5
 v5:=Try.zeroValue5
 t9:=Try.underlying9
 a9:=Try.isAgg9
 z9:=Try.sizeOf9
 v9:=Try.zeroValue9
 t28:=Try.underlying39
 a28:=Try.isAgg39
 z28:=Try.sizeOf39
 v28:=Try.zeroValue39
 t46:=Try.underlying94
 a46:=Try.isAgg94
 z46:=Try.sizeOf94
 v46:=Try.zeroValue94
 t51:=Try.underlying116
 a51:=Try.isAgg116
 z51:=Try.sizeOf116
 v51:=Try.zeroValue116
 t53:=Try.underlying118
 a53:=Try.isAgg118
 z53:=Try.sizeOf118
 v53:=Try.zeroValue118
 t131:=Try.underlying113
 a131:=Try.isAgg113
 z131:=Try.sizeOf113
 v131:=Try.zeroValue113
 t182:=Try.underlying107
 a182:=Try.isAgg107
 z182:=Try.sizeOf107
 v182:=Try.zeroValue107
 t183:=Try.underlying108
 a183:=Try.isAgg108
 z183:=Try.sizeOf108
 v183:=Try.zeroValue108
 t218:=Try.underlying119
 a218:=Try.isAgg119
 z218:=Try.sizeOf119
 v218:=Try.zeroValue119
 t222:=Try.underlying123
 a222:=Try.isAgg123
 z222:=Try.sizeOf123
 v222:=Try.zeroValue123
 t228:=Try.underlying125
 a228:=Try.isAgg125
 z228:=Try.sizeOf125
 v228:=Try.zeroValue125
 t229:=Try.underlying126
 a229:=Try.isAgg126
 z229:=Try.sizeOf126
 v229:=Try.zeroValue126 }
theorem uW:AB Try.prog 56 MB:=vK ⟨λ blk off cap zs w h1 h2 h3=>Go.Proofs.Any.sort_Ints lays191 blk off cap zs w h1 h2 h3,λ p cap w=>Go.Proofs.Any.sort_Ints_none lays191 p cap w⟩
theorem v8:AB Try.prog 6 Kt.S:=lF follows Try.func6 (by kernel_rfl) (obs:=[]) (by kernel_rfl) trivial
theorem k_spec_l1New:E1 Try.prog Try.f48 Lm.er.er=true:=by kernel_rfl
theorem o_spec_l1New:E5 Try.prog Try.f48 Lm.er.er=[]:=by kernel_rfl
theorem uS:AB Try.prog 48 OB:=by unfold OB;exact F7 follows Try.func48 k_spec_l1New o_spec_l1New trivial
theorem k_spec_l24New:E1 Try.prog Try.f22 Li.er.er=true:=by kernel_rfl
theorem o_spec_l24New:E5 Try.prog Try.f22 Li.er.er=[(48,OB)]:=by kernel_rfl
theorem fC:AB Try.prog 22 Ll:=by unfold Ll;exact F7 follows Try.func22 k_spec_l24New o_spec_l24New ⟨uS,trivial⟩
theorem k_spec_l1Byte:E1 Try.prog Try.f49 Ka.er.er=true:=by kernel_rfl
theorem o_spec_l1Byte:E5 Try.prog Try.f49 Ka.er.er=[]:=by kernel_rfl
theorem QI:AB Try.prog 49 Eo:=by unfold Eo;exact F7 follows Try.func49 k_spec_l1Byte o_spec_l1Byte trivial
theorem k_spec_l1Below:E1 Try.prog Try.f23 J6.er.er=true:=by kernel_rfl
theorem o_spec_l1Below:E5 Try.prog Try.f23 J6.er.er=[(49,Eo),(49,Eo),(49,Eo),(49,Eo),(49,Eo)]:=by kernel_rfl
theorem Fi:AB Try.prog 23 Cb:=by unfold Cb;exact F7 follows Try.func23 k_spec_l1Below o_spec_l1Below ⟨QI,QI,QI,QI,QI,trivial⟩
theorem k_spec_l1PickInt:E1 Try.prog Try.f47 K7.er.er=true:=by kernel_rfl
theorem o_spec_l1PickInt:E5 Try.prog Try.f47 K7.er.er=[(23,Cb)]:=by kernel_rfl
theorem pr:AB Try.prog 47 NY:=by unfold NY;exact F7 follows Try.func47 k_spec_l1PickInt o_spec_l1PickInt ⟨Fi,trivial⟩
theorem k_spec_l1Once:E1 Try.prog Try.f53 J9.er.er=true:=by kernel_rfl
theorem o_spec_l1Once:E5 Try.prog Try.f53 J9.er.er=[(23,Cb)]:=by kernel_rfl
theorem Uz:AB Try.prog 53 Hj:=by unfold Hj;exact F7 follows Try.func53 k_spec_l1Once o_spec_l1Once ⟨Fi,trivial⟩
theorem k_spec_l8Draw:E1 Try.prog Try.f81 Lg.er.er=true:=by kernel_rfl
theorem o_spec_l8Draw:E5 Try.prog Try.f81 Lg.er.er=[(23,Cb),(23,Cb),(47,NY),(53,Hj)]:=by kernel_rfl
theorem tj:AB Try.prog 81 Ol:=by unfold Ol;exact F7 follows Try.func81 k_spec_l8Draw o_spec_l8Draw ⟨Fi,Fi,pr,Uz,trivial⟩
theorem k_spec_l5Draw:E1 Try.prog Try.f77 Ld.er.er=true:=by kernel_rfl
theorem o_spec_l5Draw:E5 Try.prog Try.f77 Ld.er.er=[(23,Cb),(23,Cb),(53,Hj),(23,Cb),(23,Cb),(23,Cb),(23,Cb),(23,Cb)]:=by kernel_rfl
theorem tf:AB Try.prog 77 Ou:=by unfold Ou;exact F7 follows Try.func77 k_spec_l5Draw o_spec_l5Draw ⟨Fi,Fi,Uz,Fi,Fi,Fi,Fi,Fi,trivial⟩
theorem k_spec_l6Draw:E1 Try.prog Try.f46 Lh.er.er=true:=by kernel_rfl
theorem o_spec_l6Draw:E5 Try.prog Try.f46 Lh.er.er=[(23,Cb),(77,Ou),(53,Hj)]:=by kernel_rfl
theorem ue:AB Try.prog 46 On:=by unfold On;exact F7 follows Try.func46 k_spec_l6Draw o_spec_l6Draw ⟨Fi,tf,Uz,trivial⟩
theorem F9:AB Try.prog 35 BF.S:=lF follows Try.func35 (by kernel_rfl) (obs:=[]) (by kernel_rfl) trivial
theorem T8:AB Try.prog 88 Ek.S:=lF follows Try.func88 (by kernel_rfl) (obs:=[(35,BF.S),(35,BF.S),(35,BF.S),(35,BF.S)]) (by kernel_rfl) ⟨F9,F9,F9,F9,trivial⟩
theorem dY:AB Try.prog 64 H4.S:=lF follows Try.func64 (by kernel_rfl) (obs:=[(88,Ek.S),(35,BF.S),(35,BF.S)]) (by kernel_rfl) ⟨T8,F9,F9,trivial⟩
theorem X5:AB Try.prog 69 FJ.S:=lF follows Try.func69 (by kernel_rfl) (obs:=[(88,Ek.S)]) (by kernel_rfl) ⟨T8,trivial⟩
theorem US:AB Try.prog 65 En.S:=lF follows Try.func65 (by kernel_rfl) (obs:=[(35,BF.S),(88,Ek.S),(69,FJ.S)]) (by kernel_rfl) ⟨F9,T8,X5,trivial⟩
theorem ft:AB Try.prog 74 Ia.S:=lF follows Try.func74 (by kernel_rfl) (obs:=[]) (by kernel_rfl) trivial
theorem Yw:AB Try.prog 71 FK.S:=lF follows Try.func71 (by kernel_rfl) (obs:=[]) (by kernel_rfl) trivial
theorem Ya:AB Try.prog 73 GC.S:=lF follows Try.func73 (by kernel_rfl) (obs:=[]) (by kernel_rfl) trivial
theorem eG:AB Try.prog 66 GH.S:=lF follows Try.func66 (by kernel_rfl) (obs:=[(74,Ia.S),(35,BF.S),(71,FK.S),(88,Ek.S),(71,FK.S),(73,GC.S)]) (by kernel_rfl) ⟨ft,F9,Yw,T8,Yw,Ya,trivial⟩
theorem Yp:AB Try.prog 34 GG.S:=lF follows Try.func34 (by kernel_rfl) (obs:=[(64,H4.S),(65,En.S),(66,GH.S),(35,BF.S),(35,BF.S)]) (by kernel_rfl) ⟨dY,US,eG,F9,F9,trivial⟩
theorem tg:AB Try.prog 67 Kk.S:=lF follows Try.func67 (by kernel_rfl) (obs:=[]) (by kernel_rfl) trivial
theorem YQ:AB Try.prog 37 GK.S:=lF follows Try.func37 (by kernel_rfl) (obs:=[(67,Kk.S)]) (by kernel_rfl) ⟨tg,trivial⟩
theorem o8:AB Try.prog 82 J0.S:=lF follows Try.func82 (by kernel_rfl) (obs:=[(34,GG.S),(37,GK.S)]) (by kernel_rfl) ⟨Yp,YQ,trivial⟩
theorem k_spec_l9New:E1 Try.prog Try.f52 Lj.er.er=true:=by kernel_rfl
theorem o_spec_l9New:E5 Try.prog Try.f52 Lj.er.er=[(23,Cb),(81,Ol),(46,On),(82,J0.S)]:=by kernel_rfl
theorem uK:AB Try.prog 52 Oz:=by unfold Oz;exact F7 follows Try.func52 k_spec_l9New o_spec_l9New ⟨Fi,tj,ue,o8,trivial⟩
theorem fu:AB Try.prog 36 GI.S:=lF follows Try.func36 (by kernel_rfl) (obs:=[]) (by kernel_rfl) trivial
theorem qy:AB Try.prog 39 J7.S:=lF follows Try.func39 (by kernel_rfl) (obs:=[(35,BF.S),(65,En.S)]) (by kernel_rfl) ⟨F9,US,trivial⟩
theorem rK:AB Try.prog 68 Kd.S:=lF follows Try.func68 (by kernel_rfl) (obs:=[(64,H4.S),(35,BF.S)]) (by kernel_rfl) ⟨dY,F9,trivial⟩
theorem rn:AB Try.prog 38 J4.S:=lF follows Try.func38 (by kernel_rfl) (obs:=[(68,Kd.S)]) (by kernel_rfl) ⟨rK,trivial⟩
theorem tK:AB Try.prog 40 Ki.S:=lF follows Try.func40 (by kernel_rfl) (obs:=[(69,FJ.S)]) (by kernel_rfl) ⟨X5,trivial⟩
theorem uE:AB Try.prog 41 Ko.S:=lF follows Try.func41 (by kernel_rfl) (obs:=[(69,FJ.S)]) (by kernel_rfl) ⟨X5,trivial⟩
theorem ox:AB Try.prog 89 JR.S:=lF follows Try.func89 (by kernel_rfl) (obs:=[(35,BF.S)]) (by kernel_rfl) ⟨F9,trivial⟩
theorem k_spec_l9Key:E1 Try.prog Try.f70 Lk.er.er=true:=by kernel_rfl
theorem o_spec_l9Key:E5 Try.prog Try.f70 Lk.er.er=[(89,JR.S)]:=by kernel_rfl
theorem uT:AB Try.prog 70 OA:=by unfold OA;exact F7 follows Try.func70 k_spec_l9Key o_spec_l9Key ⟨ox,trivial⟩
theorem k_spec_l9Settle:E1 Try.prog Try.f42 K8.er.er=true:=by kernel_rfl
theorem o_spec_l9Settle:E5 Try.prog Try.f42 K8.er.er=[(70,OA)]:=by kernel_rfl
theorem rr:AB Try.prog 42 N4:=by unfold N4;exact F7 follows Try.func42 k_spec_l9Settle o_spec_l9Settle ⟨uT,trivial⟩
theorem Qr:AB Try.prog 44 EO.S:=lF follows Try.func44 (by kernel_rfl) (obs:=[(65,En.S)]) (by kernel_rfl) ⟨US,trivial⟩
theorem ez:AB Try.prog 72 HY.S:=lF follows Try.func72 (by kernel_rfl) (obs:=[(44,EO.S)]) (by kernel_rfl) ⟨Qr,trivial⟩
theorem nw:AB Try.prog 43 JM.S:=lF follows Try.func43 (by kernel_rfl) (obs:=[(65,En.S),(66,GH.S),(71,FK.S),(72,HY.S),(74,Ia.S),(73,GC.S),(72,HY.S)]) (by kernel_rfl) ⟨US,eG,Yw,ez,ft,Ya,ez,trivial⟩
theorem oI:AB Try.prog 75 JT.S:=lF follows Try.func75 (by kernel_rfl) (obs:=[]) (by kernel_rfl) trivial
theorem tG:AB Try.prog 76 Kh.S:=lF follows Try.func76 (by kernel_rfl) (obs:=[]) (by kernel_rfl) trivial
theorem dO:AB Try.prog 45 HS.S:=lF follows Try.func45 (by kernel_rfl) (obs:=[(75,JT.S),(76,Kh.S)]) (by kernel_rfl) ⟨oI,tG,trivial⟩
theorem uD:AB Try.prog 18 Kq.S:=lF follows Try.func18 (by kernel_rfl) (obs:=[(34,GG.S),(35,BF.S),(36,GI.S),(37,GK.S),(39,J7.S),(38,J4.S),(40,Ki.S),(41,Ko.S),(42,N4),(43,JM.S),(44,EO.S),(44,EO.S),(45,HS.S)]) (by kernel_rfl) ⟨Yp,F9,fu,YQ,qy,rn,tK,uE,rr,nw,Qr,Qr,dO,trivial⟩
theorem rE:AB Try.prog 54 J8.S:=lF follows Try.func54 (by kernel_rfl) (obs:=[(36,GI.S),(34,GG.S),(37,GK.S),(73,GC.S),(44,EO.S),(44,EO.S),(45,HS.S)]) (by kernel_rfl) ⟨fu,Yp,YQ,Ya,Qr,Qr,dO,trivial⟩
theorem k_spec_l9Draw:E1 Try.prog Try.f26 Lf.er.er=true:=by kernel_rfl
theorem o_spec_l9Draw:E5 Try.prog Try.f26 Lf.er.er=[(52,Oz),(23,Cb),(23,Cb),(53,Hj),(18,Kq.S),(54,J8.S)]:=by kernel_rfl
theorem tq:AB Try.prog 26 Oi:=by unfold Oi;exact F7 follows Try.func26 k_spec_l9Draw o_spec_l9Draw ⟨uK,Fi,Fi,Uz,uD,rE,trivial⟩
theorem oG:AB Try.prog 11 JV.S:=lF follows Try.func11 (by kernel_rfl) (obs:=[(22,Ll),(26,Oi)]) (by kernel_rfl) ⟨fC,tq,trivial⟩
theorem vO:AB Try.prog 51 Ie.S:=lF follows Try.func51 (by kernel_rfl) (obs:=[]) (by kernel_rfl) trivial
theorem YP:AB Try.prog 78 FP.S:=lF follows Try.func78 (by kernel_rfl) (obs:=[]) (by kernel_rfl) trivial
theorem YX:AB Try.prog 79 Em.S:=lF follows Try.func79 (by kernel_rfl) (obs:=[]) (by kernel_rfl) trivial
theorem eU:AB Try.prog 80 FN.S:=lF follows Try.func80 (by kernel_rfl) (obs:=[]) (by kernel_rfl) trivial
theorem Yv:AB Try.prog 50 FL.S:=lF follows Try.func50 (by kernel_rfl) (obs:=[(78,FP.S),(79,Em.S),(80,FN.S),(78,FP.S),(79,Em.S),(78,FP.S),(80,FN.S),(79,Em.S)]) (by kernel_rfl) ⟨YP,YX,eU,YP,YX,YP,eU,YX,trivial⟩
theorem YR:AB Try.prog 27 FO.S:=lF follows Try.func27 (by kernel_rfl) (obs:=[(51,Ie.S),(50,FL.S)]) (by kernel_rfl) ⟨vO,Yv,trivial⟩
theorem qj:AB Try.prog 55 J5.S:=lF follows Try.func55 (by kernel_rfl) (obs:=[]) (by kernel_rfl) trivial
theorem tX:AB Try.prog 57 H8.S:=lF follows Try.func57 (by kernel_rfl) (obs:=[]) (by kernel_rfl) trivial
theorem sU:AB Try.prog 28 Kb.S:=lF follows Try.func28 (by kernel_rfl) (obs:=[(55,J5.S),(56,MB),(57,H8.S)]) (by kernel_rfl) ⟨qj,uW,tX,trivial⟩
theorem Yq:AB Try.prog 12 GD.S:=lF follows Try.func12 (by kernel_rfl) (obs:=[(27,FO.S),(28,Kb.S)]) (by kernel_rfl) ⟨YR,sU,trivial⟩
theorem oO:AB Try.prog 8 JS.S:=lF follows Try.func8 (by kernel_rfl) (obs:=[(22,Ll),(23,Cb)]) (by kernel_rfl) ⟨fC,Fi,trivial⟩
theorem qK:AB Try.prog 24 J3.S:=lF follows Try.func24 (by kernel_rfl) (obs:=[(50,FL.S)]) (by kernel_rfl) ⟨Yv,trivial⟩
theorem tw:AB Try.prog 84 Kj.S:=lF follows Try.func84 (by kernel_rfl) (obs:=[]) (by kernel_rfl) trivial
theorem sa:AB Try.prog 58 Kg.S:=lF follows Try.func58 (by kernel_rfl) (obs:=[(84,Kj.S),(50,FL.S)]) (by kernel_rfl) ⟨tw,Yv,trivial⟩
theorem rq:AB Try.prog 29 J2.S:=lF follows Try.func29 (by kernel_rfl) (obs:=[(24,J3.S),(27,FO.S),(58,Kg.S)]) (by kernel_rfl) ⟨qK,YR,sa,trivial⟩
theorem eY:AB Try.prog 19 GL.S:=lF follows Try.func19 (by kernel_rfl) (obs:=[]) (by kernel_rfl) trivial
theorem oP:AB Try.prog 85 JX.S:=lF follows Try.func85 (by kernel_rfl) (obs:=[]) (by kernel_rfl) trivial
theorem ow:AB Try.prog 86 JW.S:=lF follows Try.func86 (by kernel_rfl) (obs:=[]) (by kernel_rfl) trivial
theorem oz:AB Try.prog 59 JU.S:=lF follows Try.func59 (by kernel_rfl) (obs:=[(85,JX.S),(86,JW.S)]) (by kernel_rfl) ⟨oP,ow,trivial⟩
theorem qY:AB Try.prog 31 HZ.S:=lF follows Try.func31 (by kernel_rfl) (obs:=[]) (by kernel_rfl) trivial
theorem XU:AB Try.prog 14 FI.S:=lF follows Try.func14 (by kernel_rfl) (obs:=[(31,HZ.S)]) (by kernel_rfl) ⟨qY,trivial⟩
theorem ng:AB Try.prog 60 HN.S:=lF follows Try.func60 (by kernel_rfl) (obs:=[(14,FI.S)]) (by kernel_rfl) ⟨XU,trivial⟩
theorem su:AB Try.prog 30 Kc.S:=lF follows Try.func30 (by kernel_rfl) (obs:=[(59,JU.S),(19,GL.S),(12,GD.S),(12,GD.S),(60,HN.S)]) (by kernel_rfl) ⟨oz,eY,Yq,Yq,ng,trivial⟩
theorem sy:AB Try.prog 13 Kf.S:=lF follows Try.func13 (by kernel_rfl) (obs:=[(29,J2.S),(19,GL.S),(30,Kc.S)]) (by kernel_rfl) ⟨rq,eY,su,trivial⟩
theorem qn:AB Try.prog 15 HW.S:=lF follows Try.func15 (by kernel_rfl) (obs:=[(27,FO.S)]) (by kernel_rfl) ⟨YR,trivial⟩
theorem ni:AB Try.prog 4 Hg.S:=lF follows Try.func4 (by kernel_rfl) (obs:=[(6,Kt.S),(11,JV.S),(12,GD.S),(8,JS.S),(13,Kf.S),(14,FI.S),(14,FI.S),(15,HW.S)]) (by kernel_rfl) ⟨v8,oG,Yq,oO,sy,XU,XU,qn,trivial⟩
end Go.Proofs.Ytbkpfpcnjpggaaa
