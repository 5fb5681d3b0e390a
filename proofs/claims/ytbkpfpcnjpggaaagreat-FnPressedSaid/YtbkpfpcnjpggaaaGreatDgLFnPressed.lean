/-
 EACH ABSTRACT FUNCTION IS THE SEAT's OWN: checked by the kernel,function by function (written by program,ag.py).
-/
import Derived.Test.YtbkpfpcnjpggaaaGreatChecked
import Derived.KernelRfl
import Derived.Test.YtbkpfpcnjpggaaaGreatLibH
import Derived.Shelf.Sort.Plain
import Derived.Shelf.Slices.In.SortNone2
namespace Go.Proofs.YtbkpfpcnjpggaaaGreat
open Go.Ag
theorem follows:Tryz.prog.follows .mixedOrders=true:=by kernel_rfl
open Go.Shelf
def lays191_ren:Go.Shelf.Ren:=⟨fun|191=>92|189=>128|125=>143|257=>142|128=>153|129=>154|294=>144|295=>145|296=>146|297=>147|298=>148|299=>149|216=>150|300=>151|301=>152|328=>155|329=>156|330=>157|331=>158|332=>159|215=>160|343=>161|n=>n,fun|28=>45|0=>0|3=>3|46=>141|51=>168|53=>170|4=>4|183=>160|182=>159|131=>165|5=>5|9=>9|218=>171|222=>175|228=>177|229=>178|n=>n,fun|n=>n⟩
theorem lays191:Go.Proofs.Lays.n191 Tryz.prog lays191_ren:={
 mixed:=by kernel_rfl
 f125:=Tryz.func143.trans (congrArg some (by kernel_rfl))
 f128:=Tryz.func153.trans (congrArg some (by kernel_rfl))
 f129:=Tryz.func154.trans (congrArg some (by kernel_rfl))
 f189:=Tryz.func128.trans (congrArg some (by kernel_rfl))
 f191:=Tryz.func92.trans (congrArg some (by kernel_rfl))
 f215:=Tryz.func160.trans (congrArg some (by kernel_rfl))
 f216:=Tryz.func150.trans (congrArg some (by kernel_rfl))
 f257:=Tryz.func142.trans (congrArg some (by kernel_rfl))
 f294:=Tryz.func144.trans (congrArg some (by kernel_rfl))
 f295:=Tryz.func145.trans (congrArg some (by kernel_rfl))
 f296:=Tryz.func146.trans (congrArg some (by kernel_rfl))
 f297:=Tryz.func147.trans (congrArg some (by kernel_rfl))
 f298:=Tryz.func148.trans (congrArg some (by kernel_rfl))
 f299:=Tryz.func149.trans (congrArg some (by kernel_rfl))
 f300:=Tryz.func151.trans (congrArg some (by kernel_rfl))
 f301:=Tryz.func152.trans (congrArg some (by kernel_rfl))
 f328:=Tryz.func155.trans (congrArg some (by kernel_rfl))
 f329:=Tryz.func156.trans (congrArg some (by kernel_rfl))
 f330:=Tryz.func157.trans (congrArg some (by kernel_rfl))
 f331:=Tryz.func158.trans (congrArg some (by kernel_rfl))
 f332:=Tryz.func159.trans (congrArg some (by kernel_rfl))
 f343:=Tryz.func161.trans (congrArg some (by kernel_rfl))
 t0:=Tryz.underlying0
 a0:=Tryz.isAgg0
 z0:=Tryz.sizeOf0
 v0:=Tryz.zeroValue0
 t3:=Tryz.underlying3
 a3:=Tryz.isAgg3
 z3:=Tryz.sizeOf3
 v3:=Tryz.zeroValue3
 t4:=Tryz.underlying4
 a4:=Tryz.isAgg4
 z4:=Tryz.sizeOf4
 v4:=Tryz.zeroValue4
 t5:=Tryz.underlying5
 a5:=Tryz.isAgg5
 z5:=Tryz.sizeOf5
 v5:=Tryz.zeroValue5
 t9:=Tryz.underlying9
 a9:=Tryz.isAgg9
 z9:=Tryz.sizeOf9
 v9:=Tryz.zeroValue9
 t28:=Tryz.underlying45
 a28:=Tryz.isAgg45
 z28:=Tryz.sizeOf45
 v28:=Tryz.zeroValue45
 t46:=Tryz.underlying141
 a46:=Tryz.isAgg141
 z46:=Tryz.sizeOf141
 v46:=Tryz.zeroValue141
 t51:=Tryz.underlying168
 a51:=Tryz.isAgg168
 z51:=Tryz.sizeOf168
 v51:=Tryz.zeroValue168
 t53:=Tryz.underlying170
 a53:=Tryz.isAgg170
 z53:=Tryz.sizeOf170
 v53:=Tryz.zeroValue170
 t131:=Tryz.underlying165
 a131:=Tryz.isAgg165
 z131:=Tryz.sizeOf165
 v131:=Tryz.zeroValue165
 t182:=Tryz.underlying159
 a182:=Tryz.isAgg159
 z182:=Tryz.sizeOf159
 v182:=Tryz.zeroValue159
 t183:=Tryz.underlying160
 a183:=Tryz.isAgg160
 z183:=Tryz.sizeOf160
 v183:=Tryz.zeroValue160
 t218:=Tryz.underlying171
 a218:=Tryz.isAgg171
 z218:=Tryz.sizeOf171
 v218:=Tryz.zeroValue171
 t222:=Tryz.underlying175
 a222:=Tryz.isAgg175
 z222:=Tryz.sizeOf175
 v222:=Tryz.zeroValue175
 t228:=Tryz.underlying177
 a228:=Tryz.isAgg177
 z228:=Tryz.sizeOf177
 v228:=Tryz.zeroValue177
 t229:=Tryz.underlying178
 a229:=Tryz.isAgg178
 z229:=Tryz.sizeOf178
 v229:=Tryz.zeroValue178 }
theorem xE:Az Tryz.prog 92 MX:=ye ⟨λ blk off cap zs w h1 h2 h3=>Go.Proofs.Any.sort_Ints lays191 blk off cap zs w h1 h2 h3,λ p cap w=>Go.Proofs.Any.sort_Ints_none lays191 p cap w⟩
theorem yM:Az Tryz.prog 8 KF.S:=lF follows Tryz.func8 (by kernel_rfl) (obs:=[]) (by kernel_rfl) trivial
theorem k_spec_l1New:EP Tryz.prog Tryz.f81 LG.er.er=true:=by kernel_rfl
theorem o_spec_l1New:ER Tryz.prog Tryz.f81 LG.er.er=[]:=by kernel_rfl
theorem wV:Az Tryz.prog 81 O3:=by unfold O3;exact FY follows Tryz.func81 k_spec_l1New o_spec_l1New trivial
theorem k_spec_l24New:EP Tryz.prog Tryz.f37 Lu.er.er=true:=by kernel_rfl
theorem o_spec_l24New:ER Tryz.prog Tryz.f37 Lu.er.er=[(81,O3)]:=by kernel_rfl
theorem gO:Az Tryz.prog 37 LC:=by unfold LC;exact FY follows Tryz.func37 k_spec_l24New o_spec_l24New ⟨wV,trivial⟩
theorem k_spec_l1Byte:EP Tryz.prog Tryz.f82 Ks.er.er=true:=by kernel_rfl
theorem o_spec_l1Byte:ER Tryz.prog Tryz.f82 Ks.er.er=[]:=by kernel_rfl
theorem Rk:Az Tryz.prog 82 En:=by unfold En;exact FY follows Tryz.func82 k_spec_l1Byte o_spec_l1Byte trivial
theorem k_spec_l1Below:EP Tryz.prog Tryz.f38 Ki.er.er=true:=by kernel_rfl
theorem o_spec_l1Below:ER Tryz.prog Tryz.f38 Ki.er.er=[(82,En),(82,En),(82,En),(82,En),(82,En)]:=by kernel_rfl
theorem Fs:Az Tryz.prog 38 Cd:=by unfold Cd;exact FY follows Tryz.func38 k_spec_l1Below o_spec_l1Below ⟨Rk,Rk,Rk,Rk,Rk,trivial⟩
theorem k_spec_l1PickInt:EP Tryz.prog Tryz.f140 Ll.er.er=true:=by kernel_rfl
theorem o_spec_l1PickInt:ER Tryz.prog Tryz.f140 Ll.er.er=[(38,Cd)]:=by kernel_rfl
theorem rj:Az Tryz.prog 140 On:=by unfold On;exact FY follows Tryz.func140 k_spec_l1PickInt o_spec_l1PickInt ⟨Fs,trivial⟩
theorem k_spec_l1Once:EP Tryz.prog Tryz.f80 Kl.er.er=true:=by kernel_rfl
theorem o_spec_l1Once:ER Tryz.prog Tryz.f80 Kl.er.er=[(38,Cd)]:=by kernel_rfl
theorem U9:Az Tryz.prog 80 Hp:=by unfold Hp;exact FY follows Tryz.func80 k_spec_l1Once o_spec_l1Once ⟨Fs,trivial⟩
theorem k_spec_l8Draw:EP Tryz.prog Tryz.f120 Lx.er.er=true:=by kernel_rfl
theorem o_spec_l8Draw:ER Tryz.prog Tryz.f120 Lx.er.er=[(38,Cd),(38,Cd),(140,On),(80,Hp)]:=by kernel_rfl
theorem wc:Az Tryz.prog 120 OU:=by unfold OU;exact FY follows Tryz.func120 k_spec_l8Draw o_spec_l8Draw ⟨Fs,Fs,rj,U9,trivial⟩
theorem k_spec_l5Draw:EP Tryz.prog Tryz.f141 Lv.er.er=true:=by kernel_rfl
theorem o_spec_l5Draw:ER Tryz.prog Tryz.f141 Lv.er.er=[(38,Cd),(38,Cd),(80,Hp),(38,Cd),(38,Cd),(38,Cd),(38,Cd),(38,Cd)]:=by kernel_rfl
theorem vB:Az Tryz.prog 141 OM:=by unfold OM;exact FY follows Tryz.func141 k_spec_l5Draw o_spec_l5Draw ⟨Fs,Fs,U9,Fs,Fs,Fs,Fs,Fs,trivial⟩
theorem k_spec_l6Draw:EP Tryz.prog Tryz.f122 Ly.er.er=true:=by kernel_rfl
theorem o_spec_l6Draw:ER Tryz.prog Tryz.f122 Ly.er.er=[(38,Cd),(141,OM),(80,Hp)]:=by kernel_rfl
theorem we:Az Tryz.prog 122 OP:=by unfold OP;exact FY follows Tryz.func122 k_spec_l6Draw o_spec_l6Draw ⟨Fs,vB,U9,trivial⟩
theorem Gm:Az Tryz.prog 49 BM.S:=lF follows Tryz.func49 (by kernel_rfl) (obs:=[]) (by kernel_rfl) trivial
theorem Uy:Az Tryz.prog 129 Ek.S:=lF follows Tryz.func129 (by kernel_rfl) (obs:=[(49,BM.S),(49,BM.S),(49,BM.S),(49,BM.S)]) (by kernel_rfl) ⟨Gm,Gm,Gm,Gm,trivial⟩
theorem fV:Az Tryz.prog 94 Ij.S:=lF follows Tryz.func94 (by kernel_rfl) (obs:=[(129,Ek.S),(49,BM.S),(49,BM.S)]) (by kernel_rfl) ⟨Uy,Gm,Gm,trivial⟩
theorem YS:Az Tryz.prog 99 FR.S:=lF follows Tryz.func99 (by kernel_rfl) (obs:=[(129,Ek.S)]) (by kernel_rfl) ⟨Uy,trivial⟩
theorem Vr:Az Tryz.prog 95 El.S:=lF follows Tryz.func95 (by kernel_rfl) (obs:=[(49,BM.S),(129,Ek.S),(99,FR.S)]) (by kernel_rfl) ⟨Gm,Uy,YS,trivial⟩
theorem gJ:Az Tryz.prog 103 Iq.S:=lF follows Tryz.func103 (by kernel_rfl) (obs:=[]) (by kernel_rfl) trivial
theorem Y5:Az Tryz.prog 101 FU.S:=lF follows Tryz.func101 (by kernel_rfl) (obs:=[]) (by kernel_rfl) trivial
theorem YQ:Az Tryz.prog 63 GN.S:=lF follows Tryz.func63 (by kernel_rfl) (obs:=[]) (by kernel_rfl) trivial
theorem gg:Az Tryz.prog 96 GQ.S:=lF follows Tryz.func96 (by kernel_rfl) (obs:=[(103,Iq.S),(49,BM.S),(101,FU.S),(129,Ek.S),(101,FU.S),(63,GN.S)]) (by kernel_rfl) ⟨gJ,Gm,Y5,Uy,Y5,YQ,trivial⟩
theorem Y6:Az Tryz.prog 48 GP.S:=lF follows Tryz.func48 (by kernel_rfl) (obs:=[(94,Ij.S),(95,El.S),(96,GQ.S),(49,BM.S),(49,BM.S)]) (by kernel_rfl) ⟨fV,Vr,gg,Gm,Gm,trivial⟩
theorem vW:Az Tryz.prog 97 Kt.S:=lF follows Tryz.func97 (by kernel_rfl) (obs:=[]) (by kernel_rfl) trivial
theorem Zr:Az Tryz.prog 51 GU.S:=lF follows Tryz.func51 (by kernel_rfl) (obs:=[(97,Kt.S)]) (by kernel_rfl) ⟨vW,trivial⟩
theorem ss:Az Tryz.prog 121 Kc.S:=lF follows Tryz.func121 (by kernel_rfl) (obs:=[(48,GP.S),(51,GU.S)]) (by kernel_rfl) ⟨Y6,Zr,trivial⟩
theorem k_spec_l9New:EP Tryz.prog Tryz.f79 LD.er.er=true:=by kernel_rfl
theorem o_spec_l9New:ER Tryz.prog Tryz.f79 LD.er.er=[(38,Cd),(120,OU),(122,OP),(121,Kc.S)]:=by kernel_rfl
theorem wU:Az Tryz.prog 79 O0:=by unfold O0;exact FY follows Tryz.func79 k_spec_l9New o_spec_l9New ⟨Fs,wc,we,ss,trivial⟩
theorem gK:Az Tryz.prog 50 GV.S:=lF follows Tryz.func50 (by kernel_rfl) (obs:=[]) (by kernel_rfl) trivial
theorem sG:Az Tryz.prog 53 Kg.S:=lF follows Tryz.func53 (by kernel_rfl) (obs:=[(49,BM.S),(95,El.S)]) (by kernel_rfl) ⟨Gm,Vr,trivial⟩
theorem vi:Az Tryz.prog 98 Kj.S:=lF follows Tryz.func98 (by kernel_rfl) (obs:=[(94,Ij.S),(49,BM.S)]) (by kernel_rfl) ⟨fV,Gm,trivial⟩
theorem sx:Az Tryz.prog 52 Kf.S:=lF follows Tryz.func52 (by kernel_rfl) (obs:=[(98,Kj.S)]) (by kernel_rfl) ⟨vi,trivial⟩
theorem v7:Az Tryz.prog 54 Kv.S:=lF follows Tryz.func54 (by kernel_rfl) (obs:=[(99,FR.S)]) (by kernel_rfl) ⟨YS,trivial⟩
theorem wS:Az Tryz.prog 55 KD.S:=lF follows Tryz.func55 (by kernel_rfl) (obs:=[(99,FR.S)]) (by kernel_rfl) ⟨YS,trivial⟩
theorem qJ:Az Tryz.prog 130 J6.S:=lF follows Tryz.func130 (by kernel_rfl) (obs:=[(49,BM.S)]) (by kernel_rfl) ⟨Gm,trivial⟩
theorem k_spec_l9Key:EP Tryz.prog Tryz.f100 LF.er.er=true:=by kernel_rfl
theorem o_spec_l9Key:ER Tryz.prog Tryz.f100 LF.er.er=[(130,J6.S)]:=by kernel_rfl
theorem xc:Az Tryz.prog 100 O2:=by unfold O2;exact FY follows Tryz.func100 k_spec_l9Key o_spec_l9Key ⟨qJ,trivial⟩
theorem k_spec_l9Settle:EP Tryz.prog Tryz.f56 Lp.er.er=true:=by kernel_rfl
theorem o_spec_l9Settle:ER Tryz.prog Tryz.f56 Lp.er.er=[(100,O2)]:=by kernel_rfl
theorem tv:Az Tryz.prog 56 OA:=by unfold OA;exact FY follows Tryz.func56 k_spec_l9Settle o_spec_l9Settle ⟨xc,trivial⟩
theorem Q3:Az Tryz.prog 58 EX.S:=lF follows Tryz.func58 (by kernel_rfl) (obs:=[(95,El.S)]) (by kernel_rfl) ⟨Vr,trivial⟩
theorem fK:Az Tryz.prog 102 Ig.S:=lF follows Tryz.func102 (by kernel_rfl) (obs:=[(58,EX.S)]) (by kernel_rfl) ⟨Q3,trivial⟩
theorem pk:Az Tryz.prog 57 JZ.S:=lF follows Tryz.func57 (by kernel_rfl) (obs:=[(95,El.S),(96,GQ.S),(101,FU.S),(102,Ig.S),(103,Iq.S),(63,GN.S),(102,Ig.S)]) (by kernel_rfl) ⟨Vr,gg,Y5,fK,gJ,YQ,fK,trivial⟩
theorem qv:Az Tryz.prog 104 J7.S:=lF follows Tryz.func104 (by kernel_rfl) (obs:=[]) (by kernel_rfl) trivial
theorem wo:Az Tryz.prog 105 Kw.S:=lF follows Tryz.func105 (by kernel_rfl) (obs:=[]) (by kernel_rfl) trivial
theorem fA:Az Tryz.prog 59 Ia.S:=lF follows Tryz.func59 (by kernel_rfl) (obs:=[(104,J7.S),(105,Kw.S)]) (by kernel_rfl) ⟨qv,wo,trivial⟩
theorem wZ:Az Tryz.prog 21 KE.S:=lF follows Tryz.func21 (by kernel_rfl) (obs:=[(48,GP.S),(49,BM.S),(50,GV.S),(51,GU.S),(53,Kg.S),(52,Kf.S),(54,Kv.S),(55,KD.S),(56,OA),(57,JZ.S),(58,EX.S),(58,EX.S),(59,Ia.S)]) (by kernel_rfl) ⟨Y6,Gm,gK,Zr,sG,sx,v7,wS,tv,pk,Q3,Q3,fA,trivial⟩
theorem uS:Az Tryz.prog 23 Kk.S:=lF follows Tryz.func23 (by kernel_rfl) (obs:=[(50,GV.S),(48,GP.S),(51,GU.S),(63,GN.S),(58,EX.S),(58,EX.S),(59,Ia.S)]) (by kernel_rfl) ⟨gK,Y6,Zr,YQ,Q3,Q3,fA,trivial⟩
theorem k_spec_l9Draw:EP Tryz.prog Tryz.f36 LB.er.er=true:=by kernel_rfl
theorem o_spec_l9Draw:ER Tryz.prog Tryz.f36 LB.er.er=[(79,O0),(38,Cd),(38,Cd),(80,Hp),(21,KE.S),(23,Kk.S)]:=by kernel_rfl
theorem vF:Az Tryz.prog 36 OT:=by unfold OT;exact FY follows Tryz.func36 k_spec_l9Draw o_spec_l9Draw ⟨wU,Fs,Fs,U9,wZ,uS,trivial⟩
theorem qN:Az Tryz.prog 9 J8.S:=lF follows Tryz.func9 (by kernel_rfl) (obs:=[(37,LC),(36,OT)]) (by kernel_rfl) ⟨gO,vF,trivial⟩
theorem eZ:Az Tryz.prog 10 H4.S:=lF follows Tryz.func10 (by kernel_rfl) (obs:=[(37,LC),(38,Cd)]) (by kernel_rfl) ⟨gO,Fs,trivial⟩
theorem Rm:Az Tryz.prog 11 Dw.S:=lF follows Tryz.func11 (by kernel_rfl) (obs:=[]) (by kernel_rfl) trivial
theorem Zo:Az Tryz.prog 125 FX.S:=lF follows Tryz.func125 (by kernel_rfl) (obs:=[]) (by kernel_rfl) trivial
theorem Zm:Az Tryz.prog 126 Em.S:=lF follows Tryz.func126 (by kernel_rfl) (obs:=[]) (by kernel_rfl) trivial
theorem ga:Az Tryz.prog 127 FV.S:=lF follows Tryz.func127 (by kernel_rfl) (obs:=[]) (by kernel_rfl) trivial
theorem Us:Az Tryz.prog 88 EY.S:=lF follows Tryz.func88 (by kernel_rfl) (obs:=[(125,FX.S),(126,Em.S),(127,FV.S),(125,FX.S),(126,Em.S),(125,FX.S),(127,FV.S),(126,Em.S)]) (by kernel_rfl) ⟨Zo,Zm,ga,Zo,Zm,Zo,ga,Zm,trivial⟩
theorem tl:Az Tryz.prog 40 Ke.S:=lF follows Tryz.func40 (by kernel_rfl) (obs:=[(88,EY.S)]) (by kernel_rfl) ⟨Us,trivial⟩
theorem jv:Az Tryz.prog 89 GX.S:=lF follows Tryz.func89 (by kernel_rfl) (obs:=[]) (by kernel_rfl) trivial
theorem Vi:Az Tryz.prog 41 E2.S:=lF follows Tryz.func41 (by kernel_rfl) (obs:=[(89,GX.S),(88,EY.S)]) (by kernel_rfl) ⟨jv,Us,trivial⟩
theorem gG:Az Tryz.prog 90 Is.S:=lF follows Tryz.func90 (by kernel_rfl) (obs:=[]) (by kernel_rfl) trivial
theorem gx:Az Tryz.prog 42 GR.S:=lF follows Tryz.func42 (by kernel_rfl) (obs:=[(90,Is.S),(88,EY.S)]) (by kernel_rfl) ⟨gG,Us,trivial⟩
theorem Uv:Az Tryz.prog 13 EZ.S:=lF follows Tryz.func13 (by kernel_rfl) (obs:=[(40,Ke.S),(41,E2.S),(42,GR.S)]) (by kernel_rfl) ⟨tl,Vi,gx,trivial⟩
theorem qK:Az Tryz.prog 118 J5.S:=lF follows Tryz.func118 (by kernel_rfl) (obs:=[]) (by kernel_rfl) trivial
theorem qp:Az Tryz.prog 119 J9.S:=lF follows Tryz.func119 (by kernel_rfl) (obs:=[]) (by kernel_rfl) trivial
theorem eX:Az Tryz.prog 78 H7.S:=lF follows Tryz.func78 (by kernel_rfl) (obs:=[(118,J5.S),(119,J9.S)]) (by kernel_rfl) ⟨qK,qp,trivial⟩
theorem td:Az Tryz.prog 20 Kh.S:=lF follows Tryz.func20 (by kernel_rfl) (obs:=[(41,E2.S)]) (by kernel_rfl) ⟨Vi,trivial⟩
theorem uo:Az Tryz.prog 83 Kq.S:=lF follows Tryz.func83 (by kernel_rfl) (obs:=[(89,GX.S)]) (by kernel_rfl) ⟨jv,trivial⟩
theorem fv:Az Tryz.prog 46 H8.S:=lF follows Tryz.func46 (by kernel_rfl) (obs:=[(88,EY.S)]) (by kernel_rfl) ⟨Us,trivial⟩
theorem wh:Az Tryz.prog 84 Ku.S:=lF follows Tryz.func84 (by kernel_rfl) (obs:=[(46,H8.S)]) (by kernel_rfl) ⟨fv,trivial⟩
theorem w7:Az Tryz.prog 18 Kx.S:=lF follows Tryz.func18 (by kernel_rfl) (obs:=[(46,H8.S)]) (by kernel_rfl) ⟨fv,trivial⟩
theorem qH:Az Tryz.prog 123 H5.S:=lF follows Tryz.func123 (by kernel_rfl) (obs:=[]) (by kernel_rfl) trivial
theorem k_impl_settle:EP Tryz.prog Tryz.f85 Lw.er.er=true:=by kernel_rfl
theorem o_impl_settle:ER Tryz.prog Tryz.f85 Lw.er.er=[(123,H5.S)]:=by kernel_rfl
theorem wu:Az Tryz.prog 85 OS:=by unfold OS;exact FY follows Tryz.func85 k_impl_settle o_impl_settle ⟨qH,trivial⟩
theorem fG:Az Tryz.prog 91 Ii.S:=lF follows Tryz.func91 (by kernel_rfl) (obs:=[]) (by kernel_rfl) trivial
theorem wP:Az Tryz.prog 93 Ip.S:=lF follows Tryz.func93 (by kernel_rfl) (obs:=[]) (by kernel_rfl) trivial
theorem gB:Az Tryz.prog 45 Ik.S:=lF follows Tryz.func45 (by kernel_rfl) (obs:=[(91,Ii.S),(92,MX),(93,Ip.S)]) (by kernel_rfl) ⟨fG,xE,wP,trivial⟩
theorem Ls:Az Tryz.prog 17 CN.S:=lF follows Tryz.func17 (by kernel_rfl) (obs:=[(41,E2.S),(45,Ik.S)]) (by kernel_rfl) ⟨Vi,gB,trivial⟩
theorem ft:Az Tryz.prog 124 Ic.S:=lF follows Tryz.func124 (by kernel_rfl) (obs:=[(91,Ii.S),(45,Ik.S)]) (by kernel_rfl) ⟨fG,gB,trivial⟩
theorem pn:Az Tryz.prog 86 J0.S:=lF follows Tryz.func86 (by kernel_rfl) (obs:=[(41,E2.S),(42,GR.S),(17,CN.S),(124,Ic.S),(90,Is.S),(124,Ic.S)]) (by kernel_rfl) ⟨Vi,gx,Ls,ft,gG,ft,trivial⟩
theorem ti:Az Tryz.prog 44 Ih.S:=lF follows Tryz.func44 (by kernel_rfl) (obs:=[]) (by kernel_rfl) trivial
theorem YK:Az Tryz.prog 16 EU.S:=lF follows Tryz.func16 (by kernel_rfl) (obs:=[(44,Ih.S)]) (by kernel_rfl) ⟨ti,trivial⟩
theorem eJ:Az Tryz.prog 87 FP.S:=lF follows Tryz.func87 (by kernel_rfl) (obs:=[(16,EU.S)]) (by kernel_rfl) ⟨YK,trivial⟩
theorem wT:Az Tryz.prog 39 Ky.S:=lF follows Tryz.func39 (by kernel_rfl) (obs:=[(78,H7.S),(20,Kh.S),(83,Kq.S),(84,Ku.S),(18,Kx.S),(85,OS),(86,J0.S),(17,CN.S),(17,CN.S),(87,FP.S)]) (by kernel_rfl) ⟨eX,td,uo,wh,w7,wu,pn,Ls,Ls,eJ,trivial⟩
theorem wR:Az Tryz.prog 12 Kz.S:=lF follows Tryz.func12 (by kernel_rfl) (obs:=[(13,EZ.S),(11,Dw.S),(39,Ky.S)]) (by kernel_rfl) ⟨Uv,Rm,wT,trivial⟩
theorem vm:Az Tryz.prog 43 Ko.S:=lF follows Tryz.func43 (by kernel_rfl) (obs:=[(78,H7.S),(11,Dw.S),(17,CN.S),(17,CN.S),(87,FP.S)]) (by kernel_rfl) ⟨eX,Rm,Ls,Ls,eJ,trivial⟩
theorem gi:Az Tryz.prog 14 Il.S:=lF follows Tryz.func14 (by kernel_rfl) (obs:=[(13,EZ.S),(11,Dw.S),(43,Ko.S)]) (by kernel_rfl) ⟨Uv,Rm,vm,trivial⟩
theorem fE:Az Tryz.prog 15 FT.S:=lF follows Tryz.func15 (by kernel_rfl) (obs:=[]) (by kernel_rfl) trivial
theorem rZ:Az Tryz.prog 3 Hn.S:=lF follows Tryz.func3 (by kernel_rfl) (obs:=[(8,KF.S),(9,J8.S),(10,H4.S),(11,Dw.S),(10,H4.S),(12,Kz.S),(13,EZ.S),(14,Il.S),(11,Dw.S),(13,EZ.S),(15,FT.S),(17,CN.S),(16,EU.S),(17,CN.S),(17,CN.S),(16,EU.S),(14,Il.S),(15,FT.S)]) (by kernel_rfl) ⟨yM,qN,eZ,Rm,eZ,wR,Uv,gi,Rm,Uv,fE,Ls,YK,Ls,Ls,YK,gi,fE,trivial⟩
end Go.Proofs.YtbkpfpcnjpggaaaGreat
