/-
 EACH ABSTRACT FUNCTION IS THE SEAT's OWN: checked by the kernel,function by function (written by program,ag.py).
-/
import Derived.Test.YtbkpfpcnjpggaaaGreatChecked
import Derived.KernelRfl
import Derived.Test.YtbkpfpcnjpggaaaGreatLibH
import Derived.Shelf.Sort.Plain
import Derived.Shelf.Slices.In.SortNone2
namespace Go.Proofs.YtbkpfpcnjpggaaaGreat
open Go.Ag
theorem follows:Tryz.prog.follows .mixedOrders=true:=by kernel_rfl
open Go.Shelf
def lays191_ren:Go.Shelf.Ren:=⟨fun|191=>92|189=>128|125=>143|257=>142|128=>153|129=>154|294=>144|295=>145|296=>146|297=>147|298=>148|299=>149|216=>150|300=>151|301=>152|328=>155|329=>156|330=>157|331=>158|332=>159|215=>160|343=>161|n=>n,fun|28=>45|0=>0|3=>3|46=>141|51=>168|53=>170|4=>4|183=>160|182=>159|131=>165|5=>5|9=>9|218=>171|222=>175|228=>177|229=>178|n=>n,fun|n=>n⟩
theorem lays191:Go.Proofs.Lays.n191 Tryz.prog lays191_ren:={
 mixed:=by kernel_rfl
 f125:=Tryz.func143.trans (congrArg some (by kernel_rfl))
 f128:=Tryz.func153.trans (congrArg some (by kernel_rfl))
 f129:=Tryz.func154.trans (congrArg some (by kernel_rfl))
 f189:=Tryz.func128.trans (congrArg some (by kernel_rfl))
 f191:=Tryz.func92.trans (congrArg some (by kernel_rfl))
 f215:=Tryz.func160.trans (congrArg some (by kernel_rfl))
 f216:=Tryz.func150.trans (congrArg some (by kernel_rfl))
 f257:=Tryz.func142.trans (congrArg some (by kernel_rfl))
 f294:=Tryz.func144.trans (congrArg some (by kernel_rfl))
 f295:=Tryz.func145.trans (congrArg some (by kernel_rfl))
 f296:=Tryz.func146.trans (congrArg some (by kernel_rfl))
 f297:=Tryz.func147.trans (congrArg some (by kernel_rfl))
 f298:=Tryz.func148.trans (congrArg some (by kernel_rfl))
 f299:=Tryz.func149.trans (congrArg some (by kernel_rfl))
 f300:=Tryz.func151.trans (congrArg some (by kernel_rfl))
 f301:=Tryz.func152.trans (congrArg some (by kernel_rfl))
 f328:=Tryz.func155.trans (congrArg some (by kernel_rfl))
 f329:=Tryz.func156.trans (congrArg some (by kernel_rfl))
 f330:=Tryz.func157.trans (congrArg some (by kernel_rfl))
 f331:=Tryz.func158.trans (congrArg some (by kernel_rfl))
 f332:=Tryz.func159.trans (congrArg some (by kernel_rfl))
 f343:=Tryz.func161.trans (congrArg some (by kernel_rfl))
 t0:=Tryz.underlying0
 a0:=Tryz.isAgg0
 z0:=Tryz.sizeOf0
 v0:=Tryz.zeroValue0
 t3:=Tryz.underlying3
 a3:=Tryz.isAgg3
 z3:=Tryz.sizeOf3
 v3:=Tryz.zeroValue3
 t4:=Tryz.underlying4
 a4:=Tryz.isAgg4
 z4:=Tryz.sizeOf4
 v4:=Tryz.zeroValue4
 t5:=Tryz.underlying5
 a5:=Tryz.isAgg5
 z5:=Tryz.sizeOf5
 v5:=Tryz.zeroValue5
 t9:=Tryz.underlying9
 a9:=Tryz.isAgg9
 z9:=Tryz.sizeOf9
 v9:=Tryz.zeroValue9
 t28:=Tryz.underlying45
 a28:=Tryz.isAgg45
 z28:=Tryz.sizeOf45
 v28:=Tryz.zeroValue45
 t46:=Tryz.underlying141
 a46:=Tryz.isAgg141
 z46:=Tryz.sizeOf141
 v46:=Tryz.zeroValue141
 t51:=Tryz.underlying168
 a51:=Tryz.isAgg168
 z51:=Tryz.sizeOf168
 v51:=Tryz.zeroValue168
 t53:=Tryz.underlying170
 a53:=Tryz.isAgg170
 z53:=Tryz.sizeOf170
 v53:=Tryz.zeroValue170
 t131:=Tryz.underlying165
 a131:=Tryz.isAgg165
 z131:=Tryz.sizeOf165
 v131:=Tryz.zeroValue165
 t182:=Tryz.underlying159
 a182:=Tryz.isAgg159
 z182:=Tryz.sizeOf159
 v182:=Tryz.zeroValue159
 t183:=Tryz.underlying160
 a183:=Tryz.isAgg160
 z183:=Tryz.sizeOf160
 v183:=Tryz.zeroValue160
 t218:=Tryz.underlying171
 a218:=Tryz.isAgg171
 z218:=Tryz.sizeOf171
 v218:=Tryz.zeroValue171
 t222:=Tryz.underlying175
 a222:=Tryz.isAgg175
 z222:=Tryz.sizeOf175
 v222:=Tryz.zeroValue175
 t228:=Tryz.underlying177
 a228:=Tryz.isAgg177
 z228:=Tryz.sizeOf177
 v228:=Tryz.zeroValue177
 t229:=Tryz.underlying178
 a229:=Tryz.isAgg178
 z229:=Tryz.sizeOf178
 v229:=Tryz.zeroValue178 }
theorem Zci:Ay Tryz.prog 92 NB:=ZcB ⟨λX_ off cap zs w h1 h2 h3=>Go.Proofs.Any.sort_Ints lays191 X_ off cap zs w h1 h2 h3,λp cap w=>Go.Proofs.Any.sort_Ints_none lays191 p cap w⟩
theorem xb:Ay Tryz.prog 131 Kr.S:=lF follows Tryz.func131 (by kernel_rfl) (t8:=[]) (by kernel_rfl) trivial
theorem tO:Ay Tryz.prog 106 Kl.S:=lF follows Tryz.func106 (by kernel_rfl) (t8:=[(131,Kr.S)]) (by kernel_rfl) ⟨xb,trivial⟩
theorem xZ:Ay Tryz.prog 60 KJ.S:=lF follows Tryz.func60 (by kernel_rfl) (t8:=[(106,Kl.S)]) (by kernel_rfl) ⟨tO,trivial⟩
theorem zj:Ay Tryz.prog 107 KS.S:=lF follows Tryz.func107 (by kernel_rfl) (t8:=[]) (by kernel_rfl) trivial
theorem xL:Ay Tryz.prog 61 KD.S:=lF follows Tryz.func61 (by kernel_rfl) (t8:=[(107,KS.S)]) (by kernel_rfl) ⟨zj,trivial⟩
theorem zk:Ay Tryz.prog 62 KT.S:=lF follows Tryz.func62 (by kernel_rfl) (t8:=[]) (by kernel_rfl) trivial
theorem xV:Ay Tryz.prog 22 KA.S:=lF follows Tryz.func22 (by kernel_rfl) (t8:=[(60,KJ.S),(61,KD.S),(62,KT.S)]) (by kernel_rfl) ⟨xZ,xL,zk,trivial⟩
theorem gB:Ay Tryz.prog 134 Im.S:=lF follows Tryz.func134 (by kernel_rfl) (t8:=[]) (by kernel_rfl) trivial
theorem wM:Ay Tryz.prog 132 Kx.S:=lF follows Tryz.func132 (by kernel_rfl) (t8:=[(134,Im.S)]) (by kernel_rfl) ⟨gB,trivial⟩
theorem uf:Ay Tryz.prog 108 Km.S:=lF follows Tryz.func108 (by kernel_rfl) (t8:=[(132,Kx.S)]) (by kernel_rfl) ⟨wM,trivial⟩
theorem yf:Ay Tryz.prog 64 KF.S:=lF follows Tryz.func64 (by kernel_rfl) (t8:=[(108,Km.S)]) (by kernel_rfl) ⟨uf,trivial⟩
theorem Zaq:Ay Tryz.prog 133 K5.S:=lF follows Tryz.func133 (by kernel_rfl) (t8:=[]) (by kernel_rfl) trivial
theorem Zaa:Ay Tryz.prog 109 KX.S:=lF follows Tryz.func109 (by kernel_rfl) (t8:=[(133,K5.S)]) (by kernel_rfl) ⟨Zaq,trivial⟩
theorem yi:Ay Tryz.prog 65 KL.S:=lF follows Tryz.func65 (by kernel_rfl) (t8:=[(109,KX.S)]) (by kernel_rfl) ⟨Zaa,trivial⟩
theorem Zai:Ay Tryz.prog 110 K3.S:=lF follows Tryz.func110 (by kernel_rfl) (t8:=[(134,Im.S)]) (by kernel_rfl) ⟨gB,trivial⟩
theorem y7:Ay Tryz.prog 66 KU.S:=lF follows Tryz.func66 (by kernel_rfl) (t8:=[(110,K3.S)]) (by kernel_rfl) ⟨Zai,trivial⟩
theorem Vj:Ay Tryz.prog 24 FE.S:=lF follows Tryz.func24 (by kernel_rfl) (t8:=[(64,KF.S),(65,KL.S),(66,KU.S)]) (by kernel_rfl) ⟨yf,yi,y7,trivial⟩
theorem Gc:Ay Tryz.prog 49 BR.S:=lF follows Tryz.func49 (by kernel_rfl) (t8:=[]) (by kernel_rfl) trivial
theorem Vq:Ay Tryz.prog 129 Ef.S:=lF follows Tryz.func129 (by kernel_rfl) (t8:=[(49,BR.S),(49,BR.S),(49,BR.S),(49,BR.S)]) (by kernel_rfl) ⟨Gc,Gc,Gc,Gc,trivial⟩
theorem gJ:Ay Tryz.prog 94 Ik.S:=lF follows Tryz.func94 (by kernel_rfl) (t8:=[(129,Ef.S),(49,BR.S),(49,BR.S)]) (by kernel_rfl) ⟨Vq,Gc,Gc,trivial⟩
theorem Zh:Ay Tryz.prog 99 FC.S:=lF follows Tryz.func99 (by kernel_rfl) (t8:=[(129,Ef.S)]) (by kernel_rfl) ⟨Vq,trivial⟩
theorem VR:Ay Tryz.prog 95 Eg.S:=lF follows Tryz.func95 (by kernel_rfl) (t8:=[(49,BR.S),(129,Ef.S),(99,FC.S)]) (by kernel_rfl) ⟨Gc,Vq,Zh,trivial⟩
theorem iz:Ay Tryz.prog 103 Is.S:=lF follows Tryz.func103 (by kernel_rfl) (t8:=[]) (by kernel_rfl) trivial
theorem Zj:Ay Tryz.prog 101 FF.S:=lF follows Tryz.func101 (by kernel_rfl) (t8:=[]) (by kernel_rfl) trivial
theorem gj:Ay Tryz.prog 63 Ih.S:=lF follows Tryz.func63 (by kernel_rfl) (t8:=[]) (by kernel_rfl) trivial
theorem gZ:Ay Tryz.prog 96 GN.S:=lF follows Tryz.func96 (by kernel_rfl) (t8:=[(103,Is.S),(49,BR.S),(101,FF.S),(129,Ef.S),(101,FF.S),(63,Ih.S)]) (by kernel_rfl) ⟨iz,Gc,Zj,Vq,Zj,gj,trivial⟩
theorem yy:Ay Tryz.prog 48 KK.S:=lF follows Tryz.func48 (by kernel_rfl) (t8:=[(94,Ik.S),(95,Eg.S),(96,GN.S),(49,BR.S),(49,BR.S)]) (by kernel_rfl) ⟨gJ,VR,gZ,Gc,Gc,trivial⟩
theorem ZaQ:Ay Tryz.prog 50 Iv.S:=lF follows Tryz.func50 (by kernel_rfl) (t8:=[]) (by kernel_rfl) trivial
theorem Zbd:Ay Tryz.prog 97 K0.S:=lF follows Tryz.func97 (by kernel_rfl) (t8:=[]) (by kernel_rfl) trivial
theorem Za6:Ay Tryz.prog 51 K6.S:=lF follows Tryz.func51 (by kernel_rfl) (t8:=[(97,K0.S)]) (by kernel_rfl) ⟨Zbd,trivial⟩
theorem yn:Ay Tryz.prog 53 KI.S:=lF follows Tryz.func53 (by kernel_rfl) (t8:=[(49,BR.S),(95,Eg.S)]) (by kernel_rfl) ⟨Gc,VR,trivial⟩
theorem zt:Ay Tryz.prog 98 KR.S:=lF follows Tryz.func98 (by kernel_rfl) (t8:=[(94,Ik.S),(49,BR.S)]) (by kernel_rfl) ⟨gJ,Gc,trivial⟩
theorem yc:Ay Tryz.prog 52 KH.S:=lF follows Tryz.func52 (by kernel_rfl) (t8:=[(98,KR.S)]) (by kernel_rfl) ⟨zt,trivial⟩
theorem ZaX:Ay Tryz.prog 54 KZ.S:=lF follows Tryz.func54 (by kernel_rfl) (t8:=[(99,FC.S)]) (by kernel_rfl) ⟨Zh,trivial⟩
theorem ZbD:Ay Tryz.prog 55 Le.S:=lF follows Tryz.func55 (by kernel_rfl) (t8:=[(99,FC.S)]) (by kernel_rfl) ⟨Zh,trivial⟩
theorem tS:Ay Tryz.prog 130 Ki.S:=lF follows Tryz.func130 (by kernel_rfl) (t8:=[(49,BR.S)]) (by kernel_rfl) ⟨Gc,trivial⟩
theorem k_spec_l9Key:E7 Tryz.prog Tryz.f100 Mh.er.er=true:=by kernel_rfl
theorem o_spec_l9Key:E6 Tryz.prog Tryz.f100 Mh.er.er=[(130,Ki.S)]:=by kernel_rfl
theorem Zbs:Ay Tryz.prog 100 PG:=by unfold PG;exact Ga follows Tryz.func100 k_spec_l9Key o_spec_l9Key ⟨tS,trivial⟩
theorem k_spec_l9Settle:E7 Tryz.prog Tryz.f56 Ma.er.er=true:=by kernel_rfl
theorem o_spec_l9Settle:E6 Tryz.prog Tryz.f56 Ma.er.er=[(100,PG)]:=by kernel_rfl
theorem yw:Ay Tryz.prog 56 Pu:=by unfold Pu;exact Ga follows Tryz.func56 k_spec_l9Settle o_spec_l9Settle ⟨Zbs,trivial⟩
theorem Zl:Ay Tryz.prog 58 GI.S:=lF follows Tryz.func58 (by kernel_rfl) (t8:=[(95,Eg.S)]) (by kernel_rfl) ⟨VR,trivial⟩
theorem gG:Ay Tryz.prog 102 Io.S:=lF follows Tryz.func102 (by kernel_rfl) (t8:=[(58,GI.S)]) (by kernel_rfl) ⟨Zl,trivial⟩
theorem qU:Ay Tryz.prog 57 J4.S:=lF follows Tryz.func57 (by kernel_rfl) (t8:=[(95,Eg.S),(96,GN.S),(101,FF.S),(102,Io.S),(103,Is.S),(63,Ih.S),(102,Io.S)]) (by kernel_rfl) ⟨VR,gZ,Zj,gG,iz,gj,gG,trivial⟩
theorem td:Ay Tryz.prog 104 Kd.S:=lF follows Tryz.func104 (by kernel_rfl) (t8:=[]) (by kernel_rfl) trivial
theorem Zbb:Ay Tryz.prog 105 K9.S:=lF follows Tryz.func105 (by kernel_rfl) (t8:=[]) (by kernel_rfl) trivial
theorem wZ:Ay Tryz.prog 59 Ko.S:=lF follows Tryz.func59 (by kernel_rfl) (t8:=[(104,Kd.S),(105,K9.S)]) (by kernel_rfl) ⟨td,Zbb,trivial⟩
theorem Zby:Ay Tryz.prog 21 Lc.S:=lF follows Tryz.func21 (by kernel_rfl) (t8:=[(48,KK.S),(49,BR.S),(50,Iv.S),(51,K6.S),(53,KI.S),(52,KH.S),(54,KZ.S),(55,Le.S),(56,Pu),(57,J4.S),(58,GI.S),(58,GI.S),(59,Ko.S)]) (by kernel_rfl) ⟨yy,Gc,ZaQ,Za6,yn,yc,ZaX,ZbD,yw,qU,Zl,Zl,wZ,trivial⟩
theorem Zx:Ay Tryz.prog 125 FJ.S:=lF follows Tryz.func125 (by kernel_rfl) (t8:=[]) (by kernel_rfl) trivial
theorem ZB:Ay Tryz.prog 126 Eh.S:=lF follows Tryz.func126 (by kernel_rfl) (t8:=[]) (by kernel_rfl) trivial
theorem ia:Ay Tryz.prog 127 FG.S:=lF follows Tryz.func127 (by kernel_rfl) (t8:=[]) (by kernel_rfl) trivial
theorem Vn:Ay Tryz.prog 88 ET.S:=lF follows Tryz.func88 (by kernel_rfl) (t8:=[(125,FJ.S),(126,Eh.S),(127,FG.S),(125,FJ.S),(126,Eh.S),(125,FJ.S),(127,FG.S),(126,Eh.S)]) (by kernel_rfl) ⟨Zx,ZB,ia,Zx,ZB,Zx,ia,ZB,trivial⟩
theorem xl:Ay Tryz.prog 40 KB.S:=lF follows Tryz.func40 (by kernel_rfl) (t8:=[(88,ET.S)]) (by kernel_rfl) ⟨Vn,trivial⟩
theorem jq:Ay Tryz.prog 89 GR.S:=lF follows Tryz.func89 (by kernel_rfl) (t8:=[]) (by kernel_rfl) trivial
theorem VU:Ay Tryz.prog 41 EY.S:=lF follows Tryz.func41 (by kernel_rfl) (t8:=[(89,GR.S),(88,ET.S)]) (by kernel_rfl) ⟨jq,Vn,trivial⟩
theorem ik:Ay Tryz.prog 90 Iw.S:=lF follows Tryz.func90 (by kernel_rfl) (t8:=[]) (by kernel_rfl) trivial
theorem gU:Ay Tryz.prog 42 GM.S:=lF follows Tryz.func42 (by kernel_rfl) (t8:=[(90,Iw.S),(88,ET.S)]) (by kernel_rfl) ⟨ik,Vn,trivial⟩
theorem xI:Ay Tryz.prog 13 KC.S:=lF follows Tryz.func13 (by kernel_rfl) (t8:=[(40,KB.S),(41,EY.S),(42,GM.S)]) (by kernel_rfl) ⟨xl,VU,gU,trivial⟩
theorem ZaP:Ay Tryz.prog 11 It.S:=lF follows Tryz.func11 (by kernel_rfl) (t8:=[]) (by kernel_rfl) trivial
theorem s9:Ay Tryz.prog 118 Kc.S:=lF follows Tryz.func118 (by kernel_rfl) (t8:=[]) (by kernel_rfl) trivial
theorem tV:Ay Tryz.prog 119 Kg.S:=lF follows Tryz.func119 (by kernel_rfl) (t8:=[]) (by kernel_rfl) trivial
theorem tn:Ay Tryz.prog 78 Kj.S:=lF follows Tryz.func78 (by kernel_rfl) (t8:=[(118,Kc.S),(119,Kg.S)]) (by kernel_rfl) ⟨s9,tV,trivial⟩
theorem xX:Ay Tryz.prog 20 KN.S:=lF follows Tryz.func20 (by kernel_rfl) (t8:=[(41,EY.S)]) (by kernel_rfl) ⟨VU,trivial⟩
theorem zQ:Ay Tryz.prog 83 KV.S:=lF follows Tryz.func83 (by kernel_rfl) (t8:=[(89,GR.S)]) (by kernel_rfl) ⟨jq,trivial⟩
theorem fV:Ay Tryz.prog 46 Ii.S:=lF follows Tryz.func46 (by kernel_rfl) (t8:=[(88,ET.S)]) (by kernel_rfl) ⟨Vn,trivial⟩
theorem ZaF:Ay Tryz.prog 84 K4.S:=lF follows Tryz.func84 (by kernel_rfl) (t8:=[(46,Ii.S)]) (by kernel_rfl) ⟨fV,trivial⟩
theorem Zbj:Ay Tryz.prog 18 Lg.S:=lF follows Tryz.func18 (by kernel_rfl) (t8:=[(46,Ii.S)]) (by kernel_rfl) ⟨fV,trivial⟩
theorem tl:Ay Tryz.prog 123 Ic.S:=lF follows Tryz.func123 (by kernel_rfl) (t8:=[]) (by kernel_rfl) trivial
theorem k_impl_settle:E7 Tryz.prog Tryz.f85 Mf.er.er=true:=by kernel_rfl
theorem o_impl_settle:E6 Tryz.prog Tryz.f85 Mf.er.er=[(123,Ic.S)]:=by kernel_rfl
theorem ZaL:Ay Tryz.prog 85 PD:=by unfold PD;exact Ga follows Tryz.func85 k_impl_settle o_impl_settle ⟨tl,trivial⟩
theorem gC:Ay Tryz.prog 91 Ij.S:=lF follows Tryz.func91 (by kernel_rfl) (t8:=[]) (by kernel_rfl) trivial
theorem ZaT:Ay Tryz.prog 93 Ix.S:=lF follows Tryz.func93 (by kernel_rfl) (t8:=[]) (by kernel_rfl) trivial
theorem hZ:Ay Tryz.prog 45 Ir.S:=lF follows Tryz.func45 (by kernel_rfl) (t8:=[(91,Ij.S),(92,NB),(93,Ix.S)]) (by kernel_rfl) ⟨gC,Zci,ZaT,trivial⟩
theorem Zm:Ay Tryz.prog 17 GK.S:=lF follows Tryz.func17 (by kernel_rfl) (t8:=[(41,EY.S),(45,Ir.S)]) (by kernel_rfl) ⟨VU,hZ,trivial⟩
theorem fX:Ay Tryz.prog 124 Ig.S:=lF follows Tryz.func124 (by kernel_rfl) (t8:=[(91,Ij.S),(45,Ir.S)]) (by kernel_rfl) ⟨gC,hZ,trivial⟩
theorem qZ:Ay Tryz.prog 86 J5.S:=lF follows Tryz.func86 (by kernel_rfl) (t8:=[(41,EY.S),(42,GM.S),(17,GK.S),(124,Ig.S),(90,Iw.S),(124,Ig.S)]) (by kernel_rfl) ⟨VU,gU,Zm,fX,ik,fX,trivial⟩
theorem xW:Ay Tryz.prog 44 Ip.S:=lF follows Tryz.func44 (by kernel_rfl) (t8:=[]) (by kernel_rfl) trivial
theorem uq:Ay Tryz.prog 16 Hp.S:=lF follows Tryz.func16 (by kernel_rfl) (t8:=[(44,Ip.S)]) (by kernel_rfl) ⟨xW,trivial⟩
theorem k_impl_changedReports:E7 Tryz.prog Tryz.f87 YA=true:=by kernel_rfl
theorem o_impl_changedReports:E6 Tryz.prog Tryz.f87 YA=[(16,Hp.S)]:=by kernel_rfl
theorem qk:Ay Tryz.prog 87 Ng:=by unfold Ng;exact Ga follows Tryz.func87 k_impl_changedReports o_impl_changedReports ⟨uq,trivial⟩
theorem ZbF:Ay Tryz.prog 39 Ld.S:=lF follows Tryz.func39 (by kernel_rfl) (t8:=[(78,Kj.S),(20,KN.S),(83,KV.S),(84,K4.S),(18,Lg.S),(85,PD),(86,J5.S),(17,GK.S),(17,GK.S),(87,Ng)]) (by kernel_rfl) ⟨tn,xX,zQ,ZaF,Zbj,ZaL,qZ,Zm,Zm,qk,trivial⟩
theorem iQ:Ay Tryz.prog 12 Iz.S:=lF follows Tryz.func12 (by kernel_rfl) (t8:=[(13,KC.S),(11,It.S),(39,Ld.S)]) (by kernel_rfl) ⟨xI,ZaP,ZbF,trivial⟩
theorem gv:Ay Tryz.prog 137 Il.S:=lF follows Tryz.func137 (by kernel_rfl) (t8:=[]) (by kernel_rfl) trivial
theorem wQ:Ay Tryz.prog 135 Kq.S:=lF follows Tryz.func135 (by kernel_rfl) (t8:=[(137,Il.S)]) (by kernel_rfl) ⟨gv,trivial⟩
theorem tZ:Ay Tryz.prog 111 Kk.S:=lF follows Tryz.func111 (by kernel_rfl) (t8:=[(135,Kq.S)]) (by kernel_rfl) ⟨wQ,trivial⟩
theorem xD:Ay Tryz.prog 67 KE.S:=lF follows Tryz.func67 (by kernel_rfl) (t8:=[(111,Kk.S)]) (by kernel_rfl) ⟨tZ,trivial⟩
theorem Zax:Ay Tryz.prog 136 Lb.S:=lF follows Tryz.func136 (by kernel_rfl) (t8:=[]) (by kernel_rfl) trivial
theorem yA:Ay Tryz.prog 112 KQ.S:=lF follows Tryz.func112 (by kernel_rfl) (t8:=[(136,Lb.S)]) (by kernel_rfl) ⟨Zax,trivial⟩
theorem xH:Ay Tryz.prog 68 KM.S:=lF follows Tryz.func68 (by kernel_rfl) (t8:=[(112,KQ.S)]) (by kernel_rfl) ⟨yA,trivial⟩
theorem ZaJ:Ay Tryz.prog 113 KY.S:=lF follows Tryz.func113 (by kernel_rfl) (t8:=[(137,Il.S)]) (by kernel_rfl) ⟨gv,trivial⟩
theorem zM:Ay Tryz.prog 69 KW.S:=lF follows Tryz.func69 (by kernel_rfl) (t8:=[(113,KY.S)]) (by kernel_rfl) ⟨ZaJ,trivial⟩
theorem Vr:Ay Tryz.prog 25 EU.S:=lF follows Tryz.func25 (by kernel_rfl) (t8:=[(67,KE.S),(68,KM.S),(69,KW.S)]) (by kernel_rfl) ⟨xD,xH,zM,trivial⟩
theorem ZaD:Ay Tryz.prog 34 K7.S:=lF follows Tryz.func34 (by kernel_rfl) (t8:=[]) (by kernel_rfl) trivial
theorem xR:Ay Tryz.prog 70 KG.S:=lF follows Tryz.func70 (by kernel_rfl) (t8:=[(34,K7.S)]) (by kernel_rfl) ⟨ZaD,trivial⟩
theorem Y7:Ay Tryz.prog 26 Ee.S:=lF follows Tryz.func26 (by kernel_rfl) (t8:=[(70,KG.S)]) (by kernel_rfl) ⟨xR,trivial⟩
theorem k_laws_markActionS:E7 Tryz.prog Tryz.f138 YF=true:=by kernel_rfl
theorem o_laws_markActionS:E6 Tryz.prog Tryz.f138 YF=[]:=by kernel_rfl
theorem sg:Ay Tryz.prog 138 O4:=by unfold O4;exact Ga follows Tryz.func138 k_laws_markActionS o_laws_markActionS trivial
theorem k_laws_markActionSS:E7 Tryz.prog Tryz.f114 YE=true:=by kernel_rfl
theorem o_laws_markActionSS:E6 Tryz.prog Tryz.f114 YE=[(138,O4)]:=by kernel_rfl
theorem qT:Ay Tryz.prog 114 OY:=by unfold OY;exact Ga follows Tryz.func114 k_laws_markActionSS o_laws_markActionSS ⟨sg,trivial⟩
theorem k_laws_markKeymap:E7 Tryz.prog Tryz.f71 YU=true:=by kernel_rfl
theorem o_laws_markKeymap:E6 Tryz.prog Tryz.f71 YU=[(114,OY)]:=by kernel_rfl
theorem tD:Ay Tryz.prog 71 Nn:=by unfold Nn;exact Ga follows Tryz.func71 k_laws_markKeymap o_laws_markKeymap ⟨qT,trivial⟩
theorem k_laws_markStepS:E7 Tryz.prog Tryz.f115 Y6=true:=by kernel_rfl
theorem o_laws_markStepS:E6 Tryz.prog Tryz.f115 Y6=[]:=by kernel_rfl
theorem uW:Ay Tryz.prog 115 Pd:=by unfold Pd;exact Ga follows Tryz.func115 k_laws_markStepS o_laws_markStepS trivial
theorem k_laws_markStepSS:E7 Tryz.prog Tryz.f72 YX=true:=by kernel_rfl
theorem o_laws_markStepSS:E6 Tryz.prog Tryz.f72 YX=[(115,Pd)]:=by kernel_rfl
theorem tv:Ay Tryz.prog 72 Pc:=by unfold Pc;exact Ga follows Tryz.func72 k_laws_markStepSS o_laws_markStepSS ⟨uW,trivial⟩
theorem k_laws_markHeldS:E7 Tryz.prog Tryz.f73 Zi=true:=by kernel_rfl
theorem o_laws_markHeldS:E6 Tryz.prog Tryz.f73 Zi=[]:=by kernel_rfl
theorem vQ:Ay Tryz.prog 73 Pe:=by unfold Pe;exact Ga follows Tryz.func73 k_laws_markHeldS o_laws_markHeldS trivial
theorem k_laws_markEngine:E7 Tryz.prog Tryz.f27 YQ=true:=by kernel_rfl
theorem o_laws_markEngine:E6 Tryz.prog Tryz.f27 YQ=[(71,Nn),(72,Pc),(73,Pe)]:=by kernel_rfl
theorem fJ:Ay Tryz.prog 27 Jn:=by unfold Jn;exact Ga follows Tryz.func27 k_laws_markEngine o_laws_markEngine ⟨tD,tv,vQ,trivial⟩
theorem k_laws_markIntS:E7 Tryz.prog Tryz.f35 Zo=true:=by kernel_rfl
theorem o_laws_markIntS:E6 Tryz.prog Tryz.f35 Zo=[]:=by kernel_rfl
theorem yp:Ay Tryz.prog 35 Pr:=by unfold Pr;exact Ga follows Tryz.func35 k_laws_markIntS o_laws_markIntS trivial
theorem k_laws_markReportS:E7 Tryz.prog Tryz.f28 YG=true:=by kernel_rfl
theorem o_laws_markReportS:E6 Tryz.prog Tryz.f28 YG=[(35,Pr)]:=by kernel_rfl
theorem sP:Ay Tryz.prog 28 L6:=by unfold L6;exact Ga follows Tryz.func28 k_laws_markReportS o_laws_markReportS ⟨yp,trivial⟩
theorem sN:Ay Tryz.prog 139 J7.S:=lF follows Tryz.func139 (by kernel_rfl) (t8:=[]) (by kernel_rfl) trivial
theorem qO:Ay Tryz.prog 116 J6.S:=lF follows Tryz.func116 (by kernel_rfl) (t8:=[(139,J7.S)]) (by kernel_rfl) ⟨sN,trivial⟩
theorem tg:Ay Tryz.prog 74 Ke.S:=lF follows Tryz.func74 (by kernel_rfl) (t8:=[(116,J6.S)]) (by kernel_rfl) ⟨qO,trivial⟩
theorem uX:Ay Tryz.prog 117 Ks.S:=lF follows Tryz.func117 (by kernel_rfl) (t8:=[]) (by kernel_rfl) trivial
theorem sV:Ay Tryz.prog 75 Kf.S:=lF follows Tryz.func75 (by kernel_rfl) (t8:=[(117,Ks.S)]) (by kernel_rfl) ⟨uX,trivial⟩
theorem wz:Ay Tryz.prog 76 Ku.S:=lF follows Tryz.func76 (by kernel_rfl) (t8:=[]) (by kernel_rfl) trivial
theorem fI:Ay Tryz.prog 29 Ib.S:=lF follows Tryz.func29 (by kernel_rfl) (t8:=[(74,Ke.S),(75,Kf.S),(76,Ku.S)]) (by kernel_rfl) ⟨tg,sV,wz,trivial⟩
theorem xm:Ay Tryz.prog 77 Ky.S:=lF follows Tryz.func77 (by kernel_rfl) (t8:=[]) (by kernel_rfl) trivial
theorem fG:Ay Tryz.prog 30 H7.S:=lF follows Tryz.func30 (by kernel_rfl) (t8:=[(77,Ky.S)]) (by kernel_rfl) ⟨xm,trivial⟩
theorem qR:Ay Tryz.prog 6 Ho.S:=lF follows Tryz.func6 (by kernel_rfl) (t8:=[(22,KA.S),(24,FE.S),(21,Lc.S),(24,FE.S),(12,Iz.S),(25,EU.S),(26,Ee.S),(24,FE.S),(25,EU.S),(27,Jn),(25,EU.S),(26,Ee.S),(27,Jn),(28,L6),(29,Ib.S),(30,H7.S),(24,FE.S),(12,Iz.S),(25,EU.S),(26,Ee.S),(29,Ib.S),(30,H7.S)]) (by kernel_rfl) ⟨xV,Vj,Zby,Vj,iQ,Vr,Y7,Vj,Vr,fJ,Vr,Y7,fJ,sP,fI,fG,Vj,iQ,Vr,Y7,fI,fG,trivial⟩
end Go.Proofs.YtbkpfpcnjpggaaaGreat
