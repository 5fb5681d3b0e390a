/-
 EACH ABSTRACT FUNCTION IS THE SEAT's OWN: checked by the kernel,function by function (written by program,ag.py).
-/
import Derived.Test.YtbkpfpcnjpggaaaGreatChecked
import Derived.KernelRfl
import Derived.Test.YtbkpfpcnjpggaaaGreatLibH
import Derived.Shelf.Sort.Plain
import Derived.Shelf.Slices.In.SortNone2
namespace Go.Proofs.YtbkpfpcnjpggaaaGreat
open Go.Ag
theorem follows:Tryz.prog.follows .mixedOrders=true:=by kernel_rfl
open Go.Shelf
def lays191_ren:Go.Shelf.Ren:=⟨fun|191=>92|189=>128|125=>143|257=>142|128=>153|129=>154|294=>144|295=>145|296=>146|297=>147|298=>148|299=>149|216=>150|300=>151|301=>152|328=>155|329=>156|330=>157|331=>158|332=>159|215=>160|343=>161|n=>n,fun|28=>45|0=>0|3=>3|46=>141|51=>168|53=>170|4=>4|183=>160|182=>159|131=>165|5=>5|9=>9|218=>171|222=>175|228=>177|229=>178|n=>n,fun|n=>n⟩
theorem lays191:Go.Proofs.Lays.n191 Tryz.prog lays191_ren:={
 mixed:=by kernel_rfl
 f125:=Tryz.func143.trans (congrArg some (by kernel_rfl))
 f128:=Tryz.func153.trans (congrArg some (by kernel_rfl))
 f129:=Tryz.func154.trans (congrArg some (by kernel_rfl))
 f189:=Tryz.func128.trans (congrArg some (by kernel_rfl))
 f191:=Tryz.func92.trans (congrArg some (by kernel_rfl))
 f215:=Tryz.func160.trans (congrArg some (by kernel_rfl))
 f216:=Tryz.func150.trans (congrArg some (by kernel_rfl))
 f257:=Tryz.func142.trans (congrArg some (by kernel_rfl))
 f294:=Tryz.func144.trans (congrArg some (by kernel_rfl))
 f295:=Tryz.func145.trans (congrArg some (by kernel_rfl))
 f296:=Tryz.func146.trans (congrArg some (by kernel_rfl))
 f297:=Tryz.func147.trans (congrArg some (by kernel_rfl))
 f298:=Tryz.func148.trans (congrArg some (by kernel_rfl))
 f299:=Tryz.func149.trans (congrArg some (by kernel_rfl))
 f300:=Tryz.func151.trans (congrArg some (by kernel_rfl))
 f301:=Tryz.func152.trans (congrArg some (by kernel_rfl))
 f328:=Tryz.func155.trans (congrArg some (by kernel_rfl))
 f329:=Tryz.func156.trans (congrArg some (by kernel_rfl))
 f330:=Tryz.func157.trans (congrArg some (by kernel_rfl))
 f331:=Tryz.func158.trans (congrArg some (by kernel_rfl))
 f332:=Tryz.func159.trans (congrArg some (by kernel_rfl))
 f343:=Tryz.func161.trans (congrArg some (by kernel_rfl))
 t0:=Tryz.underlying0
 a0:=Tryz.isAgg0
 z0:=Tryz.sizeOf0
 v0:=Tryz.zeroValue0
 t3:=Tryz.underlying3
 a3:=Tryz.isAgg3
 z3:=Tryz.sizeOf3
 v3:=Tryz.zeroValue3
 t4:=Tryz.underlying4
 a4:=Tryz.isAgg4
 z4:=Tryz.sizeOf4
 v4:=Tryz.zeroValue4
 t5:=Tryz.underlying5
 a5:=Tryz.isAgg5
 z5:=Tryz.sizeOf5
 v5:=Tryz.zeroValue5
 t9:=Tryz.underlying9
 a9:=Tryz.isAgg9
 z9:=Tryz.sizeOf9
 v9:=Tryz.zeroValue9
 t28:=Tryz.underlying45
 a28:=Tryz.isAgg45
 z28:=Tryz.sizeOf45
 v28:=Tryz.zeroValue45
 t46:=Tryz.underlying141
 a46:=Tryz.isAgg141
 z46:=Tryz.sizeOf141
 v46:=Tryz.zeroValue141
 t51:=Tryz.underlying168
 a51:=Tryz.isAgg168
 z51:=Tryz.sizeOf168
 v51:=Tryz.zeroValue168
 t53:=Tryz.underlying170
 a53:=Tryz.isAgg170
 z53:=Tryz.sizeOf170
 v53:=Tryz.zeroValue170
 t131:=Tryz.underlying165
 a131:=Tryz.isAgg165
 z131:=Tryz.sizeOf165
 v131:=Tryz.zeroValue165
 t182:=Tryz.underlying159
 a182:=Tryz.isAgg159
 z182:=Tryz.sizeOf159
 v182:=Tryz.zeroValue159
 t183:=Tryz.underlying160
 a183:=Tryz.isAgg160
 z183:=Tryz.sizeOf160
 v183:=Tryz.zeroValue160
 t218:=Tryz.underlying171
 a218:=Tryz.isAgg171
 z218:=Tryz.sizeOf171
 v218:=Tryz.zeroValue171
 t222:=Tryz.underlying175
 a222:=Tryz.isAgg175
 z222:=Tryz.sizeOf175
 v222:=Tryz.zeroValue175
 t228:=Tryz.underlying177
 a228:=Tryz.isAgg177
 z228:=Tryz.sizeOf177
 v228:=Tryz.zeroValue177
 t229:=Tryz.underlying178
 a229:=Tryz.isAgg178
 z229:=Tryz.sizeOf178
 v229:=Tryz.zeroValue178 }
theorem Zcl:Ay Tryz.prog 92 Nz:=Zc6 ⟨λX_ off cap zs w h1 h2 h3=>Go.Proofs.Any.sort_Ints lays191 X_ off cap zs w h1 h2 h3,λp cap w=>Go.Proofs.Any.sort_Ints_none lays191 p cap w⟩
theorem vW:Ay Tryz.prog 131 Ko.S:=lF follows Tryz.func131 (by kernel_rfl) (t8:=[]) (by kernel_rfl) trivial
theorem ti:Ay Tryz.prog 106 Kg.S:=lF follows Tryz.func106 (by kernel_rfl) (t8:=[(131,Ko.S)]) (by kernel_rfl) ⟨vW,trivial⟩
theorem yk:Ay Tryz.prog 60 KC.S:=lF follows Tryz.func60 (by kernel_rfl) (t8:=[(106,Kg.S)]) (by kernel_rfl) ⟨ti,trivial⟩
theorem zg:Ay Tryz.prog 107 KW.S:=lF follows Tryz.func107 (by kernel_rfl) (t8:=[]) (by kernel_rfl) trivial
theorem yl:Ay Tryz.prog 61 KB.S:=lF follows Tryz.func61 (by kernel_rfl) (t8:=[(107,KW.S)]) (by kernel_rfl) ⟨zg,trivial⟩
theorem yF:Ay Tryz.prog 62 KQ.S:=lF follows Tryz.func62 (by kernel_rfl) (t8:=[]) (by kernel_rfl) trivial
theorem xt:Ay Tryz.prog 22 Kz.S:=lF follows Tryz.func22 (by kernel_rfl) (t8:=[(60,KC.S),(61,KB.S),(62,KQ.S)]) (by kernel_rfl) ⟨yk,yl,yF,trivial⟩
theorem gx:Ay Tryz.prog 134 Im.S:=lF follows Tryz.func134 (by kernel_rfl) (t8:=[]) (by kernel_rfl) trivial
theorem vG:Ay Tryz.prog 132 Kq.S:=lF follows Tryz.func132 (by kernel_rfl) (t8:=[(134,Im.S)]) (by kernel_rfl) ⟨gx,trivial⟩
theorem td:Ay Tryz.prog 108 Kj.S:=lF follows Tryz.func108 (by kernel_rfl) (t8:=[(132,Kq.S)]) (by kernel_rfl) ⟨vG,trivial⟩
theorem xx:Ay Tryz.prog 64 KG.S:=lF follows Tryz.func64 (by kernel_rfl) (t8:=[(108,Kj.S)]) (by kernel_rfl) ⟨td,trivial⟩
theorem Za4:Ay Tryz.prog 133 KZ.S:=lF follows Tryz.func133 (by kernel_rfl) (t8:=[]) (by kernel_rfl) trivial
theorem za:Ay Tryz.prog 109 KS.S:=lF follows Tryz.func109 (by kernel_rfl) (t8:=[(133,KZ.S)]) (by kernel_rfl) ⟨Za4,trivial⟩
theorem ya:Ay Tryz.prog 65 KL.S:=lF follows Tryz.func65 (by kernel_rfl) (t8:=[(109,KS.S)]) (by kernel_rfl) ⟨za,trivial⟩
theorem ZaM:Ay Tryz.prog 110 K5.S:=lF follows Tryz.func110 (by kernel_rfl) (t8:=[(134,Im.S)]) (by kernel_rfl) ⟨gx,trivial⟩
theorem z6:Ay Tryz.prog 66 KX.S:=lF follows Tryz.func66 (by kernel_rfl) (t8:=[(110,K5.S)]) (by kernel_rfl) ⟨ZaM,trivial⟩
theorem Vi:Ay Tryz.prog 24 FE.S:=lF follows Tryz.func24 (by kernel_rfl) (t8:=[(64,KG.S),(65,KL.S),(66,KX.S)]) (by kernel_rfl) ⟨xx,ya,z6,trivial⟩
theorem Gc:Ay Tryz.prog 49 BR.S:=lF follows Tryz.func49 (by kernel_rfl) (t8:=[]) (by kernel_rfl) trivial
theorem Vh:Ay Tryz.prog 129 Ef.S:=lF follows Tryz.func129 (by kernel_rfl) (t8:=[(49,BR.S),(49,BR.S),(49,BR.S),(49,BR.S)]) (by kernel_rfl) ⟨Gc,Gc,Gc,Gc,trivial⟩
theorem gM:Ay Tryz.prog 94 Ip.S:=lF follows Tryz.func94 (by kernel_rfl) (t8:=[(129,Ef.S),(49,BR.S),(49,BR.S)]) (by kernel_rfl) ⟨Vh,Gc,Gc,trivial⟩
theorem Y3:Ay Tryz.prog 99 FC.S:=lF follows Tryz.func99 (by kernel_rfl) (t8:=[(129,Ef.S)]) (by kernel_rfl) ⟨Vh,trivial⟩
theorem VR:Ay Tryz.prog 95 Eg.S:=lF follows Tryz.func95 (by kernel_rfl) (t8:=[(49,BR.S),(129,Ef.S),(99,FC.S)]) (by kernel_rfl) ⟨Gc,Vh,Y3,trivial⟩
theorem iG:Ay Tryz.prog 103 It.S:=lF follows Tryz.func103 (by kernel_rfl) (t8:=[]) (by kernel_rfl) trivial
theorem Zl:Ay Tryz.prog 101 FF.S:=lF follows Tryz.func101 (by kernel_rfl) (t8:=[]) (by kernel_rfl) trivial
theorem gf:Ay Tryz.prog 63 Ih.S:=lF follows Tryz.func63 (by kernel_rfl) (t8:=[]) (by kernel_rfl) trivial
theorem gS:Ay Tryz.prog 96 GM.S:=lF follows Tryz.func96 (by kernel_rfl) (t8:=[(103,It.S),(49,BR.S),(101,FF.S),(129,Ef.S),(101,FF.S),(63,Ih.S)]) (by kernel_rfl) ⟨iG,Gc,Zl,Vh,Zl,gf,trivial⟩
theorem yg:Ay Tryz.prog 48 KH.S:=lF follows Tryz.func48 (by kernel_rfl) (t8:=[(94,Ip.S),(95,Eg.S),(96,GM.S),(49,BR.S),(49,BR.S)]) (by kernel_rfl) ⟨gM,VR,gS,Gc,Gc,trivial⟩
theorem Zap:Ay Tryz.prog 50 Is.S:=lF follows Tryz.func50 (by kernel_rfl) (t8:=[]) (by kernel_rfl) trivial
theorem Za3:Ay Tryz.prog 97 La.S:=lF follows Tryz.func97 (by kernel_rfl) (t8:=[]) (by kernel_rfl) trivial
theorem ZaC:Ay Tryz.prog 51 K0.S:=lF follows Tryz.func51 (by kernel_rfl) (t8:=[(97,La.S)]) (by kernel_rfl) ⟨Za3,trivial⟩
theorem xR:Ay Tryz.prog 53 KE.S:=lF follows Tryz.func53 (by kernel_rfl) (t8:=[(49,BR.S),(95,Eg.S)]) (by kernel_rfl) ⟨Gc,VR,trivial⟩
theorem Zae:Ay Tryz.prog 98 KT.S:=lF follows Tryz.func98 (by kernel_rfl) (t8:=[(94,Ip.S),(49,BR.S)]) (by kernel_rfl) ⟨gM,Gc,trivial⟩
theorem yp:Ay Tryz.prog 52 KM.S:=lF follows Tryz.func52 (by kernel_rfl) (t8:=[(98,KT.S)]) (by kernel_rfl) ⟨Zae,trivial⟩
theorem Za8:Ay Tryz.prog 54 Lb.S:=lF follows Tryz.func54 (by kernel_rfl) (t8:=[(99,FC.S)]) (by kernel_rfl) ⟨Y3,trivial⟩
theorem Zbq:Ay Tryz.prog 55 Le.S:=lF follows Tryz.func55 (by kernel_rfl) (t8:=[(99,FC.S)]) (by kernel_rfl) ⟨Y3,trivial⟩
theorem tn:Ay Tryz.prog 130 Kf.S:=lF follows Tryz.func130 (by kernel_rfl) (t8:=[(49,BR.S)]) (by kernel_rfl) ⟨Gc,trivial⟩
theorem k_spec_l9Key:E6 Tryz.prog Tryz.f100 Mh.er.er=true:=by kernel_rfl
theorem o_spec_l9Key:E8 Tryz.prog Tryz.f100 Mh.er.er=[(130,Kf.S)]:=by kernel_rfl
theorem Zbt:Ay Tryz.prog 100 PF:=by unfold PF;exact F9 follows Tryz.func100 k_spec_l9Key o_spec_l9Key ⟨tn,trivial⟩
theorem k_spec_l9Settle:E6 Tryz.prog Tryz.f56 Ma.er.er=true:=by kernel_rfl
theorem o_spec_l9Settle:E8 Tryz.prog Tryz.f56 Ma.er.er=[(100,PF)]:=by kernel_rfl
theorem yc:Ay Tryz.prog 56 Po:=by unfold Po;exact F9 follows Tryz.func56 k_spec_l9Settle o_spec_l9Settle ⟨Zbt,trivial⟩
theorem Zm:Ay Tryz.prog 58 GI.S:=lF follows Tryz.func58 (by kernel_rfl) (t8:=[(95,Eg.S)]) (by kernel_rfl) ⟨VR,trivial⟩
theorem gO:Ay Tryz.prog 102 Il.S:=lF follows Tryz.func102 (by kernel_rfl) (t8:=[(58,GI.S)]) (by kernel_rfl) ⟨Zm,trivial⟩
theorem q7:Ay Tryz.prog 57 J6.S:=lF follows Tryz.func57 (by kernel_rfl) (t8:=[(95,Eg.S),(96,GM.S),(101,FF.S),(102,Il.S),(103,It.S),(63,Ih.S),(102,Il.S)]) (by kernel_rfl) ⟨VR,gS,Zl,gO,iG,gf,gO,trivial⟩
theorem sX:Ay Tryz.prog 104 Kc.S:=lF follows Tryz.func104 (by kernel_rfl) (t8:=[]) (by kernel_rfl) trivial
theorem ZaK:Ay Tryz.prog 105 K3.S:=lF follows Tryz.func105 (by kernel_rfl) (t8:=[]) (by kernel_rfl) trivial
theorem vZ:Ay Tryz.prog 59 Ks.S:=lF follows Tryz.func59 (by kernel_rfl) (t8:=[(104,Kc.S),(105,K3.S)]) (by kernel_rfl) ⟨sX,ZaK,trivial⟩
theorem Zbj:Ay Tryz.prog 21 Lf.S:=lF follows Tryz.func21 (by kernel_rfl) (t8:=[(48,KH.S),(49,BR.S),(50,Is.S),(51,K0.S),(53,KE.S),(52,KM.S),(54,Lb.S),(55,Le.S),(56,Po),(57,J6.S),(58,GI.S),(58,GI.S),(59,Ks.S)]) (by kernel_rfl) ⟨yg,Gc,Zap,ZaC,xR,yp,Za8,Zbq,yc,q7,Zm,Zm,vZ,trivial⟩
theorem Zy:Ay Tryz.prog 125 FI.S:=lF follows Tryz.func125 (by kernel_rfl) (t8:=[]) (by kernel_rfl) trivial
theorem ZC:Ay Tryz.prog 126 Eh.S:=lF follows Tryz.func126 (by kernel_rfl) (t8:=[]) (by kernel_rfl) trivial
theorem gW:Ay Tryz.prog 127 FG.S:=lF follows Tryz.func127 (by kernel_rfl) (t8:=[]) (by kernel_rfl) trivial
theorem Vr:Ay Tryz.prog 88 EX.S:=lF follows Tryz.func88 (by kernel_rfl) (t8:=[(125,FI.S),(126,Eh.S),(127,FG.S),(125,FI.S),(126,Eh.S),(125,FI.S),(127,FG.S),(126,Eh.S)]) (by kernel_rfl) ⟨Zy,ZC,gW,Zy,ZC,Zy,gW,ZC,trivial⟩
theorem xI:Ay Tryz.prog 40 KJ.S:=lF follows Tryz.func40 (by kernel_rfl) (t8:=[(88,EX.S)]) (by kernel_rfl) ⟨Vr,trivial⟩
theorem j4:Ay Tryz.prog 89 GR.S:=lF follows Tryz.func89 (by kernel_rfl) (t8:=[]) (by kernel_rfl) trivial
theorem VO:Ay Tryz.prog 41 EY.S:=lF follows Tryz.func41 (by kernel_rfl) (t8:=[(89,GR.S),(88,EX.S)]) (by kernel_rfl) ⟨j4,Vr,trivial⟩
theorem iq:Ay Tryz.prog 90 Iw.S:=lF follows Tryz.func90 (by kernel_rfl) (t8:=[]) (by kernel_rfl) trivial
theorem gT:Ay Tryz.prog 42 GN.S:=lF follows Tryz.func42 (by kernel_rfl) (t8:=[(90,Iw.S),(88,EX.S)]) (by kernel_rfl) ⟨iq,Vr,trivial⟩
theorem yh:Ay Tryz.prog 13 KA.S:=lF follows Tryz.func13 (by kernel_rfl) (t8:=[(40,KJ.S),(41,EY.S),(42,GN.S)]) (by kernel_rfl) ⟨xI,VO,gT,trivial⟩
theorem ZaD:Ay Tryz.prog 11 Iv.S:=lF follows Tryz.func11 (by kernel_rfl) (t8:=[]) (by kernel_rfl) trivial
theorem tl:Ay Tryz.prog 118 Ke.S:=lF follows Tryz.func118 (by kernel_rfl) (t8:=[]) (by kernel_rfl) trivial
theorem tc:Ay Tryz.prog 119 Kh.S:=lF follows Tryz.func119 (by kernel_rfl) (t8:=[]) (by kernel_rfl) trivial
theorem tN:Ay Tryz.prog 78 Kk.S:=lF follows Tryz.func78 (by kernel_rfl) (t8:=[(118,Ke.S),(119,Kh.S)]) (by kernel_rfl) ⟨tl,tc,trivial⟩
theorem xw:Ay Tryz.prog 20 KF.S:=lF follows Tryz.func20 (by kernel_rfl) (t8:=[(41,EY.S)]) (by kernel_rfl) ⟨VO,trivial⟩
theorem yX:Ay Tryz.prog 83 KV.S:=lF follows Tryz.func83 (by kernel_rfl) (t8:=[(89,GR.S)]) (by kernel_rfl) ⟨j4,trivial⟩
theorem gi:Ay Tryz.prog 46 Ig.S:=lF follows Tryz.func46 (by kernel_rfl) (t8:=[(88,EX.S)]) (by kernel_rfl) ⟨Vr,trivial⟩
theorem Zas:Ay Tryz.prog 84 K8.S:=lF follows Tryz.func84 (by kernel_rfl) (t8:=[(46,Ig.S)]) (by kernel_rfl) ⟨gi,trivial⟩
theorem Zbz:Ay Tryz.prog 18 Lc.S:=lF follows Tryz.func18 (by kernel_rfl) (t8:=[(46,Ig.S)]) (by kernel_rfl) ⟨gi,trivial⟩
theorem uq:Ay Tryz.prog 123 Ie.S:=lF follows Tryz.func123 (by kernel_rfl) (t8:=[]) (by kernel_rfl) trivial
theorem k_impl_settle:E6 Tryz.prog Tryz.f85 Me.er.er=true:=by kernel_rfl
theorem o_impl_settle:E8 Tryz.prog Tryz.f85 Me.er.er=[(123,Ie.S)]:=by kernel_rfl
theorem Za2:Ay Tryz.prog 85 PE:=by unfold PE;exact F9 follows Tryz.func85 k_impl_settle o_impl_settle ⟨uq,trivial⟩
theorem gH:Ay Tryz.prog 91 Io.S:=lF follows Tryz.func91 (by kernel_rfl) (t8:=[]) (by kernel_rfl) trivial
theorem Zak:Ay Tryz.prog 93 Iu.S:=lF follows Tryz.func93 (by kernel_rfl) (t8:=[]) (by kernel_rfl) trivial
theorem ia:Ay Tryz.prog 45 Ir.S:=lF follows Tryz.func45 (by kernel_rfl) (t8:=[(91,Io.S),(92,Nz),(93,Iu.S)]) (by kernel_rfl) ⟨gH,Zcl,Zak,trivial⟩
theorem Zn:Ay Tryz.prog 17 GK.S:=lF follows Tryz.func17 (by kernel_rfl) (t8:=[(41,EY.S),(45,Ir.S)]) (by kernel_rfl) ⟨VO,ia,trivial⟩
theorem gk:Ay Tryz.prog 124 Ii.S:=lF follows Tryz.func124 (by kernel_rfl) (t8:=[(91,Io.S),(45,Ir.S)]) (by kernel_rfl) ⟨gH,ia,trivial⟩
theorem qP:Ay Tryz.prog 86 J5.S:=lF follows Tryz.func86 (by kernel_rfl) (t8:=[(41,EY.S),(42,GN.S),(17,GK.S),(124,Ii.S),(90,Iw.S),(124,Ii.S)]) (by kernel_rfl) ⟨VO,gT,Zn,gk,iq,gk,trivial⟩
theorem xu:Ay Tryz.prog 44 Ik.S:=lF follows Tryz.func44 (by kernel_rfl) (t8:=[]) (by kernel_rfl) trivial
theorem tF:Ay Tryz.prog 16 Hp.S:=lF follows Tryz.func16 (by kernel_rfl) (t8:=[(44,Ik.S)]) (by kernel_rfl) ⟨xu,trivial⟩
theorem k_impl_changedReports:E6 Tryz.prog Tryz.f87 YA=true:=by kernel_rfl
theorem o_impl_changedReports:E8 Tryz.prog Tryz.f87 YA=[(16,Hp.S)]:=by kernel_rfl
theorem ql:Ay Tryz.prog 87 Ng:=by unfold Ng;exact F9 follows Tryz.func87 k_impl_changedReports o_impl_changedReports ⟨tF,trivial⟩
theorem Zbo:Ay Tryz.prog 39 Lg.S:=lF follows Tryz.func39 (by kernel_rfl) (t8:=[(78,Kk.S),(20,KF.S),(83,KV.S),(84,K8.S),(18,Lc.S),(85,PE),(86,J5.S),(17,GK.S),(17,GK.S),(87,Ng)]) (by kernel_rfl) ⟨tN,xw,yX,Zas,Zbz,Za2,qP,Zn,Zn,ql,trivial⟩
theorem iV:Ay Tryz.prog 12 Iz.S:=lF follows Tryz.func12 (by kernel_rfl) (t8:=[(13,KA.S),(11,Iv.S),(39,Lg.S)]) (by kernel_rfl) ⟨yh,ZaD,Zbo,trivial⟩
theorem gz:Ay Tryz.prog 137 Ij.S:=lF follows Tryz.func137 (by kernel_rfl) (t8:=[]) (by kernel_rfl) trivial
theorem wB:Ay Tryz.prog 135 Kx.S:=lF follows Tryz.func135 (by kernel_rfl) (t8:=[(137,Ij.S)]) (by kernel_rfl) ⟨gz,trivial⟩
theorem tV:Ay Tryz.prog 111 Kl.S:=lF follows Tryz.func111 (by kernel_rfl) (t8:=[(135,Kx.S)]) (by kernel_rfl) ⟨wB,trivial⟩
theorem yf:Ay Tryz.prog 67 KI.S:=lF follows Tryz.func67 (by kernel_rfl) (t8:=[(111,Kl.S)]) (by kernel_rfl) ⟨tV,trivial⟩
theorem ZaJ:Ay Tryz.prog 136 K7.S:=lF follows Tryz.func136 (by kernel_rfl) (t8:=[]) (by kernel_rfl) trivial
theorem zi:Ay Tryz.prog 112 KO.S:=lF follows Tryz.func112 (by kernel_rfl) (t8:=[(136,K7.S)]) (by kernel_rfl) ⟨ZaJ,trivial⟩
theorem yx:Ay Tryz.prog 68 KK.S:=lF follows Tryz.func68 (by kernel_rfl) (t8:=[(112,KO.S)]) (by kernel_rfl) ⟨zi,trivial⟩
theorem ZaH:Ay Tryz.prog 113 K4.S:=lF follows Tryz.func113 (by kernel_rfl) (t8:=[(137,Ij.S)]) (by kernel_rfl) ⟨gz,trivial⟩
theorem z8:Ay Tryz.prog 69 KU.S:=lF follows Tryz.func69 (by kernel_rfl) (t8:=[(113,K4.S)]) (by kernel_rfl) ⟨ZaH,trivial⟩
theorem Ve:Ay Tryz.prog 25 ET.S:=lF follows Tryz.func25 (by kernel_rfl) (t8:=[(67,KI.S),(68,KK.S),(69,KU.S)]) (by kernel_rfl) ⟨yf,yx,z8,trivial⟩
theorem ZaS:Ay Tryz.prog 34 KY.S:=lF follows Tryz.func34 (by kernel_rfl) (t8:=[]) (by kernel_rfl) trivial
theorem yw:Ay Tryz.prog 70 Ky.S:=lF follows Tryz.func70 (by kernel_rfl) (t8:=[(34,KY.S)]) (by kernel_rfl) ⟨ZaS,trivial⟩
theorem Zg:Ay Tryz.prog 26 Ee.S:=lF follows Tryz.func26 (by kernel_rfl) (t8:=[(70,Ky.S)]) (by kernel_rfl) ⟨yw,trivial⟩
theorem k_laws_markActionS:E6 Tryz.prog Tryz.f138 YP=true:=by kernel_rfl
theorem o_laws_markActionS:E8 Tryz.prog Tryz.f138 YP=[]:=by kernel_rfl
theorem rJ:Ay Tryz.prog 138 O5:=by unfold O5;exact F9 follows Tryz.func138 k_laws_markActionS o_laws_markActionS trivial
theorem k_laws_markActionSS:E6 Tryz.prog Tryz.f114 YE=true:=by kernel_rfl
theorem o_laws_markActionSS:E8 Tryz.prog Tryz.f114 YE=[(138,O5)]:=by kernel_rfl
theorem qU:Ay Tryz.prog 114 OY:=by unfold OY;exact F9 follows Tryz.func114 k_laws_markActionSS o_laws_markActionSS ⟨rJ,trivial⟩
theorem k_laws_markKeymap:E6 Tryz.prog Tryz.f71 YT=true:=by kernel_rfl
theorem o_laws_markKeymap:E8 Tryz.prog Tryz.f71 YT=[(114,OY)]:=by kernel_rfl
theorem uj:Ay Tryz.prog 71 Nn:=by unfold Nn;exact F9 follows Tryz.func71 k_laws_markKeymap o_laws_markKeymap ⟨qU,trivial⟩
theorem k_laws_markStepS:E6 Tryz.prog Tryz.f115 Y4=true:=by kernel_rfl
theorem o_laws_markStepS:E8 Tryz.prog Tryz.f115 Y4=[]:=by kernel_rfl
theorem uE:Ay Tryz.prog 115 Pe:=by unfold Pe;exact F9 follows Tryz.func115 k_laws_markStepS o_laws_markStepS trivial
theorem k_laws_markStepSS:E6 Tryz.prog Tryz.f72 YW=true:=by kernel_rfl
theorem o_laws_markStepSS:E8 Tryz.prog Tryz.f72 YW=[(115,Pe)]:=by kernel_rfl
theorem tz:Ay Tryz.prog 72 Pc:=by unfold Pc;exact F9 follows Tryz.func72 k_laws_markStepSS o_laws_markStepSS ⟨uE,trivial⟩
theorem k_laws_markHeldS:E6 Tryz.prog Tryz.f73 Zd=true:=by kernel_rfl
theorem o_laws_markHeldS:E8 Tryz.prog Tryz.f73 Zd=[]:=by kernel_rfl
theorem v8:Ay Tryz.prog 73 Pn:=by unfold Pn;exact F9 follows Tryz.func73 k_laws_markHeldS o_laws_markHeldS trivial
theorem k_laws_markEngine:E6 Tryz.prog Tryz.f27 YX=true:=by kernel_rfl
theorem o_laws_markEngine:E8 Tryz.prog Tryz.f27 YX=[(71,Nn),(72,Pc),(73,Pn)]:=by kernel_rfl
theorem fJ:Ay Tryz.prog 27 Jn:=by unfold Jn;exact F9 follows Tryz.func27 k_laws_markEngine o_laws_markEngine ⟨uj,tz,v8,trivial⟩
theorem k_laws_markIntS:E6 Tryz.prog Tryz.f35 Zo=true:=by kernel_rfl
theorem o_laws_markIntS:E8 Tryz.prog Tryz.f35 Zo=[]:=by kernel_rfl
theorem xX:Ay Tryz.prog 35 Pr:=by unfold Pr;exact F9 follows Tryz.func35 k_laws_markIntS o_laws_markIntS trivial
theorem k_laws_markReportS:E6 Tryz.prog Tryz.f28 YL=true:=by kernel_rfl
theorem o_laws_markReportS:E8 Tryz.prog Tryz.f28 YL=[(35,Pr)]:=by kernel_rfl
theorem ss:Ay Tryz.prog 28 L5:=by unfold L5;exact F9 follows Tryz.func28 k_laws_markReportS o_laws_markReportS ⟨xX,trivial⟩
theorem rH:Ay Tryz.prog 139 J8.S:=lF follows Tryz.func139 (by kernel_rfl) (t8:=[]) (by kernel_rfl) trivial
theorem qR:Ay Tryz.prog 116 J4.S:=lF follows Tryz.func116 (by kernel_rfl) (t8:=[(139,J8.S)]) (by kernel_rfl) ⟨rH,trivial⟩
theorem tI:Ay Tryz.prog 74 Km.S:=lF follows Tryz.func74 (by kernel_rfl) (t8:=[(116,J4.S)]) (by kernel_rfl) ⟨qR,trivial⟩
theorem wH:Ay Tryz.prog 117 Kt.S:=lF follows Tryz.func117 (by kernel_rfl) (t8:=[]) (by kernel_rfl) trivial
theorem um:Ay Tryz.prog 75 Ki.S:=lF follows Tryz.func75 (by kernel_rfl) (t8:=[(117,Kt.S)]) (by kernel_rfl) ⟨wH,trivial⟩
theorem vQ:Ay Tryz.prog 76 Kr.S:=lF follows Tryz.func76 (by kernel_rfl) (t8:=[]) (by kernel_rfl) trivial
theorem fK:Ay Tryz.prog 29 Ib.S:=lF follows Tryz.func29 (by kernel_rfl) (t8:=[(74,Km.S),(75,Ki.S),(76,Kr.S)]) (by kernel_rfl) ⟨tI,um,vQ,trivial⟩
theorem xZ:Ay Tryz.prog 77 KD.S:=lF follows Tryz.func77 (by kernel_rfl) (t8:=[]) (by kernel_rfl) trivial
theorem fE:Ay Tryz.prog 30 H9.S:=lF follows Tryz.func30 (by kernel_rfl) (t8:=[(77,KD.S)]) (by kernel_rfl) ⟨xZ,trivial⟩
theorem qX:Ay Tryz.prog 6 Ho.S:=lF follows Tryz.func6 (by kernel_rfl) (t8:=[(22,Kz.S),(24,FE.S),(21,Lf.S),(24,FE.S),(12,Iz.S),(25,ET.S),(26,Ee.S),(24,FE.S),(25,ET.S),(27,Jn),(25,ET.S),(26,Ee.S),(27,Jn),(28,L5),(29,Ib.S),(30,H9.S),(24,FE.S),(12,Iz.S),(25,ET.S),(26,Ee.S),(29,Ib.S),(30,H9.S)]) (by kernel_rfl) ⟨xt,Vi,Zbj,Vi,iV,Ve,Zg,Vi,Ve,fJ,Ve,Zg,fJ,ss,fK,fE,Vi,iV,Ve,Zg,fK,fE,trivial⟩
end Go.Proofs.YtbkpfpcnjpggaaaGreat
