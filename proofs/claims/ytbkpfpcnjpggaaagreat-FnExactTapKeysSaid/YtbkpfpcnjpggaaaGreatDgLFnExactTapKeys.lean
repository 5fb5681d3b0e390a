/-
 EACH ABSTRACT FUNCTION IS THE SEAT's OWN: checked by the kernel,function by function (written by program,ag.py).
-/
import Derived.Test.YtbkpfpcnjpggaaaGreatChecked
import Derived.KernelRfl
import Derived.Test.YtbkpfpcnjpggaaaGreatLibI
import Derived.Shelf.Sort.Plain
import Derived.Shelf.Slices.In.SortNone2
namespace Go.Proofs.YtbkpfpcnjpggaaaGreat
open Go.Ag
theorem follows:Tryz.prog.follows .mixedOrders=true:=by kernel_rfl
open Go.Shelf
def lays191_ren:Go.Shelf.Ren:=⟨fun|191=>92|189=>128|125=>143|257=>142|128=>153|129=>154|294=>144|295=>145|296=>146|297=>147|298=>148|299=>149|216=>150|300=>151|301=>152|328=>155|329=>156|330=>157|331=>158|332=>159|215=>160|343=>161|n=>n,fun|28=>45|0=>0|3=>3|46=>141|51=>168|53=>170|4=>4|183=>160|182=>159|131=>165|5=>5|9=>9|218=>171|222=>175|228=>177|229=>178|n=>n,fun|n=>n⟩
theorem lays191:Go.Proofs.Lays.n191 Tryz.prog lays191_ren:={
 mixed:=by kernel_rfl
 f125:=Tryz.func143.trans (congrArg some (by kernel_rfl))
 f128:=Tryz.func153.trans (congrArg some (by kernel_rfl))
 f129:=Tryz.func154.trans (congrArg some (by kernel_rfl))
 f189:=Tryz.func128.trans (congrArg some (by kernel_rfl))
 f191:=Tryz.func92.trans (congrArg some (by kernel_rfl))
 f215:=Tryz.func160.trans (congrArg some (by kernel_rfl))
 f216:=Tryz.func150.trans (congrArg some (by kernel_rfl))
 f257:=Tryz.func142.trans (congrArg some (by kernel_rfl))
 f294:=Tryz.func144.trans (congrArg some (by kernel_rfl))
 f295:=Tryz.func145.trans (congrArg some (by kernel_rfl))
 f296:=Tryz.func146.trans (congrArg some (by kernel_rfl))
 f297:=Tryz.func147.trans (congrArg some (by kernel_rfl))
 f298:=Tryz.func148.trans (congrArg some (by kernel_rfl))
 f299:=Tryz.func149.trans (congrArg some (by kernel_rfl))
 f300:=Tryz.func151.trans (congrArg some (by kernel_rfl))
 f301:=Tryz.func152.trans (congrArg some (by kernel_rfl))
 f328:=Tryz.func155.trans (congrArg some (by kernel_rfl))
 f329:=Tryz.func156.trans (congrArg some (by kernel_rfl))
 f330:=Tryz.func157.trans (congrArg some (by kernel_rfl))
 f331:=Tryz.func158.trans (congrArg some (by kernel_rfl))
 f332:=Tryz.func159.trans (congrArg some (by kernel_rfl))
 f343:=Tryz.func161.trans (congrArg some (by kernel_rfl))
 t0:=Tryz.underlying0
 a0:=Tryz.isAgg0
 z0:=Tryz.sizeOf0
 v0:=Tryz.zeroValue0
 t3:=Tryz.underlying3
 a3:=Tryz.isAgg3
 z3:=Tryz.sizeOf3
 v3:=Tryz.zeroValue3
 t4:=Tryz.underlying4
 a4:=Tryz.isAgg4
 z4:=Tryz.sizeOf4
 v4:=Tryz.zeroValue4
 t5:=Tryz.underlying5
 a5:=Tryz.isAgg5
 z5:=Tryz.sizeOf5
 v5:=Tryz.zeroValue5
 t9:=Tryz.underlying9
 a9:=Tryz.isAgg9
 z9:=Tryz.sizeOf9
 v9:=Tryz.zeroValue9
 t28:=Tryz.underlying45
 a28:=Tryz.isAgg45
 z28:=Tryz.sizeOf45
 v28:=Tryz.zeroValue45
 t46:=Tryz.underlying141
 a46:=Tryz.isAgg141
 z46:=Tryz.sizeOf141
 v46:=Tryz.zeroValue141
 t51:=Tryz.underlying168
 a51:=Tryz.isAgg168
 z51:=Tryz.sizeOf168
 v51:=Tryz.zeroValue168
 t53:=Tryz.underlying170
 a53:=Tryz.isAgg170
 z53:=Tryz.sizeOf170
 v53:=Tryz.zeroValue170
 t131:=Tryz.underlying165
 a131:=Tryz.isAgg165
 z131:=Tryz.sizeOf165
 v131:=Tryz.zeroValue165
 t182:=Tryz.underlying159
 a182:=Tryz.isAgg159
 z182:=Tryz.sizeOf159
 v182:=Tryz.zeroValue159
 t183:=Tryz.underlying160
 a183:=Tryz.isAgg160
 z183:=Tryz.sizeOf160
 v183:=Tryz.zeroValue160
 t218:=Tryz.underlying171
 a218:=Tryz.isAgg171
 z218:=Tryz.sizeOf171
 v218:=Tryz.zeroValue171
 t222:=Tryz.underlying175
 a222:=Tryz.isAgg175
 z222:=Tryz.sizeOf175
 v222:=Tryz.zeroValue175
 t228:=Tryz.underlying177
 a228:=Tryz.isAgg177
 z228:=Tryz.sizeOf177
 v228:=Tryz.zeroValue177
 t229:=Tryz.underlying178
 a229:=Tryz.isAgg178
 z229:=Tryz.sizeOf178
 v229:=Tryz.zeroValue178 }
theorem Zdy:AA Tryz.prog 92 Ol:=Zev ⟨λY_ off cap zs w h1 h2 h3=>Go.Proofs.Any.sort_Ints lays191 Y_ off cap zs w h1 h2 h3,λp cap w=>Go.Proofs.Any.sort_Ints_none lays191 p cap w⟩
theorem wV:AA Tryz.prog 131 K3.S:=lF follows Tryz.func131 (by kernel_rfl) (t_:=[]) (by kernel_rfl) trivial
theorem wC:AA Tryz.prog 106 KU.S:=lF follows Tryz.func106 (by kernel_rfl) (t_:=[(131,K3.S)]) (by kernel_rfl) ⟨wV,trivial⟩
theorem Zaq:AA Tryz.prog 60 Lf.S:=lF follows Tryz.func60 (by kernel_rfl) (t_:=[(106,KU.S)]) (by kernel_rfl) ⟨wC,trivial⟩
theorem ZbY:AA Tryz.prog 107 Lr.S:=lF follows Tryz.func107 (by kernel_rfl) (t_:=[]) (by kernel_rfl) trivial
theorem Zau:AA Tryz.prog 61 Lb.S:=lF follows Tryz.func61 (by kernel_rfl) (t_:=[(107,Lr.S)]) (by kernel_rfl) ⟨ZbY,trivial⟩
theorem ZbB:AA Tryz.prog 62 Lo.S:=lF follows Tryz.func62 (by kernel_rfl) (t_:=[]) (by kernel_rfl) trivial
theorem zd:AA Tryz.prog 22 Le.S:=lF follows Tryz.func22 (by kernel_rfl) (t_:=[(60,Lf.S),(61,Lb.S),(62,Lo.S)]) (by kernel_rfl) ⟨Zaq,Zau,ZbB,trivial⟩
theorem jr:AA Tryz.prog 134 IY.S:=lF follows Tryz.func134 (by kernel_rfl) (t_:=[]) (by kernel_rfl) trivial
theorem xq:AA Tryz.prog 132 KZ.S:=lF follows Tryz.func132 (by kernel_rfl) (t_:=[(134,IY.S)]) (by kernel_rfl) ⟨jr,trivial⟩
theorem we:AA Tryz.prog 108 KS.S:=lF follows Tryz.func108 (by kernel_rfl) (t_:=[(132,KZ.S)]) (by kernel_rfl) ⟨xq,trivial⟩
theorem Zas:AA Tryz.prog 64 Lh.S:=lF follows Tryz.func64 (by kernel_rfl) (t_:=[(108,KS.S)]) (by kernel_rfl) ⟨we,trivial⟩
theorem Zcn:AA Tryz.prog 133 LD.S:=lF follows Tryz.func133 (by kernel_rfl) (t_:=[]) (by kernel_rfl) trivial
theorem Zbe:AA Tryz.prog 109 Lm.S:=lF follows Tryz.func109 (by kernel_rfl) (t_:=[(133,LD.S)]) (by kernel_rfl) ⟨Zcn,trivial⟩
theorem zl:AA Tryz.prog 65 K5.S:=lF follows Tryz.func65 (by kernel_rfl) (t_:=[(109,Lm.S)]) (by kernel_rfl) ⟨Zbe,trivial⟩
theorem Zct:AA Tryz.prog 110 Lz.S:=lF follows Tryz.func110 (by kernel_rfl) (t_:=[(134,IY.S)]) (by kernel_rfl) ⟨jr,trivial⟩
theorem Zbr:AA Tryz.prog 66 Lq.S:=lF follows Tryz.func66 (by kernel_rfl) (t_:=[(110,Lz.S)]) (by kernel_rfl) ⟨Zct,trivial⟩
theorem Wb:AA Tryz.prog 24 FU.S:=lF follows Tryz.func24 (by kernel_rfl) (t_:=[(64,Lh.S),(65,K5.S),(66,Lq.S)]) (by kernel_rfl) ⟨Zas,zl,Zbr,trivial⟩
theorem WO:AA Tryz.prog 32 FZ.S:=lF follows Tryz.func32 (by kernel_rfl) (t_:=[]) (by kernel_rfl) trivial
theorem Gw:AA Tryz.prog 49 B0.S:=lF follows Tryz.func49 (by kernel_rfl) (t_:=[]) (by kernel_rfl) trivial
theorem Wd:AA Tryz.prog 129 Er.S:=lF follows Tryz.func129 (by kernel_rfl) (t_:=[(49,B0.S),(49,B0.S),(49,B0.S),(49,B0.S)]) (by kernel_rfl) ⟨Gw,Gw,Gw,Gw,trivial⟩
theorem jj:AA Tryz.prog 94 I7.S:=lF follows Tryz.func94 (by kernel_rfl) (t_:=[(129,Er.S),(49,B0.S),(49,B0.S)]) (by kernel_rfl) ⟨Wd,Gw,Gw,trivial⟩
theorem aj:AA Tryz.prog 99 FR.S:=lF follows Tryz.func99 (by kernel_rfl) (t_:=[(129,Er.S)]) (by kernel_rfl) ⟨Wd,trivial⟩
theorem WK:AA Tryz.prog 95 Et.S:=lF follows Tryz.func95 (by kernel_rfl) (t_:=[(49,B0.S),(129,Er.S),(99,FR.S)]) (by kernel_rfl) ⟨Gw,Wd,aj,trivial⟩
theorem kA:AA Tryz.prog 103 Je.S:=lF follows Tryz.func103 (by kernel_rfl) (t_:=[]) (by kernel_rfl) trivial
theorem az:AA Tryz.prog 101 FT.S:=lF follows Tryz.func101 (by kernel_rfl) (t_:=[]) (by kernel_rfl) trivial
theorem Z8:AA Tryz.prog 63 G0.S:=lF follows Tryz.func63 (by kernel_rfl) (t_:=[]) (by kernel_rfl) trivial
theorem jR:AA Tryz.prog 96 G3.S:=lF follows Tryz.func96 (by kernel_rfl) (t_:=[(103,Je.S),(49,B0.S),(101,FT.S),(129,Er.S),(101,FT.S),(63,G0.S)]) (by kernel_rfl) ⟨kA,Gw,az,Wd,az,Z8,trivial⟩
theorem ax:AA Tryz.prog 48 G2.S:=lF follows Tryz.func48 (by kernel_rfl) (t_:=[(94,I7.S),(95,Et.S),(96,G3.S),(49,B0.S),(49,B0.S)]) (by kernel_rfl) ⟨jj,WK,jR,Gw,Gw,trivial⟩
theorem ke:AA Tryz.prog 50 G6.S:=lF follows Tryz.func50 (by kernel_rfl) (t_:=[]) (by kernel_rfl) trivial
theorem Zch:AA Tryz.prog 97 Lx.S:=lF follows Tryz.func97 (by kernel_rfl) (t_:=[]) (by kernel_rfl) trivial
theorem aL:AA Tryz.prog 51 G8.S:=lF follows Tryz.func51 (by kernel_rfl) (t_:=[(97,Lx.S)]) (by kernel_rfl) ⟨Zch,trivial⟩
theorem zU:AA Tryz.prog 53 K7.S:=lF follows Tryz.func53 (by kernel_rfl) (t_:=[(49,B0.S),(95,Et.S)]) (by kernel_rfl) ⟨Gw,WK,trivial⟩
theorem ZbL:AA Tryz.prog 98 Lp.S:=lF follows Tryz.func98 (by kernel_rfl) (t_:=[(94,I7.S),(49,B0.S)]) (by kernel_rfl) ⟨jj,Gw,trivial⟩
theorem Zad:AA Tryz.prog 52 Lg.S:=lF follows Tryz.func52 (by kernel_rfl) (t_:=[(98,Lp.S)]) (by kernel_rfl) ⟨ZbL,trivial⟩
theorem ZcB:AA Tryz.prog 54 Lw.S:=lF follows Tryz.func54 (by kernel_rfl) (t_:=[(99,FR.S)]) (by kernel_rfl) ⟨aj,trivial⟩
theorem ZcZ:AA Tryz.prog 55 LL.S:=lF follows Tryz.func55 (by kernel_rfl) (t_:=[(99,FR.S)]) (by kernel_rfl) ⟨aj,trivial⟩
theorem wy:AA Tryz.prog 130 KO.S:=lF follows Tryz.func130 (by kernel_rfl) (t_:=[(49,B0.S)]) (by kernel_rfl) ⟨Gw,trivial⟩
theorem k_spec_l9Key:Fi Tryz.prog Tryz.f100 ML.er.er=true:=by kernel_rfl
theorem o_spec_l9Key:Fh Tryz.prog Tryz.f100 ML.er.er=[(130,KO.S)]:=by kernel_rfl
theorem Zdk:AA Tryz.prog 100 Qx:=by unfold Qx;exact Gu follows Tryz.func100 k_spec_l9Key o_spec_l9Key ⟨wy,trivial⟩
theorem k_spec_l9Settle:Fi Tryz.prog Tryz.f56 ME.er.er=true:=by kernel_rfl
theorem o_spec_l9Settle:Fh Tryz.prog Tryz.f56 ME.er.er=[(100,Qx)]:=by kernel_rfl
theorem zT:AA Tryz.prog 56 Qb:=by unfold Qb;exact Gu follows Tryz.func56 k_spec_l9Settle o_spec_l9Settle ⟨Zdk,trivial⟩
theorem Sy:AA Tryz.prog 58 E3.S:=lF follows Tryz.func58 (by kernel_rfl) (t_:=[(95,Et.S)]) (by kernel_rfl) ⟨WK,trivial⟩
theorem jH:AA Tryz.prog 102 I0.S:=lF follows Tryz.func102 (by kernel_rfl) (t_:=[(58,E3.S)]) (by kernel_rfl) ⟨Sy,trivial⟩
theorem tR:AA Tryz.prog 57 KD.S:=lF follows Tryz.func57 (by kernel_rfl) (t_:=[(95,Et.S),(96,G3.S),(101,FT.S),(102,I0.S),(103,Je.S),(63,G0.S),(102,I0.S)]) (by kernel_rfl) ⟨WK,jR,az,jH,kA,Z8,jH,trivial⟩
theorem wx:AA Tryz.prog 104 KT.S:=lF follows Tryz.func104 (by kernel_rfl) (t_:=[]) (by kernel_rfl) trivial
theorem ZcF:AA Tryz.prog 105 LB.S:=lF follows Tryz.func105 (by kernel_rfl) (t_:=[]) (by kernel_rfl) trivial
theorem iO:AA Tryz.prog 59 IQ.S:=lF follows Tryz.func59 (by kernel_rfl) (t_:=[(104,KT.S),(105,LB.S)]) (by kernel_rfl) ⟨wx,ZcF,trivial⟩
theorem Zdf:AA Tryz.prog 21 LI.S:=lF follows Tryz.func21 (by kernel_rfl) (t_:=[(48,G2.S),(49,B0.S),(50,G6.S),(51,G8.S),(53,K7.S),(52,Lg.S),(54,Lw.S),(55,LL.S),(56,Qb),(57,KD.S),(58,E3.S),(58,E3.S),(59,IQ.S)]) (by kernel_rfl) ⟨ax,Gw,ke,aL,zU,Zad,ZcB,ZcZ,zT,tR,Sy,Sy,iO,trivial⟩
theorem ZaR:AA Tryz.prog 23 Lu.S:=lF follows Tryz.func23 (by kernel_rfl) (t_:=[(50,G6.S),(48,G2.S),(51,G8.S),(63,G0.S),(58,E3.S),(58,E3.S),(59,IQ.S)]) (by kernel_rfl) ⟨ke,ax,aL,Z8,Sy,Sy,iO,trivial⟩
theorem ZaD:AA Tryz.prog 31 Lj.S:=lF follows Tryz.func31 (by kernel_rfl) (t_:=[(21,LI.S),(23,Lu.S),(48,G2.S),(51,G8.S)]) (by kernel_rfl) ⟨Zdf,ZaR,ax,aL,trivial⟩
theorem aQ:AA Tryz.prog 125 FY.S:=lF follows Tryz.func125 (by kernel_rfl) (t_:=[]) (by kernel_rfl) trivial
theorem aM:AA Tryz.prog 126 Es.S:=lF follows Tryz.func126 (by kernel_rfl) (t_:=[]) (by kernel_rfl) trivial
theorem jW:AA Tryz.prog 127 FV.S:=lF follows Tryz.func127 (by kernel_rfl) (t_:=[]) (by kernel_rfl) trivial
theorem Wi:AA Tryz.prog 88 E2.S:=lF follows Tryz.func88 (by kernel_rfl) (t_:=[(125,FY.S),(126,Es.S),(127,FV.S),(125,FY.S),(126,Es.S),(125,FY.S),(127,FV.S),(126,Es.S)]) (by kernel_rfl) ⟨aQ,aM,jW,aQ,aM,aQ,jW,aM,trivial⟩
theorem zp:AA Tryz.prog 40 K9.S:=lF follows Tryz.func40 (by kernel_rfl) (t_:=[(88,E2.S)]) (by kernel_rfl) ⟨Wi,trivial⟩
theorem lX:AA Tryz.prog 89 Hb.S:=lF follows Tryz.func89 (by kernel_rfl) (t_:=[]) (by kernel_rfl) trivial
theorem WR:AA Tryz.prog 41 E7.S:=lF follows Tryz.func41 (by kernel_rfl) (t_:=[(89,Hb.S),(88,E2.S)]) (by kernel_rfl) ⟨lX,Wi,trivial⟩
theorem kn:AA Tryz.prog 90 Jf.S:=lF follows Tryz.func90 (by kernel_rfl) (t_:=[]) (by kernel_rfl) trivial
theorem jX:AA Tryz.prog 42 G4.S:=lF follows Tryz.func42 (by kernel_rfl) (t_:=[(90,Jf.S),(88,E2.S)]) (by kernel_rfl) ⟨kn,Wi,trivial⟩
theorem jD:AA Tryz.prog 13 IZ.S:=lF follows Tryz.func13 (by kernel_rfl) (t_:=[(40,K9.S),(41,E7.S),(42,G4.S)]) (by kernel_rfl) ⟨zp,WR,jX,trivial⟩
theorem iI:AA Tryz.prog 118 IH.S:=lF follows Tryz.func118 (by kernel_rfl) (t_:=[]) (by kernel_rfl) trivial
theorem iF:AA Tryz.prog 119 IK.S:=lF follows Tryz.func119 (by kernel_rfl) (t_:=[]) (by kernel_rfl) trivial
theorem iA:AA Tryz.prog 78 IJ.S:=lF follows Tryz.func78 (by kernel_rfl) (t_:=[(118,IH.S),(119,IK.S)]) (by kernel_rfl) ⟨iI,iF,trivial⟩
theorem vi:AA Tryz.prog 78 KK.S:=lF follows Tryz.func78 (by kernel_rfl) (t_:=[(118,IH.S),(119,IK.S)]) (by kernel_rfl) ⟨iI,iF,trivial⟩
theorem kB:AA Tryz.prog 11 G7.S:=lF follows Tryz.func11 (by kernel_rfl) (t_:=[]) (by kernel_rfl) trivial
theorem Zab:AA Tryz.prog 20 K8.S:=lF follows Tryz.func20 (by kernel_rfl) (t_:=[(41,E7.S)]) (by kernel_rfl) ⟨WR,trivial⟩
theorem Za9:AA Tryz.prog 83 Ll.S:=lF follows Tryz.func83 (by kernel_rfl) (t_:=[(89,Hb.S)]) (by kernel_rfl) ⟨lX,trivial⟩
theorem iR:AA Tryz.prog 46 IP.S:=lF follows Tryz.func46 (by kernel_rfl) (t_:=[(88,E2.S)]) (by kernel_rfl) ⟨Wi,trivial⟩
theorem Zb3:AA Tryz.prog 84 LC.S:=lF follows Tryz.func84 (by kernel_rfl) (t_:=[(46,IP.S)]) (by kernel_rfl) ⟨iR,trivial⟩
theorem Zc1:AA Tryz.prog 18 LH.S:=lF follows Tryz.func18 (by kernel_rfl) (t_:=[(46,IP.S)]) (by kernel_rfl) ⟨iR,trivial⟩
theorem wO:AA Tryz.prog 123 IM.S:=lF follows Tryz.func123 (by kernel_rfl) (t_:=[]) (by kernel_rfl) trivial
theorem k_impl_settle:Fi Tryz.prog Tryz.f85 MH.er.er=true:=by kernel_rfl
theorem o_impl_settle:Fh Tryz.prog Tryz.f85 MH.er.er=[(123,IM.S)]:=by kernel_rfl
theorem ZcI:AA Tryz.prog 85 Qv:=by unfold Qv;exact Gu follows Tryz.func85 k_impl_settle o_impl_settle ⟨wO,trivial⟩
theorem jB:AA Tryz.prog 91 IX.S:=lF follows Tryz.func91 (by kernel_rfl) (t_:=[]) (by kernel_rfl) trivial
theorem ZcS:AA Tryz.prog 93 Jc.S:=lF follows Tryz.func93 (by kernel_rfl) (t_:=[]) (by kernel_rfl) trivial
theorem jL:AA Tryz.prog 45 Ja.S:=lF follows Tryz.func45 (by kernel_rfl) (t_:=[(91,IX.S),(92,Ol),(93,Jc.S)]) (by kernel_rfl) ⟨jB,Zdy,ZcS,trivial⟩
theorem Sx:AA Tryz.prog 17 E1.S:=lF follows Tryz.func17 (by kernel_rfl) (t_:=[(41,E7.S),(45,Ja.S)]) (by kernel_rfl) ⟨WR,jL,trivial⟩
theorem ji:AA Tryz.prog 124 IU.S:=lF follows Tryz.func124 (by kernel_rfl) (t_:=[(91,IX.S),(45,Ja.S)]) (by kernel_rfl) ⟨jB,jL,trivial⟩
theorem tF:AA Tryz.prog 86 KF.S:=lF follows Tryz.func86 (by kernel_rfl) (t_:=[(41,E7.S),(42,G4.S),(17,E1.S),(124,IU.S),(90,Jf.S),(124,IU.S)]) (by kernel_rfl) ⟨WR,jX,Sx,ji,kn,ji,trivial⟩
theorem zE:AA Tryz.prog 44 IW.S:=lF follows Tryz.func44 (by kernel_rfl) (t_:=[]) (by kernel_rfl) trivial
theorem wJ:AA Tryz.prog 16 HR.S:=lF follows Tryz.func16 (by kernel_rfl) (t_:=[(44,IW.S)]) (by kernel_rfl) ⟨zE,trivial⟩
theorem k_impl_changedReports:Fi Tryz.prog Tryz.f87 Zx=true:=by kernel_rfl
theorem o_impl_changedReports:Fh Tryz.prog Tryz.f87 Zx=[(16,HR.S)]:=by kernel_rfl
theorem gF:AA Tryz.prog 87 KC:=by unfold KC;exact Gu follows Tryz.func87 k_impl_changedReports o_impl_changedReports ⟨wJ,trivial⟩
theorem Zc3:AA Tryz.prog 39 LK.S:=lF follows Tryz.func39 (by kernel_rfl) (t_:=[(78,IJ.S),(20,K8.S),(83,Ll.S),(84,LC.S),(18,LH.S),(85,Qv),(86,KF.S),(17,E1.S),(17,E1.S),(87,KC)]) (by kernel_rfl) ⟨iA,Zab,Za9,Zb3,Zc1,ZcI,tF,Sx,Sx,gF,trivial⟩
theorem ZcX:AA Tryz.prog 12 LJ.S:=lF follows Tryz.func12 (by kernel_rfl) (t_:=[(13,IZ.S),(11,G7.S),(39,LK.S)]) (by kernel_rfl) ⟨jD,kB,Zc3,trivial⟩
theorem Zbz:AA Tryz.prog 43 Ls.S:=lF follows Tryz.func43 (by kernel_rfl) (t_:=[(78,IJ.S),(11,G7.S),(17,E1.S),(17,E1.S),(87,KC)]) (by kernel_rfl) ⟨iA,kB,Sx,Sx,gF,trivial⟩
theorem j5:AA Tryz.prog 33 I9.S:=lF follows Tryz.func33 (by kernel_rfl) (t_:=[(13,IZ.S),(78,KK.S),(12,LJ.S),(43,Ls.S)]) (by kernel_rfl) ⟨jD,vi,ZcX,Zbz,trivial⟩
theorem ju:AA Tryz.prog 137 IV.S:=lF follows Tryz.func137 (by kernel_rfl) (t_:=[]) (by kernel_rfl) trivial
theorem yA:AA Tryz.prog 135 KW.S:=lF follows Tryz.func135 (by kernel_rfl) (t_:=[(137,IV.S)]) (by kernel_rfl) ⟨ju,trivial⟩
theorem vM:AA Tryz.prog 111 KR.S:=lF follows Tryz.func111 (by kernel_rfl) (t_:=[(135,KW.S)]) (by kernel_rfl) ⟨yA,trivial⟩
theorem Zal:AA Tryz.prog 67 La.S:=lF follows Tryz.func67 (by kernel_rfl) (t_:=[(111,KR.S)]) (by kernel_rfl) ⟨vM,trivial⟩
theorem Zcv:AA Tryz.prog 136 Lv.S:=lF follows Tryz.func136 (by kernel_rfl) (t_:=[]) (by kernel_rfl) trivial
theorem ZbF:AA Tryz.prog 112 Ln.S:=lF follows Tryz.func112 (by kernel_rfl) (t_:=[(136,Lv.S)]) (by kernel_rfl) ⟨Zcv,trivial⟩
theorem zO:AA Tryz.prog 68 Ld.S:=lF follows Tryz.func68 (by kernel_rfl) (t_:=[(112,Ln.S)]) (by kernel_rfl) ⟨ZbF,trivial⟩
theorem Zcg:AA Tryz.prog 113 LA.S:=lF follows Tryz.func113 (by kernel_rfl) (t_:=[(137,IV.S)]) (by kernel_rfl) ⟨ju,trivial⟩
theorem Za8:AA Tryz.prog 69 Lt.S:=lF follows Tryz.func69 (by kernel_rfl) (t_:=[(113,LA.S)]) (by kernel_rfl) ⟨Zcg,trivial⟩
theorem Wm:AA Tryz.prog 25 E4.S:=lF follows Tryz.func25 (by kernel_rfl) (t_:=[(67,La.S),(68,Ld.S),(69,Lt.S)]) (by kernel_rfl) ⟨Zal,zO,Za8,trivial⟩
theorem kC:AA Tryz.prog 34 Jd.S:=lF follows Tryz.func34 (by kernel_rfl) (t_:=[]) (by kernel_rfl) trivial
theorem Zag:AA Tryz.prog 70 K6.S:=lF follows Tryz.func70 (by kernel_rfl) (t_:=[(34,Jd.S)]) (by kernel_rfl) ⟨kC,trivial⟩
theorem ZZ:AA Tryz.prog 26 Ep.S:=lF follows Tryz.func26 (by kernel_rfl) (t_:=[(70,K6.S)]) (by kernel_rfl) ⟨Zag,trivial⟩
theorem k_laws_markActionS:Fi Tryz.prog Tryz.f138 ZJ=true:=by kernel_rfl
theorem o_laws_markActionS:Fh Tryz.prog Tryz.f138 ZJ=[]:=by kernel_rfl
theorem vj:AA Tryz.prog 138 PM:=by unfold PM;exact Gu follows Tryz.func138 k_laws_markActionS o_laws_markActionS trivial
theorem k_laws_markActionSS:Fi Tryz.prog Tryz.f114 ZA=true:=by kernel_rfl
theorem o_laws_markActionSS:Fh Tryz.prog Tryz.f114 ZA=[(138,PM)]:=by kernel_rfl
theorem tN:AA Tryz.prog 114 PG:=by unfold PG;exact Gu follows Tryz.func114 k_laws_markActionSS o_laws_markActionSS ⟨vj,trivial⟩
theorem k_laws_markKeymap:Fi Tryz.prog Tryz.f71 ZP=true:=by kernel_rfl
theorem o_laws_markKeymap:Fh Tryz.prog Tryz.f71 ZP=[(114,PG)]:=by kernel_rfl
theorem wM:AA Tryz.prog 71 N4:=by unfold N4;exact Gu follows Tryz.func71 k_laws_markKeymap o_laws_markKeymap ⟨tN,trivial⟩
theorem k_laws_markStepS:Fi Tryz.prog Tryz.f115 Z9=true:=by kernel_rfl
theorem o_laws_markStepS:Fh Tryz.prog Tryz.f115 Z9=[]:=by kernel_rfl
theorem yk:AA Tryz.prog 115 P7:=by unfold P7;exact Gu follows Tryz.func115 k_laws_markStepS o_laws_markStepS trivial
theorem k_laws_markStepSS:Fi Tryz.prog Tryz.f72 ZY=true:=by kernel_rfl
theorem o_laws_markStepSS:Fh Tryz.prog Tryz.f72 ZY=[(115,P7)]:=by kernel_rfl
theorem wG:AA Tryz.prog 72 PU:=by unfold PU;exact Gu follows Tryz.func72 k_laws_markStepSS o_laws_markStepSS ⟨yk,trivial⟩
theorem k_laws_markHeldS:Fi Tryz.prog Tryz.f73 ah=true:=by kernel_rfl
theorem o_laws_markHeldS:Fh Tryz.prog Tryz.f73 ah=[]:=by kernel_rfl
theorem wR:AA Tryz.prog 73 P4:=by unfold P4;exact Gu follows Tryz.func73 k_laws_markHeldS o_laws_markHeldS trivial
theorem k_laws_markEngine:Fi Tryz.prog Tryz.f27 ZU=true:=by kernel_rfl
theorem o_laws_markEngine:Fh Tryz.prog Tryz.f27 ZU=[(71,N4),(72,PU),(73,P4)]:=by kernel_rfl
theorem iH:AA Tryz.prog 27 JU:=by unfold JU;exact Gu follows Tryz.func27 k_laws_markEngine o_laws_markEngine ⟨wM,wG,wR,trivial⟩
theorem k_laws_markIntS:Fi Tryz.prog Tryz.f35 al=true:=by kernel_rfl
theorem o_laws_markIntS:Fh Tryz.prog Tryz.f35 al=[]:=by kernel_rfl
theorem jG:AA Tryz.prog 35 JX:=by unfold JX;exact Gu follows Tryz.func35 k_laws_markIntS o_laws_markIntS trivial
theorem k_laws_markReportS:Fi Tryz.prog Tryz.f28 ZD=true:=by kernel_rfl
theorem o_laws_markReportS:Fh Tryz.prog Tryz.f28 ZD=[(35,JX)]:=by kernel_rfl
theorem uQ:AA Tryz.prog 28 Mw:=by unfold Mw;exact Gu follows Tryz.func28 k_laws_markReportS o_laws_markReportS ⟨jG,trivial⟩
theorem uB:AA Tryz.prog 139 KL.S:=lF follows Tryz.func139 (by kernel_rfl) (t_:=[]) (by kernel_rfl) trivial
theorem tP:AA Tryz.prog 116 KE.S:=lF follows Tryz.func116 (by kernel_rfl) (t_:=[(139,KL.S)]) (by kernel_rfl) ⟨uB,trivial⟩
theorem vI:AA Tryz.prog 74 KQ.S:=lF follows Tryz.func74 (by kernel_rfl) (t_:=[(116,KE.S)]) (by kernel_rfl) ⟨tP,trivial⟩
theorem ym:AA Tryz.prog 117 K0.S:=lF follows Tryz.func117 (by kernel_rfl) (t_:=[]) (by kernel_rfl) trivial
theorem v7:AA Tryz.prog 75 KM.S:=lF follows Tryz.func75 (by kernel_rfl) (t_:=[(117,K0.S)]) (by kernel_rfl) ⟨ym,trivial⟩
theorem xW:AA Tryz.prog 76 KX.S:=lF follows Tryz.func76 (by kernel_rfl) (t_:=[]) (by kernel_rfl) trivial
theorem ir:AA Tryz.prog 29 IL.S:=lF follows Tryz.func29 (by kernel_rfl) (t_:=[(74,KQ.S),(75,KM.S),(76,KX.S)]) (by kernel_rfl) ⟨vI,v7,xW,trivial⟩
theorem zm:AA Tryz.prog 77 Lc.S:=lF follows Tryz.func77 (by kernel_rfl) (t_:=[]) (by kernel_rfl) trivial
theorem gT:AA Tryz.prog 30 IE.S:=lF follows Tryz.func30 (by kernel_rfl) (t_:=[(77,Lc.S)]) (by kernel_rfl) ⟨zm,trivial⟩
theorem sW:AA Tryz.prog 7 HQ.S:=lF follows Tryz.func7 (by kernel_rfl) (t_:=[(22,Le.S),(24,FU.S),(32,FZ.S),(31,Lj.S),(24,FU.S),(32,FZ.S),(33,I9.S),(25,E4.S),(26,Ep.S),(24,FU.S),(25,E4.S),(32,FZ.S),(34,Jd.S),(27,JU),(35,JX),(25,E4.S),(26,Ep.S),(27,JU),(28,Mw),(29,IL.S),(30,IE.S),(24,FU.S),(32,FZ.S),(33,I9.S),(25,E4.S),(26,Ep.S),(29,IL.S),(30,IE.S)]) (by kernel_rfl) ⟨zd,Wb,WO,ZaD,Wb,WO,j5,Wm,ZZ,Wb,Wm,WO,kC,iH,jG,Wm,ZZ,iH,uQ,ir,gT,Wb,WO,j5,Wm,ZZ,ir,gT,trivial⟩
end Go.Proofs.YtbkpfpcnjpggaaaGreat
