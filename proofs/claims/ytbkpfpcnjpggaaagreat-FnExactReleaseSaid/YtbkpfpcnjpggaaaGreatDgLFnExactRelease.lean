/-
 EACH ABSTRACT FUNCTION IS THE SEAT's OWN: checked by the kernel,function by function (written by program,ag.py).
-/
import Derived.Test.YtbkpfpcnjpggaaaGreatChecked
import Derived.KernelRfl
import Derived.Test.YtbkpfpcnjpggaaaGreatLibH
import Derived.Shelf.Sort.Plain
import Derived.Shelf.Slices.In.SortNone2
namespace Go.Proofs.YtbkpfpcnjpggaaaGreat
open Go.Ag
theorem follows:Tryz.prog.follows .mixedOrders=true:=by kernel_rfl
open Go.Shelf
def lays191_ren:Go.Shelf.Ren:=⟨fun|191=>92|189=>128|125=>143|257=>142|128=>153|129=>154|294=>144|295=>145|296=>146|297=>147|298=>148|299=>149|216=>150|300=>151|301=>152|328=>155|329=>156|330=>157|331=>158|332=>159|215=>160|343=>161|n=>n,fun|28=>45|0=>0|3=>3|46=>141|51=>168|53=>170|4=>4|183=>160|182=>159|131=>165|5=>5|9=>9|218=>171|222=>175|228=>177|229=>178|n=>n,fun|n=>n⟩
theorem lays191:Go.Proofs.Lays.n191 Tryz.prog lays191_ren:={
 mixed:=by kernel_rfl
 f125:=Tryz.func143.trans (congrArg some (by kernel_rfl))
 f128:=Tryz.func153.trans (congrArg some (by kernel_rfl))
 f129:=Tryz.func154.trans (congrArg some (by kernel_rfl))
 f189:=Tryz.func128.trans (congrArg some (by kernel_rfl))
 f191:=Tryz.func92.trans (congrArg some (by kernel_rfl))
 f215:=Tryz.func160.trans (congrArg some (by kernel_rfl))
 f216:=Tryz.func150.trans (congrArg some (by kernel_rfl))
 f257:=Tryz.func142.trans (congrArg some (by kernel_rfl))
 f294:=Tryz.func144.trans (congrArg some (by kernel_rfl))
 f295:=Tryz.func145.trans (congrArg some (by kernel_rfl))
 f296:=Tryz.func146.trans (congrArg some (by kernel_rfl))
 f297:=Tryz.func147.trans (congrArg some (by kernel_rfl))
 f298:=Tryz.func148.trans (congrArg some (by kernel_rfl))
 f299:=Tryz.func149.trans (congrArg some (by kernel_rfl))
 f300:=Tryz.func151.trans (congrArg some (by kernel_rfl))
 f301:=Tryz.func152.trans (congrArg some (by kernel_rfl))
 f328:=Tryz.func155.trans (congrArg some (by kernel_rfl))
 f329:=Tryz.func156.trans (congrArg some (by kernel_rfl))
 f330:=Tryz.func157.trans (congrArg some (by kernel_rfl))
 f331:=Tryz.func158.trans (congrArg some (by kernel_rfl))
 f332:=Tryz.func159.trans (congrArg some (by kernel_rfl))
 f343:=Tryz.func161.trans (congrArg some (by kernel_rfl))
 t0:=Tryz.underlying0
 a0:=Tryz.isAgg0
 z0:=Tryz.sizeOf0
 v0:=Tryz.zeroValue0
 t3:=Tryz.underlying3
 a3:=Tryz.isAgg3
 z3:=Tryz.sizeOf3
 v3:=Tryz.zeroValue3
 t4:=Tryz.underlying4
 a4:=Tryz.isAgg4
 z4:=Tryz.sizeOf4
 v4:=Tryz.zeroValue4
 t5:=Tryz.underlying5
 a5:=Tryz.isAgg5
 z5:=Tryz.sizeOf5
 v5:=Tryz.zeroValue5
 t9:=Tryz.underlying9
 a9:=Tryz.isAgg9
 z9:=Tryz.sizeOf9
 v9:=Tryz.zeroValue9
 t28:=Tryz.underlying45
 a28:=Tryz.isAgg45
 z28:=Tryz.sizeOf45
 v28:=Tryz.zeroValue45
 t46:=Tryz.underlying141
 a46:=Tryz.isAgg141
 z46:=Tryz.sizeOf141
 v46:=Tryz.zeroValue141
 t51:=Tryz.underlying168
 a51:=Tryz.isAgg168
 z51:=Tryz.sizeOf168
 v51:=Tryz.zeroValue168
 t53:=Tryz.underlying170
 a53:=Tryz.isAgg170
 z53:=Tryz.sizeOf170
 v53:=Tryz.zeroValue170
 t131:=Tryz.underlying165
 a131:=Tryz.isAgg165
 z131:=Tryz.sizeOf165
 v131:=Tryz.zeroValue165
 t182:=Tryz.underlying159
 a182:=Tryz.isAgg159
 z182:=Tryz.sizeOf159
 v182:=Tryz.zeroValue159
 t183:=Tryz.underlying160
 a183:=Tryz.isAgg160
 z183:=Tryz.sizeOf160
 v183:=Tryz.zeroValue160
 t218:=Tryz.underlying171
 a218:=Tryz.isAgg171
 z218:=Tryz.sizeOf171
 v218:=Tryz.zeroValue171
 t222:=Tryz.underlying175
 a222:=Tryz.isAgg175
 z222:=Tryz.sizeOf175
 v222:=Tryz.zeroValue175
 t228:=Tryz.underlying177
 a228:=Tryz.isAgg177
 z228:=Tryz.sizeOf177
 v228:=Tryz.zeroValue177
 t229:=Tryz.underlying178
 a229:=Tryz.isAgg178
 z229:=Tryz.sizeOf178
 v229:=Tryz.zeroValue178 }
theorem uT:Aw Tryz.prog 92 LD:=u9 ⟨λ blk off cap zs w h1 h2 h3=>Go.Proofs.Any.sort_Ints lays191 blk off cap zs w h1 h2 h3,λ p cap w=>Go.Proofs.Any.sort_Ints_none lays191 p cap w⟩
theorem mH:Aw Tryz.prog 131 IJ.S:=lF follows Tryz.func131 (by kernel_rfl) (obs:=[]) (by kernel_rfl) trivial
theorem l9:Aw Tryz.prog 106 IE.S:=lF follows Tryz.func106 (by kernel_rfl) (obs:=[(131,IJ.S)]) (by kernel_rfl) ⟨mH,trivial⟩
theorem qy:Aw Tryz.prog 60 I7.S:=lF follows Tryz.func60 (by kernel_rfl) (obs:=[(106,IE.S)]) (by kernel_rfl) ⟨l9,trivial⟩
theorem sd:Aw Tryz.prog 107 Jd.S:=lF follows Tryz.func107 (by kernel_rfl) (obs:=[]) (by kernel_rfl) trivial
theorem qm:Aw Tryz.prog 61 IY.S:=lF follows Tryz.func61 (by kernel_rfl) (obs:=[(107,Jd.S)]) (by kernel_rfl) ⟨sd,trivial⟩
theorem r9:Aw Tryz.prog 62 Ji.S:=lF follows Tryz.func62 (by kernel_rfl) (obs:=[]) (by kernel_rfl) trivial
theorem qe:Aw Tryz.prog 22 I3.S:=lF follows Tryz.func22 (by kernel_rfl) (obs:=[(60,I7.S),(61,IY.S),(62,Ji.S)]) (by kernel_rfl) ⟨qy,qm,r9,trivial⟩
theorem Z8:Aw Tryz.prog 134 G2.S:=lF follows Tryz.func134 (by kernel_rfl) (obs:=[]) (by kernel_rfl) trivial
theorem nj:Aw Tryz.prog 132 IL.S:=lF follows Tryz.func132 (by kernel_rfl) (obs:=[(134,G2.S)]) (by kernel_rfl) ⟨Z8,trivial⟩
theorem lQ:Aw Tryz.prog 108 IG.S:=lF follows Tryz.func108 (by kernel_rfl) (obs:=[(132,IL.S)]) (by kernel_rfl) ⟨nj,trivial⟩
theorem qp:Aw Tryz.prog 64 I5.S:=lF follows Tryz.func64 (by kernel_rfl) (obs:=[(108,IG.S)]) (by kernel_rfl) ⟨lQ,trivial⟩
theorem s9:Aw Tryz.prog 133 Jy.S:=lF follows Tryz.func133 (by kernel_rfl) (obs:=[]) (by kernel_rfl) trivial
theorem su:Aw Tryz.prog 109 Jj.S:=lF follows Tryz.func109 (by kernel_rfl) (obs:=[(133,Jy.S)]) (by kernel_rfl) ⟨s9,trivial⟩
theorem pz:Aw Tryz.prog 65 I6.S:=lF follows Tryz.func65 (by kernel_rfl) (obs:=[(109,Jj.S)]) (by kernel_rfl) ⟨su,trivial⟩
theorem tc:Aw Tryz.prog 110 Jr.S:=lF follows Tryz.func110 (by kernel_rfl) (obs:=[(134,G2.S)]) (by kernel_rfl) ⟨Z8,trivial⟩
theorem rM:Aw Tryz.prog 66 Je.S:=lF follows Tryz.func66 (by kernel_rfl) (obs:=[(110,Jr.S)]) (by kernel_rfl) ⟨tc,trivial⟩
theorem Sy:Aw Tryz.prog 24 EP.S:=lF follows Tryz.func24 (by kernel_rfl) (obs:=[(64,I5.S),(65,I6.S),(66,Je.S)]) (by kernel_rfl) ⟨qp,pz,rM,trivial⟩
theorem s6:Aw Tryz.prog 50 Jv.S:=lF follows Tryz.func50 (by kernel_rfl) (obs:=[]) (by kernel_rfl) trivial
theorem HO:Aw Tryz.prog 49 Cc.S:=lF follows Tryz.func49 (by kernel_rfl) (obs:=[]) (by kernel_rfl) trivial
theorem Sx:Aw Tryz.prog 129 DF.S:=lF follows Tryz.func129 (by kernel_rfl) (obs:=[(49,Cc.S),(49,Cc.S),(49,Cc.S),(49,Cc.S)]) (by kernel_rfl) ⟨HO,HO,HO,HO,trivial⟩
theorem qd:Aw Tryz.prog 94 I1.S:=lF follows Tryz.func94 (by kernel_rfl) (obs:=[(129,DF.S),(49,Cc.S),(49,Cc.S)]) (by kernel_rfl) ⟨Sx,HO,HO,trivial⟩
theorem mA:Aw Tryz.prog 99 GW.S:=lF follows Tryz.func99 (by kernel_rfl) (obs:=[(129,DF.S)]) (by kernel_rfl) ⟨Sx,trivial⟩
theorem aN:Aw Tryz.prog 95 FG.S:=lF follows Tryz.func95 (by kernel_rfl) (obs:=[(49,Cc.S),(129,DF.S),(99,GW.S)]) (by kernel_rfl) ⟨HO,Sx,mA,trivial⟩
theorem sK:Aw Tryz.prog 103 Jo.S:=lF follows Tryz.func103 (by kernel_rfl) (obs:=[]) (by kernel_rfl) trivial
theorem Z3:Aw Tryz.prog 101 FE.S:=lF follows Tryz.func101 (by kernel_rfl) (obs:=[]) (by kernel_rfl) trivial
theorem ZM:Aw Tryz.prog 63 GX.S:=lF follows Tryz.func63 (by kernel_rfl) (obs:=[]) (by kernel_rfl) trivial
theorem qP:Aw Tryz.prog 96 Jf.S:=lF follows Tryz.func96 (by kernel_rfl) (obs:=[(103,Jo.S),(49,Cc.S),(101,FE.S),(129,DF.S),(101,FE.S),(63,GX.S)]) (by kernel_rfl) ⟨sK,HO,Z3,Sx,Z3,ZM,trivial⟩
theorem pN:Aw Tryz.prog 48 IV.S:=lF follows Tryz.func48 (by kernel_rfl) (obs:=[(94,I1.S),(95,FG.S),(96,Jf.S),(49,Cc.S),(49,Cc.S)]) (by kernel_rfl) ⟨qd,aN,qP,HO,HO,trivial⟩
theorem s5:Aw Tryz.prog 97 Jw.S:=lF follows Tryz.func97 (by kernel_rfl) (obs:=[]) (by kernel_rfl) trivial
theorem sG:Aw Tryz.prog 51 Js.S:=lF follows Tryz.func51 (by kernel_rfl) (obs:=[(97,Jw.S)]) (by kernel_rfl) ⟨s5,trivial⟩
theorem Z2:Aw Tryz.prog 58 GZ.S:=lF follows Tryz.func58 (by kernel_rfl) (obs:=[(95,FG.S)]) (by kernel_rfl) ⟨aN,trivial⟩
theorem lS:Aw Tryz.prog 104 ID.S:=lF follows Tryz.func104 (by kernel_rfl) (obs:=[]) (by kernel_rfl) trivial
theorem sX:Aw Tryz.prog 105 Jm.S:=lF follows Tryz.func105 (by kernel_rfl) (obs:=[]) (by kernel_rfl) trivial
theorem mS:Aw Tryz.prog 59 IU.S:=lF follows Tryz.func59 (by kernel_rfl) (obs:=[(104,ID.S),(105,Jm.S)]) (by kernel_rfl) ⟨lS,sX,trivial⟩
theorem rO:Aw Tryz.prog 23 Jc.S:=lF follows Tryz.func23 (by kernel_rfl) (obs:=[(50,Jv.S),(48,IV.S),(51,Js.S),(63,GX.S),(58,GZ.S),(58,GZ.S),(59,IU.S)]) (by kernel_rfl) ⟨s6,pN,sG,ZM,Z2,Z2,mS,trivial⟩
theorem VR:Aw Tryz.prog 125 EU.S:=lF follows Tryz.func125 (by kernel_rfl) (obs:=[]) (by kernel_rfl) trivial
theorem VV:Aw Tryz.prog 126 DH.S:=lF follows Tryz.func126 (by kernel_rfl) (obs:=[]) (by kernel_rfl) trivial
theorem aH:Aw Tryz.prog 127 ER.S:=lF follows Tryz.func127 (by kernel_rfl) (obs:=[]) (by kernel_rfl) trivial
theorem VK:Aw Tryz.prog 88 EO.S:=lF follows Tryz.func88 (by kernel_rfl) (obs:=[(125,EU.S),(126,DH.S),(127,ER.S),(125,EU.S),(126,DH.S),(125,EU.S),(127,ER.S),(126,DH.S)]) (by kernel_rfl) ⟨VR,VV,aH,VR,VV,VR,aH,VV,trivial⟩
theorem qq:Aw Tryz.prog 40 I2.S:=lF follows Tryz.func40 (by kernel_rfl) (obs:=[(88,EO.S)]) (by kernel_rfl) ⟨VK,trivial⟩
theorem vD:Aw Tryz.prog 89 Ha.S:=lF follows Tryz.func89 (by kernel_rfl) (obs:=[]) (by kernel_rfl) trivial
theorem aI:Aw Tryz.prog 41 FJ.S:=lF follows Tryz.func41 (by kernel_rfl) (obs:=[(89,Ha.S),(88,EO.S)]) (by kernel_rfl) ⟨vD,VK,trivial⟩
theorem sJ:Aw Tryz.prog 90 Jp.S:=lF follows Tryz.func90 (by kernel_rfl) (obs:=[]) (by kernel_rfl) trivial
theorem re:Aw Tryz.prog 42 Jg.S:=lF follows Tryz.func42 (by kernel_rfl) (obs:=[(90,Jp.S),(88,EO.S)]) (by kernel_rfl) ⟨sJ,VK,trivial⟩
theorem ql:Aw Tryz.prog 13 I4.S:=lF follows Tryz.func13 (by kernel_rfl) (obs:=[(40,I2.S),(41,FJ.S),(42,Jg.S)]) (by kernel_rfl) ⟨qq,aI,re,trivial⟩
theorem aR:Aw Tryz.prog 11 FI.S:=lF follows Tryz.func11 (by kernel_rfl) (obs:=[]) (by kernel_rfl) trivial
theorem l7:Aw Tryz.prog 118 IF.S:=lF follows Tryz.func118 (by kernel_rfl) (obs:=[]) (by kernel_rfl) trivial
theorem lW:Aw Tryz.prog 119 II.S:=lF follows Tryz.func119 (by kernel_rfl) (obs:=[]) (by kernel_rfl) trivial
theorem k9:Aw Tryz.prog 78 IA.S:=lF follows Tryz.func78 (by kernel_rfl) (obs:=[(118,IF.S),(119,II.S)]) (by kernel_rfl) ⟨l7,lW,trivial⟩
theorem qA:Aw Tryz.prog 91 IZ.S:=lF follows Tryz.func91 (by kernel_rfl) (obs:=[]) (by kernel_rfl) trivial
theorem s8:Aw Tryz.prog 93 G5.S:=lF follows Tryz.func93 (by kernel_rfl) (obs:=[]) (by kernel_rfl) trivial
theorem qY:Aw Tryz.prog 45 Jk.S:=lF follows Tryz.func45 (by kernel_rfl) (obs:=[(91,IZ.S),(92,LD),(93,G5.S)]) (by kernel_rfl) ⟨qA,uT,s8,trivial⟩
theorem aj:Aw Tryz.prog 17 G0.S:=lF follows Tryz.func17 (by kernel_rfl) (obs:=[(41,FJ.S),(45,Jk.S)]) (by kernel_rfl) ⟨aI,qY,trivial⟩
theorem pW:Aw Tryz.prog 44 GY.S:=lF follows Tryz.func44 (by kernel_rfl) (obs:=[]) (by kernel_rfl) trivial
theorem mu:Aw Tryz.prog 16 Gf.S:=lF follows Tryz.func16 (by kernel_rfl) (obs:=[(44,GY.S)]) (by kernel_rfl) ⟨pW,trivial⟩
theorem k_impl_changedReports:Fs Tryz.prog Tryz.f87 U9=true:=by kernel_rfl
theorem o_impl_changedReports:Ft Tryz.prog Tryz.f87 U9=[(16,Gf.S)]:=by kernel_rfl
theorem jo:Aw Tryz.prog 87 Lq:=by unfold Lq;exact G6 follows Tryz.func87 k_impl_changedReports o_impl_changedReports ⟨mu,trivial⟩
theorem sg:Aw Tryz.prog 43 Jh.S:=lF follows Tryz.func43 (by kernel_rfl) (obs:=[(78,IA.S),(11,FI.S),(17,G0.S),(17,G0.S),(87,Lq)]) (by kernel_rfl) ⟨k9,aR,aj,aj,jo,trivial⟩
theorem aA:Aw Tryz.prog 14 G3.S:=lF follows Tryz.func14 (by kernel_rfl) (obs:=[(13,I4.S),(11,FI.S),(43,Jh.S)]) (by kernel_rfl) ⟨ql,aR,sg,trivial⟩
theorem Z6:Aw Tryz.prog 137 G1.S:=lF follows Tryz.func137 (by kernel_rfl) (obs:=[]) (by kernel_rfl) trivial
theorem m8:Aw Tryz.prog 135 IP.S:=lF follows Tryz.func135 (by kernel_rfl) (obs:=[(137,G1.S)]) (by kernel_rfl) ⟨Z6,trivial⟩
theorem lu:Aw Tryz.prog 111 IC.S:=lF follows Tryz.func111 (by kernel_rfl) (obs:=[(135,IP.S)]) (by kernel_rfl) ⟨m8,trivial⟩
theorem pn:Aw Tryz.prog 67 IW.S:=lF follows Tryz.func67 (by kernel_rfl) (obs:=[(111,IC.S)]) (by kernel_rfl) ⟨lu,trivial⟩
theorem ti:Aw Tryz.prog 136 Jx.S:=lF follows Tryz.func136 (by kernel_rfl) (obs:=[]) (by kernel_rfl) trivial
theorem qV:Aw Tryz.prog 112 Ja.S:=lF follows Tryz.func112 (by kernel_rfl) (obs:=[(136,Jx.S)]) (by kernel_rfl) ⟨ti,trivial⟩
theorem qB:Aw Tryz.prog 68 I0.S:=lF follows Tryz.func68 (by kernel_rfl) (obs:=[(112,Ja.S)]) (by kernel_rfl) ⟨qV,trivial⟩
theorem sL:Aw Tryz.prog 113 Jt.S:=lF follows Tryz.func113 (by kernel_rfl) (obs:=[(137,G1.S)]) (by kernel_rfl) ⟨Z6,trivial⟩
theorem rU:Aw Tryz.prog 69 Jb.S:=lF follows Tryz.func69 (by kernel_rfl) (obs:=[(113,Jt.S)]) (by kernel_rfl) ⟨sL,trivial⟩
theorem Ss:Aw Tryz.prog 25 Ec.S:=lF follows Tryz.func25 (by kernel_rfl) (obs:=[(67,IW.S),(68,I0.S),(69,Jb.S)]) (by kernel_rfl) ⟨pn,qB,rU,trivial⟩
theorem td:Aw Tryz.prog 34 Jn.S:=lF follows Tryz.func34 (by kernel_rfl) (obs:=[]) (by kernel_rfl) trivial
theorem pR:Aw Tryz.prog 70 IX.S:=lF follows Tryz.func70 (by kernel_rfl) (obs:=[(34,Jn.S)]) (by kernel_rfl) ⟨td,trivial⟩
theorem VF:Aw Tryz.prog 26 DE.S:=lF follows Tryz.func26 (by kernel_rfl) (obs:=[(70,IX.S)]) (by kernel_rfl) ⟨pR,trivial⟩
theorem k_laws_markActionS:Fs Tryz.prog Tryz.f138 Ve=true:=by kernel_rfl
theorem o_laws_markActionS:Ft Tryz.prog Tryz.f138 Ve=[]:=by kernel_rfl
theorem kV:Aw Tryz.prog 138 M6:=by unfold M6;exact G6 follows Tryz.func138 k_laws_markActionS o_laws_markActionS trivial
theorem k_laws_markActionSS:Fs Tryz.prog Tryz.f114 Vd=true:=by kernel_rfl
theorem o_laws_markActionSS:Ft Tryz.prog Tryz.f114 Vd=[(138,M6)]:=by kernel_rfl
theorem jD:Aw Tryz.prog 114 M3:=by unfold M3;exact G6 follows Tryz.func114 k_laws_markActionSS o_laws_markActionSS ⟨kV,trivial⟩
theorem k_laws_markKeymap:Fs Tryz.prog Tryz.f71 Vo=true:=by kernel_rfl
theorem o_laws_markKeymap:Ft Tryz.prog Tryz.f71 Vo=[(114,M3)]:=by kernel_rfl
theorem lI:Aw Tryz.prog 71 Lw:=by unfold Lw;exact G6 follows Tryz.func71 k_laws_markKeymap o_laws_markKeymap ⟨jD,trivial⟩
theorem k_laws_markStepS:Fs Tryz.prog Tryz.f115 VE=true:=by kernel_rfl
theorem o_laws_markStepS:Ft Tryz.prog Tryz.f115 VE=[]:=by kernel_rfl
theorem mY:Aw Tryz.prog 115 Ni:=by unfold Ni;exact G6 follows Tryz.func115 k_laws_markStepS o_laws_markStepS trivial
theorem k_laws_markStepSS:Fs Tryz.prog Tryz.f72 Vs=true:=by kernel_rfl
theorem o_laws_markStepSS:Ft Tryz.prog Tryz.f72 Vs=[(115,Ni)]:=by kernel_rfl
theorem lJ:Aw Tryz.prog 72 Nb:=by unfold Nb;exact G6 follows Tryz.func72 k_laws_markStepSS o_laws_markStepSS ⟨mY,trivial⟩
theorem k_laws_markHeldS:Fs Tryz.prog Tryz.f73 VG=true:=by kernel_rfl
theorem o_laws_markHeldS:Ft Tryz.prog Tryz.f73 VG=[]:=by kernel_rfl
theorem oM:Aw Tryz.prog 73 Nd:=by unfold Nd;exact G6 follows Tryz.func73 k_laws_markHeldS o_laws_markHeldS trivial
theorem k_laws_markEngine:Fs Tryz.prog Tryz.f27 Vu=true:=by kernel_rfl
theorem o_laws_markEngine:Ft Tryz.prog Tryz.f27 Vu=[(71,Lw),(72,Nb),(73,Nd)]:=by kernel_rfl
theorem ZG:Aw Tryz.prog 27 HF:=by unfold HF;exact G6 follows Tryz.func27 k_laws_markEngine o_laws_markEngine ⟨lI,lJ,oM,trivial⟩
theorem k_laws_markIntS:Fs Tryz.prog Tryz.f35 VL=true:=by kernel_rfl
theorem o_laws_markIntS:Ft Tryz.prog Tryz.f35 VL=[]:=by kernel_rfl
theorem p9:Aw Tryz.prog 35 Np:=by unfold Np;exact G6 follows Tryz.func35 k_laws_markIntS o_laws_markIntS trivial
theorem k_laws_markReportS:Fs Tryz.prog Tryz.f28 Vj=true:=by kernel_rfl
theorem o_laws_markReportS:Ft Tryz.prog Tryz.f28 Vj=[(35,Np)]:=by kernel_rfl
theorem kj:Aw Tryz.prog 28 Kj:=by unfold Kj;exact G6 follows Tryz.func28 k_laws_markReportS o_laws_markReportS ⟨p9,trivial⟩
theorem ki:Aw Tryz.prog 139 Iy.S:=lF follows Tryz.func139 (by kernel_rfl) (obs:=[]) (by kernel_rfl) trivial
theorem jC:Aw Tryz.prog 116 It.S:=lF follows Tryz.func116 (by kernel_rfl) (obs:=[(139,Iy.S)]) (by kernel_rfl) ⟨ki,trivial⟩
theorem lD:Aw Tryz.prog 74 IH.S:=lF follows Tryz.func74 (by kernel_rfl) (obs:=[(116,It.S)]) (by kernel_rfl) ⟨jC,trivial⟩
theorem ny:Aw Tryz.prog 117 IQ.S:=lF follows Tryz.func117 (by kernel_rfl) (obs:=[]) (by kernel_rfl) trivial
theorem lC:Aw Tryz.prog 75 IB.S:=lF follows Tryz.func75 (by kernel_rfl) (obs:=[(117,IQ.S)]) (by kernel_rfl) ⟨ny,trivial⟩
theorem oC:Aw Tryz.prog 76 IM.S:=lF follows Tryz.func76 (by kernel_rfl) (obs:=[]) (by kernel_rfl) trivial
theorem ZB:Aw Tryz.prog 29 GU.S:=lF follows Tryz.func29 (by kernel_rfl) (obs:=[(74,IH.S),(75,IB.S),(76,IM.S)]) (by kernel_rfl) ⟨lD,lC,oC,trivial⟩
theorem pj:Aw Tryz.prog 77 I9.S:=lF follows Tryz.func77 (by kernel_rfl) (obs:=[]) (by kernel_rfl) trivial
theorem Zy:Aw Tryz.prog 30 GS.S:=lF follows Tryz.func30 (by kernel_rfl) (obs:=[(77,I9.S)]) (by kernel_rfl) ⟨pj,trivial⟩
theorem jq:Aw Tryz.prog 5 Ge.S:=lF follows Tryz.func5 (by kernel_rfl) (obs:=[(22,I3.S),(24,EP.S),(23,Jc.S),(24,EP.S),(14,G3.S),(25,Ec.S),(26,DE.S),(24,EP.S),(25,Ec.S),(27,HF),(25,Ec.S),(26,DE.S),(27,HF),(28,Kj),(29,GU.S),(30,GS.S),(24,EP.S),(14,G3.S),(25,Ec.S),(26,DE.S),(29,GU.S),(30,GS.S)]) (by kernel_rfl) ⟨qe,Sy,rO,Sy,aA,Ss,VF,Sy,Ss,ZG,Ss,VF,ZG,kj,ZB,Zy,Sy,aA,Ss,VF,ZB,Zy,trivial⟩
end Go.Proofs.YtbkpfpcnjpggaaaGreat
