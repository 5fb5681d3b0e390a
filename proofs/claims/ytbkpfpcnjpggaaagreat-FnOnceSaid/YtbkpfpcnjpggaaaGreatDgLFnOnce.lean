/-
 EACH ABSTRACT FUNCTION IS THE SEAT's OWN: checked by the kernel,function by function (written by program,ag.py).
-/
import Derived.Test.YtbkpfpcnjpggaaaGreatChecked
import Derived.KernelRfl
import Derived.Test.YtbkpfpcnjpggaaaGreatLibH
import Derived.Shelf.Sort.Plain
import Derived.Shelf.Slices.In.SortNone2
namespace Go.Proofs.YtbkpfpcnjpggaaaGreat
open Go.Ag
theorem follows:Tryz.prog.follows .mixedOrders=true:=by kernel_rfl
open Go.Shelf
def lays191_ren:Go.Shelf.Ren:=⟨fun|191=>92|189=>128|125=>143|257=>142|128=>153|129=>154|294=>144|295=>145|296=>146|297=>147|298=>148|299=>149|216=>150|300=>151|301=>152|328=>155|329=>156|330=>157|331=>158|332=>159|215=>160|343=>161|n=>n,fun|28=>45|0=>0|3=>3|46=>141|51=>168|53=>170|4=>4|183=>160|182=>159|131=>165|5=>5|9=>9|218=>171|222=>175|228=>177|229=>178|n=>n,fun|n=>n⟩
theorem lays191:Go.Proofs.Lays.n191 Tryz.prog lays191_ren:={
 mixed:=by kernel_rfl
 f125:=Tryz.func143.trans (congrArg some (by kernel_rfl))
 f128:=Tryz.func153.trans (congrArg some (by kernel_rfl))
 f129:=Tryz.func154.trans (congrArg some (by kernel_rfl))
 f189:=Tryz.func128.trans (congrArg some (by kernel_rfl))
 f191:=Tryz.func92.trans (congrArg some (by kernel_rfl))
 f215:=Tryz.func160.trans (congrArg some (by kernel_rfl))
 f216:=Tryz.func150.trans (congrArg some (by kernel_rfl))
 f257:=Tryz.func142.trans (congrArg some (by kernel_rfl))
 f294:=Tryz.func144.trans (congrArg some (by kernel_rfl))
 f295:=Tryz.func145.trans (congrArg some (by kernel_rfl))
 f296:=Tryz.func146.trans (congrArg some (by kernel_rfl))
 f297:=Tryz.func147.trans (congrArg some (by kernel_rfl))
 f298:=Tryz.func148.trans (congrArg some (by kernel_rfl))
 f299:=Tryz.func149.trans (congrArg some (by kernel_rfl))
 f300:=Tryz.func151.trans (congrArg some (by kernel_rfl))
 f301:=Tryz.func152.trans (congrArg some (by kernel_rfl))
 f328:=Tryz.func155.trans (congrArg some (by kernel_rfl))
 f329:=Tryz.func156.trans (congrArg some (by kernel_rfl))
 f330:=Tryz.func157.trans (congrArg some (by kernel_rfl))
 f331:=Tryz.func158.trans (congrArg some (by kernel_rfl))
 f332:=Tryz.func159.trans (congrArg some (by kernel_rfl))
 f343:=Tryz.func161.trans (congrArg some (by kernel_rfl))
 t0:=Tryz.underlying0
 a0:=Tryz.isAgg0
 z0:=Tryz.sizeOf0
 v0:=Tryz.zeroValue0
 t3:=Tryz.underlying3
 a3:=Tryz.isAgg3
 z3:=Tryz.sizeOf3
 v3:=Tryz.zeroValue3
 t4:=Tryz.underlying4
 a4:=Tryz.isAgg4
 z4:=Tryz.sizeOf4
 v4:=Tryz.zeroValue4
 t5:=Tryz.underlying5
 a5:=Tryz.isAgg5
 z5:=Tryz.sizeOf5
 v5:=Tryz.zeroValue5
 t9:=Tryz.underlying9
 a9:=Tryz.isAgg9
 z9:=Tryz.sizeOf9
 v9:=Tryz.zeroValue9
 t28:=Tryz.underlying45
 a28:=Tryz.isAgg45
 z28:=Tryz.sizeOf45
 v28:=Tryz.zeroValue45
 t46:=Tryz.underlying141
 a46:=Tryz.isAgg141
 z46:=Tryz.sizeOf141
 v46:=Tryz.zeroValue141
 t51:=Tryz.underlying168
 a51:=Tryz.isAgg168
 z51:=Tryz.sizeOf168
 v51:=Tryz.zeroValue168
 t53:=Tryz.underlying170
 a53:=Tryz.isAgg170
 z53:=Tryz.sizeOf170
 v53:=Tryz.zeroValue170
 t131:=Tryz.underlying165
 a131:=Tryz.isAgg165
 z131:=Tryz.sizeOf165
 v131:=Tryz.zeroValue165
 t182:=Tryz.underlying159
 a182:=Tryz.isAgg159
 z182:=Tryz.sizeOf159
 v182:=Tryz.zeroValue159
 t183:=Tryz.underlying160
 a183:=Tryz.isAgg160
 z183:=Tryz.sizeOf160
 v183:=Tryz.zeroValue160
 t218:=Tryz.underlying171
 a218:=Tryz.isAgg171
 z218:=Tryz.sizeOf171
 v218:=Tryz.zeroValue171
 t222:=Tryz.underlying175
 a222:=Tryz.isAgg175
 z222:=Tryz.sizeOf175
 v222:=Tryz.zeroValue175
 t228:=Tryz.underlying177
 a228:=Tryz.isAgg177
 z228:=Tryz.sizeOf177
 v228:=Tryz.zeroValue177
 t229:=Tryz.underlying178
 a229:=Tryz.isAgg178
 z229:=Tryz.sizeOf178
 v229:=Tryz.zeroValue178 }
theorem x9:Ax Tryz.prog 92 MR:=zf ⟨λ blk off cap zs w h1 h2 h3=>Go.Proofs.Any.sort_Ints lays191 blk off cap zs w h1 h2 h3,λ p cap w=>Go.Proofs.Any.sort_Ints_none lays191 p cap w⟩
theorem yw:Ax Tryz.prog 8 KL.S:=lF follows Tryz.func8 (by kernel_rfl) (obs:=[]) (by kernel_rfl) trivial
theorem k_spec_l1New:ER Tryz.prog Tryz.f81 LB.er.er=true:=by kernel_rfl
theorem o_spec_l1New:EU Tryz.prog Tryz.f81 LB.er.er=[]:=by kernel_rfl
theorem xw:Ax Tryz.prog 81 OS:=by unfold OS;exact FX follows Tryz.func81 k_spec_l1New o_spec_l1New trivial
theorem k_spec_l24New:ER Tryz.prog Tryz.f37 Lu.er.er=true:=by kernel_rfl
theorem o_spec_l24New:EU Tryz.prog Tryz.f37 Lu.er.er=[(81,OS)]:=by kernel_rfl
theorem gW:Ax Tryz.prog 37 LD:=by unfold LD;exact FX follows Tryz.func37 k_spec_l24New o_spec_l24New ⟨xw,trivial⟩
theorem k_spec_l1Byte:ER Tryz.prog Tryz.f82 Kx.er.er=true:=by kernel_rfl
theorem o_spec_l1Byte:EU Tryz.prog Tryz.f82 Kx.er.er=[]:=by kernel_rfl
theorem Rb:Ax Tryz.prog 82 Er:=by unfold Er;exact FX follows Tryz.func82 k_spec_l1Byte o_spec_l1Byte trivial
theorem k_spec_l1Below:ER Tryz.prog Tryz.f38 Kr.er.er=true:=by kernel_rfl
theorem o_spec_l1Below:EU Tryz.prog Tryz.f38 Kr.er.er=[(82,Er),(82,Er),(82,Er),(82,Er),(82,Er)]:=by kernel_rfl
theorem Fu:Ax Tryz.prog 38 Cb:=by unfold Cb;exact FX follows Tryz.func38 k_spec_l1Below o_spec_l1Below ⟨Rb,Rb,Rb,Rb,Rb,trivial⟩
theorem k_spec_l1PickInt:ER Tryz.prog Tryz.f140 Lm.er.er=true:=by kernel_rfl
theorem o_spec_l1PickInt:EU Tryz.prog Tryz.f140 Lm.er.er=[(38,Cb)]:=by kernel_rfl
theorem rp:Ax Tryz.prog 140 Od:=by unfold Od;exact FX follows Tryz.func140 k_spec_l1PickInt o_spec_l1PickInt ⟨Fu,trivial⟩
theorem k_spec_l1Once:ER Tryz.prog Tryz.f80 Ku.er.er=true:=by kernel_rfl
theorem o_spec_l1Once:EU Tryz.prog Tryz.f80 Ku.er.er=[(38,Cb)]:=by kernel_rfl
theorem Vm:Ax Tryz.prog 80 Hq:=by unfold Hq;exact FX follows Tryz.func80 k_spec_l1Once o_spec_l1Once ⟨Fu,trivial⟩
theorem k_spec_l8Draw:ER Tryz.prog Tryz.f120 Lz.er.er=true:=by kernel_rfl
theorem o_spec_l8Draw:EU Tryz.prog Tryz.f120 Lz.er.er=[(38,Cb),(38,Cb),(140,Od),(80,Hq)]:=by kernel_rfl
theorem wI:Ax Tryz.prog 120 OP:=by unfold OP;exact FX follows Tryz.func120 k_spec_l8Draw o_spec_l8Draw ⟨Fu,Fu,rp,Vm,trivial⟩
theorem k_spec_l5Draw:ER Tryz.prog Tryz.f141 Ly.er.er=true:=by kernel_rfl
theorem o_spec_l5Draw:EU Tryz.prog Tryz.f141 Ly.er.er=[(38,Cb),(38,Cb),(80,Hq),(38,Cb),(38,Cb),(38,Cb),(38,Cb),(38,Cb)]:=by kernel_rfl
theorem wv:Ax Tryz.prog 141 OI:=by unfold OI;exact FX follows Tryz.func141 k_spec_l5Draw o_spec_l5Draw ⟨Fu,Fu,Vm,Fu,Fu,Fu,Fu,Fu,trivial⟩
theorem k_spec_l6Draw:ER Tryz.prog Tryz.f122 Lt.er.er=true:=by kernel_rfl
theorem o_spec_l6Draw:EU Tryz.prog Tryz.f122 Lt.er.er=[(38,Cb),(141,OI),(80,Hq)]:=by kernel_rfl
theorem w9:Ax Tryz.prog 122 OE:=by unfold OE;exact FX follows Tryz.func122 k_spec_l6Draw o_spec_l6Draw ⟨Fu,wv,Vm,trivial⟩
theorem Gk:Ax Tryz.prog 49 BH.S:=lF follows Tryz.func49 (by kernel_rfl) (obs:=[]) (by kernel_rfl) trivial
theorem Uq:Ax Tryz.prog 129 Em.S:=lF follows Tryz.func129 (by kernel_rfl) (obs:=[(49,BH.S),(49,BH.S),(49,BH.S),(49,BH.S)]) (by kernel_rfl) ⟨Gk,Gk,Gk,Gk,trivial⟩
theorem fR:Ax Tryz.prog 94 Ii.S:=lF follows Tryz.func94 (by kernel_rfl) (obs:=[(129,Em.S),(49,BH.S),(49,BH.S)]) (by kernel_rfl) ⟨Uq,Gk,Gk,trivial⟩
theorem YJ:Ax Tryz.prog 99 FR.S:=lF follows Tryz.func99 (by kernel_rfl) (obs:=[(129,Em.S)]) (by kernel_rfl) ⟨Uq,trivial⟩
theorem Vq:Ax Tryz.prog 95 Eo.S:=lF follows Tryz.func95 (by kernel_rfl) (obs:=[(49,BH.S),(129,Em.S),(99,FR.S)]) (by kernel_rfl) ⟨Gk,Uq,YJ,trivial⟩
theorem gK:Ax Tryz.prog 103 Iw.S:=lF follows Tryz.func103 (by kernel_rfl) (obs:=[]) (by kernel_rfl) trivial
theorem Y4:Ax Tryz.prog 101 FT.S:=lF follows Tryz.func101 (by kernel_rfl) (obs:=[]) (by kernel_rfl) trivial
theorem YL:Ax Tryz.prog 63 GL.S:=lF follows Tryz.func63 (by kernel_rfl) (obs:=[]) (by kernel_rfl) trivial
theorem fX:Ax Tryz.prog 96 GP.S:=lF follows Tryz.func96 (by kernel_rfl) (obs:=[(103,Iw.S),(49,BH.S),(101,FT.S),(129,Em.S),(101,FT.S),(63,GL.S)]) (by kernel_rfl) ⟨gK,Gk,Y4,Uq,Y4,YL,trivial⟩
theorem YZ:Ax Tryz.prog 48 GN.S:=lF follows Tryz.func48 (by kernel_rfl) (obs:=[(94,Ii.S),(95,Eo.S),(96,GP.S),(49,BH.S),(49,BH.S)]) (by kernel_rfl) ⟨fR,Vq,fX,Gk,Gk,trivial⟩
theorem wo:Ax Tryz.prog 97 KD.S:=lF follows Tryz.func97 (by kernel_rfl) (obs:=[]) (by kernel_rfl) trivial
theorem Zm:Ax Tryz.prog 51 GR.S:=lF follows Tryz.func51 (by kernel_rfl) (obs:=[(97,KD.S)]) (by kernel_rfl) ⟨wo,trivial⟩
theorem rG:Ax Tryz.prog 121 Kk.S:=lF follows Tryz.func121 (by kernel_rfl) (obs:=[(48,GN.S),(51,GR.S)]) (by kernel_rfl) ⟨YZ,Zm,trivial⟩
theorem k_spec_l9New:ER Tryz.prog Tryz.f79 LF.er.er=true:=by kernel_rfl
theorem o_spec_l9New:EU Tryz.prog Tryz.f79 LF.er.er=[(38,Cb),(120,OP),(122,OE),(121,Kk.S)]:=by kernel_rfl
theorem xq:Ax Tryz.prog 79 OQ:=by unfold OQ;exact FX follows Tryz.func79 k_spec_l9New o_spec_l9New ⟨Fu,wI,w9,rG,trivial⟩
theorem gF:Ax Tryz.prog 50 GQ.S:=lF follows Tryz.func50 (by kernel_rfl) (obs:=[]) (by kernel_rfl) trivial
theorem tx:Ax Tryz.prog 53 Ko.S:=lF follows Tryz.func53 (by kernel_rfl) (obs:=[(49,BH.S),(95,Eo.S)]) (by kernel_rfl) ⟨Gk,Vq,trivial⟩
theorem uv:Ax Tryz.prog 98 Kv.S:=lF follows Tryz.func98 (by kernel_rfl) (obs:=[(94,Ii.S),(49,BH.S)]) (by kernel_rfl) ⟨fR,Gk,trivial⟩
theorem tf:Ax Tryz.prog 52 Kq.S:=lF follows Tryz.func52 (by kernel_rfl) (obs:=[(98,Kv.S)]) (by kernel_rfl) ⟨uv,trivial⟩
theorem wL:Ax Tryz.prog 54 KB.S:=lF follows Tryz.func54 (by kernel_rfl) (obs:=[(99,FR.S)]) (by kernel_rfl) ⟨YJ,trivial⟩
theorem xD:Ax Tryz.prog 55 KI.S:=lF follows Tryz.func55 (by kernel_rfl) (obs:=[(99,FR.S)]) (by kernel_rfl) ⟨YJ,trivial⟩
theorem qU:Ax Tryz.prog 130 Kb.S:=lF follows Tryz.func130 (by kernel_rfl) (obs:=[(49,BH.S)]) (by kernel_rfl) ⟨Gk,trivial⟩
theorem k_spec_l9Key:ER Tryz.prog Tryz.f100 LA.er.er=true:=by kernel_rfl
theorem o_spec_l9Key:EU Tryz.prog Tryz.f100 LA.er.er=[(130,Kb.S)]:=by kernel_rfl
theorem xo:Ax Tryz.prog 100 OT:=by unfold OT;exact FX follows Tryz.func100 k_spec_l9Key o_spec_l9Key ⟨qU,trivial⟩
theorem k_spec_l9Settle:ER Tryz.prog Tryz.f56 Ln.er.er=true:=by kernel_rfl
theorem o_spec_l9Settle:EU Tryz.prog Tryz.f56 Ln.er.er=[(100,OT)]:=by kernel_rfl
theorem tO:Ax Tryz.prog 56 Ol:=by unfold Ol;exact FX follows Tryz.func56 k_spec_l9Settle o_spec_l9Settle ⟨xo,trivial⟩
theorem QV:Ax Tryz.prog 58 E1.S:=lF follows Tryz.func58 (by kernel_rfl) (obs:=[(95,Eo.S)]) (by kernel_rfl) ⟨Vq,trivial⟩
theorem fB:Ax Tryz.prog 102 Il.S:=lF follows Tryz.func102 (by kernel_rfl) (obs:=[(58,E1.S)]) (by kernel_rfl) ⟨QV,trivial⟩
theorem pL:Ax Tryz.prog 57 J5.S:=lF follows Tryz.func57 (by kernel_rfl) (obs:=[(95,Eo.S),(96,GP.S),(101,FT.S),(102,Il.S),(103,Iw.S),(63,GL.S),(102,Il.S)]) (by kernel_rfl) ⟨Vq,fX,Y4,fB,gK,YL,fB,trivial⟩
theorem qT:Ax Tryz.prog 104 Kg.S:=lF follows Tryz.func104 (by kernel_rfl) (obs:=[]) (by kernel_rfl) trivial
theorem wx:Ax Tryz.prog 105 KA.S:=lF follows Tryz.func105 (by kernel_rfl) (obs:=[]) (by kernel_rfl) trivial
theorem eT:Ax Tryz.prog 59 Ic.S:=lF follows Tryz.func59 (by kernel_rfl) (obs:=[(104,Kg.S),(105,KA.S)]) (by kernel_rfl) ⟨qT,wx,trivial⟩
theorem iD:Ax Tryz.prog 21 IA.S:=lF follows Tryz.func21 (by kernel_rfl) (obs:=[(48,GN.S),(49,BH.S),(50,GQ.S),(51,GR.S),(53,Ko.S),(52,Kq.S),(54,KB.S),(55,KI.S),(56,Ol),(57,J5.S),(58,E1.S),(58,E1.S),(59,Ic.S)]) (by kernel_rfl) ⟨YZ,Gk,gF,Zm,tx,tf,wL,xD,tO,pL,QV,QV,eT,trivial⟩
theorem ui:Ax Tryz.prog 23 Kw.S:=lF follows Tryz.func23 (by kernel_rfl) (obs:=[(50,GQ.S),(48,GN.S),(51,GR.S),(63,GL.S),(58,E1.S),(58,E1.S),(59,Ic.S)]) (by kernel_rfl) ⟨gF,YZ,Zm,YL,QV,QV,eT,trivial⟩
theorem k_spec_l9Draw:ER Tryz.prog Tryz.f36 Lv.er.er=true:=by kernel_rfl
theorem o_spec_l9Draw:EU Tryz.prog Tryz.f36 Lv.er.er=[(79,OQ),(38,Cb),(38,Cb),(80,Hq),(21,IA.S),(23,Kw.S)]:=by kernel_rfl
theorem wY:Ax Tryz.prog 36 OO:=by unfold OO;exact FX follows Tryz.func36 k_spec_l9Draw o_spec_l9Draw ⟨xq,Fu,Fu,Vm,iD,ui,trivial⟩
theorem rf:Ax Tryz.prog 9 Kh.S:=lF follows Tryz.func9 (by kernel_rfl) (obs:=[(37,LD),(36,OO)]) (by kernel_rfl) ⟨gW,wY,trivial⟩
theorem rj:Ax Tryz.prog 10 Kf.S:=lF follows Tryz.func10 (by kernel_rfl) (obs:=[(37,LD),(38,Cb)]) (by kernel_rfl) ⟨gW,Fu,trivial⟩
theorem ji:Ax Tryz.prog 89 GV.S:=lF follows Tryz.func89 (by kernel_rfl) (obs:=[]) (by kernel_rfl) trivial
theorem Zf:Ax Tryz.prog 125 FW.S:=lF follows Tryz.func125 (by kernel_rfl) (obs:=[]) (by kernel_rfl) trivial
theorem Zl:Ax Tryz.prog 126 Ep.S:=lF follows Tryz.func126 (by kernel_rfl) (obs:=[]) (by kernel_rfl) trivial
theorem gv:Ax Tryz.prog 127 FV.S:=lF follows Tryz.func127 (by kernel_rfl) (obs:=[]) (by kernel_rfl) trivial
theorem Uo:Ax Tryz.prog 88 E3.S:=lF follows Tryz.func88 (by kernel_rfl) (obs:=[(125,FW.S),(126,Ep.S),(127,FV.S),(125,FW.S),(126,Ep.S),(125,FW.S),(127,FV.S),(126,Ep.S)]) (by kernel_rfl) ⟨Zf,Zl,gv,Zf,Zl,Zf,gv,Zl,trivial⟩
theorem Vb:Ax Tryz.prog 41 E5.S:=lF follows Tryz.func41 (by kernel_rfl) (obs:=[(89,GV.S),(88,E3.S)]) (by kernel_rfl) ⟨ji,Uo,trivial⟩
theorem fJ:Ax Tryz.prog 20 Ig.S:=lF follows Tryz.func20 (by kernel_rfl) (obs:=[(41,E5.S)]) (by kernel_rfl) ⟨Vb,trivial⟩
theorem fw:Ax Tryz.prog 40 Ik.S:=lF follows Tryz.func40 (by kernel_rfl) (obs:=[(88,E3.S)]) (by kernel_rfl) ⟨Uo,trivial⟩
theorem gj:Ax Tryz.prog 83 Iq.S:=lF follows Tryz.func83 (by kernel_rfl) (obs:=[(89,GV.S)]) (by kernel_rfl) ⟨ji,trivial⟩
theorem uY:Ax Tryz.prog 47 Ky.S:=lF follows Tryz.func47 (by kernel_rfl) (obs:=[(40,Ik.S),(83,Iq.S)]) (by kernel_rfl) ⟨fw,gj,trivial⟩
theorem sO:Ax Tryz.prog 19 Km.S:=lF follows Tryz.func19 (by kernel_rfl) (obs:=[(47,Ky.S)]) (by kernel_rfl) ⟨uY,trivial⟩
theorem fm:Ax Tryz.prog 46 Ie.S:=lF follows Tryz.func46 (by kernel_rfl) (obs:=[(88,E3.S)]) (by kernel_rfl) ⟨Uo,trivial⟩
theorem iK:Ax Tryz.prog 18 IB.S:=lF follows Tryz.func18 (by kernel_rfl) (obs:=[(46,Ie.S)]) (by kernel_rfl) ⟨fm,trivial⟩
theorem iq:Ax Tryz.prog 90 It.S:=lF follows Tryz.func90 (by kernel_rfl) (obs:=[]) (by kernel_rfl) trivial
theorem gn:Ax Tryz.prog 42 GO.S:=lF follows Tryz.func42 (by kernel_rfl) (obs:=[(90,It.S),(88,E3.S)]) (by kernel_rfl) ⟨iq,Uo,trivial⟩
theorem fL:Ax Tryz.prog 13 Ij.S:=lF follows Tryz.func13 (by kernel_rfl) (obs:=[(40,Ik.S),(41,E5.S),(42,GO.S)]) (by kernel_rfl) ⟨fw,Vb,gn,trivial⟩
theorem U7:Ax Tryz.prog 11 En.S:=lF follows Tryz.func11 (by kernel_rfl) (obs:=[]) (by kernel_rfl) trivial
theorem qD:Ax Tryz.prog 118 Kd.S:=lF follows Tryz.func118 (by kernel_rfl) (obs:=[]) (by kernel_rfl) trivial
theorem qI:Ax Tryz.prog 119 Kc.S:=lF follows Tryz.func119 (by kernel_rfl) (obs:=[]) (by kernel_rfl) trivial
theorem eK:Ax Tryz.prog 78 H5.S:=lF follows Tryz.func78 (by kernel_rfl) (obs:=[(118,Kd.S),(119,Kc.S)]) (by kernel_rfl) ⟨qD,qI,trivial⟩
theorem vT:Ax Tryz.prog 84 KC.S:=lF follows Tryz.func84 (by kernel_rfl) (obs:=[(46,Ie.S)]) (by kernel_rfl) ⟨fm,trivial⟩
theorem rn:Ax Tryz.prog 123 H7.S:=lF follows Tryz.func123 (by kernel_rfl) (obs:=[]) (by kernel_rfl) trivial
theorem k_impl_settle:ER Tryz.prog Tryz.f85 Lw.er.er=true:=by kernel_rfl
theorem o_impl_settle:EU Tryz.prog Tryz.f85 Lw.er.er=[(123,H7.S)]:=by kernel_rfl
theorem xa:Ax Tryz.prog 85 OL:=by unfold OL;exact FX follows Tryz.func85 k_impl_settle o_impl_settle ⟨rn,trivial⟩
theorem fQ:Ax Tryz.prog 91 Ih.S:=lF follows Tryz.func91 (by kernel_rfl) (obs:=[]) (by kernel_rfl) trivial
theorem vX:Ax Tryz.prog 93 Is.S:=lF follows Tryz.func93 (by kernel_rfl) (obs:=[]) (by kernel_rfl) trivial
theorem ga:Ax Tryz.prog 45 Ip.S:=lF follows Tryz.func45 (by kernel_rfl) (obs:=[(91,Ih.S),(92,MR),(93,Is.S)]) (by kernel_rfl) ⟨fQ,x9,vX,trivial⟩
theorem QQ:Ax Tryz.prog 17 E2.S:=lF follows Tryz.func17 (by kernel_rfl) (obs:=[(41,E5.S),(45,Ip.S)]) (by kernel_rfl) ⟨Vb,ga,trivial⟩
theorem eZ:Ax Tryz.prog 124 H8.S:=lF follows Tryz.func124 (by kernel_rfl) (obs:=[(91,Ih.S),(45,Ip.S)]) (by kernel_rfl) ⟨fQ,ga,trivial⟩
theorem pM:Ax Tryz.prog 86 J6.S:=lF follows Tryz.func86 (by kernel_rfl) (obs:=[(41,E5.S),(42,GO.S),(17,E2.S),(124,H8.S),(90,It.S),(124,H8.S)]) (by kernel_rfl) ⟨Vb,gn,QQ,eZ,iq,eZ,trivial⟩
theorem tg:Ax Tryz.prog 44 Im.S:=lF follows Tryz.func44 (by kernel_rfl) (obs:=[]) (by kernel_rfl) trivial
theorem q9:Ax Tryz.prog 16 Ke.S:=lF follows Tryz.func16 (by kernel_rfl) (obs:=[(44,Im.S)]) (by kernel_rfl) ⟨tg,trivial⟩
theorem ew:Ax Tryz.prog 87 FQ.S:=lF follows Tryz.func87 (by kernel_rfl) (obs:=[(16,Ke.S)]) (by kernel_rfl) ⟨q9,trivial⟩
theorem xr:Ax Tryz.prog 39 KG.S:=lF follows Tryz.func39 (by kernel_rfl) (obs:=[(78,H5.S),(20,Ig.S),(83,Iq.S),(84,KC.S),(18,IB.S),(85,OL),(86,J6.S),(17,E2.S),(17,E2.S),(87,FQ.S)]) (by kernel_rfl) ⟨eK,fJ,gj,vT,iK,xa,pM,QQ,QQ,ew,trivial⟩
theorem iw:Ax Tryz.prog 12 Iy.S:=lF follows Tryz.func12 (by kernel_rfl) (obs:=[(13,Ij.S),(11,En.S),(39,KG.S)]) (by kernel_rfl) ⟨fL,U7,xr,trivial⟩
theorem tZ:Ax Tryz.prog 43 Kt.S:=lF follows Tryz.func43 (by kernel_rfl) (obs:=[(78,H5.S),(11,En.S),(17,E2.S),(17,E2.S),(87,FQ.S)]) (by kernel_rfl) ⟨eK,U7,QQ,QQ,ew,trivial⟩
theorem ve:Ax Tryz.prog 14 Kz.S:=lF follows Tryz.func14 (by kernel_rfl) (obs:=[(13,Ij.S),(11,En.S),(43,Kt.S)]) (by kernel_rfl) ⟨fL,U7,tZ,trivial⟩
theorem w7:Ax Tryz.prog 4 Hr.S:=lF follows Tryz.func4 (by kernel_rfl) (obs:=[(8,KL.S),(9,Kh.S),(10,Kf.S),(20,Ig.S),(19,Km.S),(18,IB.S),(12,Iy.S),(21,IA.S),(11,En.S),(14,Kz.S),(12,Iy.S)]) (by kernel_rfl) ⟨yw,rf,rj,fJ,sO,iK,iw,iD,U7,ve,iw,trivial⟩
end Go.Proofs.YtbkpfpcnjpggaaaGreat
