/-
 EACH ABSTRACT FUNCTION IS THE SEAT's OWN: checked by the kernel,function by function (written by program,ag.py).
-/
import Derived.Test.YtbkpfpcnjpggaaaChecked
import Derived.KernelRfl
import Derived.Test.YtbkpfpcnjpggaaaLibH
import Derived.Shelf.Sort.Plain
import Derived.Shelf.Slices.In.SortNone2
namespace Go.Proofs.Ytbkpfpcnjpggaaa
open Go.Ag
theorem follows:Try.prog.follows .mixedOrders=true:=by kernel_rfl
open Go.Shelf
def lays191_ren:Go.Shelf.Ren:=⟨fun|191=>56|189=>83|125=>91|257=>90|128=>101|129=>102|294=>92|295=>93|296=>94|297=>95|298=>96|299=>97|216=>98|300=>99|301=>100|328=>103|329=>104|330=>105|331=>106|332=>107|215=>108|343=>109|n=>n,fun|28=>39|0=>0|3=>3|46=>94|51=>116|53=>118|4=>4|183=>108|182=>107|131=>113|5=>5|9=>9|218=>119|222=>123|228=>125|229=>126|n=>n,fun|n=>n⟩
theorem lays191:Go.Proofs.Lays.n191 Try.prog lays191_ren:={
 mixed:=by kernel_rfl
 f125:=Try.func91.trans (congrArg some (by kernel_rfl))
 f128:=Try.func101.trans (congrArg some (by kernel_rfl))
 f129:=Try.func102.trans (congrArg some (by kernel_rfl))
 f189:=Try.func83.trans (congrArg some (by kernel_rfl))
 f191:=Try.func56.trans (congrArg some (by kernel_rfl))
 f215:=Try.func108.trans (congrArg some (by kernel_rfl))
 f216:=Try.func98.trans (congrArg some (by kernel_rfl))
 f257:=Try.func90.trans (congrArg some (by kernel_rfl))
 f294:=Try.func92.trans (congrArg some (by kernel_rfl))
 f295:=Try.func93.trans (congrArg some (by kernel_rfl))
 f296:=Try.func94.trans (congrArg some (by kernel_rfl))
 f297:=Try.func95.trans (congrArg some (by kernel_rfl))
 f298:=Try.func96.trans (congrArg some (by kernel_rfl))
 f299:=Try.func97.trans (congrArg some (by kernel_rfl))
 f300:=Try.func99.trans (congrArg some (by kernel_rfl))
 f301:=Try.func100.trans (congrArg some (by kernel_rfl))
 f328:=Try.func103.trans (congrArg some (by kernel_rfl))
 f329:=Try.func104.trans (congrArg some (by kernel_rfl))
 f330:=Try.func105.trans (congrArg some (by kernel_rfl))
 f331:=Try.func106.trans (congrArg some (by kernel_rfl))
 f332:=Try.func107.trans (congrArg some (by kernel_rfl))
 f343:=Try.func109.trans (congrArg some (by kernel_rfl))
 t0:=Try.underlying0
 a0:=Try.isAgg0
 z0:=Try.sizeOf0
 v0:=Try.zeroValue0
 t3:=Try.underlying3
 a3:=Try.isAgg3
 z3:=Try.sizeOf3
 v3:=Try.zeroValue3
 t4:=Try.underlying4
 a4:=Try.isAgg4
 z4:=Try.sizeOf4
 v4:=Try.zeroValue4
 t5:=Try.underlying5
 a5:=Try.isAgg5
 z5:=Try.sizeOf5
 v5:=Try.zeroValue5
 t9:=Try.underlying9
 a9:=Try.isAgg9
 z9:=Try.sizeOf9
 v9:=Try.zeroValue9
 t28:=Try.underlying39
 a28:=Try.isAgg39
 z28:=Try.sizeOf39
 v28:=Try.zeroValue39
 t46:=Try.underlying94
 a46:=Try.isAgg94
 z46:=Try.sizeOf94
 v46:=Try.zeroValue94
 t51:=Try.underlying116
 a51:=Try.isAgg116
 z51:=Try.sizeOf116
 v51:=Try.zeroValue116
 t53:=Try.underlying118
 a53:=Try.isAgg118
 z53:=Try.sizeOf118
 v53:=Try.zeroValue118
 t131:=Try.underlying113
 a131:=Try.isAgg113
 z131:=Try.sizeOf113
 v131:=Try.zeroValue113
 t182:=Try.underlying107
 a182:=Try.isAgg107
 z182:=Try.sizeOf107
 v182:=Try.zeroValue107
 t183:=Try.underlying108
 a183:=Try.isAgg108
 z183:=Try.sizeOf108
 v183:=Try.zeroValue108
 t218:=Try.underlying119
 a218:=Try.isAgg119
 z218:=Try.sizeOf119
 v218:=Try.zeroValue119
 t222:=Try.underlying123
 a222:=Try.isAgg123
 z222:=Try.sizeOf123
 v222:=Try.zeroValue123
 t228:=Try.underlying125
 a228:=Try.isAgg125
 z228:=Try.sizeOf125
 v228:=Try.zeroValue125
 t229:=Try.underlying126
 a229:=Try.isAgg126
 z229:=Try.sizeOf126
 v229:=Try.zeroValue126 }
theorem xd:Ay Try.prog 56 MM:=yk ⟨λ blk off cap zs w h1 h2 h3=>Go.Proofs.Any.sort_Ints lays191 blk off cap zs w h1 h2 h3,λ p cap w=>Go.Proofs.Any.sort_Ints_none lays191 p cap w⟩
theorem ya:Ay Try.prog 6 KG.S:=lF follows Try.func6 (by kernel_rfl) (obs:=[]) (by kernel_rfl) trivial
theorem k_spec_l1New:EP Try.prog Try.f48 Lx.er.er=true:=by kernel_rfl
theorem o_spec_l1New:ER Try.prog Try.f48 Lx.er.er=[]:=by kernel_rfl
theorem w8:Ay Try.prog 48 OM:=by unfold OM;exact FQ follows Try.func48 k_spec_l1New o_spec_l1New trivial
theorem k_spec_l24New:EP Try.prog Try.f22 Lp.er.er=true:=by kernel_rfl
theorem o_spec_l24New:ER Try.prog Try.f22 Lp.er.er=[(48,OM)]:=by kernel_rfl
theorem gA:Ay Try.prog 22 Ly:=by unfold Ly;exact FQ follows Try.func22 k_spec_l24New o_spec_l24New ⟨w8,trivial⟩
theorem k_spec_l1Byte:EP Try.prog Try.f49 Kq.er.er=true:=by kernel_rfl
theorem o_spec_l1Byte:ER Try.prog Try.f49 Kq.er.er=[]:=by kernel_rfl
theorem QW:Ay Try.prog 49 Em:=by unfold Em;exact FQ follows Try.func49 k_spec_l1Byte o_spec_l1Byte trivial
theorem k_spec_l1Below:EP Try.prog Try.f23 Ki.er.er=true:=by kernel_rfl
theorem o_spec_l1Below:ER Try.prog Try.f23 Ki.er.er=[(49,Em),(49,Em),(49,Em),(49,Em),(49,Em)]:=by kernel_rfl
theorem Fo:Ay Try.prog 23 Cb:=by unfold Cb;exact FQ follows Try.func23 k_spec_l1Below o_spec_l1Below ⟨QW,QW,QW,QW,QW,trivial⟩
theorem k_spec_l1PickInt:EP Try.prog Try.f47 Lg.er.er=true:=by kernel_rfl
theorem o_spec_l1PickInt:ER Try.prog Try.f47 Lg.er.er=[(23,Cb)]:=by kernel_rfl
theorem rT:Ay Try.prog 47 N7:=by unfold N7;exact FQ follows Try.func47 k_spec_l1PickInt o_spec_l1PickInt ⟨Fo,trivial⟩
theorem k_spec_l1Once:EP Try.prog Try.f53 Ks.er.er=true:=by kernel_rfl
theorem o_spec_l1Once:ER Try.prog Try.f53 Ks.er.er=[(23,Cb)]:=by kernel_rfl
theorem UW:Ay Try.prog 53 Ho:=by unfold Ho;exact FQ follows Try.func53 k_spec_l1Once o_spec_l1Once ⟨Fo,trivial⟩
theorem k_spec_l8Draw:EP Try.prog Try.f81 Ln.er.er=true:=by kernel_rfl
theorem o_spec_l8Draw:ER Try.prog Try.f81 Ln.er.er=[(23,Cb),(23,Cb),(47,N7),(53,Ho)]:=by kernel_rfl
theorem wA:Ay Try.prog 81 Ox:=by unfold Ox;exact FQ follows Try.func81 k_spec_l8Draw o_spec_l8Draw ⟨Fo,Fo,rT,UW,trivial⟩
theorem k_spec_l5Draw:EP Try.prog Try.f77 Lo.er.er=true:=by kernel_rfl
theorem o_spec_l5Draw:ER Try.prog Try.f77 Lo.er.er=[(23,Cb),(23,Cb),(53,Ho),(23,Cb),(23,Cb),(23,Cb),(23,Cb),(23,Cb)]:=by kernel_rfl
theorem vJ:Ay Try.prog 77 OD:=by unfold OD;exact FQ follows Try.func77 k_spec_l5Draw o_spec_l5Draw ⟨Fo,Fo,UW,Fo,Fo,Fo,Fo,Fo,trivial⟩
theorem k_spec_l6Draw:EP Try.prog Try.f46 Lr.er.er=true:=by kernel_rfl
theorem o_spec_l6Draw:ER Try.prog Try.f46 Lr.er.er=[(23,Cb),(77,OD),(53,Ho)]:=by kernel_rfl
theorem v7:Ay Try.prog 46 OG:=by unfold OG;exact FQ follows Try.func46 k_spec_l6Draw o_spec_l6Draw ⟨Fo,vJ,UW,trivial⟩
theorem Ge:Ay Try.prog 35 BH.S:=lF follows Try.func35 (by kernel_rfl) (obs:=[]) (by kernel_rfl) trivial
theorem Ub:Ay Try.prog 88 Ek.S:=lF follows Try.func88 (by kernel_rfl) (obs:=[(35,BH.S),(35,BH.S),(35,BH.S),(35,BH.S)]) (by kernel_rfl) ⟨Ge,Ge,Ge,Ge,trivial⟩
theorem e8:Ay Try.prog 64 Ib.S:=lF follows Try.func64 (by kernel_rfl) (obs:=[(88,Ek.S),(35,BH.S),(35,BH.S)]) (by kernel_rfl) ⟨Ub,Ge,Ge,trivial⟩
theorem Yw:Ay Try.prog 69 FL.S:=lF follows Try.func69 (by kernel_rfl) (obs:=[(88,Ek.S)]) (by kernel_rfl) ⟨Ub,trivial⟩
theorem Vm:Ay Try.prog 65 El.S:=lF follows Try.func65 (by kernel_rfl) (obs:=[(35,BH.S),(88,Ek.S),(69,FL.S)]) (by kernel_rfl) ⟨Ge,Ub,Yw,trivial⟩
theorem gh:Ay Try.prog 74 Ir.S:=lF follows Try.func74 (by kernel_rfl) (obs:=[]) (by kernel_rfl) trivial
theorem YL:Ay Try.prog 71 FM.S:=lF follows Try.func71 (by kernel_rfl) (obs:=[]) (by kernel_rfl) trivial
theorem Yt:Ay Try.prog 73 GG.S:=lF follows Try.func73 (by kernel_rfl) (obs:=[]) (by kernel_rfl) trivial
theorem fJ:Ay Try.prog 66 GK.S:=lF follows Try.func66 (by kernel_rfl) (obs:=[(74,Ir.S),(35,BH.S),(71,FM.S),(88,Ek.S),(71,FM.S),(73,GG.S)]) (by kernel_rfl) ⟨gh,Ge,YL,Ub,YL,Yt,trivial⟩
theorem YK:Ay Try.prog 34 GH.S:=lF follows Try.func34 (by kernel_rfl) (obs:=[(64,Ib.S),(65,El.S),(66,GK.S),(35,BH.S),(35,BH.S)]) (by kernel_rfl) ⟨e8,Vm,fJ,Ge,Ge,trivial⟩
theorem vq:Ay Try.prog 67 Kx.S:=lF follows Try.func67 (by kernel_rfl) (obs:=[]) (by kernel_rfl) trivial
theorem Y0:Ay Try.prog 37 GM.S:=lF follows Try.func37 (by kernel_rfl) (obs:=[(67,Kx.S)]) (by kernel_rfl) ⟨vq,trivial⟩
theorem rq:Ay Try.prog 82 Ke.S:=lF follows Try.func82 (by kernel_rfl) (obs:=[(34,GH.S),(37,GM.S)]) (by kernel_rfl) ⟨YK,Y0,trivial⟩
theorem k_spec_l9New:EP Try.prog Try.f52 Lv.er.er=true:=by kernel_rfl
theorem o_spec_l9New:ER Try.prog Try.f52 Lv.er.er=[(23,Cb),(81,Ox),(46,OG),(82,Ke.S)]:=by kernel_rfl
theorem wN:Ay Try.prog 52 OO:=by unfold OO;exact FQ follows Try.func52 k_spec_l9New o_spec_l9New ⟨Fo,wA,v7,rq,trivial⟩
theorem gR:Ay Try.prog 36 GP.S:=lF follows Try.func36 (by kernel_rfl) (obs:=[]) (by kernel_rfl) trivial
theorem sI:Ay Try.prog 39 Kk.S:=lF follows Try.func39 (by kernel_rfl) (obs:=[(35,BH.S),(65,El.S)]) (by kernel_rfl) ⟨Ge,Vm,trivial⟩
theorem tS:Ay Try.prog 68 Kr.S:=lF follows Try.func68 (by kernel_rfl) (obs:=[(64,Ib.S),(35,BH.S)]) (by kernel_rfl) ⟨e8,Ge,trivial⟩
theorem so:Ay Try.prog 38 Kj.S:=lF follows Try.func38 (by kernel_rfl) (obs:=[(68,Kr.S)]) (by kernel_rfl) ⟨tS,trivial⟩
theorem vW:Ay Try.prog 40 Kw.S:=lF follows Try.func40 (by kernel_rfl) (obs:=[(69,FL.S)]) (by kernel_rfl) ⟨Yw,trivial⟩
theorem wJ:Ay Try.prog 41 KB.S:=lF follows Try.func41 (by kernel_rfl) (obs:=[(69,FL.S)]) (by kernel_rfl) ⟨Yw,trivial⟩
theorem qA:Ay Try.prog 89 J6.S:=lF follows Try.func89 (by kernel_rfl) (obs:=[(35,BH.S)]) (by kernel_rfl) ⟨Ge,trivial⟩
theorem k_spec_l9Key:EP Try.prog Try.f70 Lw.er.er=true:=by kernel_rfl
theorem o_spec_l9Key:ER Try.prog Try.f70 Lw.er.er=[(89,J6.S)]:=by kernel_rfl
theorem wW:Ay Try.prog 70 ON:=by unfold ON;exact FQ follows Try.func70 k_spec_l9Key o_spec_l9Key ⟨qA,trivial⟩
theorem k_spec_l9Settle:EP Try.prog Try.f42 Lk.er.er=true:=by kernel_rfl
theorem o_spec_l9Settle:ER Try.prog Try.f42 Lk.er.er=[(70,ON)]:=by kernel_rfl
theorem ta:Ay Try.prog 42 Oe:=by unfold Oe;exact FQ follows Try.func42 k_spec_l9Settle o_spec_l9Settle ⟨wW,trivial⟩
theorem QC:Ay Try.prog 44 EX.S:=lF follows Try.func44 (by kernel_rfl) (obs:=[(65,El.S)]) (by kernel_rfl) ⟨Vm,trivial⟩
theorem fB:Ay Try.prog 72 Ii.S:=lF follows Try.func72 (by kernel_rfl) (obs:=[(44,EX.S)]) (by kernel_rfl) ⟨QC,trivial⟩
theorem pk:Ay Try.prog 43 J1.S:=lF follows Try.func43 (by kernel_rfl) (obs:=[(65,El.S),(66,GK.S),(71,FM.S),(72,Ii.S),(74,Ir.S),(73,GG.S),(72,Ii.S)]) (by kernel_rfl) ⟨Vm,fJ,YL,fB,gh,Yt,fB,trivial⟩
theorem qC:Ay Try.prog 75 J8.S:=lF follows Try.func75 (by kernel_rfl) (obs:=[]) (by kernel_rfl) trivial
theorem vS:Ay Try.prog 76 Ky.S:=lF follows Try.func76 (by kernel_rfl) (obs:=[]) (by kernel_rfl) trivial
theorem eX:Ay Try.prog 45 H5.S:=lF follows Try.func45 (by kernel_rfl) (obs:=[(75,J8.S),(76,Ky.S)]) (by kernel_rfl) ⟨qC,vS,trivial⟩
theorem il:Ay Try.prog 18 It.S:=lF follows Try.func18 (by kernel_rfl) (obs:=[(34,GH.S),(35,BH.S),(36,GP.S),(37,GM.S),(39,Kk.S),(38,Kj.S),(40,Kw.S),(41,KB.S),(42,Oe),(43,J1.S),(44,EX.S),(44,EX.S),(45,H5.S)]) (by kernel_rfl) ⟨YK,Ge,gR,Y0,sI,so,vW,wJ,ta,pk,QC,QC,eX,trivial⟩
theorem u6:Ay Try.prog 54 Ko.S:=lF follows Try.func54 (by kernel_rfl) (obs:=[(36,GP.S),(34,GH.S),(37,GM.S),(73,GG.S),(44,EX.S),(44,EX.S),(45,H5.S)]) (by kernel_rfl) ⟨gR,YK,Y0,Yt,QC,QC,eX,trivial⟩
theorem k_spec_l9Draw:EP Try.prog Try.f26 Lq.er.er=true:=by kernel_rfl
theorem o_spec_l9Draw:ER Try.prog Try.f26 Lq.er.er=[(52,OO),(23,Cb),(23,Cb),(53,Ho),(18,It.S),(54,Ko.S)]:=by kernel_rfl
theorem we:Ay Try.prog 26 Oy:=by unfold Oy;exact FQ follows Try.func26 k_spec_l9Draw o_spec_l9Draw ⟨wN,Fo,Fo,UW,il,u6,trivial⟩
theorem qi:Ay Try.prog 11 J9.S:=lF follows Try.func11 (by kernel_rfl) (obs:=[(22,Ly),(26,Oy)]) (by kernel_rfl) ⟨gA,we,trivial⟩
theorem qx:Ay Try.prog 8 Kc.S:=lF follows Try.func8 (by kernel_rfl) (obs:=[(22,Ly),(23,Cb)]) (by kernel_rfl) ⟨gA,Fo,trivial⟩
theorem iW:Ay Try.prog 51 GR.S:=lF follows Try.func51 (by kernel_rfl) (obs:=[]) (by kernel_rfl) trivial
theorem Y7:Ay Try.prog 78 FP.S:=lF follows Try.func78 (by kernel_rfl) (obs:=[]) (by kernel_rfl) trivial
theorem Y3:Ay Try.prog 79 En.S:=lF follows Try.func79 (by kernel_rfl) (obs:=[]) (by kernel_rfl) trivial
theorem fZ:Ay Try.prog 80 FN.S:=lF follows Try.func80 (by kernel_rfl) (obs:=[]) (by kernel_rfl) trivial
theorem Uj:Ay Try.prog 50 EY.S:=lF follows Try.func50 (by kernel_rfl) (obs:=[(78,FP.S),(79,En.S),(80,FN.S),(78,FP.S),(79,En.S),(78,FP.S),(80,FN.S),(79,En.S)]) (by kernel_rfl) ⟨Y7,Y3,fZ,Y7,Y3,Y7,fZ,Y3,trivial⟩
theorem U8:Ay Try.prog 27 E0.S:=lF follows Try.func27 (by kernel_rfl) (obs:=[(51,GR.S),(50,EY.S)]) (by kernel_rfl) ⟨iW,Uj,trivial⟩
theorem ft:Ay Try.prog 15 Ic.S:=lF follows Try.func15 (by kernel_rfl) (obs:=[(27,E0.S)]) (by kernel_rfl) ⟨U8,trivial⟩
theorem eY:Ay Try.prog 24 Ig.S:=lF follows Try.func24 (by kernel_rfl) (obs:=[(50,EY.S)]) (by kernel_rfl) ⟨Uj,trivial⟩
theorem fH:Ay Try.prog 25 Il.S:=lF follows Try.func25 (by kernel_rfl) (obs:=[(51,GR.S)]) (by kernel_rfl) ⟨iW,trivial⟩
theorem uk:Ay Try.prog 9 Kt.S:=lF follows Try.func9 (by kernel_rfl) (obs:=[(24,Ig.S),(25,Il.S)]) (by kernel_rfl) ⟨eY,fH,trivial⟩
theorem sK:Ay Try.prog 10 Km.S:=lF follows Try.func10 (by kernel_rfl) (obs:=[(9,Kt.S)]) (by kernel_rfl) ⟨uk,trivial⟩
theorem eT:Ay Try.prog 32 Ia.S:=lF follows Try.func32 (by kernel_rfl) (obs:=[(50,EY.S)]) (by kernel_rfl) ⟨Uj,trivial⟩
theorem gX:Ay Try.prog 16 Iu.S:=lF follows Try.func16 (by kernel_rfl) (obs:=[(32,Ia.S)]) (by kernel_rfl) ⟨eT,trivial⟩
theorem gk:Ay Try.prog 84 Io.S:=lF follows Try.func84 (by kernel_rfl) (obs:=[]) (by kernel_rfl) trivial
theorem fR:Ay Try.prog 58 GL.S:=lF follows Try.func58 (by kernel_rfl) (obs:=[(84,Io.S),(50,EY.S)]) (by kernel_rfl) ⟨gk,Uj,trivial⟩
theorem sS:Ay Try.prog 29 Kl.S:=lF follows Try.func29 (by kernel_rfl) (obs:=[(24,Ig.S),(27,E0.S),(58,GL.S)]) (by kernel_rfl) ⟨eY,U8,fR,trivial⟩
theorem gj:Ay Try.prog 19 GN.S:=lF follows Try.func19 (by kernel_rfl) (obs:=[]) (by kernel_rfl) trivial
theorem qK:Ay Try.prog 85 Kb.S:=lF follows Try.func85 (by kernel_rfl) (obs:=[]) (by kernel_rfl) trivial
theorem qn:Ay Try.prog 86 Ka.S:=lF follows Try.func86 (by kernel_rfl) (obs:=[]) (by kernel_rfl) trivial
theorem qe:Ay Try.prog 59 J7.S:=lF follows Try.func59 (by kernel_rfl) (obs:=[(85,Kb.S),(86,Ka.S)]) (by kernel_rfl) ⟨qK,qn,trivial⟩
theorem wc:Ay Try.prog 61 Kv.S:=lF follows Try.func61 (by kernel_rfl) (obs:=[(32,Ia.S)]) (by kernel_rfl) ⟨eT,trivial⟩
theorem dV:Ay Try.prog 20 FK.S:=lF follows Try.func20 (by kernel_rfl) (obs:=[]) (by kernel_rfl) trivial
theorem k_impl_settle:EP Try.prog Try.f62 Ls.er.er=true:=by kernel_rfl
theorem o_impl_settle:ER Try.prog Try.f62 Ls.er.er=[(20,FK.S)]:=by kernel_rfl
theorem wo:Ay Try.prog 62 OJ:=by unfold OJ;exact FQ follows Try.func62 k_impl_settle o_impl_settle ⟨dV,trivial⟩
theorem eZ:Ay Try.prog 55 Ih.S:=lF follows Try.func55 (by kernel_rfl) (obs:=[]) (by kernel_rfl) trivial
theorem vM:Ay Try.prog 57 Ip.S:=lF follows Try.func57 (by kernel_rfl) (obs:=[]) (by kernel_rfl) trivial
theorem fO:Ay Try.prog 28 Ik.S:=lF follows Try.func28 (by kernel_rfl) (obs:=[(55,Ih.S),(56,MM),(57,Ip.S)]) (by kernel_rfl) ⟨eZ,xd,vM,trivial⟩
theorem YI:Ay Try.prog 12 GJ.S:=lF follows Try.func12 (by kernel_rfl) (obs:=[(27,E0.S),(28,Ik.S)]) (by kernel_rfl) ⟨U8,fO,trivial⟩
theorem eu:Ay Try.prog 87 H7.S:=lF follows Try.func87 (by kernel_rfl) (obs:=[(55,Ih.S),(28,Ik.S)]) (by kernel_rfl) ⟨eZ,fO,trivial⟩
theorem pj:Ay Try.prog 63 J0.S:=lF follows Try.func63 (by kernel_rfl) (obs:=[(27,E0.S),(58,GL.S),(12,GJ.S),(87,H7.S),(84,Io.S),(87,H7.S)]) (by kernel_rfl) ⟨U8,fR,YI,eu,gk,eu,trivial⟩
theorem sx:Ay Try.prog 31 Ie.S:=lF follows Try.func31 (by kernel_rfl) (obs:=[]) (by kernel_rfl) trivial
theorem qH:Ay Try.prog 14 Kd.S:=lF follows Try.func14 (by kernel_rfl) (obs:=[(31,Ie.S)]) (by kernel_rfl) ⟨sx,trivial⟩
theorem oY:Ay Try.prog 60 HW.S:=lF follows Try.func60 (by kernel_rfl) (obs:=[(14,Kd.S)]) (by kernel_rfl) ⟨qH,trivial⟩
theorem wU:Ay Try.prog 33 KA.S:=lF follows Try.func33 (by kernel_rfl) (obs:=[(59,J7.S),(15,Ic.S),(25,Il.S),(61,Kv.S),(16,Iu.S),(62,OJ),(63,J0.S),(12,GJ.S),(12,GJ.S),(60,HW.S)]) (by kernel_rfl) ⟨qe,ft,fH,wc,gX,wo,pj,YI,YI,oY,trivial⟩
theorem wK:Ay Try.prog 17 Kz.S:=lF follows Try.func17 (by kernel_rfl) (obs:=[(29,Kl.S),(19,GN.S),(33,KA.S)]) (by kernel_rfl) ⟨sS,gj,wU,trivial⟩
theorem vX:Ay Try.prog 5 Hn.S:=lF follows Try.func5 (by kernel_rfl) (obs:=[(6,KG.S),(11,J9.S),(8,Kc.S),(15,Ic.S),(10,Km.S),(16,Iu.S),(17,Kz.S),(18,It.S),(19,GN.S),(20,FK.S)]) (by kernel_rfl) ⟨ya,qi,qx,ft,sK,gX,wK,il,gj,dV,trivial⟩
end Go.Proofs.Ytbkpfpcnjpggaaa
