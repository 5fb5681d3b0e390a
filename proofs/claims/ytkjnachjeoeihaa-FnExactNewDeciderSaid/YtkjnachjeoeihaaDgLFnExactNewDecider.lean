/-
 EACH ABSTRACT FUNCTION IS THE SEAT's OWN: checked by the kernel,function by function (written by program,ag.py).
-/
import Derived.Test.YtkjnachjeoeihaaChecked
import Derived.KernelRfl
import Derived.Test.YtkjnachjeoeihaaLibG
namespace Go.Proofs.Ytkjnachjeoeihaa
open Go.Ag
theorem follows:Try.prog.follows .mixedOrders=true:=by kernel_rfl
theorem kV:Au Try.prog 126 HO.S:=lF follows Try.func126 (by kernel_rfl) (obs:=[]) (by kernel_rfl) trivial
theorem iC:Au Try.prog 89 HK.S:=lF follows Try.func89 (by kernel_rfl) (obs:=[(126,HO.S)]) (by kernel_rfl) ⟨kV,trivial⟩
theorem nc:Au Try.prog 39 HZ.S:=lF follows Try.func39 (by kernel_rfl) (obs:=[(89,HK.S)]) (by kernel_rfl) ⟨iC,trivial⟩
theorem od:Au Try.prog 90 Iq.S:=lF follows Try.func90 (by kernel_rfl) (obs:=[]) (by kernel_rfl) trivial
theorem m7:Au Try.prog 40 H5.S:=lF follows Try.func40 (by kernel_rfl) (obs:=[(90,Iq.S)]) (by kernel_rfl) ⟨od,trivial⟩
theorem oe:Au Try.prog 41 Im.S:=lF follows Try.func41 (by kernel_rfl) (obs:=[]) (by kernel_rfl) trivial
theorem me:Au Try.prog 9 Ih.S:=lF follows Try.func9 (by kernel_rfl) (obs:=[(39,HZ.S),(40,H5.S),(41,Im.S)]) (by kernel_rfl) ⟨nc,m7,oe,trivial⟩
theorem Yi:Au Try.prog 133 F8.S:=lF follows Try.func133 (by kernel_rfl) (obs:=[]) (by kernel_rfl) trivial
theorem kh:Au Try.prog 131 HP.S:=lF follows Try.func131 (by kernel_rfl) (obs:=[(133,F8.S)]) (by kernel_rfl) ⟨Yi,trivial⟩
theorem iA:Au Try.prog 95 HB.S:=lF follows Try.func95 (by kernel_rfl) (obs:=[(131,HP.S)]) (by kernel_rfl) ⟨kh,trivial⟩
theorem mq:Au Try.prog 44 H9.S:=lF follows Try.func44 (by kernel_rfl) (obs:=[(95,HB.S)]) (by kernel_rfl) ⟨iA,trivial⟩
theorem pX:Au Try.prog 132 IK.S:=lF follows Try.func132 (by kernel_rfl) (obs:=[]) (by kernel_rfl) trivial
theorem pq:Au Try.prog 96 Iv.S:=lF follows Try.func96 (by kernel_rfl) (obs:=[(132,IK.S)]) (by kernel_rfl) ⟨pX,trivial⟩
theorem lZ:Au Try.prog 45 Ig.S:=lF follows Try.func45 (by kernel_rfl) (obs:=[(96,Iv.S)]) (by kernel_rfl) ⟨pq,trivial⟩
theorem p9:Au Try.prog 97 ID.S:=lF follows Try.func97 (by kernel_rfl) (obs:=[(133,F8.S)]) (by kernel_rfl) ⟨Yi,trivial⟩
theorem oU:Au Try.prog 46 Ip.S:=lF follows Try.func46 (by kernel_rfl) (obs:=[(97,ID.S)]) (by kernel_rfl) ⟨p9,trivial⟩
theorem Rk:Au Try.prog 11 D6.S:=lF follows Try.func11 (by kernel_rfl) (obs:=[(44,H9.S),(45,Ig.S),(46,Ip.S)]) (by kernel_rfl) ⟨mq,lZ,oU,trivial⟩
theorem Ur:Au Try.prog 12 EP.S:=lF follows Try.func12 (by kernel_rfl) (obs:=[]) (by kernel_rfl) trivial
theorem CU:Au Try.prog 70 AO.S:=lF follows Try.func70 (by kernel_rfl) (obs:=[]) (by kernel_rfl) trivial
theorem Rg:Au Try.prog 148 C3.S:=lF follows Try.func148 (by kernel_rfl) (obs:=[(70,AO.S),(70,AO.S),(70,AO.S),(70,AO.S)]) (by kernel_rfl) ⟨CU,CU,CU,CU,trivial⟩
theorem mU:Au Try.prog 127 Ia.S:=lF follows Try.func127 (by kernel_rfl) (obs:=[(148,C3.S),(70,AO.S),(70,AO.S)]) (by kernel_rfl) ⟨Rg,CU,CU,trivial⟩
theorem jW:Au Try.prog 146 F4.S:=lF follows Try.func146 (by kernel_rfl) (obs:=[(148,C3.S)]) (by kernel_rfl) ⟨Rg,trivial⟩
theorem pG:Au Try.prog 128 Gb.S:=lF follows Try.func128 (by kernel_rfl) (obs:=[(70,AO.S),(148,C3.S),(146,F4.S)]) (by kernel_rfl) ⟨CU,Rg,jW,trivial⟩
theorem pJ:Au Try.prog 149 IA.S:=lF follows Try.func149 (by kernel_rfl) (obs:=[]) (by kernel_rfl) trivial
theorem Ye:Au Try.prog 150 ER.S:=lF follows Try.func150 (by kernel_rfl) (obs:=[]) (by kernel_rfl) trivial
theorem jz:Au Try.prog 151 HU.S:=lF follows Try.func151 (by kernel_rfl) (obs:=[]) (by kernel_rfl) trivial
theorem nC:Au Try.prog 129 Il.S:=lF follows Try.func129 (by kernel_rfl) (obs:=[(149,IA.S),(70,AO.S),(150,ER.S),(148,C3.S),(150,ER.S),(151,HU.S)]) (by kernel_rfl) ⟨pJ,CU,Ye,Rg,Ye,jz,trivial⟩
theorem lS:Au Try.prog 91 Ii.S:=lF follows Try.func91 (by kernel_rfl) (obs:=[(127,Ia.S),(128,Gb.S),(129,Il.S),(70,AO.S),(70,AO.S)]) (by kernel_rfl) ⟨mU,pG,nC,CU,CU,trivial⟩
theorem ml:Au Try.prog 23 F6.S:=lF follows Try.func23 (by kernel_rfl) (obs:=[(70,AO.S),(70,AO.S),(70,AO.S)]) (by kernel_rfl) ⟨CU,CU,CU,trivial⟩
theorem pE:Au Try.prog 130 IF.S:=lF follows Try.func130 (by kernel_rfl) (obs:=[(70,AO.S)]) (by kernel_rfl) ⟨CU,trivial⟩
theorem nD:Au Try.prog 93 Is.S:=lF follows Try.func93 (by kernel_rfl) (obs:=[(130,IF.S)]) (by kernel_rfl) ⟨pE,trivial⟩
theorem ov:Au Try.prog 66 Iy.S:=lF follows Try.func66 (by kernel_rfl) (obs:=[(70,AO.S),(70,AO.S)]) (by kernel_rfl) ⟨CU,CU,trivial⟩
theorem jd:Au Try.prog 92 HF.S:=lF follows Try.func92 (by kernel_rfl) (obs:=[(66,Iy.S)]) (by kernel_rfl) ⟨ov,trivial⟩
theorem kd:Au Try.prog 42 HW.S:=lF follows Try.func42 (by kernel_rfl) (obs:=[(91,Ii.S),(23,F6.S),(70,AO.S),(70,AO.S),(93,Is.S),(92,HF.S),(70,AO.S),(70,AO.S)]) (by kernel_rfl) ⟨lS,ml,CU,CU,nD,jd,CU,CU,trivial⟩
theorem pF:Au Try.prog 94 IB.S:=lF follows Try.func94 (by kernel_rfl) (obs:=[]) (by kernel_rfl) trivial
theorem pT:Au Try.prog 43 II.S:=lF follows Try.func43 (by kernel_rfl) (obs:=[(94,IB.S)]) (by kernel_rfl) ⟨pF,trivial⟩
theorem il:Au Try.prog 10 HG.S:=lF follows Try.func10 (by kernel_rfl) (obs:=[(42,HW.S),(43,II.S)]) (by kernel_rfl) ⟨kd,pT,trivial⟩
theorem gJ:Au Try.prog 98 Hy.S:=lF follows Try.func98 (by kernel_rfl) (obs:=[]) (by kernel_rfl) trivial
theorem iU:Au Try.prog 99 Hz.S:=lF follows Try.func99 (by kernel_rfl) (obs:=[]) (by kernel_rfl) trivial
theorem iB:Au Try.prog 47 HH.S:=lF follows Try.func47 (by kernel_rfl) (obs:=[(98,Hy.S),(99,Hz.S)]) (by kernel_rfl) ⟨gJ,iU,trivial⟩
theorem UC:Au Try.prog 87 D9.S:=lF follows Try.func87 (by kernel_rfl) (obs:=[]) (by kernel_rfl) trivial
theorem Uz:Au Try.prog 124 C4.S:=lF follows Try.func124 (by kernel_rfl) (obs:=[]) (by kernel_rfl) trivial
theorem Yl:Au Try.prog 125 D8.S:=lF follows Try.func125 (by kernel_rfl) (obs:=[]) (by kernel_rfl) trivial
theorem Us:Au Try.prog 86 D5.S:=lF follows Try.func86 (by kernel_rfl) (obs:=[(87,D9.S),(124,C4.S),(125,D8.S),(87,D9.S),(124,C4.S),(87,D9.S),(125,D8.S),(124,C4.S)]) (by kernel_rfl) ⟨UC,Uz,Yl,UC,Uz,UC,Yl,Uz,trivial⟩
theorem l9:Au Try.prog 73 Ic.S:=lF follows Try.func73 (by kernel_rfl) (obs:=[(86,D5.S)]) (by kernel_rfl) ⟨Us,trivial⟩
theorem Zc:Au Try.prog 69 Ea.S:=lF follows Try.func69 (by kernel_rfl) (obs:=[]) (by kernel_rfl) trivial
theorem pQ:Au Try.prog 35 Gc.S:=lF follows Try.func35 (by kernel_rfl) (obs:=[(69,Ea.S),(86,D5.S)]) (by kernel_rfl) ⟨Zc,Us,trivial⟩
theorem p6:Au Try.prog 152 IH.S:=lF follows Try.func152 (by kernel_rfl) (obs:=[]) (by kernel_rfl) trivial
theorem nQ:Au Try.prog 134 Ir.S:=lF follows Try.func134 (by kernel_rfl) (obs:=[(152,IH.S),(86,D5.S)]) (by kernel_rfl) ⟨p6,Us,trivial⟩
theorem mS:Au Try.prog 100 H6.S:=lF follows Try.func100 (by kernel_rfl) (obs:=[(73,Ic.S),(35,Gc.S),(134,Ir.S)]) (by kernel_rfl) ⟨l9,pQ,nQ,trivial⟩
theorem mH:Au Try.prog 67 F7.S:=lF follows Try.func67 (by kernel_rfl) (obs:=[]) (by kernel_rfl) trivial
theorem ng:Au Try.prog 102 Ie.S:=lF follows Try.func102 (by kernel_rfl) (obs:=[]) (by kernel_rfl) trivial
theorem oc:Au Try.prog 68 Iw.S:=lF follows Try.func68 (by kernel_rfl) (obs:=[]) (by kernel_rfl) trivial
theorem pC:Au Try.prog 135 IC.S:=lF follows Try.func135 (by kernel_rfl) (obs:=[(68,Iw.S),(69,Ea.S)]) (by kernel_rfl) ⟨oc,Zc,trivial⟩
theorem kQ:Au Try.prog 101 HQ.S:=lF follows Try.func101 (by kernel_rfl) (obs:=[(135,IC.S)]) (by kernel_rfl) ⟨pC,trivial⟩
theorem lu:Au Try.prog 103 F5.S:=lF follows Try.func103 (by kernel_rfl) (obs:=[]) (by kernel_rfl) trivial
theorem kn:Au Try.prog 48 HM.S:=lF follows Try.func48 (by kernel_rfl) (obs:=[(100,H6.S),(67,F7.S),(102,Ie.S),(101,HQ.S),(103,F5.S)]) (by kernel_rfl) ⟨mS,mH,ng,kQ,lu,trivial⟩
theorem XT:Au Try.prog 13 F2.S:=lF follows Try.func13 (by kernel_rfl) (obs:=[(47,HH.S),(48,HM.S)]) (by kernel_rfl) ⟨iB,kn,trivial⟩
theorem Yh:Au Try.prog 138 F9.S:=lF follows Try.func138 (by kernel_rfl) (obs:=[]) (by kernel_rfl) trivial
theorem j7:Au Try.prog 136 HV.S:=lF follows Try.func136 (by kernel_rfl) (obs:=[(138,F9.S)]) (by kernel_rfl) ⟨Yh,trivial⟩
theorem iz:Au Try.prog 105 HA.S:=lF follows Try.func105 (by kernel_rfl) (obs:=[(136,HV.S)]) (by kernel_rfl) ⟨j7,trivial⟩
theorem nf:Au Try.prog 51 H4.S:=lF follows Try.func51 (by kernel_rfl) (obs:=[(105,HA.S)]) (by kernel_rfl) ⟨iz,trivial⟩
theorem pZ:Au Try.prog 137 IJ.S:=lF follows Try.func137 (by kernel_rfl) (obs:=[]) (by kernel_rfl) trivial
theorem oQ:Au Try.prog 106 Ix.S:=lF follows Try.func106 (by kernel_rfl) (obs:=[(137,IJ.S)]) (by kernel_rfl) ⟨pZ,trivial⟩
theorem mx:Au Try.prog 52 H8.S:=lF follows Try.func52 (by kernel_rfl) (obs:=[(106,Ix.S)]) (by kernel_rfl) ⟨oQ,trivial⟩
theorem pS:Au Try.prog 107 Iz.S:=lF follows Try.func107 (by kernel_rfl) (obs:=[(138,F9.S)]) (by kernel_rfl) ⟨Yh,trivial⟩
theorem pj:Au Try.prog 53 Iu.S:=lF follows Try.func53 (by kernel_rfl) (obs:=[(107,Iz.S)]) (by kernel_rfl) ⟨pS,trivial⟩
theorem Yf:Au Try.prog 15 Ga.S:=lF follows Try.func15 (by kernel_rfl) (obs:=[(51,H4.S),(52,H8.S),(53,Iu.S)]) (by kernel_rfl) ⟨nf,mx,pj,trivial⟩
theorem nk:Au Try.prog 49 Ib.S:=lF follows Try.func49 (by kernel_rfl) (obs:=[]) (by kernel_rfl) trivial
theorem ow:Au Try.prog 104 It.S:=lF follows Try.func104 (by kernel_rfl) (obs:=[]) (by kernel_rfl) trivial
theorem mI:Au Try.prog 50 Ij.S:=lF follows Try.func50 (by kernel_rfl) (obs:=[(104,It.S)]) (by kernel_rfl) ⟨ow,trivial⟩
theorem Uk:Au Try.prog 14 D4.S:=lF follows Try.func14 (by kernel_rfl) (obs:=[(15,Ga.S),(49,Ib.S),(50,Ij.S)]) (by kernel_rfl) ⟨Yf,nk,mI,trivial⟩
theorem k_laws_markActionS:Fk Try.prog Try.f139 TU=true:=by kernel_rfl
theorem o_laws_markActionS:Fi Try.prog Try.f139 TU=[]:=by kernel_rfl
theorem fH:Au Try.prog 139 LC:=by unfold LC;exact GR follows Try.func139 k_laws_markActionS o_laws_markActionS trivial
theorem k_laws_markActionSS:Fk Try.prog Try.f108 TT=true:=by kernel_rfl
theorem o_laws_markActionSS:Fi Try.prog Try.f108 TT=[(139,LC)]:=by kernel_rfl
theorem eG:Au Try.prog 108 LA:=by unfold LA;exact GR follows Try.func108 k_laws_markActionSS o_laws_markActionSS ⟨fH,trivial⟩
theorem k_laws_markKeymap:Fk Try.prog Try.f54 Uc=true:=by kernel_rfl
theorem o_laws_markKeymap:Fi Try.prog Try.f54 Uc=[(108,LA)]:=by kernel_rfl
theorem hF:Au Try.prog 54 Km:=by unfold Km;exact GR follows Try.func54 k_laws_markKeymap o_laws_markKeymap ⟨eG,trivial⟩
theorem k_laws_markStepS:Fk Try.prog Try.f109 Ul=true:=by kernel_rfl
theorem o_laws_markStepS:Fi Try.prog Try.f109 Ul=[]:=by kernel_rfl
theorem kx:Au Try.prog 109 LR:=by unfold LR;exact GR follows Try.func109 k_laws_markStepS o_laws_markStepS trivial
theorem k_laws_markStepSS:Fk Try.prog Try.f55 Ua=true:=by kernel_rfl
theorem o_laws_markStepSS:Fi Try.prog Try.f55 Ua=[(109,LR)]:=by kernel_rfl
theorem jb:Au Try.prog 55 LI:=by unfold LI;exact GR follows Try.func55 k_laws_markStepSS o_laws_markStepSS ⟨kx,trivial⟩
theorem k_laws_markHeldS:Fk Try.prog Try.f56 Uj=true:=by kernel_rfl
theorem o_laws_markHeldS:Fi Try.prog Try.f56 Uj=[]:=by kernel_rfl
theorem jG:Au Try.prog 56 LP:=by unfold LP;exact GR follows Try.func56 k_laws_markHeldS o_laws_markHeldS trivial
theorem k_laws_markEngine:Fk Try.prog Try.f16 T5=true:=by kernel_rfl
theorem o_laws_markEngine:Fi Try.prog Try.f16 T5=[(54,Km),(55,LI),(56,LP)]:=by kernel_rfl
theorem XO:Au Try.prog 16 GJ:=by unfold GJ;exact GR follows Try.func16 k_laws_markEngine o_laws_markEngine ⟨hF,jb,jG,trivial⟩
theorem k_laws_markEventS:Fk Try.prog Try.f57 T8=true:=by kernel_rfl
theorem o_laws_markEventS:Fi Try.prog Try.f57 T8=[]:=by kernel_rfl
theorem gV:Au Try.prog 57 LG:=by unfold LG;exact GR follows Try.func57 k_laws_markEventS o_laws_markEventS trivial
theorem k_laws_markDecider:Fk Try.prog Try.f17 TZ=true:=by kernel_rfl
theorem o_laws_markDecider:Fi Try.prog Try.f17 TZ=[(16,GJ),(57,LG)]:=by kernel_rfl
theorem gi:Au Try.prog 17 Jk:=by unfold Jk;exact GR follows Try.func17 k_laws_markDecider o_laws_markDecider ⟨XO,gV,trivial⟩
theorem fY:Au Try.prog 153 Hu.S:=lF follows Try.func153 (by kernel_rfl) (obs:=[]) (by kernel_rfl) trivial
theorem eO:Au Try.prog 140 Ht.S:=lF follows Try.func140 (by kernel_rfl) (obs:=[(153,Hu.S)]) (by kernel_rfl) ⟨fY,trivial⟩
theorem gK:Au Try.prog 110 HD.S:=lF follows Try.func110 (by kernel_rfl) (obs:=[(140,Ht.S)]) (by kernel_rfl) ⟨eO,trivial⟩
theorem kS:Au Try.prog 141 HL.S:=lF follows Try.func141 (by kernel_rfl) (obs:=[]) (by kernel_rfl) trivial
theorem gO:Au Try.prog 111 HC.S:=lF follows Try.func111 (by kernel_rfl) (obs:=[(141,HL.S)]) (by kernel_rfl) ⟨kS,trivial⟩
theorem jM:Au Try.prog 112 HR.S:=lF follows Try.func112 (by kernel_rfl) (obs:=[]) (by kernel_rfl) trivial
theorem gI:Au Try.prog 58 HI.S:=lF follows Try.func58 (by kernel_rfl) (obs:=[(110,HD.S),(111,HC.S),(112,HR.S)]) (by kernel_rfl) ⟨gK,gO,jM,trivial⟩
theorem ja:Au Try.prog 59 Hx.S:=lF follows Try.func59 (by kernel_rfl) (obs:=[]) (by kernel_rfl) trivial
theorem XJ:Au Try.prog 18 FY.S:=lF follows Try.func18 (by kernel_rfl) (obs:=[(58,HI.S),(59,Hx.S)]) (by kernel_rfl) ⟨gI,ja,trivial⟩
theorem ed:Au Try.prog 3 Fy.S:=lF follows Try.func3 (by kernel_rfl) (obs:=[(9,Ih.S),(11,D6.S),(12,EP.S),(10,HG.S),(11,D6.S),(12,EP.S),(13,F2.S),(14,D4.S),(11,D6.S),(15,Ga.S),(16,GJ),(14,D4.S),(17,Jk),(18,FY.S),(11,D6.S),(12,EP.S),(13,F2.S),(14,D4.S),(18,FY.S)]) (by kernel_rfl) ⟨me,Rk,Ur,il,Rk,Ur,XT,Uk,Rk,Yf,XO,Uk,gi,XJ,Rk,Ur,XT,Uk,XJ,trivial⟩
end Go.Proofs.Ytkjnachjeoeihaa
