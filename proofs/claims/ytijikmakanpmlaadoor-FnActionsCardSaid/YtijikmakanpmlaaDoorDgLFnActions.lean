/-
 EACH ABSTRACT FUNCTION IS THE SEAT's OWN: checked by the kernel,function by function (written by program,ag.py).
-/
import Derived.Test.YtijikmakanpmlaaDoorChecked
import Derived.KernelRfl
import Derived.Test.YtijikmakanpmlaaDoorLibF
import Derived.Shelf.Strings.OnBuilder
import Derived.Shelf.Strings.Split
import Derived.Shelf.Strings.Search3
import Derived.Shelf.Small.Strs
import Derived.Shelf.Strconv.Itoa3
import Derived.Shelf.Strconv.Atoi
import Derived.Shelf.Strconv.AtoiErr
import Derived.Lib.AtoiErrMem
import Derived.Lib.SplitLaws
namespace Go.Ag
set_option linter.unusedSimpArgs false
set_option linter.unusedVariables false
set_option linter.unusedSimpArgs false
set_option linter.unusedVariables false
open Go.Shelf Go.RowKit Go.Lib Go.Proofs Go.Sort
set_option maxRecDepth 100000
theorem list_data(l:List UInt8):(ByteArray.mk l.toArray).data.toList=l:=by simp
theorem split_said{P:Program}{ρ:Go.Shelf.Ren}(L:Lays.n146 P ρ)(hi9:(P.info? (ρ.t 9)).map (fun i=>(i.zero,i.size,i.bytes))=some (some (.string ByteArray.empty),1,16))(hgm:P.globalNamed "internal/bytealg.MaxLen"= some (ρ.g 1)):YU P (ρ.f 146):=by
 refine⟨ρ.g 1,hgm,fun s sep m w hs h1 hm=>?_⟩
 have h1':1≤(ByteArray.mk sep.toArray).size:=by simpa [ByteArray.size] using h1
 refine(Any.strings_Split L hi9 ⟨s.toArray⟩ ⟨sep.toArray⟩ m w (by simpa [ByteArray.size] using hs) hm h1').mono ?_
 rintro e w' ⟨rfl,rfl⟩
 have hc:Lib.countB ⟨s.toArray⟩ ⟨sep.toArray⟩=Lib.count s sep:=by show Lib.count _ _=_;rw[list_data,list_data]
 have hb:=Lib.splitB_data ⟨sep.toArray⟩ 0 (Lib.count s sep) ⟨s.toArray⟩
 rw[list_data,list_data] at hb
 have hb:(Lib.splitB ⟨sep.toArray⟩ 0 (Lib.count s sep) ⟨s.toArray⟩).map (·.data.toList)=Lib.split s sep:=hb
 have hl:(Lib.split s sep).length=Lib.count s sep+1:=by rw[← hb,Bm];exact Lib.splitB_all _ h1' 0 _ _ hc
 have hm':(Lib.splitB ⟨sep.toArray⟩ 0 (Lib.count s sep) ⟨s.toArray⟩).map Value.string=(Lib.split s sep).map fun s=>Value.string ⟨s.toArray⟩:=by
  rw[← hb,List.map_map]
  apply List.map_congr_left
  intro x _
  simp
 rw[hc,hl,hm']
 exact⟨_,rfl,rfl⟩
theorem sindex_said{P:Program}{ρ:Go.Shelf.Ren}(L:Lays.n143 P ρ)(hgm:P.globalNamed "internal/bytealg.MaxLen"= some (ρ.g 1)):jF P (ρ.f 143):=
 ⟨ρ.g 1,hgm,fun s sub m w hs hm=>Any.strings_Index L s sub m w hs hm⟩
theorem grow_below(w:World)(k:Nat)(os:Array Obj):Below w.heap.size w (grow (w.drewN k) os):=
 ⟨rfl,rfl,rfl,by simp[grow,World.drewN],fun j hj=>by simp only[grow,World.drewN];exact Array.getElem?_append_left hj⟩
theorem itoa_said{P:Program}{ρ:Go.Shelf.Ren}(L:LaysM.n171 P ρ){gt:Nat}(hgt:P.globalNamed "internal/strconv.uint64pow10"= some gt):Zv P (ρ.f 171):=by
 refine⟨gt,hgt,fun i h0 h1 w ht=>(Any.strconv_Itoa L i h0 h1 w ?_).mono ?_⟩
 · unfold Lib.TabIs Lib.pow10Tab
   rw[ht,List.map_map];rfl
 · rintro e w' ⟨rfl,k,os,rfl⟩
   exact⟨rfl,grow_below w k os⟩
theorem atoi_said{P:Program}{ρ:Go.Shelf.Ren}(L:Lays.n172 P ρ){ρ':Go.Shelf.Ren}(L':LaysC.n172 P ρ')(hf:ρ'.f 172=ρ.f 172)(hge:P.globalNamed "strconv.ErrSyntax"= some (ρ'.g 15)):ZG P (ρ.f 172):=by
 refine⟨ρ'.g 15,hge,fun s n w hs h=>(Any.strconv_Atoi L s n hs h w).mono ?_,fun s t p w hs h hv=>?_⟩
 · rintro e w' ⟨rfl,t,rfl⟩
   exact⟨rfl,Lib.bytesWorld_below _ _ _⟩
 · have hc:w.cell? ⟨ρ'.g 15,0,none⟩=some (.iface t p):=by
    simp only[World.var?,hge,EM] at hv
    split at hv<;>simp_all [World.cell?]
   rw[← hf]
   refine(Any.strconv_Atoi_err L' s hs h (.iface t p) w hc (.inr ⟨t,p,rfl⟩)).mono ?_
   rintro e w' ⟨N,rfl,_,_,B⟩
   exact⟨⟨_,_,rfl⟩,B⟩
end Go.Ag
namespace Go.Proofs.YtijikmakanpmlaaDoor
open Go.Ag
theorem follows:Tryd.prog.follows .mixedOrders=true:=by kernel_rfl
open Go.Shelf Go.Proofs
def lays146_ren:Go.Shelf.Ren:=⟨fun|146=>39|221=>52|268=>62|138=>63|143=>64|195=>74|197=>75|218=>76|219=>73|260=>87|217=>48|225=>84|224=>85|267=>86|266=>59|314=>90|n=>n,fun|9=>9|31=>62|3=>3|4=>4|0=>0|105=>100|21=>21|5=>5|46=>58|119=>117|139=>120|138=>119|146=>115|51=>111|n=>n,fun|1=>2|3=>4|4=>5|n=>n⟩
theorem lays146:Go.Proofs.Lays.n146 Tryd.prog lays146_ren:={
 mixed:=by kernel_rfl
 f138:=Tryd.func63.trans (congrArg some (by kernel_rfl))
 f143:=Tryd.func64.trans (congrArg some (by kernel_rfl))
 f146:=Tryd.func39.trans (congrArg some (by kernel_rfl))
 f195:=Tryd.func74.trans (congrArg some (by kernel_rfl))
 f197:=Tryd.func75.trans (congrArg some (by kernel_rfl))
 f217:=Tryd.func48.trans (congrArg some (by kernel_rfl))
 f218:=Tryd.func76.trans (congrArg some (by kernel_rfl))
 f219:=Tryd.func73.trans (congrArg some (by kernel_rfl))
 f221:=Tryd.func52.trans (congrArg some (by kernel_rfl))
 f224:=Tryd.func85.trans (congrArg some (by kernel_rfl))
 f225:=Tryd.func84.trans (congrArg some (by kernel_rfl))
 f260:=Tryd.func87.trans (congrArg some (by kernel_rfl))
 f266:=Tryd.func59.trans (congrArg some (by kernel_rfl))
 f267:=Tryd.func86.trans (congrArg some (by kernel_rfl))
 f268:=Tryd.func62.trans (congrArg some (by kernel_rfl))
 f314:=Tryd.func90.trans (congrArg some (by kernel_rfl))
 t0:=Tryd.underlying0
 a0:=Tryd.isAgg0
 z0:=Tryd.sizeOf0
 v0:=Tryd.zeroValue0
 t3:=Tryd.underlying3
 a3:=Tryd.isAgg3
 z3:=Tryd.sizeOf3
 v3:=Tryd.zeroValue3
 t4:=Tryd.underlying4
 a4:=Tryd.isAgg4
 z4:=Tryd.sizeOf4
 v4:=Tryd.zeroValue4
 t5:=Tryd.underlying5
 a5:=Tryd.isAgg5
 z5:=Tryd.sizeOf5
 v5:=Tryd.zeroValue5
 t9:=Tryd.underlying9
 a9:=Tryd.isAgg9
 z9:=Tryd.sizeOf9
 v9:=Tryd.zeroValue9
 t21:=Tryd.underlying21
 a21:=Tryd.isAgg21
 z21:=Tryd.sizeOf21
 v21:=Tryd.zeroValue21
 t31:=Tryd.underlying62
 a31:=Tryd.isAgg62
 z31:=Tryd.sizeOf62
 v31:=Tryd.zeroValue62
 t46:=Tryd.underlying58
 a46:=Tryd.isAgg58
 z46:=Tryd.sizeOf58
 v46:=Tryd.zeroValue58
 t51:=Tryd.underlying111
 a51:=Tryd.isAgg111
 z51:=Tryd.sizeOf111
 v51:=Tryd.zeroValue111
 t105:=Tryd.underlying100
 a105:=Tryd.isAgg100
 z105:=Tryd.sizeOf100
 v105:=Tryd.zeroValue100
 t119:=Tryd.underlying117
 a119:=Tryd.isAgg117
 z119:=Tryd.sizeOf117
 t138:=Tryd.underlying119
 a138:=Tryd.isAgg119
 z138:=Tryd.sizeOf119
 v138:=Tryd.zeroValue119
 t139:=Tryd.underlying120
 a139:=Tryd.isAgg120
 z139:=Tryd.sizeOf120
 v139:=Tryd.zeroValue120
 t146:=Tryd.underlying115
 a146:=Tryd.isAgg115
 z146:=Tryd.sizeOf115
 v146:=Tryd.zeroValue115
 g1:=by kernel_rfl
 g3:=by kernel_rfl
 g4:=by kernel_rfl }
theorem WQ:Av Tryd.prog 39 JX:=jh (split_said lays146 (by kernel_rfl) (by kernel_rfl))
def lays219_ren:Go.Shelf.Ren:=⟨fun|219=>73|217=>48|225=>84|224=>85|267=>86|266=>59|314=>90|n=>n,fun|9=>9|3=>3|4=>4|5=>5|46=>58|146=>115|51=>111|n=>n,fun|1=>2|n=>n⟩
theorem lays219:Go.Proofs.Lays.n219 Tryd.prog lays219_ren:={
 mixed:=by kernel_rfl
 f217:=Tryd.func48.trans (congrArg some (by kernel_rfl))
 f219:=Tryd.func73.trans (congrArg some (by kernel_rfl))
 f224:=Tryd.func85.trans (congrArg some (by kernel_rfl))
 f225:=Tryd.func84.trans (congrArg some (by kernel_rfl))
 f266:=Tryd.func59.trans (congrArg some (by kernel_rfl))
 f267:=Tryd.func86.trans (congrArg some (by kernel_rfl))
 f314:=Tryd.func90.trans (congrArg some (by kernel_rfl))
 t3:=Tryd.underlying3
 a3:=Tryd.isAgg3
 z3:=Tryd.sizeOf3
 v3:=Tryd.zeroValue3
 t4:=Tryd.underlying4
 a4:=Tryd.isAgg4
 z4:=Tryd.sizeOf4
 v4:=Tryd.zeroValue4
 t5:=Tryd.underlying5
 a5:=Tryd.isAgg5
 z5:=Tryd.sizeOf5
 v5:=Tryd.zeroValue5
 t9:=Tryd.underlying9
 a9:=Tryd.isAgg9
 z9:=Tryd.sizeOf9
 v9:=Tryd.zeroValue9
 t46:=Tryd.underlying58
 a46:=Tryd.isAgg58
 z46:=Tryd.sizeOf58
 v46:=Tryd.zeroValue58
 t51:=Tryd.underlying111
 a51:=Tryd.isAgg111
 z51:=Tryd.sizeOf111
 v51:=Tryd.zeroValue111
 t146:=Tryd.underlying115
 a146:=Tryd.isAgg115
 z146:=Tryd.sizeOf115
 v146:=Tryd.zeroValue115
 g1:=by kernel_rfl }
theorem cE:Av Tryd.prog 73 MU:=jk fun s c w=>Go.Proofs.Any.stringslite_Index_one lays219 s c w
def laysM171_ren:Go.Shelf.Ren:=⟨fun|171=>29|243=>45|246=>58|283=>68|284=>69|285=>70|286=>71|129=>80|317=>79|318=>81|319=>82|320=>83|337=>88|338=>89|n=>n,fun|3=>3|9=>9|2=>2|4=>4|171=>94|0=>0|53=>87|37=>22|5=>5|173=>97|212=>110|51=>111|20=>20|213=>112|46=>58|232=>121|233=>122|n=>n,fun|17=>3|18=>6|19=>7|n=>n⟩
theorem laysM171:Go.Proofs.LaysM.n171 Tryd.prog laysM171_ren:={
 mixed:=by kernel_rfl
 f129:=Tryd.func80.trans (congrArg some (by kernel_rfl))
 f171:=Tryd.func29.trans (congrArg some (by kernel_rfl))
 f243:=Tryd.func45.trans (congrArg some (by kernel_rfl))
 f246:=Tryd.func58.trans (congrArg some (by kernel_rfl))
 f283:=Tryd.func68.trans (congrArg some (by kernel_rfl))
 f284:=Tryd.func69.trans (congrArg some (by kernel_rfl))
 f285:=Tryd.func70.trans (congrArg some (by kernel_rfl))
 f286:=Tryd.func71.trans (congrArg some (by kernel_rfl))
 f317:=Tryd.func79.trans (congrArg some (by kernel_rfl))
 f318:=Tryd.func81.trans (congrArg some (by kernel_rfl))
 f319:=Tryd.func82.trans (congrArg some (by kernel_rfl))
 f320:=Tryd.func83.trans (congrArg some (by kernel_rfl))
 f337:=Tryd.func88.trans (congrArg some (by kernel_rfl))
 f338:=Tryd.func89.trans (congrArg some (by kernel_rfl))
 t0:=Tryd.underlying0
 a0:=Tryd.isAgg0
 z0:=Tryd.sizeOf0
 v0:=Tryd.zeroValue0
 t2:=Tryd.underlying2
 a2:=Tryd.isAgg2
 z2:=Tryd.sizeOf2
 v2:=Tryd.zeroValue2
 t3:=Tryd.underlying3
 a3:=Tryd.isAgg3
 z3:=Tryd.sizeOf3
 v3:=Tryd.zeroValue3
 t4:=Tryd.underlying4
 a4:=Tryd.isAgg4
 z4:=Tryd.sizeOf4
 v4:=Tryd.zeroValue4
 t5:=Tryd.underlying5
 a5:=Tryd.isAgg5
 z5:=Tryd.sizeOf5
 v5:=Tryd.zeroValue5
 t9:=Tryd.underlying9
 a9:=Tryd.isAgg9
 z9:=Tryd.sizeOf9
 v9:=Tryd.zeroValue9
 t20:=Tryd.underlying20
 a20:=Tryd.isAgg20
 z20:=Tryd.sizeOf20
 v20:=Tryd.zeroValue20
 t37:=Tryd.underlying22
 a37:=Tryd.isAgg22
 z37:=Tryd.sizeOf22
 v37:=Tryd.zeroValue22
 t46:=Tryd.underlying58
 a46:=Tryd.isAgg58
 z46:=Tryd.sizeOf58
 v46:=Tryd.zeroValue58
 t51:=Tryd.underlying111
 a51:=Tryd.isAgg111
 z51:=Tryd.sizeOf111
 v51:=Tryd.zeroValue111
 t53:=Tryd.underlying87
 a53:=Tryd.isAgg87
 z53:=Tryd.sizeOf87
 v53:=Tryd.zeroValue87
 t171:=Tryd.underlying94
 a171:=Tryd.isAgg94
 z171:=Tryd.sizeOf94
 v171:=Tryd.zeroValue94
 t173:=Tryd.underlying97
 a173:=Tryd.isAgg97
 z173:=Tryd.sizeOf97
 v173:=Tryd.zeroValue97
 t212:=Tryd.underlying110
 a212:=Tryd.isAgg110
 z212:=Tryd.sizeOf110
 v212:=Tryd.zeroValue110
 t213:=Tryd.underlying112
 a213:=Tryd.isAgg112
 z213:=Tryd.sizeOf112
 t232:=Tryd.underlying121
 a232:=Tryd.isAgg121
 z232:=Tryd.sizeOf121
 v232:=Tryd.zeroValue121
 t233:=Tryd.underlying122
 a233:=Tryd.isAgg122
 z233:=Tryd.sizeOf122
 v233:=Tryd.zeroValue122
 g17:=by kernel_rfl
 g18:=by kernel_rfl
 g19:=by kernel_rfl
 i0:=by kernel_rfl
 i2:=by kernel_rfl
 i3:=by kernel_rfl
 i4:=by kernel_rfl
 i5:=by kernel_rfl
 i9:=by kernel_rfl
 i20:=by kernel_rfl
 i37:=by kernel_rfl
 i46:=by kernel_rfl
 i51:=by kernel_rfl
 i53:=by kernel_rfl
 i171:=by kernel_rfl
 i173:=by kernel_rfl
 i212:=by kernel_rfl
 i232:=by kernel_rfl
 i233:=by kernel_rfl
 m17:=by kernel_rfl
 m18:=by kernel_rfl
 m19:=by kernel_rfl }
theorem fE:Av Tryd.prog 29 Nk:=jV (itoa_said laysM171 (gt:=3) (by kernel_rfl))
def lays172_ren:Go.Shelf.Ren:=⟨fun|172=>28|244=>43|245=>44|247=>53|279=>54|280=>55|281=>56|282=>57|287=>65|316=>66|171=>29|205=>67|321=>77|322=>78|243=>45|246=>58|283=>68|284=>69|285=>70|286=>71|129=>80|317=>79|318=>81|319=>82|320=>83|337=>88|338=>89|n=>n,fun|9=>9|3=>3|75=>51|76=>52|4=>4|5=>5|167=>78|37=>22|0=>0|85=>79|2=>2|168=>81|53=>87|175=>88|46=>58|210=>92|127=>104|145=>107|143=>105|21=>21|171=>94|173=>97|212=>110|51=>111|20=>20|213=>112|232=>121|233=>122|80=>123|n=>n,fun|15=>0|16=>1|17=>3|18=>6|19=>7|n=>n⟩
theorem lays172:Go.Proofs.Lays.n172 Tryd.prog lays172_ren:={
 mixed:=by kernel_rfl
 f129:=Tryd.func80.trans (congrArg some (by kernel_rfl))
 f171:=Tryd.func29.trans (congrArg some (by kernel_rfl))
 f172:=Tryd.func28.trans (congrArg some (by kernel_rfl))
 f205:=Tryd.func67.trans (congrArg some (by kernel_rfl))
 f243:=Tryd.func45.trans (congrArg some (by kernel_rfl))
 f244:=Tryd.func43.trans (congrArg some (by kernel_rfl))
 f245:=Tryd.func44.trans (congrArg some (by kernel_rfl))
 f246:=Tryd.func58.trans (congrArg some (by kernel_rfl))
 f247:=Tryd.func53.trans (congrArg some (by kernel_rfl))
 f279:=Tryd.func54.trans (congrArg some (by kernel_rfl))
 f280:=Tryd.func55.trans (congrArg some (by kernel_rfl))
 f281:=Tryd.func56.trans (congrArg some (by kernel_rfl))
 f282:=Tryd.func57.trans (congrArg some (by kernel_rfl))
 f283:=Tryd.func68.trans (congrArg some (by kernel_rfl))
 f284:=Tryd.func69.trans (congrArg some (by kernel_rfl))
 f285:=Tryd.func70.trans (congrArg some (by kernel_rfl))
 f286:=Tryd.func71.trans (congrArg some (by kernel_rfl))
 f287:=Tryd.func65.trans (congrArg some (by kernel_rfl))
 f316:=Tryd.func66.trans (congrArg some (by kernel_rfl))
 f317:=Tryd.func79.trans (congrArg some (by kernel_rfl))
 f318:=Tryd.func81.trans (congrArg some (by kernel_rfl))
 f319:=Tryd.func82.trans (congrArg some (by kernel_rfl))
 f320:=Tryd.func83.trans (congrArg some (by kernel_rfl))
 f321:=Tryd.func77.trans (congrArg some (by kernel_rfl))
 f322:=Tryd.func78.trans (congrArg some (by kernel_rfl))
 f337:=Tryd.func88.trans (congrArg some (by kernel_rfl))
 f338:=Tryd.func89.trans (congrArg some (by kernel_rfl))
 t0:=Tryd.underlying0
 a0:=Tryd.isAgg0
 z0:=Tryd.sizeOf0
 v0:=Tryd.zeroValue0
 t2:=Tryd.underlying2
 a2:=Tryd.isAgg2
 z2:=Tryd.sizeOf2
 v2:=Tryd.zeroValue2
 t3:=Tryd.underlying3
 a3:=Tryd.isAgg3
 z3:=Tryd.sizeOf3
 v3:=Tryd.zeroValue3
 t4:=Tryd.underlying4
 a4:=Tryd.isAgg4
 z4:=Tryd.sizeOf4
 v4:=Tryd.zeroValue4
 t5:=Tryd.underlying5
 a5:=Tryd.isAgg5
 z5:=Tryd.sizeOf5
 v5:=Tryd.zeroValue5
 t9:=Tryd.underlying9
 a9:=Tryd.isAgg9
 z9:=Tryd.sizeOf9
 v9:=Tryd.zeroValue9
 t20:=Tryd.underlying20
 a20:=Tryd.isAgg20
 z20:=Tryd.sizeOf20
 v20:=Tryd.zeroValue20
 t21:=Tryd.underlying21
 a21:=Tryd.isAgg21
 z21:=Tryd.sizeOf21
 v21:=Tryd.zeroValue21
 t37:=Tryd.underlying22
 a37:=Tryd.isAgg22
 z37:=Tryd.sizeOf22
 v37:=Tryd.zeroValue22
 t46:=Tryd.underlying58
 a46:=Tryd.isAgg58
 z46:=Tryd.sizeOf58
 v46:=Tryd.zeroValue58
 t51:=Tryd.underlying111
 a51:=Tryd.isAgg111
 z51:=Tryd.sizeOf111
 v51:=Tryd.zeroValue111
 t53:=Tryd.underlying87
 a53:=Tryd.isAgg87
 z53:=Tryd.sizeOf87
 v53:=Tryd.zeroValue87
 t75:=Tryd.underlying51
 a75:=Tryd.isAgg51
 z75:=Tryd.sizeOf51
 v75:=Tryd.zeroValue51
 t76:=Tryd.underlying52
 a76:=Tryd.isAgg52
 z76:=Tryd.sizeOf52
 v76:=Tryd.zeroValue52
 t85:=Tryd.underlying79
 a85:=Tryd.isAgg79
 z85:=Tryd.sizeOf79
 v85:=Tryd.zeroValue79
 t127:=Tryd.underlying104
 a127:=Tryd.isAgg104
 z127:=Tryd.sizeOf104
 v127:=Tryd.zeroValue104
 t143:=Tryd.underlying105
 a143:=Tryd.isAgg105
 z143:=Tryd.sizeOf105
 v143:=Tryd.zeroValue105
 t145:=Tryd.underlying107
 a145:=Tryd.isAgg107
 z145:=Tryd.sizeOf107
 v145:=Tryd.zeroValue107
 t167:=Tryd.underlying78
 a167:=Tryd.isAgg78
 z167:=Tryd.sizeOf78
 v167:=Tryd.zeroValue78
 t168:=Tryd.underlying81
 a168:=Tryd.isAgg81
 z168:=Tryd.sizeOf81
 v168:=Tryd.zeroValue81
 t171:=Tryd.underlying94
 a171:=Tryd.isAgg94
 z171:=Tryd.sizeOf94
 v171:=Tryd.zeroValue94
 t173:=Tryd.underlying97
 a173:=Tryd.isAgg97
 z173:=Tryd.sizeOf97
 v173:=Tryd.zeroValue97
 t175:=Tryd.underlying88
 a175:=Tryd.isAgg88
 z175:=Tryd.sizeOf88
 v175:=Tryd.zeroValue88
 t210:=Tryd.underlying92
 a210:=Tryd.isAgg92
 z210:=Tryd.sizeOf92
 v210:=Tryd.zeroValue92
 t212:=Tryd.underlying110
 a212:=Tryd.isAgg110
 z212:=Tryd.sizeOf110
 v212:=Tryd.zeroValue110
 t213:=Tryd.underlying112
 a213:=Tryd.isAgg112
 z213:=Tryd.sizeOf112
 t232:=Tryd.underlying121
 a232:=Tryd.isAgg121
 z232:=Tryd.sizeOf121
 v232:=Tryd.zeroValue121
 t233:=Tryd.underlying122
 a233:=Tryd.isAgg122
 z233:=Tryd.sizeOf122
 v233:=Tryd.zeroValue122
 g15:=by kernel_rfl
 g16:=by kernel_rfl
 g17:=by kernel_rfl
 g18:=by kernel_rfl
 g19:=by kernel_rfl }
def laysC172_ren:Go.Shelf.Ren:=⟨fun|172=>28|244=>43|245=>44|247=>53|279=>54|280=>55|281=>56|282=>57|287=>65|316=>66|171=>29|205=>67|321=>77|322=>78|243=>45|246=>58|283=>68|284=>69|285=>70|286=>71|129=>80|317=>79|318=>81|319=>82|320=>83|337=>88|338=>89|n=>n,fun|9=>9|3=>3|75=>51|76=>52|4=>4|5=>5|167=>78|37=>22|0=>0|85=>79|2=>2|168=>81|53=>87|175=>88|46=>58|210=>92|127=>104|145=>107|143=>105|21=>21|171=>94|173=>97|212=>110|51=>111|20=>20|213=>112|232=>121|233=>122|80=>123|n=>n,fun|15=>0|16=>1|17=>3|18=>6|19=>7|n=>n⟩
theorem laysC172:Go.Proofs.LaysC.n172 Tryd.prog laysC172_ren:={
 mixed:=by kernel_rfl
 f129:=Tryd.func80.trans (congrArg some (by kernel_rfl))
 f171:=Tryd.func29.trans (congrArg some (by kernel_rfl))
 f172:=Tryd.func28.trans (congrArg some (by kernel_rfl))
 f205:=Tryd.func67.trans (congrArg some (by kernel_rfl))
 f243:=Tryd.func45.trans (congrArg some (by kernel_rfl))
 f244:=Tryd.func43.trans (congrArg some (by kernel_rfl))
 f245:=Tryd.func44.trans (congrArg some (by kernel_rfl))
 f246:=Tryd.func58.trans (congrArg some (by kernel_rfl))
 f247:=Tryd.func53.trans (congrArg some (by kernel_rfl))
 f279:=Tryd.func54.trans (congrArg some (by kernel_rfl))
 f280:=Tryd.func55.trans (congrArg some (by kernel_rfl))
 f281:=Tryd.func56.trans (congrArg some (by kernel_rfl))
 f282:=Tryd.func57.trans (congrArg some (by kernel_rfl))
 f283:=Tryd.func68.trans (congrArg some (by kernel_rfl))
 f284:=Tryd.func69.trans (congrArg some (by kernel_rfl))
 f285:=Tryd.func70.trans (congrArg some (by kernel_rfl))
 f286:=Tryd.func71.trans (congrArg some (by kernel_rfl))
 f287:=Tryd.func65.trans (congrArg some (by kernel_rfl))
 f316:=Tryd.func66.trans (congrArg some (by kernel_rfl))
 f317:=Tryd.func79.trans (congrArg some (by kernel_rfl))
 f318:=Tryd.func81.trans (congrArg some (by kernel_rfl))
 f319:=Tryd.func82.trans (congrArg some (by kernel_rfl))
 f320:=Tryd.func83.trans (congrArg some (by kernel_rfl))
 f321:=Tryd.func77.trans (congrArg some (by kernel_rfl))
 f322:=Tryd.func78.trans (congrArg some (by kernel_rfl))
 f337:=Tryd.func88.trans (congrArg some (by kernel_rfl))
 f338:=Tryd.func89.trans (congrArg some (by kernel_rfl))
 t0:=Tryd.underlying0
 a0:=Tryd.isAgg0
 z0:=Tryd.sizeOf0
 v0:=Tryd.zeroValue0
 t2:=Tryd.underlying2
 a2:=Tryd.isAgg2
 z2:=Tryd.sizeOf2
 v2:=Tryd.zeroValue2
 t3:=Tryd.underlying3
 a3:=Tryd.isAgg3
 z3:=Tryd.sizeOf3
 v3:=Tryd.zeroValue3
 t4:=Tryd.underlying4
 a4:=Tryd.isAgg4
 z4:=Tryd.sizeOf4
 v4:=Tryd.zeroValue4
 t5:=Tryd.underlying5
 a5:=Tryd.isAgg5
 z5:=Tryd.sizeOf5
 v5:=Tryd.zeroValue5
 t9:=Tryd.underlying9
 a9:=Tryd.isAgg9
 z9:=Tryd.sizeOf9
 v9:=Tryd.zeroValue9
 t20:=Tryd.underlying20
 a20:=Tryd.isAgg20
 z20:=Tryd.sizeOf20
 v20:=Tryd.zeroValue20
 t21:=Tryd.underlying21
 a21:=Tryd.isAgg21
 z21:=Tryd.sizeOf21
 v21:=Tryd.zeroValue21
 t37:=Tryd.underlying22
 a37:=Tryd.isAgg22
 z37:=Tryd.sizeOf22
 v37:=Tryd.zeroValue22
 t46:=Tryd.underlying58
 a46:=Tryd.isAgg58
 z46:=Tryd.sizeOf58
 v46:=Tryd.zeroValue58
 t51:=Tryd.underlying111
 a51:=Tryd.isAgg111
 z51:=Tryd.sizeOf111
 v51:=Tryd.zeroValue111
 t53:=Tryd.underlying87
 a53:=Tryd.isAgg87
 z53:=Tryd.sizeOf87
 v53:=Tryd.zeroValue87
 t75:=Tryd.underlying51
 a75:=Tryd.isAgg51
 z75:=Tryd.sizeOf51
 v75:=Tryd.zeroValue51
 t76:=Tryd.underlying52
 a76:=Tryd.isAgg52
 z76:=Tryd.sizeOf52
 v76:=Tryd.zeroValue52
 t85:=Tryd.underlying79
 a85:=Tryd.isAgg79
 z85:=Tryd.sizeOf79
 v85:=Tryd.zeroValue79
 t127:=Tryd.underlying104
 a127:=Tryd.isAgg104
 z127:=Tryd.sizeOf104
 v127:=Tryd.zeroValue104
 t143:=Tryd.underlying105
 a143:=Tryd.isAgg105
 z143:=Tryd.sizeOf105
 v143:=Tryd.zeroValue105
 t145:=Tryd.underlying107
 a145:=Tryd.isAgg107
 z145:=Tryd.sizeOf107
 v145:=Tryd.zeroValue107
 t167:=Tryd.underlying78
 a167:=Tryd.isAgg78
 z167:=Tryd.sizeOf78
 v167:=Tryd.zeroValue78
 t168:=Tryd.underlying81
 a168:=Tryd.isAgg81
 z168:=Tryd.sizeOf81
 v168:=Tryd.zeroValue81
 t171:=Tryd.underlying94
 a171:=Tryd.isAgg94
 z171:=Tryd.sizeOf94
 v171:=Tryd.zeroValue94
 t173:=Tryd.underlying97
 a173:=Tryd.isAgg97
 z173:=Tryd.sizeOf97
 v173:=Tryd.zeroValue97
 t175:=Tryd.underlying88
 a175:=Tryd.isAgg88
 z175:=Tryd.sizeOf88
 v175:=Tryd.zeroValue88
 t210:=Tryd.underlying92
 a210:=Tryd.isAgg92
 z210:=Tryd.sizeOf92
 v210:=Tryd.zeroValue92
 t212:=Tryd.underlying110
 a212:=Tryd.isAgg110
 z212:=Tryd.sizeOf110
 v212:=Tryd.zeroValue110
 t213:=Tryd.underlying112
 a213:=Tryd.isAgg112
 z213:=Tryd.sizeOf112
 t232:=Tryd.underlying121
 a232:=Tryd.isAgg121
 z232:=Tryd.sizeOf121
 v232:=Tryd.zeroValue121
 t233:=Tryd.underlying122
 a233:=Tryd.isAgg122
 z233:=Tryd.sizeOf122
 v233:=Tryd.zeroValue122
 g15:=by kernel_rfl
 g16:=by kernel_rfl
 g17:=by kernel_rfl
 g18:=by kernel_rfl
 g19:=by kernel_rfl
 t80:=Tryd.underlying123
 a80:=Tryd.isAgg123
 z80:=Tryd.sizeOf123
 v80:=Tryd.zeroValue123
 i0:=by kernel_rfl
 i2:=by kernel_rfl
 i3:=by kernel_rfl
 i4:=by kernel_rfl
 i5:=by kernel_rfl
 i9:=by kernel_rfl
 i20:=by kernel_rfl
 i21:=by kernel_rfl
 i37:=by kernel_rfl
 i46:=by kernel_rfl
 i51:=by kernel_rfl
 i53:=by kernel_rfl
 i75:=by kernel_rfl
 i76:=by kernel_rfl
 i80:=by kernel_rfl
 i85:=by kernel_rfl
 i127:=by kernel_rfl
 i143:=by kernel_rfl
 i145:=by kernel_rfl
 i167:=by kernel_rfl
 i168:=by kernel_rfl
 i171:=by kernel_rfl
 i173:=by kernel_rfl
 i175:=by kernel_rfl
 i210:=by kernel_rfl
 i212:=by kernel_rfl
 i232:=by kernel_rfl
 i233:=by kernel_rfl
 m15:=by kernel_rfl
 m16:=by kernel_rfl
 m17:=by kernel_rfl
 m18:=by kernel_rfl
 m19:=by kernel_rfl
 c0:=by kernel_rfl
 c2:=by kernel_rfl
 c3:=by kernel_rfl
 c4:=by kernel_rfl
 c5:=by kernel_rfl
 c9:=by kernel_rfl
 c20:=by kernel_rfl
 c21:=by kernel_rfl
 c37:=by kernel_rfl
 c46:=by kernel_rfl
 c51:=by kernel_rfl
 c53:=by kernel_rfl
 c75:=by kernel_rfl
 c76:=by kernel_rfl
 c80:=by kernel_rfl
 c85:=by kernel_rfl
 c127:=by kernel_rfl
 c143:=by kernel_rfl
 c145:=by kernel_rfl
 c167:=by kernel_rfl
 c168:=by kernel_rfl
 c171:=by kernel_rfl
 c173:=by kernel_rfl
 c175:=by kernel_rfl
 c210:=by kernel_rfl
 c212:=by kernel_rfl
 c213:=by kernel_rfl
 c232:=by kernel_rfl
 c233:=by kernel_rfl }
theorem fI:Av Tryd.prog 28 Ni:=jB (atoi_said lays172 laysC172 (by kernel_rfl) (by kernel_rfl))
theorem jN:Av Tryd.prog 5 H4.S:=lF follows Tryd.func5 (by kernel_rfl) (obs:=[]) (by kernel_rfl) trivial
theorem k_spec_l1New:Hf Tryd.prog Tryd.f42 I2.er.er=true:=by kernel_rfl
theorem o_spec_l1New:Hl Tryd.prog Tryd.f42 I2.er.er=[]:=by kernel_rfl
theorem iv:Av Tryd.prog 42 LA:=by unfold LA;exact J4 follows Tryd.func42 k_spec_l1New o_spec_l1New trivial
theorem k_spec_l24New:Hf Tryd.prog Tryd.f27 IZ.er.er=true:=by kernel_rfl
theorem o_spec_l24New:Hl Tryd.prog Tryd.f27 IZ.er.er=[(42,LA)]:=by kernel_rfl
theorem gE:Av Tryd.prog 27 Lz:=by unfold Lz;exact J4 follows Tryd.func27 k_spec_l24New o_spec_l24New ⟨iv,trivial⟩
theorem k_spec_l1Byte:Hf Tryd.prog Tryd.f41 IW.er.er=true:=by kernel_rfl
theorem o_spec_l1Byte:Hl Tryd.prog Tryd.f41 IW.er.er=[]:=by kernel_rfl
theorem Ns:Av Tryd.prog 41 EE:=by unfold EE;exact J4 follows Tryd.func41 k_spec_l1Byte o_spec_l1Byte trivial
theorem k_spec_l1Below:Hf Tryd.prog Tryd.f26 IQ.er.er=true:=by kernel_rfl
theorem o_spec_l1Below:Hl Tryd.prog Tryd.f26 IQ.er.er=[(41,EE),(41,EE),(41,EE),(41,EE),(41,EE)]:=by kernel_rfl
theorem I0:Av Tryd.prog 26 CW:=by unfold CW;exact J4 follows Tryd.func26 k_spec_l1Below o_spec_l1Below ⟨Ns,Ns,Ns,Ns,Ns,trivial⟩
theorem k_spec_l1Once:Hf Tryd.prog Tryd.f49 IX.er.er=true:=by kernel_rfl
theorem o_spec_l1Once:Hl Tryd.prog Tryd.f49 IX.er.er=[(26,CW)]:=by kernel_rfl
theorem gM:Av Tryd.prog 49 Lt:=by unfold Lt;exact J4 follows Tryd.func49 k_spec_l1Once o_spec_l1Once ⟨I0,trivial⟩
theorem k_spec_l5Draw:Hf Tryd.prog Tryd.f33 IV.er.er=true:=by kernel_rfl
theorem o_spec_l5Draw:Hl Tryd.prog Tryd.f33 IV.er.er=[(26,CW),(26,CW),(49,Lt),(26,CW),(26,CW),(26,CW),(26,CW),(26,CW)]:=by kernel_rfl
theorem gx:Av Tryd.prog 33 Lx:=by unfold Lx;exact J4 follows Tryd.func33 k_spec_l5Draw o_spec_l5Draw ⟨I0,I0,gM,I0,I0,I0,I0,I0,trivial⟩
theorem eu:Av Tryd.prog 13 HH.S:=lF follows Tryd.func13 (by kernel_rfl) (obs:=[(27,Lz),(33,Lx)]) (by kernel_rfl) ⟨gE,gx,trivial⟩
theorem Ta:Av Tryd.prog 36 Ek.S:=lF follows Tryd.func36 (by kernel_rfl) (obs:=[]) (by kernel_rfl) trivial
theorem S5:Av Tryd.prog 37 Db.S:=lF follows Tryd.func37 (by kernel_rfl) (obs:=[]) (by kernel_rfl) trivial
theorem Xb:Av Tryd.prog 38 Ei.S:=lF follows Tryd.func38 (by kernel_rfl) (obs:=[]) (by kernel_rfl) trivial
theorem IP:Av Tryd.prog 20 Ca.S:=lF follows Tryd.func20 (by kernel_rfl) (obs:=[(36,Ek.S),(37,Db.S),(38,Ei.S),(36,Ek.S),(37,Db.S),(36,Ek.S),(38,Ei.S),(37,Db.S)]) (by kernel_rfl) ⟨Ta,S5,Xb,Ta,S5,Ta,Xb,S5,trivial⟩
theorem jR:Av Tryd.prog 40 H5.S:=lF follows Tryd.func40 (by kernel_rfl) (obs:=[]) (by kernel_rfl) trivial
theorem M6:Av Tryd.prog 25 C7.S:=lF follows Tryd.func25 (by kernel_rfl) (obs:=[(40,H5.S)]) (by kernel_rfl) ⟨jR,trivial⟩
theorem Na:Av Tryd.prog 23 C9.S:=lF follows Tryd.func23 (by kernel_rfl) (obs:=[(39,JX)]) (by kernel_rfl) ⟨WQ,trivial⟩
theorem SS:Av Tryd.prog 8 Eh.S:=lF follows Tryd.func8 (by kernel_rfl) (obs:=[(29,Nk)]) (by kernel_rfl) ⟨fE,trivial⟩
theorem Xx:Av Tryd.prog 35 Gb.S:=lF follows Tryd.func35 (by kernel_rfl) (obs:=[]) (by kernel_rfl) trivial
theorem Wv:Av Tryd.prog 15 EY.S:=lF follows Tryd.func15 (by kernel_rfl) (obs:=[(20,Ca.S),(25,C7.S),(23,C9.S),(23,C9.S),(25,C7.S),(23,C9.S),(8,Eh.S),(23,C9.S),(25,C7.S),(35,Gb.S),(8,Eh.S)]) (by kernel_rfl) ⟨IP,M6,Na,Na,M6,Na,SS,Na,M6,Xx,SS,trivial⟩
theorem cA:Av Tryd.prog 72 Hy.S:=lF follows Tryd.func72 (by kernel_rfl) (obs:=[]) (by kernel_rfl) trivial
theorem cz:Av Tryd.prog 60 Hx.S:=lF follows Tryd.func60 (by kernel_rfl) (obs:=[(72,Hy.S)]) (by kernel_rfl) ⟨cA,trivial⟩
theorem Ww:Av Tryd.prog 50 F6.S:=lF follows Tryd.func50 (by kernel_rfl) (obs:=[(60,Hx.S)]) (by kernel_rfl) ⟨cz,trivial⟩
theorem WT:Av Tryd.prog 7 F8.S:=lF follows Tryd.func7 (by kernel_rfl) (obs:=[(28,Ni),(8,Eh.S)]) (by kernel_rfl) ⟨fI,SS,trivial⟩
theorem PO:Av Tryd.prog 24 Dy.S:=lF follows Tryd.func24 (by kernel_rfl) (obs:=[(25,C7.S)]) (by kernel_rfl) ⟨M6,trivial⟩
theorem cK:Av Tryd.prog 61 Hz.S:=lF follows Tryd.func61 (by kernel_rfl) (obs:=[(73,MU)]) (by kernel_rfl) ⟨cE,trivial⟩
theorem Xr:Av Tryd.prog 51 Ga.S:=lF follows Tryd.func51 (by kernel_rfl) (obs:=[(61,Hz.S)]) (by kernel_rfl) ⟨cK,trivial⟩
theorem Nt:Av Tryd.prog 22 Da.S:=lF follows Tryd.func22 (by kernel_rfl) (obs:=[(39,JX)]) (by kernel_rfl) ⟨WQ,trivial⟩
theorem dE:Av Tryd.prog 34 HE.S:=lF follows Tryd.func34 (by kernel_rfl) (obs:=[(35,Gb.S),(50,F6.S),(7,F8.S),(50,F6.S),(24,Dy.S),(51,Ga.S),(7,F8.S),(22,Da.S),(24,Dy.S),(22,Da.S),(51,Ga.S),(24,Dy.S),(22,Da.S),(22,Da.S)]) (by kernel_rfl) ⟨Xx,Ww,WT,Ww,PO,Xr,WT,Nt,PO,Nt,Xr,PO,Nt,Nt,trivial⟩
theorem dC:Av Tryd.prog 14 HG.S:=lF follows Tryd.func14 (by kernel_rfl) (obs:=[(34,HE.S),(20,Ca.S),(15,EY.S)]) (by kernel_rfl) ⟨dE,IP,Wv,trivial⟩
theorem eg:Av Tryd.prog 17 HK.S:=lF follows Tryd.func17 (by kernel_rfl) (obs:=[(20,Ca.S)]) (by kernel_rfl) ⟨IP,trivial⟩
theorem du:Av Tryd.prog 16 HC.S:=lF follows Tryd.func16 (by kernel_rfl) (obs:=[(20,Ca.S)]) (by kernel_rfl) ⟨IP,trivial⟩
theorem Le:Av Tryd.prog 21 Ci.S:=lF follows Tryd.func21 (by kernel_rfl) (obs:=[(20,Ca.S)]) (by kernel_rfl) ⟨IP,trivial⟩
theorem ic:Av Tryd.prog 18 HS.S:=lF follows Tryd.func18 (by kernel_rfl) (obs:=[(21,Ci.S)]) (by kernel_rfl) ⟨Le,trivial⟩
theorem gA:Av Tryd.prog 19 HR.S:=lF follows Tryd.func19 (by kernel_rfl) (obs:=[(21,Ci.S)]) (by kernel_rfl) ⟨Le,trivial⟩
theorem eV:Av Tryd.prog 4 FE.S:=lF follows Tryd.func4 (by kernel_rfl) (obs:=[(5,H4.S),(13,HH.S),(15,EY.S),(14,HG.S),(17,HK.S),(16,HC.S),(18,HS.S),(19,HR.S),(20,Ca.S),(20,Ca.S),(20,Ca.S),(21,Ci.S),(21,Ci.S),(21,Ci.S),(21,Ci.S),(23,C9.S),(22,Da.S),(25,C7.S),(24,Dy.S)]) (by kernel_rfl) ⟨jN,eu,Wv,dC,eg,du,ic,gA,IP,IP,IP,Le,Le,Le,Le,Na,Nt,M6,PO,trivial⟩
end Go.Proofs.YtijikmakanpmlaaDoor
