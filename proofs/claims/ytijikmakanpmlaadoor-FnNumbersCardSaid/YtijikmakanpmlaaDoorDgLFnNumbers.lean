/-
 EACH ABSTRACT FUNCTION IS THE SEAT's OWN: checked by the kernel,function by function (written by program,ag.py).
-/
import Derived.Test.YtijikmakanpmlaaDoorChecked
import Derived.KernelRfl
import Derived.Test.YtijikmakanpmlaaDoorLibF
import Derived.Shelf.Strings.OnBuilder
import Derived.Shelf.Strings.Split
import Derived.Shelf.Strings.Search3
import Derived.Shelf.Small.Strs
import Derived.Shelf.Strconv.Itoa3
import Derived.Shelf.Strconv.Atoi
import Derived.Shelf.Strconv.AtoiErr
import Derived.Lib.AtoiErrMem
import Derived.Lib.SplitLaws
namespace Go.Ag
set_option linter.unusedSimpArgs false
set_option linter.unusedVariables false
set_option linter.unusedSimpArgs false
set_option linter.unusedVariables false
open Go.Shelf Go.RowKit Go.Lib Go.Proofs Go.Sort
set_option maxRecDepth 100000
theorem list_data(l:List UInt8):(ByteArray.mk l.toArray).data.toList=l:=by simp
theorem split_said{P:Program}{ρ:Go.Shelf.Ren}(L:Lays.n146 P ρ)(hi9:(P.info? (ρ.t 9)).map (fun i=>(i.zero,i.size,i.bytes))=some (some (.string ByteArray.empty),1,16))(hgm:P.globalNamed "internal/bytealg.MaxLen"= some (ρ.g 1)):fX P (ρ.f 146):=by
 refine⟨ρ.g 1,hgm,fun s sep m w hs h1 hm=>?_⟩
 have h1':1≤(ByteArray.mk sep.toArray).size:=by simpa [ByteArray.size] using h1
 refine(Any.strings_Split L hi9 ⟨s.toArray⟩ ⟨sep.toArray⟩ m w (by simpa [ByteArray.size] using hs) hm h1').mono ?_
 rintro e w' ⟨rfl,rfl⟩
 have hc:Lib.countB ⟨s.toArray⟩ ⟨sep.toArray⟩=Lib.count s sep:=by show Lib.count _ _=_;rw[list_data,list_data]
 have hb:=Lib.splitB_data ⟨sep.toArray⟩ 0 (Lib.count s sep) ⟨s.toArray⟩
 rw[list_data,list_data] at hb
 have hb:(Lib.splitB ⟨sep.toArray⟩ 0 (Lib.count s sep) ⟨s.toArray⟩).map (·.data.toList)=Lib.split s sep:=hb
 have hl:(Lib.split s sep).length=Lib.count s sep+1:=by rw[← hb,Bg];exact Lib.splitB_all _ h1' 0 _ _ hc
 have hm':(Lib.splitB ⟨sep.toArray⟩ 0 (Lib.count s sep) ⟨s.toArray⟩).map Value.string=(Lib.split s sep).map fun s=>Value.string ⟨s.toArray⟩:=by
  rw[← hb,List.map_map]
  apply List.map_congr_left
  intro x _
  simp
 rw[hc,hl,hm']
 exact⟨_,rfl,rfl⟩
theorem sindex_said{P:Program}{ρ:Go.Shelf.Ren}(L:Lays.n143 P ρ)(hgm:P.globalNamed "internal/bytealg.MaxLen"= some (ρ.g 1)):dK P (ρ.f 143):=
 ⟨ρ.g 1,hgm,fun s sub m w hs hm=>Any.strings_Index L s sub m w hs hm⟩
theorem grow_below(w:World)(k:Nat)(os:Array Obj):Below w.heap.size w (grow (w.drewN k) os):=
 ⟨rfl,rfl,rfl,by simp[grow,World.drewN],fun j hj=>by simp only[grow,World.drewN];exact Array.getElem?_append_left hj⟩
theorem itoa_said{P:Program}{ρ:Go.Shelf.Ren}(L:LaysM.n171 P ρ){gt:Nat}(hgt:P.globalNamed "internal/strconv.uint64pow10"= some gt):WZ P (ρ.f 171):=by
 refine⟨gt,hgt,fun i h0 h1 w ht=>(Any.strconv_Itoa L i h0 h1 w ?_).mono ?_⟩
 · unfold Lib.TabIs Lib.pow10Tab
   rw[ht,List.map_map];rfl
 · rintro e w' ⟨rfl,k,os,rfl⟩
   exact⟨rfl,grow_below w k os⟩
theorem atoi_said{P:Program}{ρ:Go.Shelf.Ren}(L:Lays.n172 P ρ){ρ':Go.Shelf.Ren}(L':LaysC.n172 P ρ')(hf:ρ'.f 172=ρ.f 172)(hge:P.globalNamed "strconv.ErrSyntax"= some (ρ'.g 15)):WJ P (ρ.f 172):=by
 refine⟨ρ'.g 15,hge,fun s n w hs h=>(Any.strconv_Atoi L s n hs h w).mono ?_,fun s t p w hs h hv=>?_⟩
 · rintro e w' ⟨rfl,t,rfl⟩
   exact⟨rfl,Lib.bytesWorld_below _ _ _⟩
 · have hc:w.cell? ⟨ρ'.g 15,0,none⟩=some (.iface t p):=by
    simp only[World.var?,hge,Et] at hv
    split at hv<;>simp_all [World.cell?]
   rw[← hf]
   refine(Any.strconv_Atoi_err L' s hs h (.iface t p) w hc (.inr ⟨t,p,rfl⟩)).mono ?_
   rintro e w' ⟨N,rfl,_,_,B⟩
   exact⟨⟨_,_,rfl⟩,B⟩
end Go.Ag
namespace Go.Proofs.YtijikmakanpmlaaDoor
open Go.Ag
theorem follows:Tryd.prog.follows .mixedOrders=true:=by kernel_rfl
open Go.Shelf Go.Proofs
def lays137_ren:Go.Shelf.Ren:=⟨fun|137=>32|217=>48|266=>59|n=>n,fun|9=>9|5=>5|3=>3|n=>n,fun|n=>n⟩
theorem lays137:Go.Proofs.Lays.n137 Tryd.prog lays137_ren:={
 mixed:=by kernel_rfl
 f137:=Tryd.func32.trans (congrArg some (by kernel_rfl))
 f217:=Tryd.func48.trans (congrArg some (by kernel_rfl))
 f266:=Tryd.func59.trans (congrArg some (by kernel_rfl))
 t3:=Tryd.underlying3
 a3:=Tryd.isAgg3
 z3:=Tryd.sizeOf3
 v3:=Tryd.zeroValue3
 t5:=Tryd.underlying5
 a5:=Tryd.isAgg5
 z5:=Tryd.sizeOf5
 v5:=Tryd.zeroValue5
 t9:=Tryd.underlying9
 a9:=Tryd.isAgg9
 z9:=Tryd.sizeOf9
 v9:=Tryd.zeroValue9 }
theorem Uo:AK Tryd.prog 32 IB:=aP fun s c w=>Go.Proofs.Any.strings_IndexByte lays137 s c w
def laysM171_ren:Go.Shelf.Ren:=⟨fun|171=>29|243=>45|246=>58|283=>68|284=>69|285=>70|286=>71|129=>80|317=>79|318=>81|319=>82|320=>83|337=>88|338=>89|n=>n,fun|3=>3|9=>9|2=>2|4=>4|171=>94|0=>0|53=>87|37=>22|5=>5|173=>97|212=>110|51=>111|20=>20|213=>112|46=>58|232=>121|233=>122|n=>n,fun|17=>3|18=>6|19=>7|n=>n⟩
theorem laysM171:Go.Proofs.LaysM.n171 Tryd.prog laysM171_ren:={
 mixed:=by kernel_rfl
 f129:=Tryd.func80.trans (congrArg some (by kernel_rfl))
 f171:=Tryd.func29.trans (congrArg some (by kernel_rfl))
 f243:=Tryd.func45.trans (congrArg some (by kernel_rfl))
 f246:=Tryd.func58.trans (congrArg some (by kernel_rfl))
 f283:=Tryd.func68.trans (congrArg some (by kernel_rfl))
 f284:=Tryd.func69.trans (congrArg some (by kernel_rfl))
 f285:=Tryd.func70.trans (congrArg some (by kernel_rfl))
 f286:=Tryd.func71.trans (congrArg some (by kernel_rfl))
 f317:=Tryd.func79.trans (congrArg some (by kernel_rfl))
 f318:=Tryd.func81.trans (congrArg some (by kernel_rfl))
 f319:=Tryd.func82.trans (congrArg some (by kernel_rfl))
 f320:=Tryd.func83.trans (congrArg some (by kernel_rfl))
 f337:=Tryd.func88.trans (congrArg some (by kernel_rfl))
 f338:=Tryd.func89.trans (congrArg some (by kernel_rfl))
 t0:=Tryd.underlying0
 a0:=Tryd.isAgg0
 z0:=Tryd.sizeOf0
 v0:=Tryd.zeroValue0
 t2:=Tryd.underlying2
 a2:=Tryd.isAgg2
 z2:=Tryd.sizeOf2
 v2:=Tryd.zeroValue2
 t3:=Tryd.underlying3
 a3:=Tryd.isAgg3
 z3:=Tryd.sizeOf3
 v3:=Tryd.zeroValue3
 t4:=Tryd.underlying4
 a4:=Tryd.isAgg4
 z4:=Tryd.sizeOf4
 v4:=Tryd.zeroValue4
 t5:=Tryd.underlying5
 a5:=Tryd.isAgg5
 z5:=Tryd.sizeOf5
 v5:=Tryd.zeroValue5
 t9:=Tryd.underlying9
 a9:=Tryd.isAgg9
 z9:=Tryd.sizeOf9
 v9:=Tryd.zeroValue9
 t20:=Tryd.underlying20
 a20:=Tryd.isAgg20
 z20:=Tryd.sizeOf20
 v20:=Tryd.zeroValue20
 t37:=Tryd.underlying22
 a37:=Tryd.isAgg22
 z37:=Tryd.sizeOf22
 v37:=Tryd.zeroValue22
 t46:=Tryd.underlying58
 a46:=Tryd.isAgg58
 z46:=Tryd.sizeOf58
 v46:=Tryd.zeroValue58
 t51:=Tryd.underlying111
 a51:=Tryd.isAgg111
 z51:=Tryd.sizeOf111
 v51:=Tryd.zeroValue111
 t53:=Tryd.underlying87
 a53:=Tryd.isAgg87
 z53:=Tryd.sizeOf87
 v53:=Tryd.zeroValue87
 t171:=Tryd.underlying94
 a171:=Tryd.isAgg94
 z171:=Tryd.sizeOf94
 v171:=Tryd.zeroValue94
 t173:=Tryd.underlying97
 a173:=Tryd.isAgg97
 z173:=Tryd.sizeOf97
 v173:=Tryd.zeroValue97
 t212:=Tryd.underlying110
 a212:=Tryd.isAgg110
 z212:=Tryd.sizeOf110
 v212:=Tryd.zeroValue110
 t213:=Tryd.underlying112
 a213:=Tryd.isAgg112
 z213:=Tryd.sizeOf112
 t232:=Tryd.underlying121
 a232:=Tryd.isAgg121
 z232:=Tryd.sizeOf121
 v232:=Tryd.zeroValue121
 t233:=Tryd.underlying122
 a233:=Tryd.isAgg122
 z233:=Tryd.sizeOf122
 v233:=Tryd.zeroValue122
 g17:=by kernel_rfl
 g18:=by kernel_rfl
 g19:=by kernel_rfl
 i0:=by kernel_rfl
 i2:=by kernel_rfl
 i3:=by kernel_rfl
 i4:=by kernel_rfl
 i5:=by kernel_rfl
 i9:=by kernel_rfl
 i20:=by kernel_rfl
 i37:=by kernel_rfl
 i46:=by kernel_rfl
 i51:=by kernel_rfl
 i53:=by kernel_rfl
 i171:=by kernel_rfl
 i173:=by kernel_rfl
 i212:=by kernel_rfl
 i232:=by kernel_rfl
 i233:=by kernel_rfl
 m17:=by kernel_rfl
 m18:=by kernel_rfl
 m19:=by kernel_rfl }
theorem bq:AK Tryd.prog 29 LF:=dG (itoa_said laysM171 (gt:=3) (by kernel_rfl))
def lays172_ren:Go.Shelf.Ren:=⟨fun|172=>28|244=>43|245=>44|247=>53|279=>54|280=>55|281=>56|282=>57|287=>65|316=>66|171=>29|205=>67|321=>77|322=>78|243=>45|246=>58|283=>68|284=>69|285=>70|286=>71|129=>80|317=>79|318=>81|319=>82|320=>83|337=>88|338=>89|n=>n,fun|9=>9|3=>3|75=>51|76=>52|4=>4|5=>5|167=>78|37=>22|0=>0|85=>79|2=>2|168=>81|53=>87|175=>88|46=>58|210=>92|127=>104|145=>107|143=>105|21=>21|171=>94|173=>97|212=>110|51=>111|20=>20|213=>112|232=>121|233=>122|80=>123|n=>n,fun|15=>0|16=>1|17=>3|18=>6|19=>7|n=>n⟩
theorem lays172:Go.Proofs.Lays.n172 Tryd.prog lays172_ren:={
 mixed:=by kernel_rfl
 f129:=Tryd.func80.trans (congrArg some (by kernel_rfl))
 f171:=Tryd.func29.trans (congrArg some (by kernel_rfl))
 f172:=Tryd.func28.trans (congrArg some (by kernel_rfl))
 f205:=Tryd.func67.trans (congrArg some (by kernel_rfl))
 f243:=Tryd.func45.trans (congrArg some (by kernel_rfl))
 f244:=Tryd.func43.trans (congrArg some (by kernel_rfl))
 f245:=Tryd.func44.trans (congrArg some (by kernel_rfl))
 f246:=Tryd.func58.trans (congrArg some (by kernel_rfl))
 f247:=Tryd.func53.trans (congrArg some (by kernel_rfl))
 f279:=Tryd.func54.trans (congrArg some (by kernel_rfl))
 f280:=Tryd.func55.trans (congrArg some (by kernel_rfl))
 f281:=Tryd.func56.trans (congrArg some (by kernel_rfl))
 f282:=Tryd.func57.trans (congrArg some (by kernel_rfl))
 f283:=Tryd.func68.trans (congrArg some (by kernel_rfl))
 f284:=Tryd.func69.trans (congrArg some (by kernel_rfl))
 f285:=Tryd.func70.trans (congrArg some (by kernel_rfl))
 f286:=Tryd.func71.trans (congrArg some (by kernel_rfl))
 f287:=Tryd.func65.trans (congrArg some (by kernel_rfl))
 f316:=Tryd.func66.trans (congrArg some (by kernel_rfl))
 f317:=Tryd.func79.trans (congrArg some (by kernel_rfl))
 f318:=Tryd.func81.trans (congrArg some (by kernel_rfl))
 f319:=Tryd.func82.trans (congrArg some (by kernel_rfl))
 f320:=Tryd.func83.trans (congrArg some (by kernel_rfl))
 f321:=Tryd.func77.trans (congrArg some (by kernel_rfl))
 f322:=Tryd.func78.trans (congrArg some (by kernel_rfl))
 f337:=Tryd.func88.trans (congrArg some (by kernel_rfl))
 f338:=Tryd.func89.trans (congrArg some (by kernel_rfl))
 t0:=Tryd.underlying0
 a0:=Tryd.isAgg0
 z0:=Tryd.sizeOf0
 v0:=Tryd.zeroValue0
 t2:=Tryd.underlying2
 a2:=Tryd.isAgg2
 z2:=Tryd.sizeOf2
 v2:=Tryd.zeroValue2
 t3:=Tryd.underlying3
 a3:=Tryd.isAgg3
 z3:=Tryd.sizeOf3
 v3:=Tryd.zeroValue3
 t4:=Tryd.underlying4
 a4:=Tryd.isAgg4
 z4:=Tryd.sizeOf4
 v4:=Tryd.zeroValue4
 t5:=Tryd.underlying5
 a5:=Tryd.isAgg5
 z5:=Tryd.sizeOf5
 v5:=Tryd.zeroValue5
 t9:=Tryd.underlying9
 a9:=Tryd.isAgg9
 z9:=Tryd.sizeOf9
 v9:=Tryd.zeroValue9
 t20:=Tryd.underlying20
 a20:=Tryd.isAgg20
 z20:=Tryd.sizeOf20
 v20:=Tryd.zeroValue20
 t21:=Tryd.underlying21
 a21:=Tryd.isAgg21
 z21:=Tryd.sizeOf21
 v21:=Tryd.zeroValue21
 t37:=Tryd.underlying22
 a37:=Tryd.isAgg22
 z37:=Tryd.sizeOf22
 v37:=Tryd.zeroValue22
 t46:=Tryd.underlying58
 a46:=Tryd.isAgg58
 z46:=Tryd.sizeOf58
 v46:=Tryd.zeroValue58
 t51:=Tryd.underlying111
 a51:=Tryd.isAgg111
 z51:=Tryd.sizeOf111
 v51:=Tryd.zeroValue111
 t53:=Tryd.underlying87
 a53:=Tryd.isAgg87
 z53:=Tryd.sizeOf87
 v53:=Tryd.zeroValue87
 t75:=Tryd.underlying51
 a75:=Tryd.isAgg51
 z75:=Tryd.sizeOf51
 v75:=Tryd.zeroValue51
 t76:=Tryd.underlying52
 a76:=Tryd.isAgg52
 z76:=Tryd.sizeOf52
 v76:=Tryd.zeroValue52
 t85:=Tryd.underlying79
 a85:=Tryd.isAgg79
 z85:=Tryd.sizeOf79
 v85:=Tryd.zeroValue79
 t127:=Tryd.underlying104
 a127:=Tryd.isAgg104
 z127:=Tryd.sizeOf104
 v127:=Tryd.zeroValue104
 t143:=Tryd.underlying105
 a143:=Tryd.isAgg105
 z143:=Tryd.sizeOf105
 v143:=Tryd.zeroValue105
 t145:=Tryd.underlying107
 a145:=Tryd.isAgg107
 z145:=Tryd.sizeOf107
 v145:=Tryd.zeroValue107
 t167:=Tryd.underlying78
 a167:=Tryd.isAgg78
 z167:=Tryd.sizeOf78
 v167:=Tryd.zeroValue78
 t168:=Tryd.underlying81
 a168:=Tryd.isAgg81
 z168:=Tryd.sizeOf81
 v168:=Tryd.zeroValue81
 t171:=Tryd.underlying94
 a171:=Tryd.isAgg94
 z171:=Tryd.sizeOf94
 v171:=Tryd.zeroValue94
 t173:=Tryd.underlying97
 a173:=Tryd.isAgg97
 z173:=Tryd.sizeOf97
 v173:=Tryd.zeroValue97
 t175:=Tryd.underlying88
 a175:=Tryd.isAgg88
 z175:=Tryd.sizeOf88
 v175:=Tryd.zeroValue88
 t210:=Tryd.underlying92
 a210:=Tryd.isAgg92
 z210:=Tryd.sizeOf92
 v210:=Tryd.zeroValue92
 t212:=Tryd.underlying110
 a212:=Tryd.isAgg110
 z212:=Tryd.sizeOf110
 v212:=Tryd.zeroValue110
 t213:=Tryd.underlying112
 a213:=Tryd.isAgg112
 z213:=Tryd.sizeOf112
 t232:=Tryd.underlying121
 a232:=Tryd.isAgg121
 z232:=Tryd.sizeOf121
 v232:=Tryd.zeroValue121
 t233:=Tryd.underlying122
 a233:=Tryd.isAgg122
 z233:=Tryd.sizeOf122
 v233:=Tryd.zeroValue122
 g15:=by kernel_rfl
 g16:=by kernel_rfl
 g17:=by kernel_rfl
 g18:=by kernel_rfl
 g19:=by kernel_rfl }
def laysC172_ren:Go.Shelf.Ren:=⟨fun|172=>28|244=>43|245=>44|247=>53|279=>54|280=>55|281=>56|282=>57|287=>65|316=>66|171=>29|205=>67|321=>77|322=>78|243=>45|246=>58|283=>68|284=>69|285=>70|286=>71|129=>80|317=>79|318=>81|319=>82|320=>83|337=>88|338=>89|n=>n,fun|9=>9|3=>3|75=>51|76=>52|4=>4|5=>5|167=>78|37=>22|0=>0|85=>79|2=>2|168=>81|53=>87|175=>88|46=>58|210=>92|127=>104|145=>107|143=>105|21=>21|171=>94|173=>97|212=>110|51=>111|20=>20|213=>112|232=>121|233=>122|80=>123|n=>n,fun|15=>0|16=>1|17=>3|18=>6|19=>7|n=>n⟩
theorem laysC172:Go.Proofs.LaysC.n172 Tryd.prog laysC172_ren:={
 mixed:=by kernel_rfl
 f129:=Tryd.func80.trans (congrArg some (by kernel_rfl))
 f171:=Tryd.func29.trans (congrArg some (by kernel_rfl))
 f172:=Tryd.func28.trans (congrArg some (by kernel_rfl))
 f205:=Tryd.func67.trans (congrArg some (by kernel_rfl))
 f243:=Tryd.func45.trans (congrArg some (by kernel_rfl))
 f244:=Tryd.func43.trans (congrArg some (by kernel_rfl))
 f245:=Tryd.func44.trans (congrArg some (by kernel_rfl))
 f246:=Tryd.func58.trans (congrArg some (by kernel_rfl))
 f247:=Tryd.func53.trans (congrArg some (by kernel_rfl))
 f279:=Tryd.func54.trans (congrArg some (by kernel_rfl))
 f280:=Tryd.func55.trans (congrArg some (by kernel_rfl))
 f281:=Tryd.func56.trans (congrArg some (by kernel_rfl))
 f282:=Tryd.func57.trans (congrArg some (by kernel_rfl))
 f283:=Tryd.func68.trans (congrArg some (by kernel_rfl))
 f284:=Tryd.func69.trans (congrArg some (by kernel_rfl))
 f285:=Tryd.func70.trans (congrArg some (by kernel_rfl))
 f286:=Tryd.func71.trans (congrArg some (by kernel_rfl))
 f287:=Tryd.func65.trans (congrArg some (by kernel_rfl))
 f316:=Tryd.func66.trans (congrArg some (by kernel_rfl))
 f317:=Tryd.func79.trans (congrArg some (by kernel_rfl))
 f318:=Tryd.func81.trans (congrArg some (by kernel_rfl))
 f319:=Tryd.func82.trans (congrArg some (by kernel_rfl))
 f320:=Tryd.func83.trans (congrArg some (by kernel_rfl))
 f321:=Tryd.func77.trans (congrArg some (by kernel_rfl))
 f322:=Tryd.func78.trans (congrArg some (by kernel_rfl))
 f337:=Tryd.func88.trans (congrArg some (by kernel_rfl))
 f338:=Tryd.func89.trans (congrArg some (by kernel_rfl))
 t0:=Tryd.underlying0
 a0:=Tryd.isAgg0
 z0:=Tryd.sizeOf0
 v0:=Tryd.zeroValue0
 t2:=Tryd.underlying2
 a2:=Tryd.isAgg2
 z2:=Tryd.sizeOf2
 v2:=Tryd.zeroValue2
 t3:=Tryd.underlying3
 a3:=Tryd.isAgg3
 z3:=Tryd.sizeOf3
 v3:=Tryd.zeroValue3
 t4:=Tryd.underlying4
 a4:=Tryd.isAgg4
 z4:=Tryd.sizeOf4
 v4:=Tryd.zeroValue4
 t5:=Tryd.underlying5
 a5:=Tryd.isAgg5
 z5:=Tryd.sizeOf5
 v5:=Tryd.zeroValue5
 t9:=Tryd.underlying9
 a9:=Tryd.isAgg9
 z9:=Tryd.sizeOf9
 v9:=Tryd.zeroValue9
 t20:=Tryd.underlying20
 a20:=Tryd.isAgg20
 z20:=Tryd.sizeOf20
 v20:=Tryd.zeroValue20
 t21:=Tryd.underlying21
 a21:=Tryd.isAgg21
 z21:=Tryd.sizeOf21
 v21:=Tryd.zeroValue21
 t37:=Tryd.underlying22
 a37:=Tryd.isAgg22
 z37:=Tryd.sizeOf22
 v37:=Tryd.zeroValue22
 t46:=Tryd.underlying58
 a46:=Tryd.isAgg58
 z46:=Tryd.sizeOf58
 v46:=Tryd.zeroValue58
 t51:=Tryd.underlying111
 a51:=Tryd.isAgg111
 z51:=Tryd.sizeOf111
 v51:=Tryd.zeroValue111
 t53:=Tryd.underlying87
 a53:=Tryd.isAgg87
 z53:=Tryd.sizeOf87
 v53:=Tryd.zeroValue87
 t75:=Tryd.underlying51
 a75:=Tryd.isAgg51
 z75:=Tryd.sizeOf51
 v75:=Tryd.zeroValue51
 t76:=Tryd.underlying52
 a76:=Tryd.isAgg52
 z76:=Tryd.sizeOf52
 v76:=Tryd.zeroValue52
 t85:=Tryd.underlying79
 a85:=Tryd.isAgg79
 z85:=Tryd.sizeOf79
 v85:=Tryd.zeroValue79
 t127:=Tryd.underlying104
 a127:=Tryd.isAgg104
 z127:=Tryd.sizeOf104
 v127:=Tryd.zeroValue104
 t143:=Tryd.underlying105
 a143:=Tryd.isAgg105
 z143:=Tryd.sizeOf105
 v143:=Tryd.zeroValue105
 t145:=Tryd.underlying107
 a145:=Tryd.isAgg107
 z145:=Tryd.sizeOf107
 v145:=Tryd.zeroValue107
 t167:=Tryd.underlying78
 a167:=Tryd.isAgg78
 z167:=Tryd.sizeOf78
 v167:=Tryd.zeroValue78
 t168:=Tryd.underlying81
 a168:=Tryd.isAgg81
 z168:=Tryd.sizeOf81
 v168:=Tryd.zeroValue81
 t171:=Tryd.underlying94
 a171:=Tryd.isAgg94
 z171:=Tryd.sizeOf94
 v171:=Tryd.zeroValue94
 t173:=Tryd.underlying97
 a173:=Tryd.isAgg97
 z173:=Tryd.sizeOf97
 v173:=Tryd.zeroValue97
 t175:=Tryd.underlying88
 a175:=Tryd.isAgg88
 z175:=Tryd.sizeOf88
 v175:=Tryd.zeroValue88
 t210:=Tryd.underlying92
 a210:=Tryd.isAgg92
 z210:=Tryd.sizeOf92
 v210:=Tryd.zeroValue92
 t212:=Tryd.underlying110
 a212:=Tryd.isAgg110
 z212:=Tryd.sizeOf110
 v212:=Tryd.zeroValue110
 t213:=Tryd.underlying112
 a213:=Tryd.isAgg112
 z213:=Tryd.sizeOf112
 t232:=Tryd.underlying121
 a232:=Tryd.isAgg121
 z232:=Tryd.sizeOf121
 v232:=Tryd.zeroValue121
 t233:=Tryd.underlying122
 a233:=Tryd.isAgg122
 z233:=Tryd.sizeOf122
 v233:=Tryd.zeroValue122
 g15:=by kernel_rfl
 g16:=by kernel_rfl
 g17:=by kernel_rfl
 g18:=by kernel_rfl
 g19:=by kernel_rfl
 t80:=Tryd.underlying123
 a80:=Tryd.isAgg123
 z80:=Tryd.sizeOf123
 v80:=Tryd.zeroValue123
 i0:=by kernel_rfl
 i2:=by kernel_rfl
 i3:=by kernel_rfl
 i4:=by kernel_rfl
 i5:=by kernel_rfl
 i9:=by kernel_rfl
 i20:=by kernel_rfl
 i21:=by kernel_rfl
 i37:=by kernel_rfl
 i46:=by kernel_rfl
 i51:=by kernel_rfl
 i53:=by kernel_rfl
 i75:=by kernel_rfl
 i76:=by kernel_rfl
 i80:=by kernel_rfl
 i85:=by kernel_rfl
 i127:=by kernel_rfl
 i143:=by kernel_rfl
 i145:=by kernel_rfl
 i167:=by kernel_rfl
 i168:=by kernel_rfl
 i171:=by kernel_rfl
 i173:=by kernel_rfl
 i175:=by kernel_rfl
 i210:=by kernel_rfl
 i212:=by kernel_rfl
 i232:=by kernel_rfl
 i233:=by kernel_rfl
 m15:=by kernel_rfl
 m16:=by kernel_rfl
 m17:=by kernel_rfl
 m18:=by kernel_rfl
 m19:=by kernel_rfl
 c0:=by kernel_rfl
 c2:=by kernel_rfl
 c3:=by kernel_rfl
 c4:=by kernel_rfl
 c5:=by kernel_rfl
 c9:=by kernel_rfl
 c20:=by kernel_rfl
 c21:=by kernel_rfl
 c37:=by kernel_rfl
 c46:=by kernel_rfl
 c51:=by kernel_rfl
 c53:=by kernel_rfl
 c75:=by kernel_rfl
 c76:=by kernel_rfl
 c80:=by kernel_rfl
 c85:=by kernel_rfl
 c127:=by kernel_rfl
 c143:=by kernel_rfl
 c145:=by kernel_rfl
 c167:=by kernel_rfl
 c168:=by kernel_rfl
 c171:=by kernel_rfl
 c173:=by kernel_rfl
 c175:=by kernel_rfl
 c210:=by kernel_rfl
 c212:=by kernel_rfl
 c213:=by kernel_rfl
 c232:=by kernel_rfl
 c233:=by kernel_rfl }
theorem bu:AK Tryd.prog 28 LC:=dZ (atoi_said lays172 laysC172 (by kernel_rfl) (by kernel_rfl))
theorem dQ:AK Tryd.prog 5 GY.S:=lF follows Tryd.func5 (by kernel_rfl) (obs:=[]) (by kernel_rfl) trivial
theorem k_spec_l1New:EJ Tryd.prog Tryd.f42 HI.er.er=true:=by kernel_rfl
theorem o_spec_l1New:EK Tryd.prog Tryd.f42 HI.er.er=[]:=by kernel_rfl
theorem cL:AK Tryd.prog 42 Kd:=by unfold Kd;exact F7 follows Tryd.func42 k_spec_l1New o_spec_l1New trivial
theorem k_spec_l24New:EJ Tryd.prog Tryd.f27 HG.er.er=true:=by kernel_rfl
theorem o_spec_l24New:EK Tryd.prog Tryd.f27 HG.er.er=[(42,Kd)]:=by kernel_rfl
theorem Va:AK Tryd.prog 27 HH:=by unfold HH;exact F7 follows Tryd.func27 k_spec_l24New o_spec_l24New ⟨cL,trivial⟩
theorem k_spec_l1Byte:EJ Tryd.prog Tryd.f41 HD.er.er=true:=by kernel_rfl
theorem o_spec_l1Byte:EK Tryd.prog Tryd.f41 HD.er.er=[]:=by kernel_rfl
theorem LJ:AK Tryd.prog 41 D2:=by unfold D2;exact F7 follows Tryd.func41 k_spec_l1Byte o_spec_l1Byte trivial
theorem k_spec_l1Below:EJ Tryd.prog Tryd.f26 HB.er.er=true:=by kernel_rfl
theorem o_spec_l1Below:EK Tryd.prog Tryd.f26 HB.er.er=[(41,D2),(41,D2),(41,D2),(41,D2),(41,D2)]:=by kernel_rfl
theorem DF:AK Tryd.prog 26 Bu:=by unfold Bu;exact F7 follows Tryd.func26 k_spec_l1Below o_spec_l1Below ⟨LJ,LJ,LJ,LJ,LJ,trivial⟩
theorem ZV:AK Tryd.prog 6 GJ.S:=lF follows Tryd.func6 (by kernel_rfl) (obs:=[(27,HH),(26,Bu)]) (by kernel_rfl) ⟨Va,DF,trivial⟩
theorem Uy:AK Tryd.prog 8 Eg.S:=lF follows Tryd.func8 (by kernel_rfl) (obs:=[(29,LF)]) (by kernel_rfl) ⟨bq,trivial⟩
theorem aL:AK Tryd.prog 7 GN.S:=lF follows Tryd.func7 (by kernel_rfl) (obs:=[(28,LC),(8,Eg.S)]) (by kernel_rfl) ⟨bu,Uy,trivial⟩
theorem k_spec_l1Once:EJ Tryd.prog Tryd.f49 HF.er.er=true:=by kernel_rfl
theorem o_spec_l1Once:EK Tryd.prog Tryd.f49 HF.er.er=[(26,Bu)]:=by kernel_rfl
theorem U8:AK Tryd.prog 49 HJ:=by unfold HJ;exact F7 follows Tryd.func49 k_spec_l1Once o_spec_l1Once ⟨DF,trivial⟩
theorem k_spec_l5Draw:EJ Tryd.prog Tryd.f33 HC.er.er=true:=by kernel_rfl
theorem o_spec_l5Draw:EK Tryd.prog Tryd.f33 HC.er.er=[(26,Bu),(26,Bu),(49,HJ),(26,Bu),(26,Bu),(26,Bu),(26,Bu),(26,Bu)]:=by kernel_rfl
theorem cf:AK Tryd.prog 33 J6:=by unfold J6;exact F7 follows Tryd.func33 k_spec_l5Draw o_spec_l5Draw ⟨DF,DF,U8,DF,DF,DF,DF,DF,trivial⟩
theorem k_spec_l6Draw:EJ Tryd.prog Tryd.f46 HE.er.er=true:=by kernel_rfl
theorem o_spec_l6Draw:EK Tryd.prog Tryd.f46 HE.er.er=[(26,Bu),(33,J6),(49,HJ)]:=by kernel_rfl
theorem bT:AK Tryd.prog 46 J9:=by unfold J9;exact F7 follows Tryd.func46 k_spec_l6Draw o_spec_l6Draw ⟨DF,cf,U8,trivial⟩
theorem k_spec_l1PickInt:EJ Tryd.prog Tryd.f47 Hy.er.er=true:=by kernel_rfl
theorem o_spec_l1PickInt:EK Tryd.prog Tryd.f47 Hy.er.er=[(26,Bu)]:=by kernel_rfl
theorem Z8:AK Tryd.prog 47 JU:=by unfold JU;exact F7 follows Tryd.func47 k_spec_l1PickInt o_spec_l1PickInt ⟨DF,trivial⟩
theorem k_spec_l18Draw:EJ Tryd.prog Tryd.f31 Hz.er.er=true:=by kernel_rfl
theorem o_spec_l18Draw:EK Tryd.prog Tryd.f31 Hz.er.er=[(46,J9),(26,Bu),(26,Bu),(26,Bu),(47,JU),(26,Bu)]:=by kernel_rfl
theorem bm:AK Tryd.prog 31 J1:=by unfold J1;exact F7 follows Tryd.func31 k_spec_l18Draw o_spec_l18Draw ⟨bT,DF,DF,DF,Z8,DF,trivial⟩
theorem ZJ:AK Tryd.prog 10 GH.S:=lF follows Tryd.func10 (by kernel_rfl) (obs:=[(27,HH),(31,J1)]) (by kernel_rfl) ⟨Va,bm,trivial⟩
theorem Q6:AK Tryd.prog 36 DG.S:=lF follows Tryd.func36 (by kernel_rfl) (obs:=[]) (by kernel_rfl) trivial
theorem Q4:AK Tryd.prog 37 CB.S:=lF follows Tryd.func37 (by kernel_rfl) (obs:=[]) (by kernel_rfl) trivial
theorem UQ:AK Tryd.prog 38 DE.S:=lF follows Tryd.func38 (by kernel_rfl) (obs:=[]) (by kernel_rfl) trivial
theorem UD:AK Tryd.prog 20 Ft.S:=lF follows Tryd.func20 (by kernel_rfl) (obs:=[(36,DG.S),(37,CB.S),(38,DE.S),(36,DG.S),(37,CB.S),(36,DG.S),(38,DE.S),(37,CB.S)]) (by kernel_rfl) ⟨Q6,Q4,UQ,Q6,Q4,Q6,UQ,Q4,trivial⟩
theorem aK:AK Tryd.prog 30 GQ.S:=lF follows Tryd.func30 (by kernel_rfl) (obs:=[(20,Ft.S)]) (by kernel_rfl) ⟨UD,trivial⟩
theorem ZP:AK Tryd.prog 17 GK.S:=lF follows Tryd.func17 (by kernel_rfl) (obs:=[(20,Ft.S)]) (by kernel_rfl) ⟨UD,trivial⟩
theorem ZZ:AK Tryd.prog 9 GI.S:=lF follows Tryd.func9 (by kernel_rfl) (obs:=[(30,GQ.S),(17,GK.S)]) (by kernel_rfl) ⟨aK,ZP,trivial⟩
theorem Z3:AK Tryd.prog 12 GM.S:=lF follows Tryd.func12 (by kernel_rfl) (obs:=[]) (by kernel_rfl) trivial
theorem aQ:AK Tryd.prog 11 GO.S:=lF follows Tryd.func11 (by kernel_rfl) (obs:=[(32,IB),(32,IB)]) (by kernel_rfl) ⟨Uo,Uo,trivial⟩
theorem al:AK Tryd.prog 3 E0.S:=lF follows Tryd.func3 (by kernel_rfl) (obs:=[(5,GY.S),(6,GJ.S),(8,Eg.S),(7,GN.S),(10,GH.S),(9,GI.S),(12,GM.S),(11,GO.S)]) (by kernel_rfl) ⟨dQ,ZV,Uy,aL,ZJ,ZZ,Z3,aQ,trivial⟩
end Go.Proofs.YtijikmakanpmlaaDoor
