/-
 EACH ABSTRACT FUNCTION IS THE SEAT's OWN: checked by the kernel,function by function (written by program,ag.py).
-/
import Derived.Test.YtijikmakanpmlaaGreatDoorChecked
import Derived.KernelRfl
import Derived.Test.YtijikmakanpmlaaGreatDoorLibG
import Derived.Shelf.Strings.OnBuilder
import Derived.Shelf.Strings.Split
import Derived.Shelf.Strings.Search3
import Derived.Shelf.Small.Strs
import Derived.Shelf.Strconv.Itoa3
import Derived.Shelf.Strconv.Atoi
import Derived.Shelf.Strconv.AtoiErr
import Derived.Lib.AtoiErrMem
import Derived.Lib.SplitLaws
import Derived.Shelf.Sort.Plain
import Derived.Shelf.Slices.In.SortNone2
namespace Go.Ag
set_option linter.unusedSimpArgs false
set_option linter.unusedVariables false
set_option linter.unusedSimpArgs false
set_option linter.unusedVariables false
open Go.Shelf Go.RowKit Go.Lib Go.Proofs Go.Sort
set_option maxRecDepth 100000
theorem list_data(l:List UInt8):(ByteArray.mk l.toArray).data.toList=l:=by simp
theorem split_said{P:Program}{ρ:Go.Shelf.Ren}(L:Lays.n146 P ρ)(hi9:(P.info? (ρ.t 9)).map (fun i=>(i.zero,i.size,i.bytes))=some (some (.string ByteArray.empty),1,16))(hgm:P.globalNamed "internal/bytealg.MaxLen"= some (ρ.g 1)):gx P (ρ.f 146):=by
 refine⟨ρ.g 1,hgm,fun s sep m w hs h1 hm=>?_⟩
 have h1':1≤(ByteArray.mk sep.toArray).size:=by simpa [ByteArray.size] using h1
 refine(Any.strings_Split L hi9 ⟨s.toArray⟩ ⟨sep.toArray⟩ m w (by simpa [ByteArray.size] using hs) hm h1').mono ?_
 rintro e w' ⟨rfl,rfl⟩
 have hc:Lib.countB ⟨s.toArray⟩ ⟨sep.toArray⟩=Lib.count s sep:=by show Lib.count _ _=_;rw[list_data,list_data]
 have hb:=Lib.splitB_data ⟨sep.toArray⟩ 0 (Lib.count s sep) ⟨s.toArray⟩
 rw[list_data,list_data] at hb
 have hb:(Lib.splitB ⟨sep.toArray⟩ 0 (Lib.count s sep) ⟨s.toArray⟩).map (·.data.toList)=Lib.split s sep:=hb
 have hl:(Lib.split s sep).length=Lib.count s sep+1:=by rw[← hb,AL];exact Lib.splitB_all _ h1' 0 _ _ hc
 have hm':(Lib.splitB ⟨sep.toArray⟩ 0 (Lib.count s sep) ⟨s.toArray⟩).map Value.string=(Lib.split s sep).map fun s=>Value.string ⟨s.toArray⟩:=by
  rw[← hb,List.map_map]
  apply List.map_congr_left
  intro x _
  simp
 rw[hc,hl,hm']
 exact⟨_,rfl,rfl⟩
theorem sindex_said{P:Program}{ρ:Go.Shelf.Ren}(L:Lays.n143 P ρ)(hgm:P.globalNamed "internal/bytealg.MaxLen"= some (ρ.g 1)):e9 P (ρ.f 143):=
 ⟨ρ.g 1,hgm,fun s sub m w hs hm=>Any.strings_Index L s sub m w hs hm⟩
theorem grow_below(w:World)(k:Nat)(os:Array Obj):Below w.heap.size w (grow (w.drewN k) os):=
 ⟨rfl,rfl,rfl,by simp[grow,World.drewN],fun j hj=>by simp only[grow,World.drewN];exact Array.getElem?_append_left hj⟩
theorem itoa_said{P:Program}{ρ:Go.Shelf.Ren}(L:LaysM.n171 P ρ){gt:Nat}(hgt:P.globalNamed "internal/strconv.uint64pow10"= some gt):iL P (ρ.f 171):=by
 refine⟨gt,hgt,fun i h0 h1 w ht=>(Any.strconv_Itoa L i h0 h1 w ?_).mono ?_⟩
 · unfold Lib.TabIs Lib.pow10Tab
   rw[ht,List.map_map];rfl
 · rintro e w' ⟨rfl,k,os,rfl⟩
   exact⟨rfl,grow_below w k os⟩
theorem atoi_said{P:Program}{ρ:Go.Shelf.Ren}(L:Lays.n172 P ρ){ρ':Go.Shelf.Ren}(L':LaysC.n172 P ρ')(hf:ρ'.f 172=ρ.f 172)(hge:P.globalNamed "strconv.ErrSyntax"= some (ρ'.g 15)):iy P (ρ.f 172):=by
 refine⟨ρ'.g 15,hge,fun s n w hs h=>(Any.strconv_Atoi L s n hs h w).mono ?_,fun s t p w hs h hv=>?_⟩
 · rintro e w' ⟨rfl,t,rfl⟩
   exact⟨rfl,Lib.bytesWorld_below _ _ _⟩
 · have hc:w.cell? ⟨ρ'.g 15,0,none⟩=some (.iface t p):=by
    simp only[World.var?,hge,Fu] at hv
    split at hv<;>simp_all [World.cell?]
   rw[← hf]
   refine(Any.strconv_Atoi_err L' s hs h (.iface t p) w hc (.inr ⟨t,p,rfl⟩)).mono ?_
   rintro e w' ⟨N,rfl,_,_,B⟩
   exact⟨⟨_,_,rfl⟩,B⟩
end Go.Ag
namespace Go.Proofs.YtijikmakanpmlaaGreatDoor
open Go.Ag
theorem follows:Tryz.prog.follows .mixedOrders=true:=by kernel_rfl
open Go.Shelf Go.Proofs
def lays156_ren:Go.Shelf.Ren:=⟨fun|156=>77|165=>110|166=>111|169=>112|240=>129|241=>130|276=>141|277=>142|n=>n,fun|31=>67|9=>9|3=>3|4=>4|0=>0|20=>20|72=>128|76=>132|70=>126|37=>22|75=>131|127=>141|164=>151|5=>5|80=>134|n=>n,fun|n=>n⟩
theorem lays156:Go.Proofs.Lays.n156 Tryz.prog lays156_ren:={
 mixed:=by kernel_rfl
 f156:=Tryz.func77.trans (congrArg some (by kernel_rfl))
 f165:=Tryz.func110.trans (congrArg some (by kernel_rfl))
 f166:=Tryz.func111.trans (congrArg some (by kernel_rfl))
 f169:=Tryz.func112.trans (congrArg some (by kernel_rfl))
 f240:=Tryz.func129.trans (congrArg some (by kernel_rfl))
 f241:=Tryz.func130.trans (congrArg some (by kernel_rfl))
 f276:=Tryz.func141.trans (congrArg some (by kernel_rfl))
 f277:=Tryz.func142.trans (congrArg some (by kernel_rfl))
 t0:=Tryz.underlying0
 a0:=Tryz.isAgg0
 z0:=Tryz.sizeOf0
 v0:=Tryz.zeroValue0
 t3:=Tryz.underlying3
 a3:=Tryz.isAgg3
 z3:=Tryz.sizeOf3
 v3:=Tryz.zeroValue3
 t4:=Tryz.underlying4
 a4:=Tryz.isAgg4
 z4:=Tryz.sizeOf4
 v4:=Tryz.zeroValue4
 t9:=Tryz.underlying9
 a9:=Tryz.isAgg9
 z9:=Tryz.sizeOf9
 v9:=Tryz.zeroValue9
 t20:=Tryz.underlying20
 a20:=Tryz.isAgg20
 z20:=Tryz.sizeOf20
 v20:=Tryz.zeroValue20
 t31:=Tryz.underlying67
 a31:=Tryz.isAgg67
 z31:=Tryz.sizeOf67
 v31:=Tryz.zeroValue67
 t37:=Tryz.underlying22
 a37:=Tryz.isAgg22
 z37:=Tryz.sizeOf22
 v37:=Tryz.zeroValue22
 t70:=Tryz.underlying126
 a70:=Tryz.isAgg126
 z70:=Tryz.sizeOf126
 v70:=Tryz.zeroValue126
 t72:=Tryz.underlying128
 a72:=Tryz.isAgg128
 z72:=Tryz.sizeOf128
 v72:=Tryz.zeroValue128
 t75:=Tryz.underlying131
 a75:=Tryz.isAgg131
 z75:=Tryz.sizeOf131
 v75:=Tryz.zeroValue131
 t76:=Tryz.underlying132
 a76:=Tryz.isAgg132
 z76:=Tryz.sizeOf132
 v76:=Tryz.zeroValue132
 t127:=Tryz.underlying141
 a127:=Tryz.isAgg141
 z127:=Tryz.sizeOf141
 v127:=Tryz.zeroValue141
 t164:=Tryz.underlying151
 a164:=Tryz.isAgg151
 z164:=Tryz.sizeOf151
 v164:=Tryz.zeroValue151 }
theorem Builder_Extra_156:Builder.Extra Tryz.prog lays156_ren:={
 sizeBuilder:=by kernel_rfl
 liesBuilder:=by kernel_rfl
 t5:=Tryz.underlying5
 a5:=Tryz.isAgg5
 z5:=Tryz.sizeOf5
 v5:=Tryz.zeroValue5
 infoByte:=by kernel_rfl
 cellsByte:=by kernel_rfl
 sizeByte:=by kernel_rfl
 neB5:=by decide }
theorem pI:Aw Tryz.prog 77 PC:=sG ⟨fun bk o c xs sep w h1 h2 h3 h4 h5=>Go.Proofs.Any.strings_Join lays156 Builder_Extra_156 bk o c xs sep w h1 h2 h3 h4 h5,fun a c sep w=>Go.Proofs.Any.strings_Join_none lays156 Builder_Extra_156 a c sep w⟩
def lays146_ren:Go.Shelf.Ren:=⟨fun|146=>38|221=>71|268=>103|138=>104|143=>53|195=>123|197=>124|218=>125|219=>88|260=>136|217=>113|225=>114|224=>115|267=>116|266=>131|314=>132|n=>n,fun|9=>9|31=>67|3=>3|4=>4|0=>0|105=>139|21=>21|5=>5|46=>135|119=>165|139=>168|138=>167|146=>143|51=>142|n=>n,fun|1=>0|3=>1|4=>2|n=>n⟩
theorem lays146:Go.Proofs.Lays.n146 Tryz.prog lays146_ren:={
 mixed:=by kernel_rfl
 f138:=Tryz.func104.trans (congrArg some (by kernel_rfl))
 f143:=Tryz.func53.trans (congrArg some (by kernel_rfl))
 f146:=Tryz.func38.trans (congrArg some (by kernel_rfl))
 f195:=Tryz.func123.trans (congrArg some (by kernel_rfl))
 f197:=Tryz.func124.trans (congrArg some (by kernel_rfl))
 f217:=Tryz.func113.trans (congrArg some (by kernel_rfl))
 f218:=Tryz.func125.trans (congrArg some (by kernel_rfl))
 f219:=Tryz.func88.trans (congrArg some (by kernel_rfl))
 f221:=Tryz.func71.trans (congrArg some (by kernel_rfl))
 f224:=Tryz.func115.trans (congrArg some (by kernel_rfl))
 f225:=Tryz.func114.trans (congrArg some (by kernel_rfl))
 f260:=Tryz.func136.trans (congrArg some (by kernel_rfl))
 f266:=Tryz.func131.trans (congrArg some (by kernel_rfl))
 f267:=Tryz.func116.trans (congrArg some (by kernel_rfl))
 f268:=Tryz.func103.trans (congrArg some (by kernel_rfl))
 f314:=Tryz.func132.trans (congrArg some (by kernel_rfl))
 t0:=Tryz.underlying0
 a0:=Tryz.isAgg0
 z0:=Tryz.sizeOf0
 v0:=Tryz.zeroValue0
 t3:=Tryz.underlying3
 a3:=Tryz.isAgg3
 z3:=Tryz.sizeOf3
 v3:=Tryz.zeroValue3
 t4:=Tryz.underlying4
 a4:=Tryz.isAgg4
 z4:=Tryz.sizeOf4
 v4:=Tryz.zeroValue4
 t5:=Tryz.underlying5
 a5:=Tryz.isAgg5
 z5:=Tryz.sizeOf5
 v5:=Tryz.zeroValue5
 t9:=Tryz.underlying9
 a9:=Tryz.isAgg9
 z9:=Tryz.sizeOf9
 v9:=Tryz.zeroValue9
 t21:=Tryz.underlying21
 a21:=Tryz.isAgg21
 z21:=Tryz.sizeOf21
 v21:=Tryz.zeroValue21
 t31:=Tryz.underlying67
 a31:=Tryz.isAgg67
 z31:=Tryz.sizeOf67
 v31:=Tryz.zeroValue67
 t46:=Tryz.underlying135
 a46:=Tryz.isAgg135
 z46:=Tryz.sizeOf135
 v46:=Tryz.zeroValue135
 t51:=Tryz.underlying142
 a51:=Tryz.isAgg142
 z51:=Tryz.sizeOf142
 v51:=Tryz.zeroValue142
 t105:=Tryz.underlying139
 a105:=Tryz.isAgg139
 z105:=Tryz.sizeOf139
 v105:=Tryz.zeroValue139
 t119:=Tryz.underlying165
 a119:=Tryz.isAgg165
 z119:=Tryz.sizeOf165
 t138:=Tryz.underlying167
 a138:=Tryz.isAgg167
 z138:=Tryz.sizeOf167
 v138:=Tryz.zeroValue167
 t139:=Tryz.underlying168
 a139:=Tryz.isAgg168
 z139:=Tryz.sizeOf168
 v139:=Tryz.zeroValue168
 t146:=Tryz.underlying143
 a146:=Tryz.isAgg143
 z146:=Tryz.sizeOf143
 v146:=Tryz.zeroValue143
 g1:=by kernel_rfl
 g3:=by kernel_rfl
 g4:=by kernel_rfl }
theorem cd:Aw Tryz.prog 38 LF:=rT (split_said lays146 (by kernel_rfl) (by kernel_rfl))
def lays143_ren:Go.Shelf.Ren:=⟨fun|143=>53|219=>88|217=>113|225=>114|224=>115|267=>116|266=>131|314=>132|n=>n,fun|9=>9|3=>3|4=>4|5=>5|46=>135|146=>143|51=>142|n=>n,fun|1=>0|n=>n⟩
theorem lays143:Go.Proofs.Lays.n143 Tryz.prog lays143_ren:={
 mixed:=by kernel_rfl
 f143:=Tryz.func53.trans (congrArg some (by kernel_rfl))
 f217:=Tryz.func113.trans (congrArg some (by kernel_rfl))
 f219:=Tryz.func88.trans (congrArg some (by kernel_rfl))
 f224:=Tryz.func115.trans (congrArg some (by kernel_rfl))
 f225:=Tryz.func114.trans (congrArg some (by kernel_rfl))
 f266:=Tryz.func131.trans (congrArg some (by kernel_rfl))
 f267:=Tryz.func116.trans (congrArg some (by kernel_rfl))
 f314:=Tryz.func132.trans (congrArg some (by kernel_rfl))
 t3:=Tryz.underlying3
 a3:=Tryz.isAgg3
 z3:=Tryz.sizeOf3
 v3:=Tryz.zeroValue3
 t4:=Tryz.underlying4
 a4:=Tryz.isAgg4
 z4:=Tryz.sizeOf4
 v4:=Tryz.zeroValue4
 t5:=Tryz.underlying5
 a5:=Tryz.isAgg5
 z5:=Tryz.sizeOf5
 v5:=Tryz.zeroValue5
 t9:=Tryz.underlying9
 a9:=Tryz.isAgg9
 z9:=Tryz.sizeOf9
 v9:=Tryz.zeroValue9
 t46:=Tryz.underlying135
 a46:=Tryz.isAgg135
 z46:=Tryz.sizeOf135
 v46:=Tryz.zeroValue135
 t51:=Tryz.underlying142
 a51:=Tryz.isAgg142
 z51:=Tryz.sizeOf142
 v51:=Tryz.zeroValue142
 t146:=Tryz.underlying143
 a146:=Tryz.isAgg143
 z146:=Tryz.sizeOf143
 v146:=Tryz.zeroValue143
 g1:=by kernel_rfl }
theorem oM:Aw Tryz.prog 53 Ps:=rm (sindex_said lays143 (by kernel_rfl))
def lays219_ren:Go.Shelf.Ren:=⟨fun|219=>88|217=>113|225=>114|224=>115|267=>116|266=>131|314=>132|n=>n,fun|9=>9|3=>3|4=>4|5=>5|46=>135|146=>143|51=>142|n=>n,fun|1=>0|n=>n⟩
theorem lays219:Go.Proofs.Lays.n219 Tryz.prog lays219_ren:={
 mixed:=by kernel_rfl
 f217:=Tryz.func113.trans (congrArg some (by kernel_rfl))
 f219:=Tryz.func88.trans (congrArg some (by kernel_rfl))
 f224:=Tryz.func115.trans (congrArg some (by kernel_rfl))
 f225:=Tryz.func114.trans (congrArg some (by kernel_rfl))
 f266:=Tryz.func131.trans (congrArg some (by kernel_rfl))
 f267:=Tryz.func116.trans (congrArg some (by kernel_rfl))
 f314:=Tryz.func132.trans (congrArg some (by kernel_rfl))
 t3:=Tryz.underlying3
 a3:=Tryz.isAgg3
 z3:=Tryz.sizeOf3
 v3:=Tryz.zeroValue3
 t4:=Tryz.underlying4
 a4:=Tryz.isAgg4
 z4:=Tryz.sizeOf4
 v4:=Tryz.zeroValue4
 t5:=Tryz.underlying5
 a5:=Tryz.isAgg5
 z5:=Tryz.sizeOf5
 v5:=Tryz.zeroValue5
 t9:=Tryz.underlying9
 a9:=Tryz.isAgg9
 z9:=Tryz.sizeOf9
 v9:=Tryz.zeroValue9
 t46:=Tryz.underlying135
 a46:=Tryz.isAgg135
 z46:=Tryz.sizeOf135
 v46:=Tryz.zeroValue135
 t51:=Tryz.underlying142
 a51:=Tryz.isAgg142
 z51:=Tryz.sizeOf142
 v51:=Tryz.zeroValue142
 t146:=Tryz.underlying143
 a146:=Tryz.isAgg143
 z146:=Tryz.sizeOf143
 v146:=Tryz.zeroValue143
 g1:=by kernel_rfl }
theorem lU:Aw Tryz.prog 88 OW:=rY fun s c w=>Go.Proofs.Any.stringslite_Index_one lays219 s c w
def laysM171_ren:Go.Shelf.Ren:=⟨fun|171=>109|243=>128|246=>140|283=>159|284=>160|285=>161|286=>162|129=>153|317=>172|318=>173|319=>174|320=>175|337=>179|338=>180|n=>n,fun|3=>3|9=>9|2=>2|4=>4|171=>175|0=>0|53=>164|37=>22|5=>5|173=>177|212=>192|51=>142|20=>20|213=>193|46=>135|232=>201|233=>202|n=>n,fun|17=>5|18=>6|19=>7|n=>n⟩
theorem laysM171:Go.Proofs.LaysM.n171 Tryz.prog laysM171_ren:={
 mixed:=by kernel_rfl
 f129:=Tryz.func153.trans (congrArg some (by kernel_rfl))
 f171:=Tryz.func109.trans (congrArg some (by kernel_rfl))
 f243:=Tryz.func128.trans (congrArg some (by kernel_rfl))
 f246:=Tryz.func140.trans (congrArg some (by kernel_rfl))
 f283:=Tryz.func159.trans (congrArg some (by kernel_rfl))
 f284:=Tryz.func160.trans (congrArg some (by kernel_rfl))
 f285:=Tryz.func161.trans (congrArg some (by kernel_rfl))
 f286:=Tryz.func162.trans (congrArg some (by kernel_rfl))
 f317:=Tryz.func172.trans (congrArg some (by kernel_rfl))
 f318:=Tryz.func173.trans (congrArg some (by kernel_rfl))
 f319:=Tryz.func174.trans (congrArg some (by kernel_rfl))
 f320:=Tryz.func175.trans (congrArg some (by kernel_rfl))
 f337:=Tryz.func179.trans (congrArg some (by kernel_rfl))
 f338:=Tryz.func180.trans (congrArg some (by kernel_rfl))
 t0:=Tryz.underlying0
 a0:=Tryz.isAgg0
 z0:=Tryz.sizeOf0
 v0:=Tryz.zeroValue0
 t2:=Tryz.underlying2
 a2:=Tryz.isAgg2
 z2:=Tryz.sizeOf2
 v2:=Tryz.zeroValue2
 t3:=Tryz.underlying3
 a3:=Tryz.isAgg3
 z3:=Tryz.sizeOf3
 v3:=Tryz.zeroValue3
 t4:=Tryz.underlying4
 a4:=Tryz.isAgg4
 z4:=Tryz.sizeOf4
 v4:=Tryz.zeroValue4
 t5:=Tryz.underlying5
 a5:=Tryz.isAgg5
 z5:=Tryz.sizeOf5
 v5:=Tryz.zeroValue5
 t9:=Tryz.underlying9
 a9:=Tryz.isAgg9
 z9:=Tryz.sizeOf9
 v9:=Tryz.zeroValue9
 t20:=Tryz.underlying20
 a20:=Tryz.isAgg20
 z20:=Tryz.sizeOf20
 v20:=Tryz.zeroValue20
 t37:=Tryz.underlying22
 a37:=Tryz.isAgg22
 z37:=Tryz.sizeOf22
 v37:=Tryz.zeroValue22
 t46:=Tryz.underlying135
 a46:=Tryz.isAgg135
 z46:=Tryz.sizeOf135
 v46:=Tryz.zeroValue135
 t51:=Tryz.underlying142
 a51:=Tryz.isAgg142
 z51:=Tryz.sizeOf142
 v51:=Tryz.zeroValue142
 t53:=Tryz.underlying164
 a53:=Tryz.isAgg164
 z53:=Tryz.sizeOf164
 v53:=Tryz.zeroValue164
 t171:=Tryz.underlying175
 a171:=Tryz.isAgg175
 z171:=Tryz.sizeOf175
 v171:=Tryz.zeroValue175
 t173:=Tryz.underlying177
 a173:=Tryz.isAgg177
 z173:=Tryz.sizeOf177
 v173:=Tryz.zeroValue177
 t212:=Tryz.underlying192
 a212:=Tryz.isAgg192
 z212:=Tryz.sizeOf192
 v212:=Tryz.zeroValue192
 t213:=Tryz.underlying193
 a213:=Tryz.isAgg193
 z213:=Tryz.sizeOf193
 t232:=Tryz.underlying201
 a232:=Tryz.isAgg201
 z232:=Tryz.sizeOf201
 v232:=Tryz.zeroValue201
 t233:=Tryz.underlying202
 a233:=Tryz.isAgg202
 z233:=Tryz.sizeOf202
 v233:=Tryz.zeroValue202
 g17:=by kernel_rfl
 g18:=by kernel_rfl
 g19:=by kernel_rfl
 i0:=by kernel_rfl
 i2:=by kernel_rfl
 i3:=by kernel_rfl
 i4:=by kernel_rfl
 i5:=by kernel_rfl
 i9:=by kernel_rfl
 i20:=by kernel_rfl
 i37:=by kernel_rfl
 i46:=by kernel_rfl
 i51:=by kernel_rfl
 i53:=by kernel_rfl
 i171:=by kernel_rfl
 i173:=by kernel_rfl
 i212:=by kernel_rfl
 i232:=by kernel_rfl
 i233:=by kernel_rfl
 m17:=by kernel_rfl
 m18:=by kernel_rfl
 m19:=by kernel_rfl }
theorem qe:Aw Tryz.prog 109 Pv:=tu (itoa_said laysM171 (gt:=5) (by kernel_rfl))
def lays172_ren:Go.Shelf.Ren:=⟨fun|172=>127|244=>138|245=>139|247=>154|279=>155|280=>156|281=>157|282=>158|287=>169|316=>170|171=>109|205=>171|321=>177|322=>178|243=>128|246=>140|283=>159|284=>160|285=>161|286=>162|129=>153|317=>172|318=>173|319=>174|320=>175|337=>179|338=>180|n=>n,fun|9=>9|3=>3|75=>131|76=>132|4=>4|5=>5|167=>169|37=>22|0=>0|85=>170|2=>2|168=>172|53=>164|175=>185|46=>135|210=>189|127=>141|145=>200|143=>198|21=>21|171=>175|173=>177|212=>192|51=>142|20=>20|213=>193|232=>201|233=>202|80=>134|n=>n,fun|15=>3|16=>4|17=>5|18=>6|19=>7|n=>n⟩
theorem lays172:Go.Proofs.Lays.n172 Tryz.prog lays172_ren:={
 mixed:=by kernel_rfl
 f129:=Tryz.func153.trans (congrArg some (by kernel_rfl))
 f171:=Tryz.func109.trans (congrArg some (by kernel_rfl))
 f172:=Tryz.func127.trans (congrArg some (by kernel_rfl))
 f205:=Tryz.func171.trans (congrArg some (by kernel_rfl))
 f243:=Tryz.func128.trans (congrArg some (by kernel_rfl))
 f244:=Tryz.func138.trans (congrArg some (by kernel_rfl))
 f245:=Tryz.func139.trans (congrArg some (by kernel_rfl))
 f246:=Tryz.func140.trans (congrArg some (by kernel_rfl))
 f247:=Tryz.func154.trans (congrArg some (by kernel_rfl))
 f279:=Tryz.func155.trans (congrArg some (by kernel_rfl))
 f280:=Tryz.func156.trans (congrArg some (by kernel_rfl))
 f281:=Tryz.func157.trans (congrArg some (by kernel_rfl))
 f282:=Tryz.func158.trans (congrArg some (by kernel_rfl))
 f283:=Tryz.func159.trans (congrArg some (by kernel_rfl))
 f284:=Tryz.func160.trans (congrArg some (by kernel_rfl))
 f285:=Tryz.func161.trans (congrArg some (by kernel_rfl))
 f286:=Tryz.func162.trans (congrArg some (by kernel_rfl))
 f287:=Tryz.func169.trans (congrArg some (by kernel_rfl))
 f316:=Tryz.func170.trans (congrArg some (by kernel_rfl))
 f317:=Tryz.func172.trans (congrArg some (by kernel_rfl))
 f318:=Tryz.func173.trans (congrArg some (by kernel_rfl))
 f319:=Tryz.func174.trans (congrArg some (by kernel_rfl))
 f320:=Tryz.func175.trans (congrArg some (by kernel_rfl))
 f321:=Tryz.func177.trans (congrArg some (by kernel_rfl))
 f322:=Tryz.func178.trans (congrArg some (by kernel_rfl))
 f337:=Tryz.func179.trans (congrArg some (by kernel_rfl))
 f338:=Tryz.func180.trans (congrArg some (by kernel_rfl))
 t0:=Tryz.underlying0
 a0:=Tryz.isAgg0
 z0:=Tryz.sizeOf0
 v0:=Tryz.zeroValue0
 t2:=Tryz.underlying2
 a2:=Tryz.isAgg2
 z2:=Tryz.sizeOf2
 v2:=Tryz.zeroValue2
 t3:=Tryz.underlying3
 a3:=Tryz.isAgg3
 z3:=Tryz.sizeOf3
 v3:=Tryz.zeroValue3
 t4:=Tryz.underlying4
 a4:=Tryz.isAgg4
 z4:=Tryz.sizeOf4
 v4:=Tryz.zeroValue4
 t5:=Tryz.underlying5
 a5:=Tryz.isAgg5
 z5:=Tryz.sizeOf5
 v5:=Tryz.zeroValue5
 t9:=Tryz.underlying9
 a9:=Tryz.isAgg9
 z9:=Tryz.sizeOf9
 v9:=Tryz.zeroValue9
 t20:=Tryz.underlying20
 a20:=Tryz.isAgg20
 z20:=Tryz.sizeOf20
 v20:=Tryz.zeroValue20
 t21:=Tryz.underlying21
 a21:=Tryz.isAgg21
 z21:=Tryz.sizeOf21
 v21:=Tryz.zeroValue21
 t37:=Tryz.underlying22
 a37:=Tryz.isAgg22
 z37:=Tryz.sizeOf22
 v37:=Tryz.zeroValue22
 t46:=Tryz.underlying135
 a46:=Tryz.isAgg135
 z46:=Tryz.sizeOf135
 v46:=Tryz.zeroValue135
 t51:=Tryz.underlying142
 a51:=Tryz.isAgg142
 z51:=Tryz.sizeOf142
 v51:=Tryz.zeroValue142
 t53:=Tryz.underlying164
 a53:=Tryz.isAgg164
 z53:=Tryz.sizeOf164
 v53:=Tryz.zeroValue164
 t75:=Tryz.underlying131
 a75:=Tryz.isAgg131
 z75:=Tryz.sizeOf131
 v75:=Tryz.zeroValue131
 t76:=Tryz.underlying132
 a76:=Tryz.isAgg132
 z76:=Tryz.sizeOf132
 v76:=Tryz.zeroValue132
 t85:=Tryz.underlying170
 a85:=Tryz.isAgg170
 z85:=Tryz.sizeOf170
 v85:=Tryz.zeroValue170
 t127:=Tryz.underlying141
 a127:=Tryz.isAgg141
 z127:=Tryz.sizeOf141
 v127:=Tryz.zeroValue141
 t143:=Tryz.underlying198
 a143:=Tryz.isAgg198
 z143:=Tryz.sizeOf198
 v143:=Tryz.zeroValue198
 t145:=Tryz.underlying200
 a145:=Tryz.isAgg200
 z145:=Tryz.sizeOf200
 v145:=Tryz.zeroValue200
 t167:=Tryz.underlying169
 a167:=Tryz.isAgg169
 z167:=Tryz.sizeOf169
 v167:=Tryz.zeroValue169
 t168:=Tryz.underlying172
 a168:=Tryz.isAgg172
 z168:=Tryz.sizeOf172
 v168:=Tryz.zeroValue172
 t171:=Tryz.underlying175
 a171:=Tryz.isAgg175
 z171:=Tryz.sizeOf175
 v171:=Tryz.zeroValue175
 t173:=Tryz.underlying177
 a173:=Tryz.isAgg177
 z173:=Tryz.sizeOf177
 v173:=Tryz.zeroValue177
 t175:=Tryz.underlying185
 a175:=Tryz.isAgg185
 z175:=Tryz.sizeOf185
 v175:=Tryz.zeroValue185
 t210:=Tryz.underlying189
 a210:=Tryz.isAgg189
 z210:=Tryz.sizeOf189
 v210:=Tryz.zeroValue189
 t212:=Tryz.underlying192
 a212:=Tryz.isAgg192
 z212:=Tryz.sizeOf192
 v212:=Tryz.zeroValue192
 t213:=Tryz.underlying193
 a213:=Tryz.isAgg193
 z213:=Tryz.sizeOf193
 t232:=Tryz.underlying201
 a232:=Tryz.isAgg201
 z232:=Tryz.sizeOf201
 v232:=Tryz.zeroValue201
 t233:=Tryz.underlying202
 a233:=Tryz.isAgg202
 z233:=Tryz.sizeOf202
 v233:=Tryz.zeroValue202
 g15:=by kernel_rfl
 g16:=by kernel_rfl
 g17:=by kernel_rfl
 g18:=by kernel_rfl
 g19:=by kernel_rfl }
def laysC172_ren:Go.Shelf.Ren:=⟨fun|172=>127|244=>138|245=>139|247=>154|279=>155|280=>156|281=>157|282=>158|287=>169|316=>170|171=>109|205=>171|321=>177|322=>178|243=>128|246=>140|283=>159|284=>160|285=>161|286=>162|129=>153|317=>172|318=>173|319=>174|320=>175|337=>179|338=>180|n=>n,fun|9=>9|3=>3|75=>131|76=>132|4=>4|5=>5|167=>169|37=>22|0=>0|85=>170|2=>2|168=>172|53=>164|175=>185|46=>135|210=>189|127=>141|145=>200|143=>198|21=>21|171=>175|173=>177|212=>192|51=>142|20=>20|213=>193|232=>201|233=>202|80=>134|n=>n,fun|15=>3|16=>4|17=>5|18=>6|19=>7|n=>n⟩
theorem laysC172:Go.Proofs.LaysC.n172 Tryz.prog laysC172_ren:={
 mixed:=by kernel_rfl
 f129:=Tryz.func153.trans (congrArg some (by kernel_rfl))
 f171:=Tryz.func109.trans (congrArg some (by kernel_rfl))
 f172:=Tryz.func127.trans (congrArg some (by kernel_rfl))
 f205:=Tryz.func171.trans (congrArg some (by kernel_rfl))
 f243:=Tryz.func128.trans (congrArg some (by kernel_rfl))
 f244:=Tryz.func138.trans (congrArg some (by kernel_rfl))
 f245:=Tryz.func139.trans (congrArg some (by kernel_rfl))
 f246:=Tryz.func140.trans (congrArg some (by kernel_rfl))
 f247:=Tryz.func154.trans (congrArg some (by kernel_rfl))
 f279:=Tryz.func155.trans (congrArg some (by kernel_rfl))
 f280:=Tryz.func156.trans (congrArg some (by kernel_rfl))
 f281:=Tryz.func157.trans (congrArg some (by kernel_rfl))
 f282:=Tryz.func158.trans (congrArg some (by kernel_rfl))
 f283:=Tryz.func159.trans (congrArg some (by kernel_rfl))
 f284:=Tryz.func160.trans (congrArg some (by kernel_rfl))
 f285:=Tryz.func161.trans (congrArg some (by kernel_rfl))
 f286:=Tryz.func162.trans (congrArg some (by kernel_rfl))
 f287:=Tryz.func169.trans (congrArg some (by kernel_rfl))
 f316:=Tryz.func170.trans (congrArg some (by kernel_rfl))
 f317:=Tryz.func172.trans (congrArg some (by kernel_rfl))
 f318:=Tryz.func173.trans (congrArg some (by kernel_rfl))
 f319:=Tryz.func174.trans (congrArg some (by kernel_rfl))
 f320:=Tryz.func175.trans (congrArg some (by kernel_rfl))
 f321:=Tryz.func177.trans (congrArg some (by kernel_rfl))
 f322:=Tryz.func178.trans (congrArg some (by kernel_rfl))
 f337:=Tryz.func179.trans (congrArg some (by kernel_rfl))
 f338:=Tryz.func180.trans (congrArg some (by kernel_rfl))
 t0:=Tryz.underlying0
 a0:=Tryz.isAgg0
 z0:=Tryz.sizeOf0
 v0:=Tryz.zeroValue0
 t2:=Tryz.underlying2
 a2:=Tryz.isAgg2
 z2:=Tryz.sizeOf2
 v2:=Tryz.zeroValue2
 t3:=Tryz.underlying3
 a3:=Tryz.isAgg3
 z3:=Tryz.sizeOf3
 v3:=Tryz.zeroValue3
 t4:=Tryz.underlying4
 a4:=Tryz.isAgg4
 z4:=Tryz.sizeOf4
 v4:=Tryz.zeroValue4
 t5:=Tryz.underlying5
 a5:=Tryz.isAgg5
 z5:=Tryz.sizeOf5
 v5:=Tryz.zeroValue5
 t9:=Tryz.underlying9
 a9:=Tryz.isAgg9
 z9:=Tryz.sizeOf9
 v9:=Tryz.zeroValue9
 t20:=Tryz.underlying20
 a20:=Tryz.isAgg20
 z20:=Tryz.sizeOf20
 v20:=Tryz.zeroValue20
 t21:=Tryz.underlying21
 a21:=Tryz.isAgg21
 z21:=Tryz.sizeOf21
 v21:=Tryz.zeroValue21
 t37:=Tryz.underlying22
 a37:=Tryz.isAgg22
 z37:=Tryz.sizeOf22
 v37:=Tryz.zeroValue22
 t46:=Tryz.underlying135
 a46:=Tryz.isAgg135
 z46:=Tryz.sizeOf135
 v46:=Tryz.zeroValue135
 t51:=Tryz.underlying142
 a51:=Tryz.isAgg142
 z51:=Tryz.sizeOf142
 v51:=Tryz.zeroValue142
 t53:=Tryz.underlying164
 a53:=Tryz.isAgg164
 z53:=Tryz.sizeOf164
 v53:=Tryz.zeroValue164
 t75:=Tryz.underlying131
 a75:=Tryz.isAgg131
 z75:=Tryz.sizeOf131
 v75:=Tryz.zeroValue131
 t76:=Tryz.underlying132
 a76:=Tryz.isAgg132
 z76:=Tryz.sizeOf132
 v76:=Tryz.zeroValue132
 t85:=Tryz.underlying170
 a85:=Tryz.isAgg170
 z85:=Tryz.sizeOf170
 v85:=Tryz.zeroValue170
 t127:=Tryz.underlying141
 a127:=Tryz.isAgg141
 z127:=Tryz.sizeOf141
 v127:=Tryz.zeroValue141
 t143:=Tryz.underlying198
 a143:=Tryz.isAgg198
 z143:=Tryz.sizeOf198
 v143:=Tryz.zeroValue198
 t145:=Tryz.underlying200
 a145:=Tryz.isAgg200
 z145:=Tryz.sizeOf200
 v145:=Tryz.zeroValue200
 t167:=Tryz.underlying169
 a167:=Tryz.isAgg169
 z167:=Tryz.sizeOf169
 v167:=Tryz.zeroValue169
 t168:=Tryz.underlying172
 a168:=Tryz.isAgg172
 z168:=Tryz.sizeOf172
 v168:=Tryz.zeroValue172
 t171:=Tryz.underlying175
 a171:=Tryz.isAgg175
 z171:=Tryz.sizeOf175
 v171:=Tryz.zeroValue175
 t173:=Tryz.underlying177
 a173:=Tryz.isAgg177
 z173:=Tryz.sizeOf177
 v173:=Tryz.zeroValue177
 t175:=Tryz.underlying185
 a175:=Tryz.isAgg185
 z175:=Tryz.sizeOf185
 v175:=Tryz.zeroValue185
 t210:=Tryz.underlying189
 a210:=Tryz.isAgg189
 z210:=Tryz.sizeOf189
 v210:=Tryz.zeroValue189
 t212:=Tryz.underlying192
 a212:=Tryz.isAgg192
 z212:=Tryz.sizeOf192
 v212:=Tryz.zeroValue192
 t213:=Tryz.underlying193
 a213:=Tryz.isAgg193
 z213:=Tryz.sizeOf193
 t232:=Tryz.underlying201
 a232:=Tryz.isAgg201
 z232:=Tryz.sizeOf201
 v232:=Tryz.zeroValue201
 t233:=Tryz.underlying202
 a233:=Tryz.isAgg202
 z233:=Tryz.sizeOf202
 v233:=Tryz.zeroValue202
 g15:=by kernel_rfl
 g16:=by kernel_rfl
 g17:=by kernel_rfl
 g18:=by kernel_rfl
 g19:=by kernel_rfl
 t80:=Tryz.underlying134
 a80:=Tryz.isAgg134
 z80:=Tryz.sizeOf134
 v80:=Tryz.zeroValue134
 i0:=by kernel_rfl
 i2:=by kernel_rfl
 i3:=by kernel_rfl
 i4:=by kernel_rfl
 i5:=by kernel_rfl
 i9:=by kernel_rfl
 i20:=by kernel_rfl
 i21:=by kernel_rfl
 i37:=by kernel_rfl
 i46:=by kernel_rfl
 i51:=by kernel_rfl
 i53:=by kernel_rfl
 i75:=by kernel_rfl
 i76:=by kernel_rfl
 i80:=by kernel_rfl
 i85:=by kernel_rfl
 i127:=by kernel_rfl
 i143:=by kernel_rfl
 i145:=by kernel_rfl
 i167:=by kernel_rfl
 i168:=by kernel_rfl
 i171:=by kernel_rfl
 i173:=by kernel_rfl
 i175:=by kernel_rfl
 i210:=by kernel_rfl
 i212:=by kernel_rfl
 i232:=by kernel_rfl
 i233:=by kernel_rfl
 m15:=by kernel_rfl
 m16:=by kernel_rfl
 m17:=by kernel_rfl
 m18:=by kernel_rfl
 m19:=by kernel_rfl
 c0:=by kernel_rfl
 c2:=by kernel_rfl
 c3:=by kernel_rfl
 c4:=by kernel_rfl
 c5:=by kernel_rfl
 c9:=by kernel_rfl
 c20:=by kernel_rfl
 c21:=by kernel_rfl
 c37:=by kernel_rfl
 c46:=by kernel_rfl
 c51:=by kernel_rfl
 c53:=by kernel_rfl
 c75:=by kernel_rfl
 c76:=by kernel_rfl
 c80:=by kernel_rfl
 c85:=by kernel_rfl
 c127:=by kernel_rfl
 c143:=by kernel_rfl
 c145:=by kernel_rfl
 c167:=by kernel_rfl
 c168:=by kernel_rfl
 c171:=by kernel_rfl
 c173:=by kernel_rfl
 c175:=by kernel_rfl
 c210:=by kernel_rfl
 c212:=by kernel_rfl
 c213:=by kernel_rfl
 c232:=by kernel_rfl
 c233:=by kernel_rfl }
theorem pH:Aw Tryz.prog 127 Px:=tj (atoi_said lays172 laysC172 (by kernel_rfl) (by kernel_rfl))
open Go.Shelf
def lays191_ren:Go.Shelf.Ren:=⟨fun|191=>101|189=>122|125=>135|257=>134|128=>152|129=>153|294=>143|295=>144|296=>145|297=>146|298=>147|299=>148|216=>149|300=>150|301=>151|328=>163|329=>164|330=>165|331=>166|332=>167|215=>168|343=>176|n=>n,fun|28=>54|0=>0|3=>3|46=>135|51=>142|53=>164|4=>4|183=>156|182=>155|131=>116|5=>5|9=>9|218=>179|222=>183|228=>194|229=>195|n=>n,fun|n=>n⟩
theorem lays191:Go.Proofs.Lays.n191 Tryz.prog lays191_ren:={
 mixed:=by kernel_rfl
 f125:=Tryz.func135.trans (congrArg some (by kernel_rfl))
 f128:=Tryz.func152.trans (congrArg some (by kernel_rfl))
 f129:=Tryz.func153.trans (congrArg some (by kernel_rfl))
 f189:=Tryz.func122.trans (congrArg some (by kernel_rfl))
 f191:=Tryz.func101.trans (congrArg some (by kernel_rfl))
 f215:=Tryz.func168.trans (congrArg some (by kernel_rfl))
 f216:=Tryz.func149.trans (congrArg some (by kernel_rfl))
 f257:=Tryz.func134.trans (congrArg some (by kernel_rfl))
 f294:=Tryz.func143.trans (congrArg some (by kernel_rfl))
 f295:=Tryz.func144.trans (congrArg some (by kernel_rfl))
 f296:=Tryz.func145.trans (congrArg some (by kernel_rfl))
 f297:=Tryz.func146.trans (congrArg some (by kernel_rfl))
 f298:=Tryz.func147.trans (congrArg some (by kernel_rfl))
 f299:=Tryz.func148.trans (congrArg some (by kernel_rfl))
 f300:=Tryz.func150.trans (congrArg some (by kernel_rfl))
 f301:=Tryz.func151.trans (congrArg some (by kernel_rfl))
 f328:=Tryz.func163.trans (congrArg some (by kernel_rfl))
 f329:=Tryz.func164.trans (congrArg some (by kernel_rfl))
 f330:=Tryz.func165.trans (congrArg some (by kernel_rfl))
 f331:=Tryz.func166.trans (congrArg some (by kernel_rfl))
 f332:=Tryz.func167.trans (congrArg some (by kernel_rfl))
 f343:=Tryz.func176.trans (congrArg some (by kernel_rfl))
 t0:=Tryz.underlying0
 a0:=Tryz.isAgg0
 z0:=Tryz.sizeOf0
 v0:=Tryz.zeroValue0
 t3:=Tryz.underlying3
 a3:=Tryz.isAgg3
 z3:=Tryz.sizeOf3
 v3:=Tryz.zeroValue3
 t4:=Tryz.underlying4
 a4:=Tryz.isAgg4
 z4:=Tryz.sizeOf4
 v4:=Tryz.zeroValue4
 t5:=Tryz.underlying5
 a5:=Tryz.isAgg5
 z5:=Tryz.sizeOf5
 v5:=Tryz.zeroValue5
 t9:=Tryz.underlying9
 a9:=Tryz.isAgg9
 z9:=Tryz.sizeOf9
 v9:=Tryz.zeroValue9
 t28:=Tryz.underlying54
 a28:=Tryz.isAgg54
 z28:=Tryz.sizeOf54
 v28:=Tryz.zeroValue54
 t46:=Tryz.underlying135
 a46:=Tryz.isAgg135
 z46:=Tryz.sizeOf135
 v46:=Tryz.zeroValue135
 t51:=Tryz.underlying142
 a51:=Tryz.isAgg142
 z51:=Tryz.sizeOf142
 v51:=Tryz.zeroValue142
 t53:=Tryz.underlying164
 a53:=Tryz.isAgg164
 z53:=Tryz.sizeOf164
 v53:=Tryz.zeroValue164
 t131:=Tryz.underlying116
 a131:=Tryz.isAgg116
 z131:=Tryz.sizeOf116
 v131:=Tryz.zeroValue116
 t182:=Tryz.underlying155
 a182:=Tryz.isAgg155
 z182:=Tryz.sizeOf155
 v182:=Tryz.zeroValue155
 t183:=Tryz.underlying156
 a183:=Tryz.isAgg156
 z183:=Tryz.sizeOf156
 v183:=Tryz.zeroValue156
 t218:=Tryz.underlying179
 a218:=Tryz.isAgg179
 z218:=Tryz.sizeOf179
 v218:=Tryz.zeroValue179
 t222:=Tryz.underlying183
 a222:=Tryz.isAgg183
 z222:=Tryz.sizeOf183
 v222:=Tryz.zeroValue183
 t228:=Tryz.underlying194
 a228:=Tryz.isAgg194
 z228:=Tryz.sizeOf194
 v228:=Tryz.zeroValue194
 t229:=Tryz.underlying195
 a229:=Tryz.isAgg195
 z229:=Tryz.sizeOf195
 v229:=Tryz.zeroValue195 }
theorem r8:Aw Tryz.prog 101 LP:=tI ⟨fun blk off cap zs w h1 h2 h3=>Go.Proofs.Any.sort_Ints lays191 blk off cap zs w h1 h2 h3,fun p cap w=>Go.Proofs.Any.sort_Ints_none lays191 p cap w⟩
theorem tw:Aw Tryz.prog 7 JA.S:=lF follows Tryz.func7 (by kernel_rfl) (obs:=[]) (by kernel_rfl) trivial
theorem k_spec_l1New:Ga Tryz.prog Tryz.f70 KC.er.er=true:=by kernel_rfl
theorem o_spec_l1New:F6 Tryz.prog Tryz.f70 KC.er.er=[]:=by kernel_rfl
theorem qX:Aw Tryz.prog 70 NF:=by unfold NF;exact Ie follows Tryz.func70 k_spec_l1New o_spec_l1New trivial
theorem k_spec_l24New:Ga Tryz.prog Tryz.f37 Ky.er.er=true:=by kernel_rfl
theorem o_spec_l24New:F6 Tryz.prog Tryz.f37 Ky.er.er=[(70,NF)]:=by kernel_rfl
theorem dC:Aw Tryz.prog 37 Kz:=by unfold Kz;exact Ie follows Tryz.func37 k_spec_l24New o_spec_l24New ⟨qX,trivial⟩
theorem k_spec_l1Byte:Ga Tryz.prog Tryz.f79 Kw.er.er=true:=by kernel_rfl
theorem o_spec_l1Byte:F6 Tryz.prog Tryz.f79 Kw.er.er=[]:=by kernel_rfl
theorem PI:Aw Tryz.prog 79 Fm:=by unfold Fm;exact Ie follows Tryz.func79 k_spec_l1Byte o_spec_l1Byte trivial
theorem k_spec_l1Below:Ga Tryz.prog Tryz.f46 Kq.er.er=true:=by kernel_rfl
theorem o_spec_l1Below:F6 Tryz.prog Tryz.f46 Kq.er.er=[(79,Fm),(79,Fm),(79,Fm),(79,Fm),(79,Fm)]:=by kernel_rfl
theorem G9:Aw Tryz.prog 46 CB:=by unfold CB;exact Ie follows Tryz.func46 k_spec_l1Below o_spec_l1Below ⟨PI,PI,PI,PI,PI,trivial⟩
theorem k_spec_l1Once:Ga Tryz.prog Tryz.f78 Kv.er.er=true:=by kernel_rfl
theorem o_spec_l1Once:F6 Tryz.prog Tryz.f78 Kv.er.er=[(46,CB)]:=by kernel_rfl
theorem Te:Aw Tryz.prog 78 Gx:=by unfold Gx;exact Ie follows Tryz.func78 k_spec_l1Once o_spec_l1Once ⟨G9,trivial⟩
theorem k_spec_l5Draw:Ga Tryz.prog Tryz.f45 Kr.er.er=true:=by kernel_rfl
theorem o_spec_l5Draw:F6 Tryz.prog Tryz.f45 Kr.er.er=[(46,CB),(46,CB),(78,Gx),(46,CB),(46,CB),(46,CB),(46,CB),(46,CB)]:=by kernel_rfl
theorem qE:Aw Tryz.prog 45 Nz:=by unfold Nz;exact Ie follows Tryz.func45 k_spec_l5Draw o_spec_l5Draw ⟨G9,G9,Te,G9,G9,G9,G9,G9,trivial⟩
theorem TN:Aw Tryz.prog 83 E1.S:=lF follows Tryz.func83 (by kernel_rfl) (obs:=[]) (by kernel_rfl) trivial
theorem oU:Aw Tryz.prog 84 Jq.S:=lF follows Tryz.func84 (by kernel_rfl) (obs:=[(83,E1.S),(83,E1.S),(83,E1.S),(83,E1.S)]) (by kernel_rfl) ⟨TN,TN,TN,TN,trivial⟩
theorem bP:Aw Tryz.prog 121 G0.S:=lF follows Tryz.func121 (by kernel_rfl) (obs:=[(84,Jq.S)]) (by kernel_rfl) ⟨oU,trivial⟩
theorem qN:Aw Tryz.prog 97 Jv.S:=lF follows Tryz.func97 (by kernel_rfl) (obs:=[(121,G0.S)]) (by kernel_rfl) ⟨bP,trivial⟩
theorem qV:Aw Tryz.prog 98 Jy.S:=lF follows Tryz.func98 (by kernel_rfl) (obs:=[(121,G0.S)]) (by kernel_rfl) ⟨bP,trivial⟩
theorem k_spec_l7Draw:Ga Tryz.prog Tryz.f60 Kx.er.er=true:=by kernel_rfl
theorem o_spec_l7Draw:F6 Tryz.prog Tryz.f60 Kx.er.er=[(78,Gx),(45,Nz),(78,Gx),(97,Jv.S),(98,Jy.S)]:=by kernel_rfl
theorem qI:Aw Tryz.prog 60 Ny:=by unfold Ny;exact Ie follows Tryz.func60 k_spec_l7Draw o_spec_l7Draw ⟨Te,qE,Te,qN,qV,trivial⟩
theorem oT:Aw Tryz.prog 27 Jn.S:=lF follows Tryz.func27 (by kernel_rfl) (obs:=[(37,Kz),(60,Ny)]) (by kernel_rfl) ⟨dC,qI,trivial⟩
theorem k_spec_l1PickInt:Ga Tryz.prog Tryz.f69 Ki.er.er=true:=by kernel_rfl
theorem o_spec_l1PickInt:F6 Tryz.prog Tryz.f69 Ki.er.er=[(46,CB)]:=by kernel_rfl
theorem nB:Aw Tryz.prog 69 Nf:=by unfold Nf;exact Ie follows Tryz.func69 k_spec_l1PickInt o_spec_l1PickInt ⟨G9,trivial⟩
theorem k_spec_l8Draw:Ga Tryz.prog Tryz.f61 Ku.er.er=true:=by kernel_rfl
theorem o_spec_l8Draw:F6 Tryz.prog Tryz.f61 Ku.er.er=[(46,CB),(46,CB),(69,Nf),(78,Gx)]:=by kernel_rfl
theorem qq:Aw Tryz.prog 61 Nv:=by unfold Nv;exact Ie follows Tryz.func61 k_spec_l8Draw o_spec_l8Draw ⟨G9,G9,nB,Te,trivial⟩
theorem oC:Aw Tryz.prog 28 Ji.S:=lF follows Tryz.func28 (by kernel_rfl) (obs:=[(37,Kz),(61,Nv)]) (by kernel_rfl) ⟨dC,qq,trivial⟩
theorem fK:Aw Tryz.prog 99 FO.S:=lF follows Tryz.func99 (by kernel_rfl) (obs:=[]) (by kernel_rfl) trivial
theorem Tb:Aw Tryz.prog 66 Ec.S:=lF follows Tryz.func66 (by kernel_rfl) (obs:=[]) (by kernel_rfl) trivial
theorem WU:Aw Tryz.prog 80 DD.S:=lF follows Tryz.func80 (by kernel_rfl) (obs:=[]) (by kernel_rfl) trivial
theorem cQ:Aw Tryz.prog 81 EX.S:=lF follows Tryz.func81 (by kernel_rfl) (obs:=[]) (by kernel_rfl) trivial
theorem SG:Aw Tryz.prog 48 Ea.S:=lF follows Tryz.func48 (by kernel_rfl) (obs:=[(66,Ec.S),(80,DD.S),(81,EX.S),(66,Ec.S),(80,DD.S),(66,Ec.S),(81,EX.S),(80,DD.S)]) (by kernel_rfl) ⟨Tb,WU,cQ,Tb,WU,Tb,cQ,WU,trivial⟩
theorem dH:Aw Tryz.prog 62 Hb.S:=lF follows Tryz.func62 (by kernel_rfl) (obs:=[(99,FO.S),(48,Ea.S)]) (by kernel_rfl) ⟨fK,SG,trivial⟩
theorem dG:Aw Tryz.prog 64 Hc.S:=lF follows Tryz.func64 (by kernel_rfl) (obs:=[]) (by kernel_rfl) trivial
theorem SS:Aw Tryz.prog 32 Eb.S:=lF follows Tryz.func32 (by kernel_rfl) (obs:=[(64,Hc.S),(48,Ea.S)]) (by kernel_rfl) ⟨dG,SG,trivial⟩
theorem bU:Aw Tryz.prog 100 G6.S:=lF follows Tryz.func100 (by kernel_rfl) (obs:=[]) (by kernel_rfl) trivial
theorem qC:Aw Tryz.prog 102 Hi.S:=lF follows Tryz.func102 (by kernel_rfl) (obs:=[]) (by kernel_rfl) trivial
theorem cG:Aw Tryz.prog 65 Ha.S:=lF follows Tryz.func65 (by kernel_rfl) (obs:=[(100,G6.S),(101,LP),(102,Hi.S)]) (by kernel_rfl) ⟨bU,r8,qC,trivial⟩
theorem b6:Aw Tryz.prog 31 G2.S:=lF follows Tryz.func31 (by kernel_rfl) (obs:=[(62,Hb.S),(65,Ha.S)]) (by kernel_rfl) ⟨dH,cG,trivial⟩
theorem bw:Aw Tryz.prog 63 G1.S:=lF follows Tryz.func63 (by kernel_rfl) (obs:=[(100,G6.S),(65,Ha.S)]) (by kernel_rfl) ⟨bU,cG,trivial⟩
theorem mx:Aw Tryz.prog 29 I4.S:=lF follows Tryz.func29 (by kernel_rfl) (obs:=[(62,Hb.S),(32,Eb.S),(31,G2.S),(63,G1.S),(64,Hc.S),(63,G1.S)]) (by kernel_rfl) ⟨dH,SS,b6,bw,dG,bw,trivial⟩
theorem Sj:Aw Tryz.prog 73 ET.S:=lF follows Tryz.func73 (by kernel_rfl) (obs:=[(99,FO.S)]) (by kernel_rfl) ⟨fK,trivial⟩
theorem SI:Aw Tryz.prog 74 EW.S:=lF follows Tryz.func74 (by kernel_rfl) (obs:=[(38,LF)]) (by kernel_rfl) ⟨cd,trivial⟩
theorem Ws:Aw Tryz.prog 75 EU.S:=lF follows Tryz.func75 (by kernel_rfl) (obs:=[(109,Pv)]) (by kernel_rfl) ⟨qe,trivial⟩
theorem dr:Aw Tryz.prog 76 Hg.S:=lF follows Tryz.func76 (by kernel_rfl) (obs:=[]) (by kernel_rfl) trivial
theorem aX:Aw Tryz.prog 41 FE.S:=lF follows Tryz.func41 (by kernel_rfl) (obs:=[(48,Ea.S),(73,ET.S),(74,EW.S),(74,EW.S),(73,ET.S),(74,EW.S),(75,EU.S),(74,EW.S),(73,ET.S),(76,Hg.S),(75,EU.S)]) (by kernel_rfl) ⟨SG,Sj,SI,SI,Sj,SI,Ws,SI,Sj,dr,Ws,trivial⟩
theorem oW:Aw Tryz.prog 42 Jo.S:=lF follows Tryz.func42 (by kernel_rfl) (obs:=[(77,PC)]) (by kernel_rfl) ⟨pI,trivial⟩
theorem bd:Aw Tryz.prog 30 FF.S:=lF follows Tryz.func30 (by kernel_rfl) (obs:=[(32,Eb.S),(41,FE.S),(42,Jo.S)]) (by kernel_rfl) ⟨SS,aX,oW,trivial⟩
theorem oj:Aw Tryz.prog 39 Jj.S:=lF follows Tryz.func39 (by kernel_rfl) (obs:=[]) (by kernel_rfl) trivial
theorem lY:Aw Tryz.prog 87 I3.S:=lF follows Tryz.func87 (by kernel_rfl) (obs:=[(88,OW)]) (by kernel_rfl) ⟨lU,trivial⟩
theorem WV:Aw Tryz.prog 52 FM.S:=lF follows Tryz.func52 (by kernel_rfl) (obs:=[(87,I3.S)]) (by kernel_rfl) ⟨lY,trivial⟩
theorem lQ:Aw Tryz.prog 137 I1.S:=lF follows Tryz.func137 (by kernel_rfl) (obs:=[]) (by kernel_rfl) trivial
theorem lP:Aw Tryz.prog 126 I2.S:=lF follows Tryz.func126 (by kernel_rfl) (obs:=[(137,I1.S)]) (by kernel_rfl) ⟨lQ,trivial⟩
theorem aW:Aw Tryz.prog 105 GW.S:=lF follows Tryz.func105 (by kernel_rfl) (obs:=[(126,I2.S)]) (by kernel_rfl) ⟨lP,trivial⟩
theorem bW:Aw Tryz.prog 106 G5.S:=lF follows Tryz.func106 (by kernel_rfl) (obs:=[(127,Px),(75,EU.S)]) (by kernel_rfl) ⟨pH,Ws,trivial⟩
theorem Wu:Aw Tryz.prog 107 FH.S:=lF follows Tryz.func107 (by kernel_rfl) (obs:=[(73,ET.S)]) (by kernel_rfl) ⟨Sj,trivial⟩
theorem Ti:Aw Tryz.prog 108 EZ.S:=lF follows Tryz.func108 (by kernel_rfl) (obs:=[(38,LF)]) (by kernel_rfl) ⟨cd,trivial⟩
theorem mK:Aw Tryz.prog 72 I9.S:=lF follows Tryz.func72 (by kernel_rfl) (obs:=[(76,Hg.S),(105,GW.S),(106,G5.S),(105,GW.S),(107,FH.S),(52,FM.S),(106,G5.S),(108,EZ.S),(107,FH.S),(108,EZ.S),(52,FM.S),(107,FH.S),(108,EZ.S),(108,EZ.S)]) (by kernel_rfl) ⟨dr,aW,bW,aW,Wu,WV,bW,Ti,Wu,Ti,WV,Wu,Ti,Ti,trivial⟩
theorem mF:Aw Tryz.prog 40 Jb.S:=lF follows Tryz.func40 (by kernel_rfl) (obs:=[(72,I9.S),(48,Ea.S),(41,FE.S)]) (by kernel_rfl) ⟨mK,SG,aX,trivial⟩
theorem mT:Aw Tryz.prog 19 Jf.S:=lF follows Tryz.func19 (by kernel_rfl) (obs:=[(39,Jj.S),(52,FM.S),(40,Jb.S),(53,Ps),(32,Eb.S),(30,FF.S)]) (by kernel_rfl) ⟨oj,WV,mF,oM,SS,bd,trivial⟩
theorem oH:Aw Tryz.prog 33 G7.S:=lF follows Tryz.func33 (by kernel_rfl) (obs:=[(66,Ec.S)]) (by kernel_rfl) ⟨Tb,trivial⟩
theorem ta:Aw Tryz.prog 34 JB.S:=lF follows Tryz.func34 (by kernel_rfl) (obs:=[]) (by kernel_rfl) trivial
theorem oR:Aw Tryz.prog 67 G4.S:=lF follows Tryz.func67 (by kernel_rfl) (obs:=[]) (by kernel_rfl) trivial
theorem nc:Aw Tryz.prog 35 GY.S:=lF follows Tryz.func35 (by kernel_rfl) (obs:=[(67,G4.S)]) (by kernel_rfl) ⟨oR,trivial⟩
theorem oJ:Aw Tryz.prog 6 Gu.S:=lF follows Tryz.func6 (by kernel_rfl) (obs:=[(7,JA.S),(27,Jn.S),(28,Ji.S),(29,I4.S),(30,FF.S),(19,Jf.S),(31,G2.S),(32,Eb.S),(33,G7.S),(34,JB.S),(35,GY.S)]) (by kernel_rfl) ⟨tw,oT,oC,mx,bd,mT,b6,SS,oH,ta,nc,trivial⟩
end Go.Proofs.YtijikmakanpmlaaGreatDoor
