/-
 EACH ABSTRACT FUNCTION IS THE SEAT's OWN: checked by the kernel,function by function (written by program,ag.py).
-/
import Derived.Test.YtijikmakanpmlaaGreatDoorChecked
import Derived.KernelRfl
import Derived.Test.YtijikmakanpmlaaGreatDoorLibG
import Derived.Shelf.Strings.OnBuilder
import Derived.Shelf.Strings.Split
import Derived.Shelf.Strings.Search3
import Derived.Shelf.Small.Strs
import Derived.Shelf.Strconv.Itoa3
import Derived.Shelf.Strconv.Atoi
import Derived.Shelf.Strconv.AtoiErr
import Derived.Lib.AtoiErrMem
import Derived.Lib.SplitLaws
namespace Go.Ag
set_option linter.unusedSimpArgs false
set_option linter.unusedVariables false
set_option linter.unusedSimpArgs false
set_option linter.unusedVariables false
open Go.Shelf Go.RowKit Go.Lib Go.Proofs Go.Sort
set_option maxRecDepth 100000
theorem list_data(l:List UInt8):(ByteArray.mk l.toArray).data.toList=l:=by simp
theorem split_said{P:Program}{ρ:Go.Shelf.Ren}(L:Lays.n146 P ρ)(hi9:(P.info? (ρ.t 9)).map (fun i=>(i.zero,i.size,i.bytes))=some (some (.string ByteArray.empty),1,16))(hgm:P.globalNamed "internal/bytealg.MaxLen"= some (ρ.g 1)):bj P (ρ.f 146):=by
 refine⟨ρ.g 1,hgm,fun s sep m w hs h1 hm=>?_⟩
 have h1':1≤(ByteArray.mk sep.toArray).size:=by simpa [ByteArray.size] using h1
 refine(Any.strings_Split L hi9 ⟨s.toArray⟩ ⟨sep.toArray⟩ m w (by simpa [ByteArray.size] using hs) hm h1').mono ?_
 rintro e w' ⟨rfl,rfl⟩
 have hc:Lib.countB ⟨s.toArray⟩ ⟨sep.toArray⟩=Lib.count s sep:=by show Lib.count _ _=_;rw[list_data,list_data]
 have hb:=Lib.splitB_data ⟨sep.toArray⟩ 0 (Lib.count s sep) ⟨s.toArray⟩
 rw[list_data,list_data] at hb
 have hb:(Lib.splitB ⟨sep.toArray⟩ 0 (Lib.count s sep) ⟨s.toArray⟩).map (·.data.toList)=Lib.split s sep:=hb
 have hl:(Lib.split s sep).length=Lib.count s sep+1:=by rw[← hb,A0];exact Lib.splitB_all _ h1' 0 _ _ hc
 have hm':(Lib.splitB ⟨sep.toArray⟩ 0 (Lib.count s sep) ⟨s.toArray⟩).map Value.string=(Lib.split s sep).map fun s=>Value.string ⟨s.toArray⟩:=by
  rw[← hb,List.map_map]
  apply List.map_congr_left
  intro x _
  simp
 rw[hc,hl,hm']
 exact⟨_,rfl,rfl⟩
theorem sindex_said{P:Program}{ρ:Go.Shelf.Ren}(L:Lays.n143 P ρ)(hgm:P.globalNamed "internal/bytealg.MaxLen"= some (ρ.g 1)):pF P (ρ.f 143):=
 ⟨ρ.g 1,hgm,fun s sub m w hs hm=>Any.strings_Index L s sub m w hs hm⟩
theorem grow_below(w:World)(k:Nat)(os:Array Obj):Below w.heap.size w (grow (w.drewN k) os):=
 ⟨rfl,rfl,rfl,by simp[grow,World.drewN],fun j hj=>by simp only[grow,World.drewN];exact Array.getElem?_append_left hj⟩
theorem itoa_said{P:Program}{ρ:Go.Shelf.Ren}(L:LaysM.n171 P ρ){gt:Nat}(hgt:P.globalNamed "internal/strconv.uint64pow10"= some gt):du P (ρ.f 171):=by
 refine⟨gt,hgt,fun i h0 h1 w ht=>(Any.strconv_Itoa L i h0 h1 w ?_).mono ?_⟩
 · unfold Lib.TabIs Lib.pow10Tab
   rw[ht,List.map_map];rfl
 · rintro e w' ⟨rfl,k,os,rfl⟩
   exact⟨rfl,grow_below w k os⟩
theorem atoi_said{P:Program}{ρ:Go.Shelf.Ren}(L:Lays.n172 P ρ){ρ':Go.Shelf.Ren}(L':LaysC.n172 P ρ')(hf:ρ'.f 172=ρ.f 172)(hge:P.globalNamed "strconv.ErrSyntax"= some (ρ'.g 15)):dH P (ρ.f 172):=by
 refine⟨ρ'.g 15,hge,fun s n w hs h=>(Any.strconv_Atoi L s n hs h w).mono ?_,fun s t p w hs h hv=>?_⟩
 · rintro e w' ⟨rfl,t,rfl⟩
   exact⟨rfl,Lib.bytesWorld_below _ _ _⟩
 · have hc:w.cell? ⟨ρ'.g 15,0,none⟩=some (.iface t p):=by
    simp only[World.var?,hge,ER] at hv
    split at hv<;>simp_all [World.cell?]
   rw[← hf]
   refine(Any.strconv_Atoi_err L' s hs h (.iface t p) w hc (.inr ⟨t,p,rfl⟩)).mono ?_
   rintro e w' ⟨N,rfl,_,_,B⟩
   exact⟨⟨_,_,rfl⟩,B⟩
end Go.Ag
namespace Go.Proofs.YtijikmakanpmlaaGreatDoor
open Go.Ag
theorem follows:Tryz.prog.follows .mixedOrders=true:=by kernel_rfl
open Go.Shelf Go.Proofs
def lays156_ren:Go.Shelf.Ren:=⟨fun|156=>77|165=>110|166=>111|169=>112|240=>129|241=>130|276=>141|277=>142|n=>n,fun|31=>67|9=>9|3=>3|4=>4|0=>0|20=>20|72=>128|76=>132|70=>126|37=>22|75=>131|127=>141|164=>151|5=>5|80=>134|n=>n,fun|n=>n⟩
theorem lays156:Go.Proofs.Lays.n156 Tryz.prog lays156_ren:={
 mixed:=by kernel_rfl
 f156:=Tryz.func77.trans (congrArg some (by kernel_rfl))
 f165:=Tryz.func110.trans (congrArg some (by kernel_rfl))
 f166:=Tryz.func111.trans (congrArg some (by kernel_rfl))
 f169:=Tryz.func112.trans (congrArg some (by kernel_rfl))
 f240:=Tryz.func129.trans (congrArg some (by kernel_rfl))
 f241:=Tryz.func130.trans (congrArg some (by kernel_rfl))
 f276:=Tryz.func141.trans (congrArg some (by kernel_rfl))
 f277:=Tryz.func142.trans (congrArg some (by kernel_rfl))
 t0:=Tryz.underlying0
 a0:=Tryz.isAgg0
 z0:=Tryz.sizeOf0
 v0:=Tryz.zeroValue0
 t3:=Tryz.underlying3
 a3:=Tryz.isAgg3
 z3:=Tryz.sizeOf3
 v3:=Tryz.zeroValue3
 t4:=Tryz.underlying4
 a4:=Tryz.isAgg4
 z4:=Tryz.sizeOf4
 v4:=Tryz.zeroValue4
 t9:=Tryz.underlying9
 a9:=Tryz.isAgg9
 z9:=Tryz.sizeOf9
 v9:=Tryz.zeroValue9
 t20:=Tryz.underlying20
 a20:=Tryz.isAgg20
 z20:=Tryz.sizeOf20
 v20:=Tryz.zeroValue20
 t31:=Tryz.underlying67
 a31:=Tryz.isAgg67
 z31:=Tryz.sizeOf67
 v31:=Tryz.zeroValue67
 t37:=Tryz.underlying22
 a37:=Tryz.isAgg22
 z37:=Tryz.sizeOf22
 v37:=Tryz.zeroValue22
 t70:=Tryz.underlying126
 a70:=Tryz.isAgg126
 z70:=Tryz.sizeOf126
 v70:=Tryz.zeroValue126
 t72:=Tryz.underlying128
 a72:=Tryz.isAgg128
 z72:=Tryz.sizeOf128
 v72:=Tryz.zeroValue128
 t75:=Tryz.underlying131
 a75:=Tryz.isAgg131
 z75:=Tryz.sizeOf131
 v75:=Tryz.zeroValue131
 t76:=Tryz.underlying132
 a76:=Tryz.isAgg132
 z76:=Tryz.sizeOf132
 v76:=Tryz.zeroValue132
 t127:=Tryz.underlying141
 a127:=Tryz.isAgg141
 z127:=Tryz.sizeOf141
 v127:=Tryz.zeroValue141
 t164:=Tryz.underlying151
 a164:=Tryz.isAgg151
 z164:=Tryz.sizeOf151
 v164:=Tryz.zeroValue151 }
theorem Builder_Extra_156:Builder.Extra Tryz.prog lays156_ren:={
 sizeBuilder:=by kernel_rfl
 liesBuilder:=by kernel_rfl
 t5:=Tryz.underlying5
 a5:=Tryz.isAgg5
 z5:=Tryz.sizeOf5
 v5:=Tryz.zeroValue5
 infoByte:=by kernel_rfl
 cellsByte:=by kernel_rfl
 sizeByte:=by kernel_rfl
 neB5:=by decide }
theorem mU:Av Tryz.prog 77 Od:=pH ⟨fun bk o c xs sep w h1 h2 h3 h4 h5=>Go.Proofs.Any.strings_Join lays156 Builder_Extra_156 bk o c xs sep w h1 h2 h3 h4 h5,fun a c sep w=>Go.Proofs.Any.strings_Join_none lays156 Builder_Extra_156 a c sep w⟩
def lays146_ren:Go.Shelf.Ren:=⟨fun|146=>38|221=>71|268=>103|138=>104|143=>53|195=>123|197=>124|218=>125|219=>88|260=>136|217=>113|225=>114|224=>115|267=>116|266=>131|314=>132|n=>n,fun|9=>9|31=>67|3=>3|4=>4|0=>0|105=>139|21=>21|5=>5|46=>135|119=>165|139=>168|138=>167|146=>143|51=>142|n=>n,fun|1=>0|3=>1|4=>2|n=>n⟩
theorem lays146:Go.Proofs.Lays.n146 Tryz.prog lays146_ren:={
 mixed:=by kernel_rfl
 f138:=Tryz.func104.trans (congrArg some (by kernel_rfl))
 f143:=Tryz.func53.trans (congrArg some (by kernel_rfl))
 f146:=Tryz.func38.trans (congrArg some (by kernel_rfl))
 f195:=Tryz.func123.trans (congrArg some (by kernel_rfl))
 f197:=Tryz.func124.trans (congrArg some (by kernel_rfl))
 f217:=Tryz.func113.trans (congrArg some (by kernel_rfl))
 f218:=Tryz.func125.trans (congrArg some (by kernel_rfl))
 f219:=Tryz.func88.trans (congrArg some (by kernel_rfl))
 f221:=Tryz.func71.trans (congrArg some (by kernel_rfl))
 f224:=Tryz.func115.trans (congrArg some (by kernel_rfl))
 f225:=Tryz.func114.trans (congrArg some (by kernel_rfl))
 f260:=Tryz.func136.trans (congrArg some (by kernel_rfl))
 f266:=Tryz.func131.trans (congrArg some (by kernel_rfl))
 f267:=Tryz.func116.trans (congrArg some (by kernel_rfl))
 f268:=Tryz.func103.trans (congrArg some (by kernel_rfl))
 f314:=Tryz.func132.trans (congrArg some (by kernel_rfl))
 t0:=Tryz.underlying0
 a0:=Tryz.isAgg0
 z0:=Tryz.sizeOf0
 v0:=Tryz.zeroValue0
 t3:=Tryz.underlying3
 a3:=Tryz.isAgg3
 z3:=Tryz.sizeOf3
 v3:=Tryz.zeroValue3
 t4:=Tryz.underlying4
 a4:=Tryz.isAgg4
 z4:=Tryz.sizeOf4
 v4:=Tryz.zeroValue4
 t5:=Tryz.underlying5
 a5:=Tryz.isAgg5
 z5:=Tryz.sizeOf5
 v5:=Tryz.zeroValue5
 t9:=Tryz.underlying9
 a9:=Tryz.isAgg9
 z9:=Tryz.sizeOf9
 v9:=Tryz.zeroValue9
 t21:=Tryz.underlying21
 a21:=Tryz.isAgg21
 z21:=Tryz.sizeOf21
 v21:=Tryz.zeroValue21
 t31:=Tryz.underlying67
 a31:=Tryz.isAgg67
 z31:=Tryz.sizeOf67
 v31:=Tryz.zeroValue67
 t46:=Tryz.underlying135
 a46:=Tryz.isAgg135
 z46:=Tryz.sizeOf135
 v46:=Tryz.zeroValue135
 t51:=Tryz.underlying142
 a51:=Tryz.isAgg142
 z51:=Tryz.sizeOf142
 v51:=Tryz.zeroValue142
 t105:=Tryz.underlying139
 a105:=Tryz.isAgg139
 z105:=Tryz.sizeOf139
 v105:=Tryz.zeroValue139
 t119:=Tryz.underlying165
 a119:=Tryz.isAgg165
 z119:=Tryz.sizeOf165
 t138:=Tryz.underlying167
 a138:=Tryz.isAgg167
 z138:=Tryz.sizeOf167
 v138:=Tryz.zeroValue167
 t139:=Tryz.underlying168
 a139:=Tryz.isAgg168
 z139:=Tryz.sizeOf168
 v139:=Tryz.zeroValue168
 t146:=Tryz.underlying143
 a146:=Tryz.isAgg143
 z146:=Tryz.sizeOf143
 v146:=Tryz.zeroValue143
 g1:=by kernel_rfl
 g3:=by kernel_rfl
 g4:=by kernel_rfl }
theorem Ur:Av Tryz.prog 38 ID:=oE (split_said lays146 (by kernel_rfl) (by kernel_rfl))
def lays219_ren:Go.Shelf.Ren:=⟨fun|219=>88|217=>113|225=>114|224=>115|267=>116|266=>131|314=>132|n=>n,fun|9=>9|3=>3|4=>4|5=>5|46=>135|146=>143|51=>142|n=>n,fun|1=>0|n=>n⟩
theorem lays219:Go.Proofs.Lays.n219 Tryz.prog lays219_ren:={
 mixed:=by kernel_rfl
 f217:=Tryz.func113.trans (congrArg some (by kernel_rfl))
 f219:=Tryz.func88.trans (congrArg some (by kernel_rfl))
 f224:=Tryz.func115.trans (congrArg some (by kernel_rfl))
 f225:=Tryz.func114.trans (congrArg some (by kernel_rfl))
 f266:=Tryz.func131.trans (congrArg some (by kernel_rfl))
 f267:=Tryz.func116.trans (congrArg some (by kernel_rfl))
 f314:=Tryz.func132.trans (congrArg some (by kernel_rfl))
 t3:=Tryz.underlying3
 a3:=Tryz.isAgg3
 z3:=Tryz.sizeOf3
 v3:=Tryz.zeroValue3
 t4:=Tryz.underlying4
 a4:=Tryz.isAgg4
 z4:=Tryz.sizeOf4
 v4:=Tryz.zeroValue4
 t5:=Tryz.underlying5
 a5:=Tryz.isAgg5
 z5:=Tryz.sizeOf5
 v5:=Tryz.zeroValue5
 t9:=Tryz.underlying9
 a9:=Tryz.isAgg9
 z9:=Tryz.sizeOf9
 v9:=Tryz.zeroValue9
 t46:=Tryz.underlying135
 a46:=Tryz.isAgg135
 z46:=Tryz.sizeOf135
 v46:=Tryz.zeroValue135
 t51:=Tryz.underlying142
 a51:=Tryz.isAgg142
 z51:=Tryz.sizeOf142
 v51:=Tryz.zeroValue142
 t146:=Tryz.underlying143
 a146:=Tryz.isAgg143
 z146:=Tryz.sizeOf143
 v146:=Tryz.zeroValue143
 g1:=by kernel_rfl }
theorem iR:Av Tryz.prog 88 Nz:=nY fun s c w=>Go.Proofs.Any.stringslite_Index_one lays219 s c w
def laysM171_ren:Go.Shelf.Ren:=⟨fun|171=>109|243=>128|246=>140|283=>159|284=>160|285=>161|286=>162|129=>153|317=>172|318=>173|319=>174|320=>175|337=>179|338=>180|n=>n,fun|3=>3|9=>9|2=>2|4=>4|171=>175|0=>0|53=>164|37=>22|5=>5|173=>177|212=>192|51=>142|20=>20|213=>193|46=>135|232=>201|233=>202|n=>n,fun|17=>5|18=>6|19=>7|n=>n⟩
theorem laysM171:Go.Proofs.LaysM.n171 Tryz.prog laysM171_ren:={
 mixed:=by kernel_rfl
 f129:=Tryz.func153.trans (congrArg some (by kernel_rfl))
 f171:=Tryz.func109.trans (congrArg some (by kernel_rfl))
 f243:=Tryz.func128.trans (congrArg some (by kernel_rfl))
 f246:=Tryz.func140.trans (congrArg some (by kernel_rfl))
 f283:=Tryz.func159.trans (congrArg some (by kernel_rfl))
 f284:=Tryz.func160.trans (congrArg some (by kernel_rfl))
 f285:=Tryz.func161.trans (congrArg some (by kernel_rfl))
 f286:=Tryz.func162.trans (congrArg some (by kernel_rfl))
 f317:=Tryz.func172.trans (congrArg some (by kernel_rfl))
 f318:=Tryz.func173.trans (congrArg some (by kernel_rfl))
 f319:=Tryz.func174.trans (congrArg some (by kernel_rfl))
 f320:=Tryz.func175.trans (congrArg some (by kernel_rfl))
 f337:=Tryz.func179.trans (congrArg some (by kernel_rfl))
 f338:=Tryz.func180.trans (congrArg some (by kernel_rfl))
 t0:=Tryz.underlying0
 a0:=Tryz.isAgg0
 z0:=Tryz.sizeOf0
 v0:=Tryz.zeroValue0
 t2:=Tryz.underlying2
 a2:=Tryz.isAgg2
 z2:=Tryz.sizeOf2
 v2:=Tryz.zeroValue2
 t3:=Tryz.underlying3
 a3:=Tryz.isAgg3
 z3:=Tryz.sizeOf3
 v3:=Tryz.zeroValue3
 t4:=Tryz.underlying4
 a4:=Tryz.isAgg4
 z4:=Tryz.sizeOf4
 v4:=Tryz.zeroValue4
 t5:=Tryz.underlying5
 a5:=Tryz.isAgg5
 z5:=Tryz.sizeOf5
 v5:=Tryz.zeroValue5
 t9:=Tryz.underlying9
 a9:=Tryz.isAgg9
 z9:=Tryz.sizeOf9
 v9:=Tryz.zeroValue9
 t20:=Tryz.underlying20
 a20:=Tryz.isAgg20
 z20:=Tryz.sizeOf20
 v20:=Tryz.zeroValue20
 t37:=Tryz.underlying22
 a37:=Tryz.isAgg22
 z37:=Tryz.sizeOf22
 v37:=Tryz.zeroValue22
 t46:=Tryz.underlying135
 a46:=Tryz.isAgg135
 z46:=Tryz.sizeOf135
 v46:=Tryz.zeroValue135
 t51:=Tryz.underlying142
 a51:=Tryz.isAgg142
 z51:=Tryz.sizeOf142
 v51:=Tryz.zeroValue142
 t53:=Tryz.underlying164
 a53:=Tryz.isAgg164
 z53:=Tryz.sizeOf164
 v53:=Tryz.zeroValue164
 t171:=Tryz.underlying175
 a171:=Tryz.isAgg175
 z171:=Tryz.sizeOf175
 v171:=Tryz.zeroValue175
 t173:=Tryz.underlying177
 a173:=Tryz.isAgg177
 z173:=Tryz.sizeOf177
 v173:=Tryz.zeroValue177
 t212:=Tryz.underlying192
 a212:=Tryz.isAgg192
 z212:=Tryz.sizeOf192
 v212:=Tryz.zeroValue192
 t213:=Tryz.underlying193
 a213:=Tryz.isAgg193
 z213:=Tryz.sizeOf193
 t232:=Tryz.underlying201
 a232:=Tryz.isAgg201
 z232:=Tryz.sizeOf201
 v232:=Tryz.zeroValue201
 t233:=Tryz.underlying202
 a233:=Tryz.isAgg202
 z233:=Tryz.sizeOf202
 v233:=Tryz.zeroValue202
 g17:=by kernel_rfl
 g18:=by kernel_rfl
 g19:=by kernel_rfl
 i0:=by kernel_rfl
 i2:=by kernel_rfl
 i3:=by kernel_rfl
 i4:=by kernel_rfl
 i5:=by kernel_rfl
 i9:=by kernel_rfl
 i20:=by kernel_rfl
 i37:=by kernel_rfl
 i46:=by kernel_rfl
 i51:=by kernel_rfl
 i53:=by kernel_rfl
 i171:=by kernel_rfl
 i173:=by kernel_rfl
 i212:=by kernel_rfl
 i232:=by kernel_rfl
 i233:=by kernel_rfl
 m17:=by kernel_rfl
 m18:=by kernel_rfl
 m19:=by kernel_rfl }
theorem mz:Av Tryz.prog 109 Oa:=pf (itoa_said laysM171 (gt:=5) (by kernel_rfl))
def lays172_ren:Go.Shelf.Ren:=⟨fun|172=>127|244=>138|245=>139|247=>154|279=>155|280=>156|281=>157|282=>158|287=>169|316=>170|171=>109|205=>171|321=>177|322=>178|243=>128|246=>140|283=>159|284=>160|285=>161|286=>162|129=>153|317=>172|318=>173|319=>174|320=>175|337=>179|338=>180|n=>n,fun|9=>9|3=>3|75=>131|76=>132|4=>4|5=>5|167=>169|37=>22|0=>0|85=>170|2=>2|168=>172|53=>164|175=>185|46=>135|210=>189|127=>141|145=>200|143=>198|21=>21|171=>175|173=>177|212=>192|51=>142|20=>20|213=>193|232=>201|233=>202|80=>134|n=>n,fun|15=>3|16=>4|17=>5|18=>6|19=>7|n=>n⟩
theorem lays172:Go.Proofs.Lays.n172 Tryz.prog lays172_ren:={
 mixed:=by kernel_rfl
 f129:=Tryz.func153.trans (congrArg some (by kernel_rfl))
 f171:=Tryz.func109.trans (congrArg some (by kernel_rfl))
 f172:=Tryz.func127.trans (congrArg some (by kernel_rfl))
 f205:=Tryz.func171.trans (congrArg some (by kernel_rfl))
 f243:=Tryz.func128.trans (congrArg some (by kernel_rfl))
 f244:=Tryz.func138.trans (congrArg some (by kernel_rfl))
 f245:=Tryz.func139.trans (congrArg some (by kernel_rfl))
 f246:=Tryz.func140.trans (congrArg some (by kernel_rfl))
 f247:=Tryz.func154.trans (congrArg some (by kernel_rfl))
 f279:=Tryz.func155.trans (congrArg some (by kernel_rfl))
 f280:=Tryz.func156.trans (congrArg some (by kernel_rfl))
 f281:=Tryz.func157.trans (congrArg some (by kernel_rfl))
 f282:=Tryz.func158.trans (congrArg some (by kernel_rfl))
 f283:=Tryz.func159.trans (congrArg some (by kernel_rfl))
 f284:=Tryz.func160.trans (congrArg some (by kernel_rfl))
 f285:=Tryz.func161.trans (congrArg some (by kernel_rfl))
 f286:=Tryz.func162.trans (congrArg some (by kernel_rfl))
 f287:=Tryz.func169.trans (congrArg some (by kernel_rfl))
 f316:=Tryz.func170.trans (congrArg some (by kernel_rfl))
 f317:=Tryz.func172.trans (congrArg some (by kernel_rfl))
 f318:=Tryz.func173.trans (congrArg some (by kernel_rfl))
 f319:=Tryz.func174.trans (congrArg some (by kernel_rfl))
 f320:=Tryz.func175.trans (congrArg some (by kernel_rfl))
 f321:=Tryz.func177.trans (congrArg some (by kernel_rfl))
 f322:=Tryz.func178.trans (congrArg some (by kernel_rfl))
 f337:=Tryz.func179.trans (congrArg some (by kernel_rfl))
 f338:=Tryz.func180.trans (congrArg some (by kernel_rfl))
 t0:=Tryz.underlying0
 a0:=Tryz.isAgg0
 z0:=Tryz.sizeOf0
 v0:=Tryz.zeroValue0
 t2:=Tryz.underlying2
 a2:=Tryz.isAgg2
 z2:=Tryz.sizeOf2
 v2:=Tryz.zeroValue2
 t3:=Tryz.underlying3
 a3:=Tryz.isAgg3
 z3:=Tryz.sizeOf3
 v3:=Tryz.zeroValue3
 t4:=Tryz.underlying4
 a4:=Tryz.isAgg4
 z4:=Tryz.sizeOf4
 v4:=Tryz.zeroValue4
 t5:=Tryz.underlying5
 a5:=Tryz.isAgg5
 z5:=Tryz.sizeOf5
 v5:=Tryz.zeroValue5
 t9:=Tryz.underlying9
 a9:=Tryz.isAgg9
 z9:=Tryz.sizeOf9
 v9:=Tryz.zeroValue9
 t20:=Tryz.underlying20
 a20:=Tryz.isAgg20
 z20:=Tryz.sizeOf20
 v20:=Tryz.zeroValue20
 t21:=Tryz.underlying21
 a21:=Tryz.isAgg21
 z21:=Tryz.sizeOf21
 v21:=Tryz.zeroValue21
 t37:=Tryz.underlying22
 a37:=Tryz.isAgg22
 z37:=Tryz.sizeOf22
 v37:=Tryz.zeroValue22
 t46:=Tryz.underlying135
 a46:=Tryz.isAgg135
 z46:=Tryz.sizeOf135
 v46:=Tryz.zeroValue135
 t51:=Tryz.underlying142
 a51:=Tryz.isAgg142
 z51:=Tryz.sizeOf142
 v51:=Tryz.zeroValue142
 t53:=Tryz.underlying164
 a53:=Tryz.isAgg164
 z53:=Tryz.sizeOf164
 v53:=Tryz.zeroValue164
 t75:=Tryz.underlying131
 a75:=Tryz.isAgg131
 z75:=Tryz.sizeOf131
 v75:=Tryz.zeroValue131
 t76:=Tryz.underlying132
 a76:=Tryz.isAgg132
 z76:=Tryz.sizeOf132
 v76:=Tryz.zeroValue132
 t85:=Tryz.underlying170
 a85:=Tryz.isAgg170
 z85:=Tryz.sizeOf170
 v85:=Tryz.zeroValue170
 t127:=Tryz.underlying141
 a127:=Tryz.isAgg141
 z127:=Tryz.sizeOf141
 v127:=Tryz.zeroValue141
 t143:=Tryz.underlying198
 a143:=Tryz.isAgg198
 z143:=Tryz.sizeOf198
 v143:=Tryz.zeroValue198
 t145:=Tryz.underlying200
 a145:=Tryz.isAgg200
 z145:=Tryz.sizeOf200
 v145:=Tryz.zeroValue200
 t167:=Tryz.underlying169
 a167:=Tryz.isAgg169
 z167:=Tryz.sizeOf169
 v167:=Tryz.zeroValue169
 t168:=Tryz.underlying172
 a168:=Tryz.isAgg172
 z168:=Tryz.sizeOf172
 v168:=Tryz.zeroValue172
 t171:=Tryz.underlying175
 a171:=Tryz.isAgg175
 z171:=Tryz.sizeOf175
 v171:=Tryz.zeroValue175
 t173:=Tryz.underlying177
 a173:=Tryz.isAgg177
 z173:=Tryz.sizeOf177
 v173:=Tryz.zeroValue177
 t175:=Tryz.underlying185
 a175:=Tryz.isAgg185
 z175:=Tryz.sizeOf185
 v175:=Tryz.zeroValue185
 t210:=Tryz.underlying189
 a210:=Tryz.isAgg189
 z210:=Tryz.sizeOf189
 v210:=Tryz.zeroValue189
 t212:=Tryz.underlying192
 a212:=Tryz.isAgg192
 z212:=Tryz.sizeOf192
 v212:=Tryz.zeroValue192
 t213:=Tryz.underlying193
 a213:=Tryz.isAgg193
 z213:=Tryz.sizeOf193
 t232:=Tryz.underlying201
 a232:=Tryz.isAgg201
 z232:=Tryz.sizeOf201
 v232:=Tryz.zeroValue201
 t233:=Tryz.underlying202
 a233:=Tryz.isAgg202
 z233:=Tryz.sizeOf202
 v233:=Tryz.zeroValue202
 g15:=by kernel_rfl
 g16:=by kernel_rfl
 g17:=by kernel_rfl
 g18:=by kernel_rfl
 g19:=by kernel_rfl }
def laysC172_ren:Go.Shelf.Ren:=⟨fun|172=>127|244=>138|245=>139|247=>154|279=>155|280=>156|281=>157|282=>158|287=>169|316=>170|171=>109|205=>171|321=>177|322=>178|243=>128|246=>140|283=>159|284=>160|285=>161|286=>162|129=>153|317=>172|318=>173|319=>174|320=>175|337=>179|338=>180|n=>n,fun|9=>9|3=>3|75=>131|76=>132|4=>4|5=>5|167=>169|37=>22|0=>0|85=>170|2=>2|168=>172|53=>164|175=>185|46=>135|210=>189|127=>141|145=>200|143=>198|21=>21|171=>175|173=>177|212=>192|51=>142|20=>20|213=>193|232=>201|233=>202|80=>134|n=>n,fun|15=>3|16=>4|17=>5|18=>6|19=>7|n=>n⟩
theorem laysC172:Go.Proofs.LaysC.n172 Tryz.prog laysC172_ren:={
 mixed:=by kernel_rfl
 f129:=Tryz.func153.trans (congrArg some (by kernel_rfl))
 f171:=Tryz.func109.trans (congrArg some (by kernel_rfl))
 f172:=Tryz.func127.trans (congrArg some (by kernel_rfl))
 f205:=Tryz.func171.trans (congrArg some (by kernel_rfl))
 f243:=Tryz.func128.trans (congrArg some (by kernel_rfl))
 f244:=Tryz.func138.trans (congrArg some (by kernel_rfl))
 f245:=Tryz.func139.trans (congrArg some (by kernel_rfl))
 f246:=Tryz.func140.trans (congrArg some (by kernel_rfl))
 f247:=Tryz.func154.trans (congrArg some (by kernel_rfl))
 f279:=Tryz.func155.trans (congrArg some (by kernel_rfl))
 f280:=Tryz.func156.trans (congrArg some (by kernel_rfl))
 f281:=Tryz.func157.trans (congrArg some (by kernel_rfl))
 f282:=Tryz.func158.trans (congrArg some (by kernel_rfl))
 f283:=Tryz.func159.trans (congrArg some (by kernel_rfl))
 f284:=Tryz.func160.trans (congrArg some (by kernel_rfl))
 f285:=Tryz.func161.trans (congrArg some (by kernel_rfl))
 f286:=Tryz.func162.trans (congrArg some (by kernel_rfl))
 f287:=Tryz.func169.trans (congrArg some (by kernel_rfl))
 f316:=Tryz.func170.trans (congrArg some (by kernel_rfl))
 f317:=Tryz.func172.trans (congrArg some (by kernel_rfl))
 f318:=Tryz.func173.trans (congrArg some (by kernel_rfl))
 f319:=Tryz.func174.trans (congrArg some (by kernel_rfl))
 f320:=Tryz.func175.trans (congrArg some (by kernel_rfl))
 f321:=Tryz.func177.trans (congrArg some (by kernel_rfl))
 f322:=Tryz.func178.trans (congrArg some (by kernel_rfl))
 f337:=Tryz.func179.trans (congrArg some (by kernel_rfl))
 f338:=Tryz.func180.trans (congrArg some (by kernel_rfl))
 t0:=Tryz.underlying0
 a0:=Tryz.isAgg0
 z0:=Tryz.sizeOf0
 v0:=Tryz.zeroValue0
 t2:=Tryz.underlying2
 a2:=Tryz.isAgg2
 z2:=Tryz.sizeOf2
 v2:=Tryz.zeroValue2
 t3:=Tryz.underlying3
 a3:=Tryz.isAgg3
 z3:=Tryz.sizeOf3
 v3:=Tryz.zeroValue3
 t4:=Tryz.underlying4
 a4:=Tryz.isAgg4
 z4:=Tryz.sizeOf4
 v4:=Tryz.zeroValue4
 t5:=Tryz.underlying5
 a5:=Tryz.isAgg5
 z5:=Tryz.sizeOf5
 v5:=Tryz.zeroValue5
 t9:=Tryz.underlying9
 a9:=Tryz.isAgg9
 z9:=Tryz.sizeOf9
 v9:=Tryz.zeroValue9
 t20:=Tryz.underlying20
 a20:=Tryz.isAgg20
 z20:=Tryz.sizeOf20
 v20:=Tryz.zeroValue20
 t21:=Tryz.underlying21
 a21:=Tryz.isAgg21
 z21:=Tryz.sizeOf21
 v21:=Tryz.zeroValue21
 t37:=Tryz.underlying22
 a37:=Tryz.isAgg22
 z37:=Tryz.sizeOf22
 v37:=Tryz.zeroValue22
 t46:=Tryz.underlying135
 a46:=Tryz.isAgg135
 z46:=Tryz.sizeOf135
 v46:=Tryz.zeroValue135
 t51:=Tryz.underlying142
 a51:=Tryz.isAgg142
 z51:=Tryz.sizeOf142
 v51:=Tryz.zeroValue142
 t53:=Tryz.underlying164
 a53:=Tryz.isAgg164
 z53:=Tryz.sizeOf164
 v53:=Tryz.zeroValue164
 t75:=Tryz.underlying131
 a75:=Tryz.isAgg131
 z75:=Tryz.sizeOf131
 v75:=Tryz.zeroValue131
 t76:=Tryz.underlying132
 a76:=Tryz.isAgg132
 z76:=Tryz.sizeOf132
 v76:=Tryz.zeroValue132
 t85:=Tryz.underlying170
 a85:=Tryz.isAgg170
 z85:=Tryz.sizeOf170
 v85:=Tryz.zeroValue170
 t127:=Tryz.underlying141
 a127:=Tryz.isAgg141
 z127:=Tryz.sizeOf141
 v127:=Tryz.zeroValue141
 t143:=Tryz.underlying198
 a143:=Tryz.isAgg198
 z143:=Tryz.sizeOf198
 v143:=Tryz.zeroValue198
 t145:=Tryz.underlying200
 a145:=Tryz.isAgg200
 z145:=Tryz.sizeOf200
 v145:=Tryz.zeroValue200
 t167:=Tryz.underlying169
 a167:=Tryz.isAgg169
 z167:=Tryz.sizeOf169
 v167:=Tryz.zeroValue169
 t168:=Tryz.underlying172
 a168:=Tryz.isAgg172
 z168:=Tryz.sizeOf172
 v168:=Tryz.zeroValue172
 t171:=Tryz.underlying175
 a171:=Tryz.isAgg175
 z171:=Tryz.sizeOf175
 v171:=Tryz.zeroValue175
 t173:=Tryz.underlying177
 a173:=Tryz.isAgg177
 z173:=Tryz.sizeOf177
 v173:=Tryz.zeroValue177
 t175:=Tryz.underlying185
 a175:=Tryz.isAgg185
 z175:=Tryz.sizeOf185
 v175:=Tryz.zeroValue185
 t210:=Tryz.underlying189
 a210:=Tryz.isAgg189
 z210:=Tryz.sizeOf189
 v210:=Tryz.zeroValue189
 t212:=Tryz.underlying192
 a212:=Tryz.isAgg192
 z212:=Tryz.sizeOf192
 v212:=Tryz.zeroValue192
 t213:=Tryz.underlying193
 a213:=Tryz.isAgg193
 z213:=Tryz.sizeOf193
 t232:=Tryz.underlying201
 a232:=Tryz.isAgg201
 z232:=Tryz.sizeOf201
 v232:=Tryz.zeroValue201
 t233:=Tryz.underlying202
 a233:=Tryz.isAgg202
 z233:=Tryz.sizeOf202
 v233:=Tryz.zeroValue202
 g15:=by kernel_rfl
 g16:=by kernel_rfl
 g17:=by kernel_rfl
 g18:=by kernel_rfl
 g19:=by kernel_rfl
 t80:=Tryz.underlying134
 a80:=Tryz.isAgg134
 z80:=Tryz.sizeOf134
 v80:=Tryz.zeroValue134
 i0:=by kernel_rfl
 i2:=by kernel_rfl
 i3:=by kernel_rfl
 i4:=by kernel_rfl
 i5:=by kernel_rfl
 i9:=by kernel_rfl
 i20:=by kernel_rfl
 i21:=by kernel_rfl
 i37:=by kernel_rfl
 i46:=by kernel_rfl
 i51:=by kernel_rfl
 i53:=by kernel_rfl
 i75:=by kernel_rfl
 i76:=by kernel_rfl
 i80:=by kernel_rfl
 i85:=by kernel_rfl
 i127:=by kernel_rfl
 i143:=by kernel_rfl
 i145:=by kernel_rfl
 i167:=by kernel_rfl
 i168:=by kernel_rfl
 i171:=by kernel_rfl
 i173:=by kernel_rfl
 i175:=by kernel_rfl
 i210:=by kernel_rfl
 i212:=by kernel_rfl
 i232:=by kernel_rfl
 i233:=by kernel_rfl
 m15:=by kernel_rfl
 m16:=by kernel_rfl
 m17:=by kernel_rfl
 m18:=by kernel_rfl
 m19:=by kernel_rfl
 c0:=by kernel_rfl
 c2:=by kernel_rfl
 c3:=by kernel_rfl
 c4:=by kernel_rfl
 c5:=by kernel_rfl
 c9:=by kernel_rfl
 c20:=by kernel_rfl
 c21:=by kernel_rfl
 c37:=by kernel_rfl
 c46:=by kernel_rfl
 c51:=by kernel_rfl
 c53:=by kernel_rfl
 c75:=by kernel_rfl
 c76:=by kernel_rfl
 c80:=by kernel_rfl
 c85:=by kernel_rfl
 c127:=by kernel_rfl
 c143:=by kernel_rfl
 c145:=by kernel_rfl
 c167:=by kernel_rfl
 c168:=by kernel_rfl
 c171:=by kernel_rfl
 c173:=by kernel_rfl
 c175:=by kernel_rfl
 c210:=by kernel_rfl
 c212:=by kernel_rfl
 c213:=by kernel_rfl
 c232:=by kernel_rfl
 c233:=by kernel_rfl }
theorem mI:Av Tryz.prog 127 N9:=pV (atoi_said lays172 laysC172 (by kernel_rfl) (by kernel_rfl))
theorem NX:Av Tryz.prog 49 DP.S:=lF follows Tryz.func49 (by kernel_rfl) (obs:=[]) (by kernel_rfl) trivial
theorem JA:Av Tryz.prog 83 Cn.S:=lF follows Tryz.func83 (by kernel_rfl) (obs:=[]) (by kernel_rfl) trivial
theorem mQ:Av Tryz.prog 133 IF.S:=lF follows Tryz.func133 (by kernel_rfl) (obs:=[(49,DP.S)]) (by kernel_rfl) ⟨NX,trivial⟩
theorem N4:Av Tryz.prog 117 DR.S:=lF follows Tryz.func117 (by kernel_rfl) (obs:=[(83,Cn.S),(133,IF.S)]) (by kernel_rfl) ⟨JA,mQ,trivial⟩
theorem Q9:Av Tryz.prog 89 EH.S:=lF follows Tryz.func89 (by kernel_rfl) (obs:=[(117,DR.S)]) (by kernel_rfl) ⟨N4,trivial⟩
theorem LZ:Av Tryz.prog 118 Dn.S:=lF follows Tryz.func118 (by kernel_rfl) (obs:=[]) (by kernel_rfl) trivial
theorem YY:Av Tryz.prog 91 GI.S:=lF follows Tryz.func91 (by kernel_rfl) (obs:=[(118,Dn.S)]) (by kernel_rfl) ⟨LZ,trivial⟩
theorem QL:Av Tryz.prog 119 Ey.S:=lF follows Tryz.func119 (by kernel_rfl) (obs:=[(83,Cn.S)]) (by kernel_rfl) ⟨JA,trivial⟩
theorem Ud:Av Tryz.prog 92 Fx.S:=lF follows Tryz.func92 (by kernel_rfl) (obs:=[(119,Ey.S)]) (by kernel_rfl) ⟨QL,trivial⟩
theorem nq:Av Tryz.prog 90 IG.S:=lF follows Tryz.func90 (by kernel_rfl) (obs:=[(91,GI.S),(92,Fx.S)]) (by kernel_rfl) ⟨YY,Ud,trivial⟩
theorem Zc:Av Tryz.prog 84 GF.S:=lF follows Tryz.func84 (by kernel_rfl) (obs:=[(83,Cn.S),(83,Cn.S),(83,Cn.S),(83,Cn.S)]) (by kernel_rfl) ⟨JA,JA,JA,JA,trivial⟩
theorem jC:Av Tryz.prog 93 Gy.S:=lF follows Tryz.func93 (by kernel_rfl) (obs:=[(84,GF.S),(118,Dn.S),(118,Dn.S),(118,Dn.S),(119,Ey.S),(117,DR.S),(118,Dn.S),(117,DR.S),(119,Ey.S),(118,Dn.S),(117,DR.S),(119,Ey.S),(117,DR.S)]) (by kernel_rfl) ⟨Zc,LZ,LZ,LZ,QL,N4,LZ,N4,QL,LZ,N4,QL,N4,trivial⟩
theorem kj:Av Tryz.prog 55 Ip.S:=lF follows Tryz.func55 (by kernel_rfl) (obs:=[(89,EH.S),(49,DP.S),(49,DP.S),(49,DP.S),(90,IG.S),(91,GI.S),(89,EH.S),(92,Fx.S),(89,EH.S),(89,EH.S),(92,Fx.S),(93,Gy.S)]) (by kernel_rfl) ⟨Q9,NX,NX,NX,nq,YY,Q9,Ud,Q9,Q9,Ud,jC,trivial⟩
theorem mq:Av Tryz.prog 56 IC.S:=lF follows Tryz.func56 (by kernel_rfl) (obs:=[(84,GF.S),(83,Cn.S),(83,Cn.S)]) (by kernel_rfl) ⟨Zc,JA,JA,trivial⟩
theorem ks:Av Tryz.prog 23 Il.S:=lF follows Tryz.func23 (by kernel_rfl) (obs:=[(49,DP.S),(55,Ip.S),(56,IC.S)]) (by kernel_rfl) ⟨NX,kj,mq,trivial⟩
theorem lp:Av Tryz.prog 39 Iw.S:=lF follows Tryz.func39 (by kernel_rfl) (obs:=[]) (by kernel_rfl) trivial
theorem ZD:Av Tryz.prog 76 GN.S:=lF follows Tryz.func76 (by kernel_rfl) (obs:=[]) (by kernel_rfl) trivial
theorem iN:Av Tryz.prog 137 Ic.S:=lF follows Tryz.func137 (by kernel_rfl) (obs:=[]) (by kernel_rfl) trivial
theorem iO:Av Tryz.prog 126 Ib.S:=lF follows Tryz.func126 (by kernel_rfl) (obs:=[(137,Ic.S)]) (by kernel_rfl) ⟨iN,trivial⟩
theorem Ys:Av Tryz.prog 105 Gx.S:=lF follows Tryz.func105 (by kernel_rfl) (obs:=[(126,Ib.S)]) (by kernel_rfl) ⟨iO,trivial⟩
theorem Ue:Av Tryz.prog 75 EA.S:=lF follows Tryz.func75 (by kernel_rfl) (obs:=[(109,Oa)]) (by kernel_rfl) ⟨mz,trivial⟩
theorem Y0:Av Tryz.prog 106 GK.S:=lF follows Tryz.func106 (by kernel_rfl) (obs:=[(127,N9),(75,EA.S)]) (by kernel_rfl) ⟨mI,Ue,trivial⟩
theorem pD:Av Tryz.prog 99 IJ.S:=lF follows Tryz.func99 (by kernel_rfl) (obs:=[]) (by kernel_rfl) trivial
theorem QJ:Av Tryz.prog 73 Ez.S:=lF follows Tryz.func73 (by kernel_rfl) (obs:=[(99,IJ.S)]) (by kernel_rfl) ⟨pD,trivial⟩
theorem Ui:Av Tryz.prog 107 Fv.S:=lF follows Tryz.func107 (by kernel_rfl) (obs:=[(73,Ez.S)]) (by kernel_rfl) ⟨QJ,trivial⟩
theorem iV:Av Tryz.prog 87 Ie.S:=lF follows Tryz.func87 (by kernel_rfl) (obs:=[(88,Nz)]) (by kernel_rfl) ⟨iR,trivial⟩
theorem ZI:Av Tryz.prog 52 GL.S:=lF follows Tryz.func52 (by kernel_rfl) (obs:=[(87,Ie.S)]) (by kernel_rfl) ⟨iV,trivial⟩
theorem Q6:Av Tryz.prog 108 EI.S:=lF follows Tryz.func108 (by kernel_rfl) (obs:=[(38,ID)]) (by kernel_rfl) ⟨Ur,trivial⟩
theorem ko:Av Tryz.prog 72 Io.S:=lF follows Tryz.func72 (by kernel_rfl) (obs:=[(76,GN.S),(105,Gx.S),(106,GK.S),(105,Gx.S),(107,Fv.S),(52,GL.S),(106,GK.S),(108,EI.S),(107,Fv.S),(108,EI.S),(52,GL.S),(107,Fv.S),(108,EI.S),(108,EI.S)]) (by kernel_rfl) ⟨ZD,Ys,Y0,Ys,Ui,ZI,Y0,Q6,Ui,Q6,ZI,Ui,Q6,Q6,trivial⟩
theorem Uz:Av Tryz.prog 66 EG.S:=lF follows Tryz.func66 (by kernel_rfl) (obs:=[]) (by kernel_rfl) trivial
theorem UC:Av Tryz.prog 80 Dq.S:=lF follows Tryz.func80 (by kernel_rfl) (obs:=[]) (by kernel_rfl) trivial
theorem Zy:Av Tryz.prog 81 EF.S:=lF follows Tryz.func81 (by kernel_rfl) (obs:=[]) (by kernel_rfl) trivial
theorem Up:Av Tryz.prog 48 Fy.S:=lF follows Tryz.func48 (by kernel_rfl) (obs:=[(66,EG.S),(80,Dq.S),(81,EF.S),(66,EG.S),(80,Dq.S),(66,EG.S),(81,EF.S),(80,Dq.S)]) (by kernel_rfl) ⟨Uz,UC,Zy,Uz,UC,Uz,Zy,UC,trivial⟩
theorem QV:Av Tryz.prog 74 EE.S:=lF follows Tryz.func74 (by kernel_rfl) (obs:=[(38,ID)]) (by kernel_rfl) ⟨Ur,trivial⟩
theorem Yp:Av Tryz.prog 41 Fq.S:=lF follows Tryz.func41 (by kernel_rfl) (obs:=[(48,Fy.S),(73,Ez.S),(74,EE.S),(74,EE.S),(73,Ez.S),(74,EE.S),(75,EA.S),(74,EE.S),(73,Ez.S),(76,GN.S),(75,EA.S)]) (by kernel_rfl) ⟨Up,QJ,QV,QV,QJ,QV,Ue,QV,QJ,ZD,Ue,trivial⟩
theorem kf:Av Tryz.prog 40 Iq.S:=lF follows Tryz.func40 (by kernel_rfl) (obs:=[(72,Io.S),(48,Fy.S),(41,Fq.S)]) (by kernel_rfl) ⟨ko,Up,Yp,trivial⟩
theorem Y5:Av Tryz.prog 16 GH.S:=lF follows Tryz.func16 (by kernel_rfl) (obs:=[(48,Fy.S)]) (by kernel_rfl) ⟨Up,trivial⟩
theorem Zb:Av Tryz.prog 42 GG.S:=lF follows Tryz.func42 (by kernel_rfl) (obs:=[(77,Od)]) (by kernel_rfl) ⟨mU,trivial⟩
theorem jJ:Av Tryz.prog 10 Gw.S:=lF follows Tryz.func10 (by kernel_rfl) (obs:=[(16,GH.S),(41,Fq.S),(42,GG.S),(42,GG.S)]) (by kernel_rfl) ⟨Y5,Yp,Zb,Zb,trivial⟩
theorem Yx:Av Tryz.prog 9 Gz.S:=lF follows Tryz.func9 (by kernel_rfl) (obs:=[(38,ID),(39,Iw.S),(40,Iq.S),(16,GH.S),(10,Gw.S)]) (by kernel_rfl) ⟨Ur,lp,kf,Y5,jJ,trivial⟩
theorem l9:Av Tryz.prog 120 IE.S:=lF follows Tryz.func120 (by kernel_rfl) (obs:=[]) (by kernel_rfl) trivial
theorem k9:Av Tryz.prog 94 Iy.S:=lF follows Tryz.func94 (by kernel_rfl) (obs:=[(120,IE.S)]) (by kernel_rfl) ⟨l9,trivial⟩
theorem kH:Av Tryz.prog 57 Is.S:=lF follows Tryz.func57 (by kernel_rfl) (obs:=[(94,Iy.S)]) (by kernel_rfl) ⟨k9,trivial⟩
theorem Y7:Av Tryz.prog 24 GJ.S:=lF follows Tryz.func24 (by kernel_rfl) (obs:=[(57,Is.S)]) (by kernel_rfl) ⟨kH,trivial⟩
theorem k_laws_markActionS:Lu Tryz.prog Tryz.f95 T1=true:=by kernel_rfl
theorem o_laws_markActionS:Lv Tryz.prog Tryz.f95 T1=[]:=by kernel_rfl
theorem kq:Av Tryz.prog 95 LW:=by unfold LW;exact Rg follows Tryz.func95 k_laws_markActionS o_laws_markActionS trivial
theorem k_laws_markActionSS:Lu Tryz.prog Tryz.f58 TY=true:=by kernel_rfl
theorem o_laws_markActionSS:Lv Tryz.prog Tryz.f58 TY=[(95,LW)]:=by kernel_rfl
theorem jN:Av Tryz.prog 58 LV:=by unfold LV;exact Rg follows Tryz.func58 k_laws_markActionSS o_laws_markActionSS ⟨kq,trivial⟩
theorem k_laws_markKeymap:Lu Tryz.prog Tryz.f25 T4=true:=by kernel_rfl
theorem o_laws_markKeymap:Lv Tryz.prog Tryz.f25 T4=[(58,LV)]:=by kernel_rfl
theorem kQ:Av Tryz.prog 25 Jr:=by unfold Jr;exact Rg follows Tryz.func25 k_laws_markKeymap o_laws_markKeymap ⟨jN,trivial⟩
theorem kz:Av Tryz.prog 96 Im.S:=lF follows Tryz.func96 (by kernel_rfl) (obs:=[]) (by kernel_rfl) trivial
theorem jE:Av Tryz.prog 59 Ih.S:=lF follows Tryz.func59 (by kernel_rfl) (obs:=[(96,Im.S)]) (by kernel_rfl) ⟨kz,trivial⟩
theorem YE:Av Tryz.prog 26 GA.S:=lF follows Tryz.func26 (by kernel_rfl) (obs:=[(59,Ih.S)]) (by kernel_rfl) ⟨jE,trivial⟩
theorem ja:Av Tryz.prog 5 F1.S:=lF follows Tryz.func5 (by kernel_rfl) (obs:=[(23,Il.S),(9,Gz.S),(24,GJ.S),(25,Jr),(26,GA.S),(9,Gz.S),(24,GJ.S),(26,GA.S)]) (by kernel_rfl) ⟨ks,Yx,Y7,kQ,YE,Yx,Y7,YE,trivial⟩
end Go.Proofs.YtijikmakanpmlaaGreatDoor
