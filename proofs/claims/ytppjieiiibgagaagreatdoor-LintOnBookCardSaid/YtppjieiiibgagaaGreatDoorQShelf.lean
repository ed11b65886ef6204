/-
  DERIVED: THE SHELF's CONTRACTS AT THIS DUMP, IN PLAIN WORDS (tools/lay-plain.mjs out of 'TryzShelf.lean', which tools/lay-shelf.mjs wrote): THE SAME DECLARATIONS UNDER THE SAME NAMES: 'import', 'namespace', 'open', 'def', 'theorem' AND NOTHING ELSE: no command of the shelf's: FOR A HAND-IN. Each laying: the table of numbers ('.._ren') and one theorem, a field a fact of the dump's own or the kernel's comparison; each contract: ONE APPLICATION.
-/
import Derived.Shelf.Strings.Builder1
import Derived.Shelf.Strings.Builder2
import Derived.Shelf.Strings.OnBuilder
import Derived.Shelf.Strings.Trim
import Derived.Shelf.Small.Utf8
import Derived.Shelf.Small.Strs
import Derived.Shelf.Strings.BuilderF
import Derived.Shelf.Strconv.Itoa0
import Derived.Shelf.Strconv.Itoa1
import Derived.Shelf.LaysM
import Derived.Shelf.Strconv.Itoa2
import Derived.Shelf.Strconv.Itoa3
import Derived.Shelf.Strings.Search1
import Derived.Shelf.Strings.Search2
import Derived.Shelf.Strings.Search3
import Derived.Shelf.Strings.Count
import Derived.Shelf.Strings.Shaped
import Derived.Shelf.GgClosure.StringsIndexFunc
import Derived.Ground.GgwProg
import Derived.Shelf.GgClosure.StringsIndexFuncTop
import Derived.Shelf.GgClosure.StringsRunes
import Derived.Shelf.Strings.Prefix
import Derived.Shelf.Strings.Split
import Derived.Shelf.Strings.SplitShaped
import Derived.Shelf.Unicode.Decode
import Derived.Shelf.Strings.Runes
import Derived.Shelf.Strings.RuneCount
import Derived.Shelf.Strings.AsciiSet
import Derived.Shelf.Strings.Explode
import Derived.Shelf.Bits.Mul64
import Derived.Shelf.Strings.Repeat
import Derived.Shelf.Unicode.DecodeSlow
import Derived.Shelf.Unicode.DecodeAny
import Derived.Shelf.Unicode.DecodeLast
import Derived.Shelf.Strings.FuncGrows
import Derived.Test.YtppjieiiibgagaaGreatDoorProg
namespace Go.Proofs
open Go.Shelf
set_option linter.unusedSimpArgs false
set_option linter.unusedVariables false
def Tryz.lays156_ren:Go.Shelf.Ren:=⟨λ|156=>353|165=>388|166=>109|169=>110|240=>178|241=>402|276=>273|277=>413|n=>n,λ|31=>29|9=>9|3=>3|4=>4|0=>0|20=>20|72=>157|76=>160|70=>154|37=>155|75=>159|127=>194|164=>232|5=>5|80=>162|n=>n,λ|n=>n⟩
theorem Tryz.lays156:Go.Proofs.Lays.n156 Tryz.prog Tryz.lays156_ren:={
 mixed:=by kernel_rfl
 f156:=Tryz.func353.trans (congrArg some (by kernel_rfl))
 f165:=Tryz.func388.trans (congrArg some (by kernel_rfl))
 f166:=Tryz.func109.trans (congrArg some (by kernel_rfl))
 f169:=Tryz.func110.trans (congrArg some (by kernel_rfl))
 f240:=Tryz.func178.trans (congrArg some (by kernel_rfl))
 f241:=Tryz.func402.trans (congrArg some (by kernel_rfl))
 f276:=Tryz.func273.trans (congrArg some (by kernel_rfl))
 f277:=Tryz.func413.trans (congrArg some (by kernel_rfl))
 t0:=Tryz.underlying0
 a0:=Tryz.isAgg0
 z0:=Tryz.sizeOf0
 v0:=Tryz.zeroValue0
 t3:=Tryz.underlying3
 a3:=Tryz.isAgg3
 z3:=Tryz.sizeOf3
 v3:=Tryz.zeroValue3
 t4:=Tryz.underlying4
 a4:=Tryz.isAgg4
 z4:=Tryz.sizeOf4
 v4:=Tryz.zeroValue4
 t9:=Tryz.underlying9
 a9:=Tryz.isAgg9
 z9:=Tryz.sizeOf9
 v9:=Tryz.zeroValue9
 t20:=Tryz.underlying20
 a20:=Tryz.isAgg20
 z20:=Tryz.sizeOf20
 v20:=Tryz.zeroValue20
 t31:=Tryz.underlying29
 a31:=Tryz.isAgg29
 z31:=Tryz.sizeOf29
 v31:=Tryz.zeroValue29
 t37:=Tryz.underlying155
 a37:=Tryz.isAgg155
 z37:=Tryz.sizeOf155
 v37:=Tryz.zeroValue155
 t70:=Tryz.underlying154
 a70:=Tryz.isAgg154
 z70:=Tryz.sizeOf154
 v70:=Tryz.zeroValue154
 t72:=Tryz.underlying157
 a72:=Tryz.isAgg157
 z72:=Tryz.sizeOf157
 v72:=Tryz.zeroValue157
 t75:=Tryz.underlying159
 a75:=Tryz.isAgg159
 z75:=Tryz.sizeOf159
 v75:=Tryz.zeroValue159
 t76:=Tryz.underlying160
 a76:=Tryz.isAgg160
 z76:=Tryz.sizeOf160
 v76:=Tryz.zeroValue160
 t127:=Tryz.underlying194
 a127:=Tryz.isAgg194
 z127:=Tryz.sizeOf194
 v127:=Tryz.zeroValue194
 t164:=Tryz.underlying232
 a164:=Tryz.isAgg232
 z164:=Tryz.sizeOf232
 v164:=Tryz.zeroValue232}
theorem Tryz.Builder_Extra_156:Builder.Extra Tryz.prog Tryz.lays156_ren:={
 sizeBuilder:=by kernel_rfl
 liesBuilder:=by kernel_rfl
 t5:=Tryz.underlying5
 a5:=Tryz.isAgg5
 z5:=Tryz.sizeOf5
 v5:=Tryz.zeroValue5
 infoByte:=by kernel_rfl
 cellsByte:=by kernel_rfl
 sizeByte:=by kernel_rfl
 neB5:=by decide}
open Go.RowKit in
theorem Tryz.strings_Join_none (a:Option Addr) (c:Nat) (sep:ByteArray) (w:World):
  Calls Tryz.prog 353 #[.slice a 0 c,.string sep] w λe w'=>e= .returned (.string ⟨#[]⟩)/\w'=w:=Any.strings_Join_none Tryz.lays156 Tryz.Builder_Extra_156 a c sep w
open Go.RowKit in
theorem Tryz.strings_Join (bk o c:Nat) (xs:List ByteArray) (sep:ByteArray) (w:World) (hcells:∀(j:Nat) x,xs[j]? =some x->w.cell? ⟨bk,o+j,none⟩=some (.string x)) (hbk:bk<w.heap.size) (hN:xs.length<=140737488355328) (hcap:xs.length<=c) (hlen:(Lib.join (xs.map (·.data.toList)) sep.data.toList).length<=140737488355328):
  Calls Tryz.prog 353 #[.slice (some ⟨bk,o,none⟩) xs.length c,.string sep] w λe w'=>e= .returned (.string ⟨(Lib.join (xs.map (·.data.toList)) sep.data.toList).toArray⟩)/\Below w.heap.size w w':=Any.strings_Join Tryz.lays156 Tryz.Builder_Extra_156 bk o c xs sep w hcells hbk hN hcap hlen
def Tryz.lays160_ren:Go.Shelf.Ren:=⟨λ|160=>252|232=>320|231=>319|227=>321|234=>323|233=>322|236=>325|235=>324|228=>356|271=>359|151=>358|197=>357|120=>391|152=>390|260=>389|137=>403|119=>404|224=>405|225=>406|217=>414|266=>419|n=>n,λ|9=>9|4=>4|3=>3|5=>5|117=>267|116=>266|0=>0|124=>270|21=>21|105=>292|46=>304|119=>324|139=>327|138=>326|n=>n,λ|3=>5|4=>6|n=>n⟩
theorem Tryz.lays160:Go.Proofs.Lays.n160 Tryz.prog Tryz.lays160_ren:={
 mixed:=by kernel_rfl
 f119:=Tryz.func404.trans (congrArg some (by kernel_rfl))
 f120:=Tryz.func391.trans (congrArg some (by kernel_rfl))
 f137:=Tryz.func403.trans (congrArg some (by kernel_rfl))
 f151:=Tryz.func358.trans (congrArg some (by kernel_rfl))
 f152:=Tryz.func390.trans (congrArg some (by kernel_rfl))
 f160:=Tryz.func252.trans (congrArg some (by kernel_rfl))
 f197:=Tryz.func357.trans (congrArg some (by kernel_rfl))
 f217:=Tryz.func414.trans (congrArg some (by kernel_rfl))
 f224:=Tryz.func405.trans (congrArg some (by kernel_rfl))
 f225:=Tryz.func406.trans (congrArg some (by kernel_rfl))
 f227:=Tryz.func321.trans (congrArg some (by kernel_rfl))
 f228:=Tryz.func356.trans (congrArg some (by kernel_rfl))
 f231:=Tryz.func319.trans (congrArg some (by kernel_rfl))
 f232:=Tryz.func320.trans (congrArg some (by kernel_rfl))
 f233:=Tryz.func322.trans (congrArg some (by kernel_rfl))
 f234:=Tryz.func323.trans (congrArg some (by kernel_rfl))
 f235:=Tryz.func324.trans (congrArg some (by kernel_rfl))
 f236:=Tryz.func325.trans (congrArg some (by kernel_rfl))
 f260:=Tryz.func389.trans (congrArg some (by kernel_rfl))
 f266:=Tryz.func419.trans (congrArg some (by kernel_rfl))
 f271:=Tryz.func359.trans (congrArg some (by kernel_rfl))
 t0:=Tryz.underlying0
 a0:=Tryz.isAgg0
 z0:=Tryz.sizeOf0
 v0:=Tryz.zeroValue0
 t3:=Tryz.underlying3
 a3:=Tryz.isAgg3
 z3:=Tryz.sizeOf3
 v3:=Tryz.zeroValue3
 t4:=Tryz.underlying4
 a4:=Tryz.isAgg4
 z4:=Tryz.sizeOf4
 v4:=Tryz.zeroValue4
 t5:=Tryz.underlying5
 a5:=Tryz.isAgg5
 z5:=Tryz.sizeOf5
 v5:=Tryz.zeroValue5
 t9:=Tryz.underlying9
 a9:=Tryz.isAgg9
 z9:=Tryz.sizeOf9
 v9:=Tryz.zeroValue9
 t21:=Tryz.underlying21
 a21:=Tryz.isAgg21
 z21:=Tryz.sizeOf21
 v21:=Tryz.zeroValue21
 t46:=Tryz.underlying304
 a46:=Tryz.isAgg304
 z46:=Tryz.sizeOf304
 v46:=Tryz.zeroValue304
 t105:=Tryz.underlying292
 a105:=Tryz.isAgg292
 z105:=Tryz.sizeOf292
 v105:=Tryz.zeroValue292
 t116:=Tryz.underlying266
 a116:=Tryz.isAgg266
 z116:=Tryz.sizeOf266
 t117:=Tryz.underlying267
 a117:=Tryz.isAgg267
 z117:=Tryz.sizeOf267
 v117:=Tryz.zeroValue267
 t119:=Tryz.underlying324
 a119:=Tryz.isAgg324
 z119:=Tryz.sizeOf324
 t124:=Tryz.underlying270
 a124:=Tryz.isAgg270
 z124:=Tryz.sizeOf270
 v124:=Tryz.zeroValue270
 t138:=Tryz.underlying326
 a138:=Tryz.isAgg326
 z138:=Tryz.sizeOf326
 v138:=Tryz.zeroValue326
 t139:=Tryz.underlying327
 a139:=Tryz.isAgg327
 z139:=Tryz.sizeOf327
 v139:=Tryz.zeroValue327
 g3:=by kernel_rfl
 g4:=by kernel_rfl}
def Tryz.laysM171_ren:Go.Shelf.Ren:=⟨λ|171=>108|243=>177|246=>272|283=>338|284=>339|285=>340|286=>341|129=>370|317=>369|318=>371|319=>372|320=>373|337=>397|338=>398|n=>n,λ|3=>3|9=>9|2=>2|4=>4|171=>277|0=>0|53=>278|37=>155|5=>5|173=>281|212=>301|51=>302|20=>20|213=>303|46=>304|232=>329|233=>330|n=>n,λ|17=>3|18=>7|19=>8|n=>n⟩
theorem Tryz.laysM171:Go.Proofs.LaysM.n171 Tryz.prog Tryz.laysM171_ren:={
 mixed:=by kernel_rfl
 f129:=Tryz.func370.trans (congrArg some (by kernel_rfl))
 f171:=Tryz.func108.trans (congrArg some (by kernel_rfl))
 f243:=Tryz.func177.trans (congrArg some (by kernel_rfl))
 f246:=Tryz.func272.trans (congrArg some (by kernel_rfl))
 f283:=Tryz.func338.trans (congrArg some (by kernel_rfl))
 f284:=Tryz.func339.trans (congrArg some (by kernel_rfl))
 f285:=Tryz.func340.trans (congrArg some (by kernel_rfl))
 f286:=Tryz.func341.trans (congrArg some (by kernel_rfl))
 f317:=Tryz.func369.trans (congrArg some (by kernel_rfl))
 f318:=Tryz.func371.trans (congrArg some (by kernel_rfl))
 f319:=Tryz.func372.trans (congrArg some (by kernel_rfl))
 f320:=Tryz.func373.trans (congrArg some (by kernel_rfl))
 f337:=Tryz.func397.trans (congrArg some (by kernel_rfl))
 f338:=Tryz.func398.trans (congrArg some (by kernel_rfl))
 t0:=Tryz.underlying0
 a0:=Tryz.isAgg0
 z0:=Tryz.sizeOf0
 v0:=Tryz.zeroValue0
 t2:=Tryz.underlying2
 a2:=Tryz.isAgg2
 z2:=Tryz.sizeOf2
 v2:=Tryz.zeroValue2
 t3:=Tryz.underlying3
 a3:=Tryz.isAgg3
 z3:=Tryz.sizeOf3
 v3:=Tryz.zeroValue3
 t4:=Tryz.underlying4
 a4:=Tryz.isAgg4
 z4:=Tryz.sizeOf4
 v4:=Tryz.zeroValue4
 t5:=Tryz.underlying5
 a5:=Tryz.isAgg5
 z5:=Tryz.sizeOf5
 v5:=Tryz.zeroValue5
 t9:=Tryz.underlying9
 a9:=Tryz.isAgg9
 z9:=Tryz.sizeOf9
 v9:=Tryz.zeroValue9
 t20:=Tryz.underlying20
 a20:=Tryz.isAgg20
 z20:=Tryz.sizeOf20
 v20:=Tryz.zeroValue20
 t37:=Tryz.underlying155
 a37:=Tryz.isAgg155
 z37:=Tryz.sizeOf155
 v37:=Tryz.zeroValue155
 t46:=Tryz.underlying304
 a46:=Tryz.isAgg304
 z46:=Tryz.sizeOf304
 v46:=Tryz.zeroValue304
 t51:=Tryz.underlying302
 a51:=Tryz.isAgg302
 z51:=Tryz.sizeOf302
 v51:=Tryz.zeroValue302
 t53:=Tryz.underlying278
 a53:=Tryz.isAgg278
 z53:=Tryz.sizeOf278
 v53:=Tryz.zeroValue278
 t171:=Tryz.underlying277
 a171:=Tryz.isAgg277
 z171:=Tryz.sizeOf277
 v171:=Tryz.zeroValue277
 t173:=Tryz.underlying281
 a173:=Tryz.isAgg281
 z173:=Tryz.sizeOf281
 v173:=Tryz.zeroValue281
 t212:=Tryz.underlying301
 a212:=Tryz.isAgg301
 z212:=Tryz.sizeOf301
 v212:=Tryz.zeroValue301
 t213:=Tryz.underlying303
 a213:=Tryz.isAgg303
 z213:=Tryz.sizeOf303
 t232:=Tryz.underlying329
 a232:=Tryz.isAgg329
 z232:=Tryz.sizeOf329
 v232:=Tryz.zeroValue329
 t233:=Tryz.underlying330
 a233:=Tryz.isAgg330
 z233:=Tryz.sizeOf330
 v233:=Tryz.zeroValue330
 g17:=by kernel_rfl
 g18:=by kernel_rfl
 g19:=by kernel_rfl
 i0:=by kernel_rfl
 i2:=by kernel_rfl
 i3:=by kernel_rfl
 i4:=by kernel_rfl
 i5:=by kernel_rfl
 i9:=by kernel_rfl
 i20:=by kernel_rfl
 i37:=by kernel_rfl
 i46:=by kernel_rfl
 i51:=by kernel_rfl
 i53:=by kernel_rfl
 i171:=by kernel_rfl
 i173:=by kernel_rfl
 i212:=by kernel_rfl
 i232:=by kernel_rfl
 i233:=by kernel_rfl
 m17:=by kernel_rfl
 m18:=by kernel_rfl
 m19:=by kernel_rfl}
open Go.RowKit Go.Sort Go.Lib in
theorem Tryz.strconv_Itoa (n:Int) (h0: -9223372036854775808<=n) (h1:n<=9223372036854775807) (w:World) (htab:Lib.TabIs Tryz.prog w "internal/strconv.uint64pow10" .u64 Lib.pow10Tab):
  Calls Tryz.prog 108 #[.int .i64 n] w λe w'=>e= .returned (.string ⟨(Lib.itoa n).toArray⟩)/\∃k os,w'=grow (w.drewN k) os:=Any.strconv_Itoa Tryz.laysM171 n h0 h1 w htab
def Tryz.laysGw15_ren:Go.Shelf.Ren:=⟨λ|15=>335|20=>367|n=>n,λ|9=>9|23=>242|3=>3|4=>4|0=>0|21=>21|n=>n,λ|n=>n⟩
theorem Tryz.laysGw15:Go.Proofs.LaysGw.n15 Tryz.prog Tryz.laysGw15_ren:={
 mixed:=by kernel_rfl
 f15:=Tryz.func335.trans (congrArg some (by kernel_rfl))
 f20:=Tryz.func367.trans (congrArg some (by kernel_rfl))
 t0:=Tryz.underlying0
 a0:=Tryz.isAgg0
 z0:=Tryz.sizeOf0
 v0:=Tryz.zeroValue0
 i0:=by kernel_rfl
 t3:=Tryz.underlying3
 a3:=Tryz.isAgg3
 z3:=Tryz.sizeOf3
 v3:=Tryz.zeroValue3
 i3:=by kernel_rfl
 t4:=Tryz.underlying4
 a4:=Tryz.isAgg4
 z4:=Tryz.sizeOf4
 v4:=Tryz.zeroValue4
 i4:=by kernel_rfl
 t9:=Tryz.underlying9
 a9:=Tryz.isAgg9
 z9:=Tryz.sizeOf9
 v9:=Tryz.zeroValue9
 i9:=by kernel_rfl
 t21:=Tryz.underlying21
 a21:=Tryz.isAgg21
 z21:=Tryz.sizeOf21
 v21:=Tryz.zeroValue21
 i21:=by kernel_rfl
 t23:=Tryz.underlying242
 a23:=Tryz.isAgg242
 z23:=Tryz.sizeOf242
 v23:=Tryz.zeroValue242
 i23:=by kernel_rfl}
def Tryz.laysGw17_ren:Go.Shelf.Ren:=⟨λ|17=>293|15=>335|20=>367|n=>n,λ|9=>9|23=>242|4=>4|3=>3|0=>0|21=>21|n=>n,λ|n=>n⟩
theorem Tryz.laysGw17:Go.Proofs.LaysGw.n17 Tryz.prog Tryz.laysGw17_ren:={
 mixed:=by kernel_rfl
 f15:=Tryz.func335.trans (congrArg some (by kernel_rfl))
 f17:=Tryz.func293.trans (congrArg some (by kernel_rfl))
 f20:=Tryz.func367.trans (congrArg some (by kernel_rfl))
 t0:=Tryz.underlying0
 a0:=Tryz.isAgg0
 z0:=Tryz.sizeOf0
 v0:=Tryz.zeroValue0
 i0:=by kernel_rfl
 t3:=Tryz.underlying3
 a3:=Tryz.isAgg3
 z3:=Tryz.sizeOf3
 v3:=Tryz.zeroValue3
 i3:=by kernel_rfl
 t4:=Tryz.underlying4
 a4:=Tryz.isAgg4
 z4:=Tryz.sizeOf4
 v4:=Tryz.zeroValue4
 i4:=by kernel_rfl
 t9:=Tryz.underlying9
 a9:=Tryz.isAgg9
 z9:=Tryz.sizeOf9
 v9:=Tryz.zeroValue9
 i9:=by kernel_rfl
 t21:=Tryz.underlying21
 a21:=Tryz.isAgg21
 z21:=Tryz.sizeOf21
 v21:=Tryz.zeroValue21
 i21:=by kernel_rfl
 t23:=Tryz.underlying242
 a23:=Tryz.isAgg242
 z23:=Tryz.sizeOf242
 v23:=Tryz.zeroValue242
 i23:=by kernel_rfl}
def Tryz.lays146_ren:Go.Shelf.Ren:=⟨λ|146=>330|221=>363|268=>393|138=>394|143=>395|195=>407|197=>357|218=>408|219=>409|260=>389|217=>414|225=>406|224=>405|267=>415|266=>419|314=>420|n=>n,λ|9=>9|31=>29|3=>3|4=>4|0=>0|105=>292|21=>21|5=>5|46=>304|119=>324|139=>327|138=>326|146=>336|51=>302|n=>n,λ|1=>9|3=>5|4=>6|n=>n⟩
theorem Tryz.lays146:Go.Proofs.Lays.n146 Tryz.prog Tryz.lays146_ren:={
 mixed:=by kernel_rfl
 f138:=Tryz.func394.trans (congrArg some (by kernel_rfl))
 f143:=Tryz.func395.trans (congrArg some (by kernel_rfl))
 f146:=Tryz.func330.trans (congrArg some (by kernel_rfl))
 f195:=Tryz.func407.trans (congrArg some (by kernel_rfl))
 f197:=Tryz.func357.trans (congrArg some (by kernel_rfl))
 f217:=Tryz.func414.trans (congrArg some (by kernel_rfl))
 f218:=Tryz.func408.trans (congrArg some (by kernel_rfl))
 f219:=Tryz.func409.trans (congrArg some (by kernel_rfl))
 f221:=Tryz.func363.trans (congrArg some (by kernel_rfl))
 f224:=Tryz.func405.trans (congrArg some (by kernel_rfl))
 f225:=Tryz.func406.trans (congrArg some (by kernel_rfl))
 f260:=Tryz.func389.trans (congrArg some (by kernel_rfl))
 f266:=Tryz.func419.trans (congrArg some (by kernel_rfl))
 f267:=Tryz.func415.trans (congrArg some (by kernel_rfl))
 f268:=Tryz.func393.trans (congrArg some (by kernel_rfl))
 f314:=Tryz.func420.trans (congrArg some (by kernel_rfl))
 t0:=Tryz.underlying0
 a0:=Tryz.isAgg0
 z0:=Tryz.sizeOf0
 v0:=Tryz.zeroValue0
 t3:=Tryz.underlying3
 a3:=Tryz.isAgg3
 z3:=Tryz.sizeOf3
 v3:=Tryz.zeroValue3
 t4:=Tryz.underlying4
 a4:=Tryz.isAgg4
 z4:=Tryz.sizeOf4
 v4:=Tryz.zeroValue4
 t5:=Tryz.underlying5
 a5:=Tryz.isAgg5
 z5:=Tryz.sizeOf5
 v5:=Tryz.zeroValue5
 t9:=Tryz.underlying9
 a9:=Tryz.isAgg9
 z9:=Tryz.sizeOf9
 v9:=Tryz.zeroValue9
 t21:=Tryz.underlying21
 a21:=Tryz.isAgg21
 z21:=Tryz.sizeOf21
 v21:=Tryz.zeroValue21
 t31:=Tryz.underlying29
 a31:=Tryz.isAgg29
 z31:=Tryz.sizeOf29
 v31:=Tryz.zeroValue29
 t46:=Tryz.underlying304
 a46:=Tryz.isAgg304
 z46:=Tryz.sizeOf304
 v46:=Tryz.zeroValue304
 t51:=Tryz.underlying302
 a51:=Tryz.isAgg302
 z51:=Tryz.sizeOf302
 v51:=Tryz.zeroValue302
 t105:=Tryz.underlying292
 a105:=Tryz.isAgg292
 z105:=Tryz.sizeOf292
 v105:=Tryz.zeroValue292
 t119:=Tryz.underlying324
 a119:=Tryz.isAgg324
 z119:=Tryz.sizeOf324
 t138:=Tryz.underlying326
 a138:=Tryz.isAgg326
 z138:=Tryz.sizeOf326
 v138:=Tryz.zeroValue326
 t139:=Tryz.underlying327
 a139:=Tryz.isAgg327
 z139:=Tryz.sizeOf327
 v139:=Tryz.zeroValue327
 t146:=Tryz.underlying336
 a146:=Tryz.isAgg336
 z146:=Tryz.sizeOf336
 v146:=Tryz.zeroValue336
 g1:=by kernel_rfl
 g3:=by kernel_rfl
 g4:=by kernel_rfl}
open Go.RowKit Go.Lib in
theorem Tryz.strings_Split (s sep:ByteArray) (m:Int) (w:World) (hs:s.size<4294967281) (hm:w.cell? ⟨9,0,none⟩=some (.int .i64 m)) (h1:1<=sep.size):
  Calls Tryz.prog 330 #[.string s,.string sep] w λe w'=>
   e= .returned (.slice (some ⟨w.heap.size,0,none⟩) (Lib.countB s sep+1) (Lib.countB s sep+1))/\w'=w.alloc (.cells ((Lib.splitB sep 0 (Lib.countB s sep) s).map Value.string).toArray 9):=Any.strings_Split Tryz.lays146 (by kernel_rfl) s sep m w hs hm h1
def Tryz.lays105_ren:Go.Shelf.Ren:=⟨λ|105=>400|212=>410|99=>411|165=>388|166=>109|170=>412|169=>110|263=>416|264=>417|206=>418|240=>178|241=>402|276=>273|277=>413|n=>n,λ|9=>9|3=>3|4=>4|20=>20|0=>0|46=>304|109=>331|5=>5|72=>157|76=>160|51=>302|146=>336|53=>278|148=>338|70=>154|37=>155|75=>159|127=>194|164=>232|80=>162|n=>n,λ|n=>n⟩
theorem Tryz.lays105:Go.Proofs.Lays.n105 Tryz.prog Tryz.lays105_ren:={
 mixed:=by kernel_rfl
 f99:=Tryz.func411.trans (congrArg some (by kernel_rfl))
 f105:=Tryz.func400.trans (congrArg some (by kernel_rfl))
 f165:=Tryz.func388.trans (congrArg some (by kernel_rfl))
 f166:=Tryz.func109.trans (congrArg some (by kernel_rfl))
 f169:=Tryz.func110.trans (congrArg some (by kernel_rfl))
 f170:=Tryz.func412.trans (congrArg some (by kernel_rfl))
 f206:=Tryz.func418.trans (congrArg some (by kernel_rfl))
 f212:=Tryz.func410.trans (congrArg some (by kernel_rfl))
 f240:=Tryz.func178.trans (congrArg some (by kernel_rfl))
 f241:=Tryz.func402.trans (congrArg some (by kernel_rfl))
 f263:=Tryz.func416.trans (congrArg some (by kernel_rfl))
 f264:=Tryz.func417.trans (congrArg some (by kernel_rfl))
 f276:=Tryz.func273.trans (congrArg some (by kernel_rfl))
 f277:=Tryz.func413.trans (congrArg some (by kernel_rfl))
 t0:=Tryz.underlying0
 a0:=Tryz.isAgg0
 z0:=Tryz.sizeOf0
 v0:=Tryz.zeroValue0
 t3:=Tryz.underlying3
 a3:=Tryz.isAgg3
 z3:=Tryz.sizeOf3
 v3:=Tryz.zeroValue3
 t4:=Tryz.underlying4
 a4:=Tryz.isAgg4
 z4:=Tryz.sizeOf4
 v4:=Tryz.zeroValue4
 t5:=Tryz.underlying5
 a5:=Tryz.isAgg5
 z5:=Tryz.sizeOf5
 v5:=Tryz.zeroValue5
 t9:=Tryz.underlying9
 a9:=Tryz.isAgg9
 z9:=Tryz.sizeOf9
 v9:=Tryz.zeroValue9
 t20:=Tryz.underlying20
 a20:=Tryz.isAgg20
 z20:=Tryz.sizeOf20
 v20:=Tryz.zeroValue20
 t37:=Tryz.underlying155
 a37:=Tryz.isAgg155
 z37:=Tryz.sizeOf155
 v37:=Tryz.zeroValue155
 t46:=Tryz.underlying304
 a46:=Tryz.isAgg304
 z46:=Tryz.sizeOf304
 v46:=Tryz.zeroValue304
 t51:=Tryz.underlying302
 a51:=Tryz.isAgg302
 z51:=Tryz.sizeOf302
 v51:=Tryz.zeroValue302
 t53:=Tryz.underlying278
 a53:=Tryz.isAgg278
 z53:=Tryz.sizeOf278
 v53:=Tryz.zeroValue278
 t70:=Tryz.underlying154
 a70:=Tryz.isAgg154
 z70:=Tryz.sizeOf154
 v70:=Tryz.zeroValue154
 t72:=Tryz.underlying157
 a72:=Tryz.isAgg157
 z72:=Tryz.sizeOf157
 v72:=Tryz.zeroValue157
 t75:=Tryz.underlying159
 a75:=Tryz.isAgg159
 z75:=Tryz.sizeOf159
 v75:=Tryz.zeroValue159
 t76:=Tryz.underlying160
 a76:=Tryz.isAgg160
 z76:=Tryz.sizeOf160
 v76:=Tryz.zeroValue160
 t109:=Tryz.underlying331
 a109:=Tryz.isAgg331
 z109:=Tryz.sizeOf331
 v109:=Tryz.zeroValue331
 t127:=Tryz.underlying194
 a127:=Tryz.isAgg194
 z127:=Tryz.sizeOf194
 v127:=Tryz.zeroValue194
 t146:=Tryz.underlying336
 a146:=Tryz.isAgg336
 z146:=Tryz.sizeOf336
 v146:=Tryz.zeroValue336
 t148:=Tryz.underlying338
 a148:=Tryz.isAgg338
 z148:=Tryz.sizeOf338
 v148:=Tryz.zeroValue338
 t164:=Tryz.underlying232
 a164:=Tryz.isAgg232
 z164:=Tryz.sizeOf232
 v164:=Tryz.zeroValue232}
theorem Tryz.Builder_Extra_105:Builder.Extra Tryz.prog Tryz.lays105_ren:={
 sizeBuilder:=by kernel_rfl
 liesBuilder:=by kernel_rfl
 t5:=Tryz.underlying5
 a5:=Tryz.isAgg5
 z5:=Tryz.sizeOf5
 v5:=Tryz.zeroValue5
 infoByte:=by kernel_rfl
 cellsByte:=by kernel_rfl
 sizeByte:=by kernel_rfl
 neB5:=by decide}
open Go.RowKit Go.Lib in
theorem Tryz.strings_Repeat (s:ByteArray) (c:Nat) (w:World) (hc:c<=9223372036854775807) (hlen:s.size*c<=140737488355328):
  Calls Tryz.prog 400 #[.string s,.int .i64 c] w λe w'=>e= .returned (.string ⟨(Lib.repeatL s.data.toList c).toArray⟩)/\Below w.heap.size w w':=Any.strings_Repeat Tryz.lays105 Tryz.Builder_Extra_105 s c w hc hlen
end Go.Proofs
