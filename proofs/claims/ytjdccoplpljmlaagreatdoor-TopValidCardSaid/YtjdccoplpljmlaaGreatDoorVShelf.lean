/-
  DERIVED: THE SHELF's CONTRACTS AT THIS DUMP, IN PLAIN WORDS (tools/lay-plain.mjs out of 'TryzShelf.lean', which tools/lay-shelf.mjs wrote): THE SAME DECLARATIONS UNDER THE SAME NAMES: 'import', 'namespace', 'open', 'def', 'theorem' AND NOTHING ELSE: no command of the shelf's: FOR A HAND-IN. Each laying: the table of numbers ('.._ren') and one theorem, a field a fact of the dump's own or the kernel's comparison; each contract: ONE APPLICATION.
-/
import Derived.Shelf.Strings.Builder1
import Derived.Shelf.Strings.Builder2
import Derived.Shelf.Strings.OnBuilder
import Derived.Shelf.Strings.Trim
import Derived.Shelf.Small.Utf8
import Derived.Shelf.Small.Bits
import Derived.Shelf.Small.Strs
import Derived.Shelf.Strings.BuilderF
import Derived.Shelf.Strconv.Itoa0
import Derived.Shelf.Strconv.Itoa1
import Derived.Shelf.LaysM
import Derived.Shelf.Strconv.Itoa2
import Derived.Shelf.Strconv.Itoa3
import Derived.Shelf.Strings.Search1
import Derived.Shelf.GgClosure.StringsIndexFunc
import Derived.Ground.GgwProg
import Derived.Shelf.GgClosure.StringsIndexFuncTop
import Derived.Shelf.GgClosure.StringsRunes
import Derived.Shelf.Strings.Prefix
import Derived.Shelf.Unicode.Decode
import Derived.Shelf.Strings.Runes
import Derived.Shelf.Strings.AsciiSet
import Derived.Shelf.Bits.Mul64
import Derived.Shelf.Strings.Repeat
import Derived.Shelf.Unicode.DecodeSlow
import Derived.Shelf.Unicode.DecodeAny
import Derived.Shelf.Unicode.DecodeLast
import Derived.Shelf.Strings.FuncGrows
import Derived.Ground.Names2Prog
import Derived.Shelf.Slices.Clone
import Derived.Shelf.Slices.CompactI
import Derived.Shelf.Slices.SearchI
import Derived.Shelf.Slices.Cells
import Derived.Ground.SlgnProg
import Derived.Shelf.SlicesE.Clone
import Derived.Ground.SlgcProg
import Derived.Shelf.SlicesG.Cmp
import Derived.Ground.SlgmProg
import Derived.Shelf.SortM.Plain
import Derived.Shelf.SortM.SortNone
import Derived.Shelf.SlSortCmp.WholeK
import Derived.Shelf.SlSortCmp.NoneTotal
import Derived.Ground.SlsfProg
import Derived.Shelf.SlGeneric
import Derived.Test.YtjdccoplpljmlaaGreatDoorProg
namespace Go.Proofs
open Go.Shelf
set_option linter.unusedSimpArgs false
set_option linter.unusedVariables false
def Tryz.lays156_ren:Go.Shelf.Ren:=⟨λ|156=>255|165=>300|166=>301|169=>302|240=>348|241=>349|276=>370|277=>371|n=>n,λ|31=>57|9=>9|3=>3|4=>4|0=>0|20=>20|72=>318|76=>322|70=>316|37=>264|75=>321|127=>361|164=>386|5=>5|80=>324|n=>n,λ|n=>n⟩
theorem Tryz.lays156:Go.Proofs.Lays.n156 Tryz.prog Tryz.lays156_ren:={
 mixed:=by kernel_rfl
 f156:=Tryz.func255.trans (congrArg some (by kernel_rfl))
 f165:=Tryz.func300.trans (congrArg some (by kernel_rfl))
 f166:=Tryz.func301.trans (congrArg some (by kernel_rfl))
 f169:=Tryz.func302.trans (congrArg some (by kernel_rfl))
 f240:=Tryz.func348.trans (congrArg some (by kernel_rfl))
 f241:=Tryz.func349.trans (congrArg some (by kernel_rfl))
 f276:=Tryz.func370.trans (congrArg some (by kernel_rfl))
 f277:=Tryz.func371.trans (congrArg some (by kernel_rfl))
 t0:=Tryz.underlying0
 a0:=Tryz.isAgg0
 z0:=Tryz.sizeOf0
 v0:=Tryz.zeroValue0
 t3:=Tryz.underlying3
 a3:=Tryz.isAgg3
 z3:=Tryz.sizeOf3
 v3:=Tryz.zeroValue3
 t4:=Tryz.underlying4
 a4:=Tryz.isAgg4
 z4:=Tryz.sizeOf4
 v4:=Tryz.zeroValue4
 t9:=Tryz.underlying9
 a9:=Tryz.isAgg9
 z9:=Tryz.sizeOf9
 v9:=Tryz.zeroValue9
 t20:=Tryz.underlying20
 a20:=Tryz.isAgg20
 z20:=Tryz.sizeOf20
 v20:=Tryz.zeroValue20
 t31:=Tryz.underlying57
 a31:=Tryz.isAgg57
 z31:=Tryz.sizeOf57
 v31:=Tryz.zeroValue57
 t37:=Tryz.underlying264
 a37:=Tryz.isAgg264
 z37:=Tryz.sizeOf264
 v37:=Tryz.zeroValue264
 t70:=Tryz.underlying316
 a70:=Tryz.isAgg316
 z70:=Tryz.sizeOf316
 v70:=Tryz.zeroValue316
 t72:=Tryz.underlying318
 a72:=Tryz.isAgg318
 z72:=Tryz.sizeOf318
 v72:=Tryz.zeroValue318
 t75:=Tryz.underlying321
 a75:=Tryz.isAgg321
 z75:=Tryz.sizeOf321
 v75:=Tryz.zeroValue321
 t76:=Tryz.underlying322
 a76:=Tryz.isAgg322
 z76:=Tryz.sizeOf322
 v76:=Tryz.zeroValue322
 t127:=Tryz.underlying361
 a127:=Tryz.isAgg361
 z127:=Tryz.sizeOf361
 v127:=Tryz.zeroValue361
 t164:=Tryz.underlying386
 a164:=Tryz.isAgg386
 z164:=Tryz.sizeOf386
 v164:=Tryz.zeroValue386}
theorem Tryz.Builder_Extra_156:Builder.Extra Tryz.prog Tryz.lays156_ren:={
 sizeBuilder:=by kernel_rfl
 liesBuilder:=by kernel_rfl
 t5:=Tryz.underlying5
 a5:=Tryz.isAgg5
 z5:=Tryz.sizeOf5
 v5:=Tryz.zeroValue5
 infoByte:=by kernel_rfl
 cellsByte:=by kernel_rfl
 sizeByte:=by kernel_rfl
 neB5:=by decide}
open Go.RowKit in
theorem Tryz.strings_Join_none (a:Option Addr) (c:Nat) (sep:ByteArray) (w:World):
  Calls Tryz.prog 255 #[.slice a 0 c,.string sep] w λe w'=>e= .returned (.string ⟨#[]⟩)/\w'=w:=Any.strings_Join_none Tryz.lays156 Tryz.Builder_Extra_156 a c sep w
open Go.RowKit in
theorem Tryz.strings_Join (bk o c:Nat) (xs:List ByteArray) (sep:ByteArray) (w:World) (hcells:∀(j:Nat) x,xs[j]? =some x->w.cell? ⟨bk,o+j,none⟩=some (.string x)) (hbk:bk<w.heap.size) (hN:xs.length<=140737488355328) (hcap:xs.length<=c) (hlen:(Lib.join (xs.map (·.data.toList)) sep.data.toList).length<=140737488355328):
  Calls Tryz.prog 255 #[.slice (some ⟨bk,o,none⟩) xs.length c,.string sep] w λe w'=>e= .returned (.string ⟨(Lib.join (xs.map (·.data.toList)) sep.data.toList).toArray⟩)/\Below w.heap.size w w':=Any.strings_Join Tryz.lays156 Tryz.Builder_Extra_156 bk o c xs sep w hcells hbk hN hcap hlen
def Tryz.lays160_ren:Go.Shelf.Ren:=⟨λ|160=>175|232=>206|231=>205|227=>207|234=>209|233=>208|236=>211|235=>210|228=>259|271=>262|151=>261|197=>260|120=>306|152=>305|260=>304|137=>350|119=>351|224=>352|225=>353|217=>372|266=>390|n=>n,λ|9=>9|4=>4|3=>3|5=>5|117=>227|116=>226|0=>0|124=>230|21=>21|105=>281|46=>287|119=>362|139=>365|138=>364|n=>n,λ|3=>4|4=>5|n=>n⟩
theorem Tryz.lays160:Go.Proofs.Lays.n160 Tryz.prog Tryz.lays160_ren:={
 mixed:=by kernel_rfl
 f119:=Tryz.func351.trans (congrArg some (by kernel_rfl))
 f120:=Tryz.func306.trans (congrArg some (by kernel_rfl))
 f137:=Tryz.func350.trans (congrArg some (by kernel_rfl))
 f151:=Tryz.func261.trans (congrArg some (by kernel_rfl))
 f152:=Tryz.func305.trans (congrArg some (by kernel_rfl))
 f160:=Tryz.func175.trans (congrArg some (by kernel_rfl))
 f197:=Tryz.func260.trans (congrArg some (by kernel_rfl))
 f217:=Tryz.func372.trans (congrArg some (by kernel_rfl))
 f224:=Tryz.func352.trans (congrArg some (by kernel_rfl))
 f225:=Tryz.func353.trans (congrArg some (by kernel_rfl))
 f227:=Tryz.func207.trans (congrArg some (by kernel_rfl))
 f228:=Tryz.func259.trans (congrArg some (by kernel_rfl))
 f231:=Tryz.func205.trans (congrArg some (by kernel_rfl))
 f232:=Tryz.func206.trans (congrArg some (by kernel_rfl))
 f233:=Tryz.func208.trans (congrArg some (by kernel_rfl))
 f234:=Tryz.func209.trans (congrArg some (by kernel_rfl))
 f235:=Tryz.func210.trans (congrArg some (by kernel_rfl))
 f236:=Tryz.func211.trans (congrArg some (by kernel_rfl))
 f260:=Tryz.func304.trans (congrArg some (by kernel_rfl))
 f266:=Tryz.func390.trans (congrArg some (by kernel_rfl))
 f271:=Tryz.func262.trans (congrArg some (by kernel_rfl))
 t0:=Tryz.underlying0
 a0:=Tryz.isAgg0
 z0:=Tryz.sizeOf0
 v0:=Tryz.zeroValue0
 t3:=Tryz.underlying3
 a3:=Tryz.isAgg3
 z3:=Tryz.sizeOf3
 v3:=Tryz.zeroValue3
 t4:=Tryz.underlying4
 a4:=Tryz.isAgg4
 z4:=Tryz.sizeOf4
 v4:=Tryz.zeroValue4
 t5:=Tryz.underlying5
 a5:=Tryz.isAgg5
 z5:=Tryz.sizeOf5
 v5:=Tryz.zeroValue5
 t9:=Tryz.underlying9
 a9:=Tryz.isAgg9
 z9:=Tryz.sizeOf9
 v9:=Tryz.zeroValue9
 t21:=Tryz.underlying21
 a21:=Tryz.isAgg21
 z21:=Tryz.sizeOf21
 v21:=Tryz.zeroValue21
 t46:=Tryz.underlying287
 a46:=Tryz.isAgg287
 z46:=Tryz.sizeOf287
 v46:=Tryz.zeroValue287
 t105:=Tryz.underlying281
 a105:=Tryz.isAgg281
 z105:=Tryz.sizeOf281
 v105:=Tryz.zeroValue281
 t116:=Tryz.underlying226
 a116:=Tryz.isAgg226
 z116:=Tryz.sizeOf226
 t117:=Tryz.underlying227
 a117:=Tryz.isAgg227
 z117:=Tryz.sizeOf227
 v117:=Tryz.zeroValue227
 t119:=Tryz.underlying362
 a119:=Tryz.isAgg362
 z119:=Tryz.sizeOf362
 t124:=Tryz.underlying230
 a124:=Tryz.isAgg230
 z124:=Tryz.sizeOf230
 v124:=Tryz.zeroValue230
 t138:=Tryz.underlying364
 a138:=Tryz.isAgg364
 z138:=Tryz.sizeOf364
 v138:=Tryz.zeroValue364
 t139:=Tryz.underlying365
 a139:=Tryz.isAgg365
 z139:=Tryz.sizeOf365
 v139:=Tryz.zeroValue365
 g3:=by kernel_rfl
 g4:=by kernel_rfl}
def Tryz.laysGw15_ren:Go.Shelf.Ren:=⟨λ|15=>188|20=>239|n=>n,λ|9=>9|23=>170|3=>3|4=>4|0=>0|21=>21|n=>n,λ|n=>n⟩
theorem Tryz.laysGw15:Go.Proofs.LaysGw.n15 Tryz.prog Tryz.laysGw15_ren:={
 mixed:=by kernel_rfl
 f15:=Tryz.func188.trans (congrArg some (by kernel_rfl))
 f20:=Tryz.func239.trans (congrArg some (by kernel_rfl))
 t0:=Tryz.underlying0
 a0:=Tryz.isAgg0
 z0:=Tryz.sizeOf0
 v0:=Tryz.zeroValue0
 i0:=by kernel_rfl
 t3:=Tryz.underlying3
 a3:=Tryz.isAgg3
 z3:=Tryz.sizeOf3
 v3:=Tryz.zeroValue3
 i3:=by kernel_rfl
 t4:=Tryz.underlying4
 a4:=Tryz.isAgg4
 z4:=Tryz.sizeOf4
 v4:=Tryz.zeroValue4
 i4:=by kernel_rfl
 t9:=Tryz.underlying9
 a9:=Tryz.isAgg9
 z9:=Tryz.sizeOf9
 v9:=Tryz.zeroValue9
 i9:=by kernel_rfl
 t21:=Tryz.underlying21
 a21:=Tryz.isAgg21
 z21:=Tryz.sizeOf21
 v21:=Tryz.zeroValue21
 i21:=by kernel_rfl
 t23:=Tryz.underlying170
 a23:=Tryz.isAgg170
 z23:=Tryz.sizeOf170
 v23:=Tryz.zeroValue170
 i23:=by kernel_rfl}
def Tryz.laysGw17_ren:Go.Shelf.Ren:=⟨λ|17=>129|15=>188|20=>239|n=>n,λ|9=>9|23=>170|4=>4|3=>3|0=>0|21=>21|n=>n,λ|n=>n⟩
theorem Tryz.laysGw17:Go.Proofs.LaysGw.n17 Tryz.prog Tryz.laysGw17_ren:={
 mixed:=by kernel_rfl
 f15:=Tryz.func188.trans (congrArg some (by kernel_rfl))
 f17:=Tryz.func129.trans (congrArg some (by kernel_rfl))
 f20:=Tryz.func239.trans (congrArg some (by kernel_rfl))
 t0:=Tryz.underlying0
 a0:=Tryz.isAgg0
 z0:=Tryz.sizeOf0
 v0:=Tryz.zeroValue0
 i0:=by kernel_rfl
 t3:=Tryz.underlying3
 a3:=Tryz.isAgg3
 z3:=Tryz.sizeOf3
 v3:=Tryz.zeroValue3
 i3:=by kernel_rfl
 t4:=Tryz.underlying4
 a4:=Tryz.isAgg4
 z4:=Tryz.sizeOf4
 v4:=Tryz.zeroValue4
 i4:=by kernel_rfl
 t9:=Tryz.underlying9
 a9:=Tryz.isAgg9
 z9:=Tryz.sizeOf9
 v9:=Tryz.zeroValue9
 i9:=by kernel_rfl
 t21:=Tryz.underlying21
 a21:=Tryz.isAgg21
 z21:=Tryz.sizeOf21
 v21:=Tryz.zeroValue21
 i21:=by kernel_rfl
 t23:=Tryz.underlying170
 a23:=Tryz.isAgg170
 z23:=Tryz.sizeOf170
 v23:=Tryz.zeroValue170
 i23:=by kernel_rfl}
def Tryz.lays105_ren:Go.Shelf.Ren:=⟨λ|105=>346|212=>367|99=>368|165=>300|166=>301|170=>369|169=>302|263=>387|264=>388|206=>389|240=>348|241=>349|276=>370|277=>371|n=>n,λ|9=>9|3=>3|4=>4|20=>20|0=>0|46=>287|109=>383|5=>5|72=>318|76=>322|51=>312|146=>397|53=>272|148=>399|70=>316|37=>264|75=>321|127=>361|164=>386|80=>324|n=>n,λ|n=>n⟩
theorem Tryz.lays105:Go.Proofs.Lays.n105 Tryz.prog Tryz.lays105_ren:={
 mixed:=by kernel_rfl
 f99:=Tryz.func368.trans (congrArg some (by kernel_rfl))
 f105:=Tryz.func346.trans (congrArg some (by kernel_rfl))
 f165:=Tryz.func300.trans (congrArg some (by kernel_rfl))
 f166:=Tryz.func301.trans (congrArg some (by kernel_rfl))
 f169:=Tryz.func302.trans (congrArg some (by kernel_rfl))
 f170:=Tryz.func369.trans (congrArg some (by kernel_rfl))
 f206:=Tryz.func389.trans (congrArg some (by kernel_rfl))
 f212:=Tryz.func367.trans (congrArg some (by kernel_rfl))
 f240:=Tryz.func348.trans (congrArg some (by kernel_rfl))
 f241:=Tryz.func349.trans (congrArg some (by kernel_rfl))
 f263:=Tryz.func387.trans (congrArg some (by kernel_rfl))
 f264:=Tryz.func388.trans (congrArg some (by kernel_rfl))
 f276:=Tryz.func370.trans (congrArg some (by kernel_rfl))
 f277:=Tryz.func371.trans (congrArg some (by kernel_rfl))
 t0:=Tryz.underlying0
 a0:=Tryz.isAgg0
 z0:=Tryz.sizeOf0
 v0:=Tryz.zeroValue0
 t3:=Tryz.underlying3
 a3:=Tryz.isAgg3
 z3:=Tryz.sizeOf3
 v3:=Tryz.zeroValue3
 t4:=Tryz.underlying4
 a4:=Tryz.isAgg4
 z4:=Tryz.sizeOf4
 v4:=Tryz.zeroValue4
 t5:=Tryz.underlying5
 a5:=Tryz.isAgg5
 z5:=Tryz.sizeOf5
 v5:=Tryz.zeroValue5
 t9:=Tryz.underlying9
 a9:=Tryz.isAgg9
 z9:=Tryz.sizeOf9
 v9:=Tryz.zeroValue9
 t20:=Tryz.underlying20
 a20:=Tryz.isAgg20
 z20:=Tryz.sizeOf20
 v20:=Tryz.zeroValue20
 t37:=Tryz.underlying264
 a37:=Tryz.isAgg264
 z37:=Tryz.sizeOf264
 v37:=Tryz.zeroValue264
 t46:=Tryz.underlying287
 a46:=Tryz.isAgg287
 z46:=Tryz.sizeOf287
 v46:=Tryz.zeroValue287
 t51:=Tryz.underlying312
 a51:=Tryz.isAgg312
 z51:=Tryz.sizeOf312
 v51:=Tryz.zeroValue312
 t53:=Tryz.underlying272
 a53:=Tryz.isAgg272
 z53:=Tryz.sizeOf272
 v53:=Tryz.zeroValue272
 t70:=Tryz.underlying316
 a70:=Tryz.isAgg316
 z70:=Tryz.sizeOf316
 v70:=Tryz.zeroValue316
 t72:=Tryz.underlying318
 a72:=Tryz.isAgg318
 z72:=Tryz.sizeOf318
 v72:=Tryz.zeroValue318
 t75:=Tryz.underlying321
 a75:=Tryz.isAgg321
 z75:=Tryz.sizeOf321
 v75:=Tryz.zeroValue321
 t76:=Tryz.underlying322
 a76:=Tryz.isAgg322
 z76:=Tryz.sizeOf322
 v76:=Tryz.zeroValue322
 t109:=Tryz.underlying383
 a109:=Tryz.isAgg383
 z109:=Tryz.sizeOf383
 v109:=Tryz.zeroValue383
 t127:=Tryz.underlying361
 a127:=Tryz.isAgg361
 z127:=Tryz.sizeOf361
 v127:=Tryz.zeroValue361
 t146:=Tryz.underlying397
 a146:=Tryz.isAgg397
 z146:=Tryz.sizeOf397
 v146:=Tryz.zeroValue397
 t148:=Tryz.underlying399
 a148:=Tryz.isAgg399
 z148:=Tryz.sizeOf399
 v148:=Tryz.zeroValue399
 t164:=Tryz.underlying386
 a164:=Tryz.isAgg386
 z164:=Tryz.sizeOf386
 v164:=Tryz.zeroValue386}
theorem Tryz.Builder_Extra_105:Builder.Extra Tryz.prog Tryz.lays105_ren:={
 sizeBuilder:=by kernel_rfl
 liesBuilder:=by kernel_rfl
 t5:=Tryz.underlying5
 a5:=Tryz.isAgg5
 z5:=Tryz.sizeOf5
 v5:=Tryz.zeroValue5
 infoByte:=by kernel_rfl
 cellsByte:=by kernel_rfl
 sizeByte:=by kernel_rfl
 neB5:=by decide}
open Go.RowKit Go.Lib in
theorem Tryz.strings_Repeat (s:ByteArray) (c:Nat) (w:World) (hc:c<=9223372036854775807) (hlen:s.size*c<=140737488355328):
  Calls Tryz.prog 346 #[.string s,.int .i64 c] w λe w'=>e= .returned (.string ⟨(Lib.repeatL s.data.toList c).toArray⟩)/\Below w.heap.size w w':=Any.strings_Repeat Tryz.lays105 Tryz.Builder_Extra_105 s c w hc hlen
def Tryz.laysSlC25_f219_ren:Go.Shelf.Ren:=⟨λ|5=>219|7=>264|n=>n,λ|22=>3|3=>3|4=>4|n=>n,λ|n=>n⟩
theorem Tryz.laysSlC25_f219:Go.Proofs.SlLaysC2.n5 Tryz.prog Tryz.laysSlC25_f219_ren:={
 mixed:=by kernel_rfl
 f5:=⟨Tryz.f219.name,by decide,Tryz.func219.trans (congrArg some (by kernel_rfl))⟩
 f7:=⟨Tryz.f264.name,by decide,Tryz.func264.trans (congrArg some (by kernel_rfl))⟩
 t3:=Tryz.underlying3
 a3:=Tryz.isAgg3
 z3:=Tryz.sizeOf3
 v3:=Tryz.zeroValue3
 t4:=Tryz.underlying4
 a4:=Tryz.isAgg4
 z4:=Tryz.sizeOf4
 v4:=Tryz.zeroValue4
 t22:=Tryz.underlying3
 a22:=Tryz.isAgg3
 z22:=Tryz.sizeOf3
 v22:=Tryz.zeroValue3}
open Go.Lib in
theorem Tryz.cmp_Compare_int (x y:Int) (w:World):
  Calls Tryz.prog 219 #[.int .i64 x,.int .i64 y] w λe w'=>e= .returned (.int .i64 (Lib.compareInt x y))/\w'=w:=AnyG.cmp_Compare_int Tryz.laysSlC25_f219 x y w
def Tryz.laysSlM5_f375_ren:Go.Shelf.Ren:=⟨λ|5=>375|8=>269|7=>391|19=>321|20=>294|10=>392|11=>393|12=>394|13=>395|14=>396|15=>397|16=>398|17=>399|18=>400|30=>401|31=>359|32=>360|33=>402|34=>403|35=>264|40=>404|n=>n,λ|23=>131|25=>3|3=>3|32=>287|22=>131|0=>0|44=>312|46=>272|4=>4|36=>334|35=>333|41=>252|5=>5|9=>9|53=>370|57=>374|63=>391|64=>392|n=>n,λ|n=>n⟩
theorem Tryz.laysSlM5_f375:Go.Proofs.SlLaysM.n5 Tryz.prog Tryz.laysSlM5_f375_ren:={
 mixed:=by kernel_rfl
 f5:=⟨Tryz.f375.name,by decide,Tryz.func375.trans (congrArg some (by kernel_rfl))⟩
 f7:=⟨Tryz.f391.name,by decide,Tryz.func391.trans (congrArg some (by kernel_rfl))⟩
 f8:=Tryz.func269.trans (congrArg some (by kernel_rfl))
 f10:=⟨Tryz.f392.name,by decide,Tryz.func392.trans (congrArg some (by kernel_rfl))⟩
 f11:=⟨Tryz.f393.name,by decide,Tryz.func393.trans (congrArg some (by kernel_rfl))⟩
 f12:=⟨Tryz.f394.name,by decide,Tryz.func394.trans (congrArg some (by kernel_rfl))⟩
 f13:=⟨Tryz.f395.name,by decide,Tryz.func395.trans (congrArg some (by kernel_rfl))⟩
 f14:=⟨Tryz.f396.name,by decide,Tryz.func396.trans (congrArg some (by kernel_rfl))⟩
 f15:=⟨Tryz.f397.name,by decide,Tryz.func397.trans (congrArg some (by kernel_rfl))⟩
 f16:=⟨Tryz.f398.name,by decide,Tryz.func398.trans (congrArg some (by kernel_rfl))⟩
 f17:=⟨Tryz.f399.name,by decide,Tryz.func399.trans (congrArg some (by kernel_rfl))⟩
 f18:=⟨Tryz.f400.name,by decide,Tryz.func400.trans (congrArg some (by kernel_rfl))⟩
 f19:=Tryz.func321.trans (congrArg some (by kernel_rfl))
 f20:=Tryz.func294.trans (congrArg some (by kernel_rfl))
 f30:=⟨Tryz.f401.name,by decide,Tryz.func401.trans (congrArg some (by kernel_rfl))⟩
 f31:=Tryz.func359.trans (congrArg some (by kernel_rfl))
 f32:=Tryz.func360.trans (congrArg some (by kernel_rfl))
 f33:=⟨Tryz.f402.name,by decide,Tryz.func402.trans (congrArg some (by kernel_rfl))⟩
 f34:=⟨Tryz.f403.name,by decide,Tryz.func403.trans (congrArg some (by kernel_rfl))⟩
 f35:=⟨Tryz.f264.name,by decide,Tryz.func264.trans (congrArg some (by kernel_rfl))⟩
 f40:=⟨Tryz.f404.name,by decide,Tryz.func404.trans (congrArg some (by kernel_rfl))⟩
 t0:=Tryz.underlying0
 a0:=Tryz.isAgg0
 z0:=Tryz.sizeOf0
 v0:=Tryz.zeroValue0
 t3:=Tryz.underlying3
 a3:=Tryz.isAgg3
 z3:=Tryz.sizeOf3
 v3:=Tryz.zeroValue3
 t4:=Tryz.underlying4
 a4:=Tryz.isAgg4
 z4:=Tryz.sizeOf4
 v4:=Tryz.zeroValue4
 t5:=Tryz.underlying5
 a5:=Tryz.isAgg5
 z5:=Tryz.sizeOf5
 v5:=Tryz.zeroValue5
 t9:=Tryz.underlying9
 a9:=Tryz.isAgg9
 z9:=Tryz.sizeOf9
 v9:=Tryz.zeroValue9
 t22:=Tryz.underlying131
 a22:=Tryz.isAgg131
 z22:=Tryz.sizeOf131
 v22:=Tryz.zeroValue131
 t23:=Tryz.underlying131
 a23:=Tryz.isAgg131
 z23:=Tryz.sizeOf131
 v23:=Tryz.zeroValue131
 t25:=Tryz.underlying3
 a25:=Tryz.isAgg3
 z25:=Tryz.sizeOf3
 v25:=Tryz.zeroValue3
 t32:=Tryz.underlying287
 a32:=Tryz.isAgg287
 z32:=Tryz.sizeOf287
 v32:=Tryz.zeroValue287
 t35:=Tryz.underlying333
 a35:=Tryz.isAgg333
 z35:=Tryz.sizeOf333
 v35:=Tryz.zeroValue333
 t36:=Tryz.underlying334
 a36:=Tryz.isAgg334
 z36:=Tryz.sizeOf334
 v36:=Tryz.zeroValue334
 t41:=Tryz.underlying252
 a41:=Tryz.isAgg252
 z41:=Tryz.sizeOf252
 v41:=Tryz.zeroValue252
 t44:=Tryz.underlying312
 a44:=Tryz.isAgg312
 z44:=Tryz.sizeOf312
 v44:=Tryz.zeroValue312
 t46:=Tryz.underlying272
 a46:=Tryz.isAgg272
 z46:=Tryz.sizeOf272
 v46:=Tryz.zeroValue272
 t53:=Tryz.underlying370
 a53:=Tryz.isAgg370
 z53:=Tryz.sizeOf370
 v53:=Tryz.zeroValue370
 t57:=Tryz.underlying374
 a57:=Tryz.isAgg374
 z57:=Tryz.sizeOf374
 v57:=Tryz.zeroValue374
 t63:=Tryz.underlying391
 a63:=Tryz.isAgg391
 z63:=Tryz.sizeOf391
 v63:=Tryz.zeroValue391
 t64:=Tryz.underlying392
 a64:=Tryz.isAgg392
 z64:=Tryz.sizeOf392
 v64:=Tryz.zeroValue392}
open Go.Sort Go.RowKit in
theorem Tryz.slices_Sort_int (blk off cap:Nat) (zs:List Int) (w:World) (hH:Holds (Value.int .i64) w blk off zs.toArray) (hblk:blk<w.heap.size) (hsz:zs.length<4611686018427387904):
  Calls Tryz.prog 375 #[.slice (some ⟨blk,off,none⟩) zs.length cap] w λe w'=>
   e= .returned (.tuple #[])/\∃n os,w'=grow (putRow (Value.int .i64) (Sort.ahead w n) blk off (zs.mergeSort λx y=>decide (x<=y)).toArray) os:=AnyM.slices_Sort_int Tryz.laysSlM5_f375 blk off cap zs w hH hblk hsz
open Go.RowKit Go.Sort in
theorem Tryz.slices_Sort_int_none (p:Option Addr) (cap:Nat) (w:World):
  Calls Tryz.prog 375 #[.slice p 0 cap] w λe w'=>e= .returned (.tuple #[])/\w'=w:=AnyM.slices_Sort_int_none Tryz.laysSlM5_f375 p cap w
def Tryz.laysSortS_ren:Go.Shelf.Ren:=⟨λ|6=>228|15=>269|14=>268|28=>321|29=>294|20=>313|21=>314|22=>315|23=>316|24=>317|25=>318|26=>319|27=>320|46=>358|47=>359|48=>360|49=>361|50=>362|57=>377|n=>n,λ|22=>160|24=>255|25=>258|3=>3|39=>287|0=>0|53=>312|55=>272|4=>4|46=>334|45=>333|50=>252|5=>5|9=>9|66=>370|70=>374|76=>391|77=>392|n=>n,λ|n=>n⟩
theorem Tryz.laysSortS:Go.Proofs.SlLaysF0.n6 Tryz.prog Tryz.laysSortS_ren:={
 mixed:=by kernel_rfl
 f6:=⟨Tryz.f228.name,by decide,Tryz.func228.trans (congrArg some (by kernel_rfl))⟩
 f14:=⟨Tryz.f268.name,by decide,Tryz.func268.trans (congrArg some (by kernel_rfl))⟩
 f15:=Tryz.func269.trans (congrArg some (by kernel_rfl))
 f20:=⟨Tryz.f313.name,by decide,Tryz.func313.trans (congrArg some (by kernel_rfl))⟩
 f21:=⟨Tryz.f314.name,by decide,Tryz.func314.trans (congrArg some (by kernel_rfl))⟩
 f22:=⟨Tryz.f315.name,by decide,Tryz.func315.trans (congrArg some (by kernel_rfl))⟩
 f23:=⟨Tryz.f316.name,by decide,Tryz.func316.trans (congrArg some (by kernel_rfl))⟩
 f24:=⟨Tryz.f317.name,by decide,Tryz.func317.trans (congrArg some (by kernel_rfl))⟩
 f25:=⟨Tryz.f318.name,by decide,Tryz.func318.trans (congrArg some (by kernel_rfl))⟩
 f26:=⟨Tryz.f319.name,by decide,Tryz.func319.trans (congrArg some (by kernel_rfl))⟩
 f27:=⟨Tryz.f320.name,by decide,Tryz.func320.trans (congrArg some (by kernel_rfl))⟩
 f28:=Tryz.func321.trans (congrArg some (by kernel_rfl))
 f29:=Tryz.func294.trans (congrArg some (by kernel_rfl))
 f46:=⟨Tryz.f358.name,by decide,Tryz.func358.trans (congrArg some (by kernel_rfl))⟩
 f47:=Tryz.func359.trans (congrArg some (by kernel_rfl))
 f48:=Tryz.func360.trans (congrArg some (by kernel_rfl))
 f49:=⟨Tryz.f361.name,by decide,Tryz.func361.trans (congrArg some (by kernel_rfl))⟩
 f50:=⟨Tryz.f362.name,by decide,Tryz.func362.trans (congrArg some (by kernel_rfl))⟩
 f57:=⟨Tryz.f377.name,by decide,Tryz.func377.trans (congrArg some (by kernel_rfl))⟩
 t0:=Tryz.underlying0
 a0:=Tryz.isAgg0
 z0:=Tryz.sizeOf0
 v0:=Tryz.zeroValue0
 t3:=Tryz.underlying3
 a3:=Tryz.isAgg3
 z3:=Tryz.sizeOf3
 v3:=Tryz.zeroValue3
 t4:=Tryz.underlying4
 a4:=Tryz.isAgg4
 z4:=Tryz.sizeOf4
 v4:=Tryz.zeroValue4
 t5:=Tryz.underlying5
 a5:=Tryz.isAgg5
 z5:=Tryz.sizeOf5
 v5:=Tryz.zeroValue5
 t9:=Tryz.underlying9
 a9:=Tryz.isAgg9
 z9:=Tryz.sizeOf9
 v9:=Tryz.zeroValue9
 t22:=Tryz.underlying160
 a22:=Tryz.isAgg160
 z22:=Tryz.sizeOf160
 v22:=Tryz.zeroValue160
 t25:=Tryz.underlying258
 a25:=Tryz.isAgg258
 z25:=Tryz.sizeOf258
 v25:=Tryz.zeroValue258
 t39:=Tryz.underlying287
 a39:=Tryz.isAgg287
 z39:=Tryz.sizeOf287
 v39:=Tryz.zeroValue287
 t45:=Tryz.underlying333
 a45:=Tryz.isAgg333
 z45:=Tryz.sizeOf333
 v45:=Tryz.zeroValue333
 t46:=Tryz.underlying334
 a46:=Tryz.isAgg334
 z46:=Tryz.sizeOf334
 v46:=Tryz.zeroValue334
 t50:=Tryz.underlying252
 a50:=Tryz.isAgg252
 z50:=Tryz.sizeOf252
 v50:=Tryz.zeroValue252
 t53:=Tryz.underlying312
 a53:=Tryz.isAgg312
 z53:=Tryz.sizeOf312
 v53:=Tryz.zeroValue312
 t55:=Tryz.underlying272
 a55:=Tryz.isAgg272
 z55:=Tryz.sizeOf272
 v55:=Tryz.zeroValue272
 t66:=Tryz.underlying370
 a66:=Tryz.isAgg370
 z66:=Tryz.sizeOf370
 v66:=Tryz.zeroValue370
 t70:=Tryz.underlying374
 a70:=Tryz.isAgg374
 z70:=Tryz.sizeOf374
 v70:=Tryz.zeroValue374
 t76:=Tryz.underlying391
 a76:=Tryz.isAgg391
 z76:=Tryz.sizeOf391
 v76:=Tryz.zeroValue391
 t77:=Tryz.underlying392
 a77:=Tryz.isAgg392
 z77:=Tryz.sizeOf392
 v77:=Tryz.zeroValue392}
end Go.Proofs
