/-
  DERIVED: THE SHELF's CONTRACTS AT THIS DUMP, IN PLAIN WORDS (tools/lay-plain.mjs out of 'TryzShelf.lean', which tools/lay-shelf.mjs wrote): THE SAME DECLARATIONS UNDER THE SAME NAMES: 'import', 'namespace', 'open', 'def', 'theorem' AND NOTHING ELSE: no command of the shelf's: FOR A HAND-IN. Each laying: the table of numbers ('.._ren') and one theorem, a field a fact of the dump's own or the kernel's comparison; each contract: ONE APPLICATION.
-/
import Derived.Shelf.Strings.Builder1
import Derived.Shelf.Strings.Builder2
import Derived.Shelf.Strings.OnBuilder
import Derived.Shelf.Strings.Trim
import Derived.Shelf.Small.Utf8
import Derived.Shelf.Small.Strs
import Derived.Shelf.Strings.BuilderF
import Derived.Shelf.Strings.Search1
import Derived.Shelf.GgClosure.StringsIndexFunc
import Derived.Ground.GgwProg
import Derived.Shelf.GgClosure.StringsIndexFuncTop
import Derived.Shelf.GgClosure.StringsRunes
import Derived.Shelf.Strings.Prefix
import Derived.Shelf.Unicode.Decode
import Derived.Shelf.Strings.Runes
import Derived.Shelf.Strings.AsciiSet
import Derived.Shelf.Bits.Mul64
import Derived.Shelf.Strings.Repeat
import Derived.Shelf.Unicode.DecodeSlow
import Derived.Shelf.Unicode.DecodeAny
import Derived.Shelf.Unicode.DecodeLast
import Derived.Shelf.Strings.FuncGrows
import Derived.Test.YtcecmifknojgeaaGreatDoorProg
namespace Go.Proofs
open Go.Shelf
set_option linter.unusedSimpArgs false
set_option linter.unusedVariables false
def Tryz.lays156_ren:Go.Shelf.Ren:=⟨λ|156=>213|165=>246|166=>247|169=>248|240=>262|241=>263|276=>275|277=>276|n=>n,λ|31=>29|9=>9|3=>3|4=>4|0=>0|20=>20|72=>234|76=>238|70=>232|37=>225|75=>237|127=>247|164=>261|5=>5|80=>240|n=>n,λ|n=>n⟩
theorem Tryz.lays156:Go.Proofs.Lays.n156 Tryz.prog Tryz.lays156_ren:={
 mixed:=by kernel_rfl
 f156:=Tryz.func213.trans (congrArg some (by kernel_rfl))
 f165:=Tryz.func246.trans (congrArg some (by kernel_rfl))
 f166:=Tryz.func247.trans (congrArg some (by kernel_rfl))
 f169:=Tryz.func248.trans (congrArg some (by kernel_rfl))
 f240:=Tryz.func262.trans (congrArg some (by kernel_rfl))
 f241:=Tryz.func263.trans (congrArg some (by kernel_rfl))
 f276:=Tryz.func275.trans (congrArg some (by kernel_rfl))
 f277:=Tryz.func276.trans (congrArg some (by kernel_rfl))
 t0:=Tryz.underlying0
 a0:=Tryz.isAgg0
 z0:=Tryz.sizeOf0
 v0:=Tryz.zeroValue0
 t3:=Tryz.underlying3
 a3:=Tryz.isAgg3
 z3:=Tryz.sizeOf3
 v3:=Tryz.zeroValue3
 t4:=Tryz.underlying4
 a4:=Tryz.isAgg4
 z4:=Tryz.sizeOf4
 v4:=Tryz.zeroValue4
 t9:=Tryz.underlying9
 a9:=Tryz.isAgg9
 z9:=Tryz.sizeOf9
 v9:=Tryz.zeroValue9
 t20:=Tryz.underlying20
 a20:=Tryz.isAgg20
 z20:=Tryz.sizeOf20
 v20:=Tryz.zeroValue20
 t31:=Tryz.underlying29
 a31:=Tryz.isAgg29
 z31:=Tryz.sizeOf29
 v31:=Tryz.zeroValue29
 t37:=Tryz.underlying225
 a37:=Tryz.isAgg225
 z37:=Tryz.sizeOf225
 v37:=Tryz.zeroValue225
 t70:=Tryz.underlying232
 a70:=Tryz.isAgg232
 z70:=Tryz.sizeOf232
 v70:=Tryz.zeroValue232
 t72:=Tryz.underlying234
 a72:=Tryz.isAgg234
 z72:=Tryz.sizeOf234
 v72:=Tryz.zeroValue234
 t75:=Tryz.underlying237
 a75:=Tryz.isAgg237
 z75:=Tryz.sizeOf237
 v75:=Tryz.zeroValue237
 t76:=Tryz.underlying238
 a76:=Tryz.isAgg238
 z76:=Tryz.sizeOf238
 v76:=Tryz.zeroValue238
 t127:=Tryz.underlying247
 a127:=Tryz.isAgg247
 z127:=Tryz.sizeOf247
 v127:=Tryz.zeroValue247
 t164:=Tryz.underlying261
 a164:=Tryz.isAgg261
 z164:=Tryz.sizeOf261
 v164:=Tryz.zeroValue261}
theorem Tryz.Builder_Extra_156:Builder.Extra Tryz.prog Tryz.lays156_ren:={
 sizeBuilder:=by kernel_rfl
 liesBuilder:=by kernel_rfl
 t5:=Tryz.underlying5
 a5:=Tryz.isAgg5
 z5:=Tryz.sizeOf5
 v5:=Tryz.zeroValue5
 infoByte:=by kernel_rfl
 cellsByte:=by kernel_rfl
 sizeByte:=by kernel_rfl
 neB5:=by decide}
open Go.RowKit in
theorem Tryz.strings_Join_none (a:Option Addr) (c:Nat) (sep:ByteArray) (w:World):
  Calls Tryz.prog 213 #[.slice a 0 c,.string sep] w λe w'=>e= .returned (.string ⟨#[]⟩)/\w'=w:=Any.strings_Join_none Tryz.lays156 Tryz.Builder_Extra_156 a c sep w
open Go.RowKit in
theorem Tryz.strings_Join (bk o c:Nat) (xs:List ByteArray) (sep:ByteArray) (w:World) (hcells:∀(j:Nat) x,xs[j]? =some x->w.cell? ⟨bk,o+j,none⟩=some (.string x)) (hbk:bk<w.heap.size) (hN:xs.length<=140737488355328) (hcap:xs.length<=c) (hlen:(Lib.join (xs.map (·.data.toList)) sep.data.toList).length<=140737488355328):
  Calls Tryz.prog 213 #[.slice (some ⟨bk,o,none⟩) xs.length c,.string sep] w λe w'=>e= .returned (.string ⟨(Lib.join (xs.map (·.data.toList)) sep.data.toList).toArray⟩)/\Below w.heap.size w w':=Any.strings_Join Tryz.lays156 Tryz.Builder_Extra_156 bk o c xs sep w hcells hbk hN hcap hlen
def Tryz.lays160_ren:Go.Shelf.Ren:=⟨λ|160=>132|232=>181|231=>180|227=>182|234=>184|233=>183|236=>186|235=>185|228=>217|271=>220|151=>219|197=>218|120=>252|152=>251|260=>250|137=>264|119=>265|224=>266|225=>267|217=>277|266=>283|n=>n,λ|9=>9|4=>4|3=>3|5=>5|117=>195|116=>194|0=>0|124=>198|21=>21|105=>218|46=>249|119=>248|139=>252|138=>251|n=>n,λ|3=>3|4=>4|n=>n⟩
theorem Tryz.lays160:Go.Proofs.Lays.n160 Tryz.prog Tryz.lays160_ren:={
 mixed:=by kernel_rfl
 f119:=Tryz.func265.trans (congrArg some (by kernel_rfl))
 f120:=Tryz.func252.trans (congrArg some (by kernel_rfl))
 f137:=Tryz.func264.trans (congrArg some (by kernel_rfl))
 f151:=Tryz.func219.trans (congrArg some (by kernel_rfl))
 f152:=Tryz.func251.trans (congrArg some (by kernel_rfl))
 f160:=Tryz.func132.trans (congrArg some (by kernel_rfl))
 f197:=Tryz.func218.trans (congrArg some (by kernel_rfl))
 f217:=Tryz.func277.trans (congrArg some (by kernel_rfl))
 f224:=Tryz.func266.trans (congrArg some (by kernel_rfl))
 f225:=Tryz.func267.trans (congrArg some (by kernel_rfl))
 f227:=Tryz.func182.trans (congrArg some (by kernel_rfl))
 f228:=Tryz.func217.trans (congrArg some (by kernel_rfl))
 f231:=Tryz.func180.trans (congrArg some (by kernel_rfl))
 f232:=Tryz.func181.trans (congrArg some (by kernel_rfl))
 f233:=Tryz.func183.trans (congrArg some (by kernel_rfl))
 f234:=Tryz.func184.trans (congrArg some (by kernel_rfl))
 f235:=Tryz.func185.trans (congrArg some (by kernel_rfl))
 f236:=Tryz.func186.trans (congrArg some (by kernel_rfl))
 f260:=Tryz.func250.trans (congrArg some (by kernel_rfl))
 f266:=Tryz.func283.trans (congrArg some (by kernel_rfl))
 f271:=Tryz.func220.trans (congrArg some (by kernel_rfl))
 t0:=Tryz.underlying0
 a0:=Tryz.isAgg0
 z0:=Tryz.sizeOf0
 v0:=Tryz.zeroValue0
 t3:=Tryz.underlying3
 a3:=Tryz.isAgg3
 z3:=Tryz.sizeOf3
 v3:=Tryz.zeroValue3
 t4:=Tryz.underlying4
 a4:=Tryz.isAgg4
 z4:=Tryz.sizeOf4
 v4:=Tryz.zeroValue4
 t5:=Tryz.underlying5
 a5:=Tryz.isAgg5
 z5:=Tryz.sizeOf5
 v5:=Tryz.zeroValue5
 t9:=Tryz.underlying9
 a9:=Tryz.isAgg9
 z9:=Tryz.sizeOf9
 v9:=Tryz.zeroValue9
 t21:=Tryz.underlying21
 a21:=Tryz.isAgg21
 z21:=Tryz.sizeOf21
 v21:=Tryz.zeroValue21
 t46:=Tryz.underlying249
 a46:=Tryz.isAgg249
 z46:=Tryz.sizeOf249
 v46:=Tryz.zeroValue249
 t105:=Tryz.underlying218
 a105:=Tryz.isAgg218
 z105:=Tryz.sizeOf218
 v105:=Tryz.zeroValue218
 t116:=Tryz.underlying194
 a116:=Tryz.isAgg194
 z116:=Tryz.sizeOf194
 t117:=Tryz.underlying195
 a117:=Tryz.isAgg195
 z117:=Tryz.sizeOf195
 v117:=Tryz.zeroValue195
 t119:=Tryz.underlying248
 a119:=Tryz.isAgg248
 z119:=Tryz.sizeOf248
 t124:=Tryz.underlying198
 a124:=Tryz.isAgg198
 z124:=Tryz.sizeOf198
 v124:=Tryz.zeroValue198
 t138:=Tryz.underlying251
 a138:=Tryz.isAgg251
 z138:=Tryz.sizeOf251
 v138:=Tryz.zeroValue251
 t139:=Tryz.underlying252
 a139:=Tryz.isAgg252
 z139:=Tryz.sizeOf252
 v139:=Tryz.zeroValue252
 g3:=by kernel_rfl
 g4:=by kernel_rfl}
def Tryz.laysGw15_ren:Go.Shelf.Ren:=⟨λ|15=>203|20=>230|n=>n,λ|9=>9|23=>168|3=>3|4=>4|0=>0|21=>21|n=>n,λ|n=>n⟩
theorem Tryz.laysGw15:Go.Proofs.LaysGw.n15 Tryz.prog Tryz.laysGw15_ren:={
 mixed:=by kernel_rfl
 f15:=Tryz.func203.trans (congrArg some (by kernel_rfl))
 f20:=Tryz.func230.trans (congrArg some (by kernel_rfl))
 t0:=Tryz.underlying0
 a0:=Tryz.isAgg0
 z0:=Tryz.sizeOf0
 v0:=Tryz.zeroValue0
 i0:=by kernel_rfl
 t3:=Tryz.underlying3
 a3:=Tryz.isAgg3
 z3:=Tryz.sizeOf3
 v3:=Tryz.zeroValue3
 i3:=by kernel_rfl
 t4:=Tryz.underlying4
 a4:=Tryz.isAgg4
 z4:=Tryz.sizeOf4
 v4:=Tryz.zeroValue4
 i4:=by kernel_rfl
 t9:=Tryz.underlying9
 a9:=Tryz.isAgg9
 z9:=Tryz.sizeOf9
 v9:=Tryz.zeroValue9
 i9:=by kernel_rfl
 t21:=Tryz.underlying21
 a21:=Tryz.isAgg21
 z21:=Tryz.sizeOf21
 v21:=Tryz.zeroValue21
 i21:=by kernel_rfl
 t23:=Tryz.underlying168
 a23:=Tryz.isAgg168
 z23:=Tryz.sizeOf168
 v23:=Tryz.zeroValue168
 i23:=by kernel_rfl}
def Tryz.laysGw17_ren:Go.Shelf.Ren:=⟨λ|17=>157|15=>203|20=>230|n=>n,λ|9=>9|23=>168|4=>4|3=>3|0=>0|21=>21|n=>n,λ|n=>n⟩
theorem Tryz.laysGw17:Go.Proofs.LaysGw.n17 Tryz.prog Tryz.laysGw17_ren:={
 mixed:=by kernel_rfl
 f15:=Tryz.func203.trans (congrArg some (by kernel_rfl))
 f17:=Tryz.func157.trans (congrArg some (by kernel_rfl))
 f20:=Tryz.func230.trans (congrArg some (by kernel_rfl))
 t0:=Tryz.underlying0
 a0:=Tryz.isAgg0
 z0:=Tryz.sizeOf0
 v0:=Tryz.zeroValue0
 i0:=by kernel_rfl
 t3:=Tryz.underlying3
 a3:=Tryz.isAgg3
 z3:=Tryz.sizeOf3
 v3:=Tryz.zeroValue3
 i3:=by kernel_rfl
 t4:=Tryz.underlying4
 a4:=Tryz.isAgg4
 z4:=Tryz.sizeOf4
 v4:=Tryz.zeroValue4
 i4:=by kernel_rfl
 t9:=Tryz.underlying9
 a9:=Tryz.isAgg9
 z9:=Tryz.sizeOf9
 v9:=Tryz.zeroValue9
 i9:=by kernel_rfl
 t21:=Tryz.underlying21
 a21:=Tryz.isAgg21
 z21:=Tryz.sizeOf21
 v21:=Tryz.zeroValue21
 i21:=by kernel_rfl
 t23:=Tryz.underlying168
 a23:=Tryz.isAgg168
 z23:=Tryz.sizeOf168
 v23:=Tryz.zeroValue168
 i23:=by kernel_rfl}
def Tryz.lays105_ren:Go.Shelf.Ren:=⟨λ|105=>260|212=>272|99=>273|165=>246|166=>247|170=>274|169=>248|263=>280|264=>281|206=>282|240=>262|241=>263|276=>275|277=>276|n=>n,λ|9=>9|3=>3|4=>4|20=>20|0=>0|46=>249|109=>257|5=>5|72=>234|76=>238|51=>264|146=>265|53=>267|148=>268|70=>232|37=>225|75=>237|127=>247|164=>261|80=>240|n=>n,λ|n=>n⟩
theorem Tryz.lays105:Go.Proofs.Lays.n105 Tryz.prog Tryz.lays105_ren:={
 mixed:=by kernel_rfl
 f99:=Tryz.func273.trans (congrArg some (by kernel_rfl))
 f105:=Tryz.func260.trans (congrArg some (by kernel_rfl))
 f165:=Tryz.func246.trans (congrArg some (by kernel_rfl))
 f166:=Tryz.func247.trans (congrArg some (by kernel_rfl))
 f169:=Tryz.func248.trans (congrArg some (by kernel_rfl))
 f170:=Tryz.func274.trans (congrArg some (by kernel_rfl))
 f206:=Tryz.func282.trans (congrArg some (by kernel_rfl))
 f212:=Tryz.func272.trans (congrArg some (by kernel_rfl))
 f240:=Tryz.func262.trans (congrArg some (by kernel_rfl))
 f241:=Tryz.func263.trans (congrArg some (by kernel_rfl))
 f263:=Tryz.func280.trans (congrArg some (by kernel_rfl))
 f264:=Tryz.func281.trans (congrArg some (by kernel_rfl))
 f276:=Tryz.func275.trans (congrArg some (by kernel_rfl))
 f277:=Tryz.func276.trans (congrArg some (by kernel_rfl))
 t0:=Tryz.underlying0
 a0:=Tryz.isAgg0
 z0:=Tryz.sizeOf0
 v0:=Tryz.zeroValue0
 t3:=Tryz.underlying3
 a3:=Tryz.isAgg3
 z3:=Tryz.sizeOf3
 v3:=Tryz.zeroValue3
 t4:=Tryz.underlying4
 a4:=Tryz.isAgg4
 z4:=Tryz.sizeOf4
 v4:=Tryz.zeroValue4
 t5:=Tryz.underlying5
 a5:=Tryz.isAgg5
 z5:=Tryz.sizeOf5
 v5:=Tryz.zeroValue5
 t9:=Tryz.underlying9
 a9:=Tryz.isAgg9
 z9:=Tryz.sizeOf9
 v9:=Tryz.zeroValue9
 t20:=Tryz.underlying20
 a20:=Tryz.isAgg20
 z20:=Tryz.sizeOf20
 v20:=Tryz.zeroValue20
 t37:=Tryz.underlying225
 a37:=Tryz.isAgg225
 z37:=Tryz.sizeOf225
 v37:=Tryz.zeroValue225
 t46:=Tryz.underlying249
 a46:=Tryz.isAgg249
 z46:=Tryz.sizeOf249
 v46:=Tryz.zeroValue249
 t51:=Tryz.underlying264
 a51:=Tryz.isAgg264
 z51:=Tryz.sizeOf264
 v51:=Tryz.zeroValue264
 t53:=Tryz.underlying267
 a53:=Tryz.isAgg267
 z53:=Tryz.sizeOf267
 v53:=Tryz.zeroValue267
 t70:=Tryz.underlying232
 a70:=Tryz.isAgg232
 z70:=Tryz.sizeOf232
 v70:=Tryz.zeroValue232
 t72:=Tryz.underlying234
 a72:=Tryz.isAgg234
 z72:=Tryz.sizeOf234
 v72:=Tryz.zeroValue234
 t75:=Tryz.underlying237
 a75:=Tryz.isAgg237
 z75:=Tryz.sizeOf237
 v75:=Tryz.zeroValue237
 t76:=Tryz.underlying238
 a76:=Tryz.isAgg238
 z76:=Tryz.sizeOf238
 v76:=Tryz.zeroValue238
 t109:=Tryz.underlying257
 a109:=Tryz.isAgg257
 z109:=Tryz.sizeOf257
 v109:=Tryz.zeroValue257
 t127:=Tryz.underlying247
 a127:=Tryz.isAgg247
 z127:=Tryz.sizeOf247
 v127:=Tryz.zeroValue247
 t146:=Tryz.underlying265
 a146:=Tryz.isAgg265
 z146:=Tryz.sizeOf265
 v146:=Tryz.zeroValue265
 t148:=Tryz.underlying268
 a148:=Tryz.isAgg268
 z148:=Tryz.sizeOf268
 v148:=Tryz.zeroValue268
 t164:=Tryz.underlying261
 a164:=Tryz.isAgg261
 z164:=Tryz.sizeOf261
 v164:=Tryz.zeroValue261}
theorem Tryz.Builder_Extra_105:Builder.Extra Tryz.prog Tryz.lays105_ren:={
 sizeBuilder:=by kernel_rfl
 liesBuilder:=by kernel_rfl
 t5:=Tryz.underlying5
 a5:=Tryz.isAgg5
 z5:=Tryz.sizeOf5
 v5:=Tryz.zeroValue5
 infoByte:=by kernel_rfl
 cellsByte:=by kernel_rfl
 sizeByte:=by kernel_rfl
 neB5:=by decide}
open Go.RowKit Go.Lib in
theorem Tryz.strings_Repeat (s:ByteArray) (c:Nat) (w:World) (hc:c<=9223372036854775807) (hlen:s.size*c<=140737488355328):
  Calls Tryz.prog 260 #[.string s,.int .i64 c] w λe w'=>e= .returned (.string ⟨(Lib.repeatL s.data.toList c).toArray⟩)/\Below w.heap.size w w':=Any.strings_Repeat Tryz.lays105 Tryz.Builder_Extra_105 s c w hc hlen
end Go.Proofs
