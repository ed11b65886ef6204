/-
  DERIVED: THE SHELF's CONTRACTS AT THIS DUMP, IN PLAIN WORDS (tools/lay-plain.mjs out of 'TryzShelf.lean', which tools/lay-shelf.mjs wrote): THE SAME DECLARATIONS UNDER THE SAME NAMES: 'import', 'namespace', 'open', 'def', 'theorem' AND NOTHING ELSE: no command of the shelf's: FOR A HAND-IN. Each laying: the table of numbers ('.._ren') and one theorem, a field a fact of the dump's own or the kernel's comparison; each contract: ONE APPLICATION.
-/
import Derived.Shelf.Strings.Builder1
import Derived.Shelf.Strings.Builder2
import Derived.Shelf.Strings.OnBuilder
import Derived.Shelf.Strings.Trim
import Derived.Shelf.Small.Utf8
import Derived.Shelf.Small.Strs
import Derived.Shelf.Strings.BuilderF
import Derived.Shelf.Utf8.RuneCount
import Derived.Shelf.Strconv.Itoa0
import Derived.Shelf.Strconv.Itoa1
import Derived.Shelf.LaysM
import Derived.Shelf.Strconv.Itoa2
import Derived.Shelf.Strconv.Itoa3
import Derived.Shelf.Strings.Search1
import Derived.Shelf.Strings.Search2
import Derived.Shelf.Strings.Search3
import Derived.Shelf.Strings.Count
import Derived.Shelf.Strings.Shaped
import Derived.Shelf.GgClosure.StringsIndexFunc
import Derived.Ground.GgwProg
import Derived.Shelf.GgClosure.StringsIndexFuncTop
import Derived.Shelf.GgClosure.StringsRunes
import Derived.Shelf.Strings.Prefix
import Derived.Shelf.Strings.Split
import Derived.Shelf.Strings.SplitShaped
import Derived.Shelf.Unicode.Decode
import Derived.Shelf.Strings.Runes
import Derived.Shelf.Strings.RuneCount
import Derived.Shelf.Strings.AsciiSet
import Derived.Shelf.Strings.Explode
import Derived.Shelf.Bits.Mul64
import Derived.Shelf.Strings.Repeat
import Derived.Shelf.Unicode.DecodeSlow
import Derived.Shelf.Unicode.DecodeAny
import Derived.Shelf.Unicode.DecodeLast
import Derived.Shelf.Strings.FuncGrows
import Derived.Ground.Names2Prog
import Derived.Shelf.Slices.Clone
import Derived.Ground.SlgnProg
import Derived.Shelf.SlicesE.Clone
import Derived.Test.YtjolkfjccojnnaaGreatDoorProg
namespace Go.Proofs
open Go.Shelf
set_option linter.unusedSimpArgs false
set_option linter.unusedVariables false
def Tryz.lays156_ren:Go.Shelf.Ren:=⟨λ|156=>225|165=>256|166=>257|169=>258|240=>277|241=>278|276=>295|277=>296|n=>n,λ|31=>29|9=>9|3=>3|4=>4|0=>0|20=>20|72=>225|76=>229|70=>223|37=>215|75=>228|127=>246|164=>267|5=>5|80=>231|n=>n,λ|n=>n⟩
theorem Tryz.lays156:Go.Proofs.Lays.n156 Tryz.prog Tryz.lays156_ren:={
 mixed:=by kernel_rfl
 f156:=Tryz.func225.trans (congrArg some (by kernel_rfl))
 f165:=Tryz.func256.trans (congrArg some (by kernel_rfl))
 f166:=Tryz.func257.trans (congrArg some (by kernel_rfl))
 f169:=Tryz.func258.trans (congrArg some (by kernel_rfl))
 f240:=Tryz.func277.trans (congrArg some (by kernel_rfl))
 f241:=Tryz.func278.trans (congrArg some (by kernel_rfl))
 f276:=Tryz.func295.trans (congrArg some (by kernel_rfl))
 f277:=Tryz.func296.trans (congrArg some (by kernel_rfl))
 t0:=Tryz.underlying0
 a0:=Tryz.isAgg0
 z0:=Tryz.sizeOf0
 v0:=Tryz.zeroValue0
 t3:=Tryz.underlying3
 a3:=Tryz.isAgg3
 z3:=Tryz.sizeOf3
 v3:=Tryz.zeroValue3
 t4:=Tryz.underlying4
 a4:=Tryz.isAgg4
 z4:=Tryz.sizeOf4
 v4:=Tryz.zeroValue4
 t9:=Tryz.underlying9
 a9:=Tryz.isAgg9
 z9:=Tryz.sizeOf9
 v9:=Tryz.zeroValue9
 t20:=Tryz.underlying20
 a20:=Tryz.isAgg20
 z20:=Tryz.sizeOf20
 v20:=Tryz.zeroValue20
 t31:=Tryz.underlying29
 a31:=Tryz.isAgg29
 z31:=Tryz.sizeOf29
 v31:=Tryz.zeroValue29
 t37:=Tryz.underlying215
 a37:=Tryz.isAgg215
 z37:=Tryz.sizeOf215
 v37:=Tryz.zeroValue215
 t70:=Tryz.underlying223
 a70:=Tryz.isAgg223
 z70:=Tryz.sizeOf223
 v70:=Tryz.zeroValue223
 t72:=Tryz.underlying225
 a72:=Tryz.isAgg225
 z72:=Tryz.sizeOf225
 v72:=Tryz.zeroValue225
 t75:=Tryz.underlying228
 a75:=Tryz.isAgg228
 z75:=Tryz.sizeOf228
 v75:=Tryz.zeroValue228
 t76:=Tryz.underlying229
 a76:=Tryz.isAgg229
 z76:=Tryz.sizeOf229
 v76:=Tryz.zeroValue229
 t127:=Tryz.underlying246
 a127:=Tryz.isAgg246
 z127:=Tryz.sizeOf246
 v127:=Tryz.zeroValue246
 t164:=Tryz.underlying267
 a164:=Tryz.isAgg267
 z164:=Tryz.sizeOf267
 v164:=Tryz.zeroValue267}
theorem Tryz.Builder_Extra_156:Builder.Extra Tryz.prog Tryz.lays156_ren:={
 sizeBuilder:=by kernel_rfl
 liesBuilder:=by kernel_rfl
 t5:=Tryz.underlying5
 a5:=Tryz.isAgg5
 z5:=Tryz.sizeOf5
 v5:=Tryz.zeroValue5
 infoByte:=by kernel_rfl
 cellsByte:=by kernel_rfl
 sizeByte:=by kernel_rfl
 neB5:=by decide}
open Go.RowKit in
theorem Tryz.strings_Join_none (a:Option Addr) (c:Nat) (sep:ByteArray) (w:World):
  Calls Tryz.prog 225 #[.slice a 0 c,.string sep] w λe w'=>e= .returned (.string ⟨#[]⟩)/\w'=w:=Any.strings_Join_none Tryz.lays156 Tryz.Builder_Extra_156 a c sep w
open Go.RowKit in
theorem Tryz.strings_Join (bk o c:Nat) (xs:List ByteArray) (sep:ByteArray) (w:World) (hcells:∀(j:Nat) x,xs[j]? =some x->w.cell? ⟨bk,o+j,none⟩=some (.string x)) (hbk:bk<w.heap.size) (hN:xs.length<=140737488355328) (hcap:xs.length<=c) (hlen:(Lib.join (xs.map (·.data.toList)) sep.data.toList).length<=140737488355328):
  Calls Tryz.prog 225 #[.slice (some ⟨bk,o,none⟩) xs.length c,.string sep] w λe w'=>e= .returned (.string ⟨(Lib.join (xs.map (·.data.toList)) sep.data.toList).toArray⟩)/\Below w.heap.size w w':=Any.strings_Join Tryz.lays156 Tryz.Builder_Extra_156 bk o c xs sep w hcells hbk hN hcap hlen
def Tryz.lays160_ren:Go.Shelf.Ren:=⟨λ|160=>153|232=>197|231=>196|227=>198|234=>200|233=>199|236=>202|235=>201|228=>232|271=>235|151=>234|197=>233|120=>264|152=>263|260=>262|137=>280|119=>281|224=>282|225=>283|217=>297|266=>304|n=>n,λ|9=>9|4=>4|3=>3|5=>5|117=>185|116=>184|0=>0|124=>188|21=>21|105=>208|46=>252|119=>251|139=>255|138=>254|n=>n,λ|3=>3|4=>4|n=>n⟩
theorem Tryz.lays160:Go.Proofs.Lays.n160 Tryz.prog Tryz.lays160_ren:={
 mixed:=by kernel_rfl
 f119:=Tryz.func281.trans (congrArg some (by kernel_rfl))
 f120:=Tryz.func264.trans (congrArg some (by kernel_rfl))
 f137:=Tryz.func280.trans (congrArg some (by kernel_rfl))
 f151:=Tryz.func234.trans (congrArg some (by kernel_rfl))
 f152:=Tryz.func263.trans (congrArg some (by kernel_rfl))
 f160:=Tryz.func153.trans (congrArg some (by kernel_rfl))
 f197:=Tryz.func233.trans (congrArg some (by kernel_rfl))
 f217:=Tryz.func297.trans (congrArg some (by kernel_rfl))
 f224:=Tryz.func282.trans (congrArg some (by kernel_rfl))
 f225:=Tryz.func283.trans (congrArg some (by kernel_rfl))
 f227:=Tryz.func198.trans (congrArg some (by kernel_rfl))
 f228:=Tryz.func232.trans (congrArg some (by kernel_rfl))
 f231:=Tryz.func196.trans (congrArg some (by kernel_rfl))
 f232:=Tryz.func197.trans (congrArg some (by kernel_rfl))
 f233:=Tryz.func199.trans (congrArg some (by kernel_rfl))
 f234:=Tryz.func200.trans (congrArg some (by kernel_rfl))
 f235:=Tryz.func201.trans (congrArg some (by kernel_rfl))
 f236:=Tryz.func202.trans (congrArg some (by kernel_rfl))
 f260:=Tryz.func262.trans (congrArg some (by kernel_rfl))
 f266:=Tryz.func304.trans (congrArg some (by kernel_rfl))
 f271:=Tryz.func235.trans (congrArg some (by kernel_rfl))
 t0:=Tryz.underlying0
 a0:=Tryz.isAgg0
 z0:=Tryz.sizeOf0
 v0:=Tryz.zeroValue0
 t3:=Tryz.underlying3
 a3:=Tryz.isAgg3
 z3:=Tryz.sizeOf3
 v3:=Tryz.zeroValue3
 t4:=Tryz.underlying4
 a4:=Tryz.isAgg4
 z4:=Tryz.sizeOf4
 v4:=Tryz.zeroValue4
 t5:=Tryz.underlying5
 a5:=Tryz.isAgg5
 z5:=Tryz.sizeOf5
 v5:=Tryz.zeroValue5
 t9:=Tryz.underlying9
 a9:=Tryz.isAgg9
 z9:=Tryz.sizeOf9
 v9:=Tryz.zeroValue9
 t21:=Tryz.underlying21
 a21:=Tryz.isAgg21
 z21:=Tryz.sizeOf21
 v21:=Tryz.zeroValue21
 t46:=Tryz.underlying252
 a46:=Tryz.isAgg252
 z46:=Tryz.sizeOf252
 v46:=Tryz.zeroValue252
 t105:=Tryz.underlying208
 a105:=Tryz.isAgg208
 z105:=Tryz.sizeOf208
 v105:=Tryz.zeroValue208
 t116:=Tryz.underlying184
 a116:=Tryz.isAgg184
 z116:=Tryz.sizeOf184
 t117:=Tryz.underlying185
 a117:=Tryz.isAgg185
 z117:=Tryz.sizeOf185
 v117:=Tryz.zeroValue185
 t119:=Tryz.underlying251
 a119:=Tryz.isAgg251
 z119:=Tryz.sizeOf251
 t124:=Tryz.underlying188
 a124:=Tryz.isAgg188
 z124:=Tryz.sizeOf188
 v124:=Tryz.zeroValue188
 t138:=Tryz.underlying254
 a138:=Tryz.isAgg254
 z138:=Tryz.sizeOf254
 v138:=Tryz.zeroValue254
 t139:=Tryz.underlying255
 a139:=Tryz.isAgg255
 z139:=Tryz.sizeOf255
 v139:=Tryz.zeroValue255
 g3:=by kernel_rfl
 g4:=by kernel_rfl}
def Tryz.laysGw15_ren:Go.Shelf.Ren:=⟨λ|15=>217|20=>243|n=>n,λ|9=>9|23=>180|3=>3|4=>4|0=>0|21=>21|n=>n,λ|n=>n⟩
theorem Tryz.laysGw15:Go.Proofs.LaysGw.n15 Tryz.prog Tryz.laysGw15_ren:={
 mixed:=by kernel_rfl
 f15:=Tryz.func217.trans (congrArg some (by kernel_rfl))
 f20:=Tryz.func243.trans (congrArg some (by kernel_rfl))
 t0:=Tryz.underlying0
 a0:=Tryz.isAgg0
 z0:=Tryz.sizeOf0
 v0:=Tryz.zeroValue0
 i0:=by kernel_rfl
 t3:=Tryz.underlying3
 a3:=Tryz.isAgg3
 z3:=Tryz.sizeOf3
 v3:=Tryz.zeroValue3
 i3:=by kernel_rfl
 t4:=Tryz.underlying4
 a4:=Tryz.isAgg4
 z4:=Tryz.sizeOf4
 v4:=Tryz.zeroValue4
 i4:=by kernel_rfl
 t9:=Tryz.underlying9
 a9:=Tryz.isAgg9
 z9:=Tryz.sizeOf9
 v9:=Tryz.zeroValue9
 i9:=by kernel_rfl
 t21:=Tryz.underlying21
 a21:=Tryz.isAgg21
 z21:=Tryz.sizeOf21
 v21:=Tryz.zeroValue21
 i21:=by kernel_rfl
 t23:=Tryz.underlying180
 a23:=Tryz.isAgg180
 z23:=Tryz.sizeOf180
 v23:=Tryz.zeroValue180
 i23:=by kernel_rfl}
def Tryz.laysGw17_ren:Go.Shelf.Ren:=⟨λ|17=>195|15=>217|20=>243|n=>n,λ|9=>9|23=>180|4=>4|3=>3|0=>0|21=>21|n=>n,λ|n=>n⟩
theorem Tryz.laysGw17:Go.Proofs.LaysGw.n17 Tryz.prog Tryz.laysGw17_ren:={
 mixed:=by kernel_rfl
 f15:=Tryz.func217.trans (congrArg some (by kernel_rfl))
 f17:=Tryz.func195.trans (congrArg some (by kernel_rfl))
 f20:=Tryz.func243.trans (congrArg some (by kernel_rfl))
 t0:=Tryz.underlying0
 a0:=Tryz.isAgg0
 z0:=Tryz.sizeOf0
 v0:=Tryz.zeroValue0
 i0:=by kernel_rfl
 t3:=Tryz.underlying3
 a3:=Tryz.isAgg3
 z3:=Tryz.sizeOf3
 v3:=Tryz.zeroValue3
 i3:=by kernel_rfl
 t4:=Tryz.underlying4
 a4:=Tryz.isAgg4
 z4:=Tryz.sizeOf4
 v4:=Tryz.zeroValue4
 i4:=by kernel_rfl
 t9:=Tryz.underlying9
 a9:=Tryz.isAgg9
 z9:=Tryz.sizeOf9
 v9:=Tryz.zeroValue9
 i9:=by kernel_rfl
 t21:=Tryz.underlying21
 a21:=Tryz.isAgg21
 z21:=Tryz.sizeOf21
 v21:=Tryz.zeroValue21
 i21:=by kernel_rfl
 t23:=Tryz.underlying180
 a23:=Tryz.isAgg180
 z23:=Tryz.sizeOf180
 v23:=Tryz.zeroValue180
 i23:=by kernel_rfl}
def Tryz.lays105_ren:Go.Shelf.Ren:=⟨λ|105=>274|212=>292|99=>293|165=>256|166=>257|170=>294|169=>258|263=>301|264=>302|206=>303|240=>277|241=>278|276=>295|277=>296|n=>n,λ|9=>9|3=>3|4=>4|20=>20|0=>0|46=>252|109=>262|5=>5|72=>225|76=>229|51=>259|146=>271|53=>238|148=>273|70=>223|37=>215|75=>228|127=>246|164=>267|80=>231|n=>n,λ|n=>n⟩
theorem Tryz.lays105:Go.Proofs.Lays.n105 Tryz.prog Tryz.lays105_ren:={
 mixed:=by kernel_rfl
 f99:=Tryz.func293.trans (congrArg some (by kernel_rfl))
 f105:=Tryz.func274.trans (congrArg some (by kernel_rfl))
 f165:=Tryz.func256.trans (congrArg some (by kernel_rfl))
 f166:=Tryz.func257.trans (congrArg some (by kernel_rfl))
 f169:=Tryz.func258.trans (congrArg some (by kernel_rfl))
 f170:=Tryz.func294.trans (congrArg some (by kernel_rfl))
 f206:=Tryz.func303.trans (congrArg some (by kernel_rfl))
 f212:=Tryz.func292.trans (congrArg some (by kernel_rfl))
 f240:=Tryz.func277.trans (congrArg some (by kernel_rfl))
 f241:=Tryz.func278.trans (congrArg some (by kernel_rfl))
 f263:=Tryz.func301.trans (congrArg some (by kernel_rfl))
 f264:=Tryz.func302.trans (congrArg some (by kernel_rfl))
 f276:=Tryz.func295.trans (congrArg some (by kernel_rfl))
 f277:=Tryz.func296.trans (congrArg some (by kernel_rfl))
 t0:=Tryz.underlying0
 a0:=Tryz.isAgg0
 z0:=Tryz.sizeOf0
 v0:=Tryz.zeroValue0
 t3:=Tryz.underlying3
 a3:=Tryz.isAgg3
 z3:=Tryz.sizeOf3
 v3:=Tryz.zeroValue3
 t4:=Tryz.underlying4
 a4:=Tryz.isAgg4
 z4:=Tryz.sizeOf4
 v4:=Tryz.zeroValue4
 t5:=Tryz.underlying5
 a5:=Tryz.isAgg5
 z5:=Tryz.sizeOf5
 v5:=Tryz.zeroValue5
 t9:=Tryz.underlying9
 a9:=Tryz.isAgg9
 z9:=Tryz.sizeOf9
 v9:=Tryz.zeroValue9
 t20:=Tryz.underlying20
 a20:=Tryz.isAgg20
 z20:=Tryz.sizeOf20
 v20:=Tryz.zeroValue20
 t37:=Tryz.underlying215
 a37:=Tryz.isAgg215
 z37:=Tryz.sizeOf215
 v37:=Tryz.zeroValue215
 t46:=Tryz.underlying252
 a46:=Tryz.isAgg252
 z46:=Tryz.sizeOf252
 v46:=Tryz.zeroValue252
 t51:=Tryz.underlying259
 a51:=Tryz.isAgg259
 z51:=Tryz.sizeOf259
 v51:=Tryz.zeroValue259
 t53:=Tryz.underlying238
 a53:=Tryz.isAgg238
 z53:=Tryz.sizeOf238
 v53:=Tryz.zeroValue238
 t70:=Tryz.underlying223
 a70:=Tryz.isAgg223
 z70:=Tryz.sizeOf223
 v70:=Tryz.zeroValue223
 t72:=Tryz.underlying225
 a72:=Tryz.isAgg225
 z72:=Tryz.sizeOf225
 v72:=Tryz.zeroValue225
 t75:=Tryz.underlying228
 a75:=Tryz.isAgg228
 z75:=Tryz.sizeOf228
 v75:=Tryz.zeroValue228
 t76:=Tryz.underlying229
 a76:=Tryz.isAgg229
 z76:=Tryz.sizeOf229
 v76:=Tryz.zeroValue229
 t109:=Tryz.underlying262
 a109:=Tryz.isAgg262
 z109:=Tryz.sizeOf262
 v109:=Tryz.zeroValue262
 t127:=Tryz.underlying246
 a127:=Tryz.isAgg246
 z127:=Tryz.sizeOf246
 v127:=Tryz.zeroValue246
 t146:=Tryz.underlying271
 a146:=Tryz.isAgg271
 z146:=Tryz.sizeOf271
 v146:=Tryz.zeroValue271
 t148:=Tryz.underlying273
 a148:=Tryz.isAgg273
 z148:=Tryz.sizeOf273
 v148:=Tryz.zeroValue273
 t164:=Tryz.underlying267
 a164:=Tryz.isAgg267
 z164:=Tryz.sizeOf267
 v164:=Tryz.zeroValue267}
theorem Tryz.Builder_Extra_105:Builder.Extra Tryz.prog Tryz.lays105_ren:={
 sizeBuilder:=by kernel_rfl
 liesBuilder:=by kernel_rfl
 t5:=Tryz.underlying5
 a5:=Tryz.isAgg5
 z5:=Tryz.sizeOf5
 v5:=Tryz.zeroValue5
 infoByte:=by kernel_rfl
 cellsByte:=by kernel_rfl
 sizeByte:=by kernel_rfl
 neB5:=by decide}
open Go.RowKit Go.Lib in
theorem Tryz.strings_Repeat (s:ByteArray) (c:Nat) (w:World) (hc:c<=9223372036854775807) (hlen:s.size*c<=140737488355328):
  Calls Tryz.prog 274 #[.string s,.int .i64 c] w λe w'=>e= .returned (.string ⟨(Lib.repeatL s.data.toList c).toArray⟩)/\Below w.heap.size w w':=Any.strings_Repeat Tryz.lays105 Tryz.Builder_Extra_105 s c w hc hlen
end Go.Proofs
