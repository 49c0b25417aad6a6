/-
  DERIVED: THE SHELF's CONTRACTS AT THIS DUMP, IN PLAIN WORDS (tools/lay-plain.mjs out of 'TryzShelfCut.lean', which tools/lay-shelf.mjs wrote): THE SAME DECLARATIONS UNDER THE SAME NAMES: 'import', 'namespace', 'open', 'def', 'theorem' AND NOTHING ELSE: no command of the shelf's: FOR A HAND-IN. Each laying: the table of numbers ('.._ren') and one theorem, a field a fact of the dump's own or the kernel's comparison; each contract: ONE APPLICATION.
-/
import Derived.Shelf.Strings.Builder1
import Derived.Shelf.Strings.Builder2
import Derived.Shelf.Strings.OnBuilder
import Derived.Shelf.Small.Utf8
import Derived.Shelf.Small.Strs
import Derived.Shelf.Small.Wraps
import Derived.Shelf.Strings.BuilderF
import Derived.Shelf.Strings.BuilderK
import Derived.Shelf.Strings.Builder2Cap
import Derived.Shelf.Strconv.Atoi
import Derived.Shelf.Strconv.Itoa0
import Derived.Shelf.Strconv.Itoa1
import Derived.Shelf.LaysM
import Derived.Shelf.Strconv.Itoa2
import Derived.Shelf.Strconv.Itoa3
import Derived.Shelf.Strconv.AtoiErrFast
import Derived.Shelf.Strconv.ParseIntEmpty
import Derived.Shelf.Strconv.AtoiFail
import Derived.Shelf.Strconv.Clone
import Derived.Shelf.Strconv.SyntaxError
import Derived.Shelf.LaysC
import Derived.Shelf.Strconv.ToError
import Derived.Shelf.Strconv.Lower
import Derived.Shelf.Strconv.ParseUint10
import Derived.Shelf.Strconv.ParseUint10Empty
import Derived.Shelf.Strconv.ParseUint10Any
import Derived.Shelf.Strconv.ParseInt10
import Derived.Shelf.Strconv.AtoiLong
import Derived.Shelf.Strconv.AtoiInnerAll
import Derived.Shelf.Strconv.RangeError
import Derived.Shelf.Strconv.ToErrorRange
import Derived.Shelf.Strconv.AtoiAll
import Derived.Shelf.Strconv.ErrVarAll
import Derived.Shelf.Strconv.ParseUintEmpty
import Derived.Shelf.Strconv.ParseUint10b64
import Derived.Shelf.Strconv.ParseUint10b32
import Derived.Shelf.Strconv.ParseUint10b16
import Derived.Shelf.Strconv.ParseUint10b8
import Derived.Shelf.Strings.Search1
import Derived.Shelf.Strings.Search2
import Derived.Shelf.Strings.Search3
import Derived.Shelf.Strings.Shaped
import Derived.Shelf.GgClosure.StringsIndexFunc
import Derived.Ground.GgwProg
import Derived.Shelf.GgClosure.StringsIndexFuncTop
import Derived.Shelf.GgClosure.StringsRunes
import Derived.Shelf.Strings.Prefix
import Derived.Shelf.Unicode.Decode
import Derived.Shelf.Strings.Runes
import Derived.Shelf.Strings.IndexAny
import Derived.Shelf.Strings.AsciiSet
import Derived.Shelf.Strings.IndexAnyAll
import Derived.Shelf.Unicode.DecodeSlow
import Derived.Shelf.Unicode.DecodeAny
import Derived.Shelf.Slices.Turned
import Derived.Ground.Names2Prog
import Derived.Shelf.Slices.Clone
import Derived.Ground.SlgnProg
import Derived.Shelf.SlicesE.Clone
import Derived.Test.YtljnahbgfmflaaaGreatDoorProg
set_option linter.unusedVariables false
set_option linter.unusedSimpArgs false
set_option linter.unnecessarySimpa false
namespace Go.Proofs
open Go.Shelf
def Tryz.lays156_ren:Go.Shelf.Ren:=⟨fun|156=>172|165=>203|166=>204|169=>205|240=>237|241=>238|276=>268|277=>269|n=>n,fun|31=>47|9=>9|3=>3|4=>4|0=>0|20=>20|72=>227|76=>205|70=>224|37=>225|75=>204|127=>261|164=>289|5=>5|80=>164|n=>n,fun|n=>n⟩
theorem Tryz.lays156:Go.Proofs.Lays.n156 Tryz.prog Tryz.lays156_ren:={
 mixed:=by kernel_rfl
 f156:=Tryz.func172.trans (congrArg some (by kernel_rfl))
 f165:=Tryz.func203.trans (congrArg some (by kernel_rfl))
 f166:=Tryz.func204.trans (congrArg some (by kernel_rfl))
 f169:=Tryz.func205.trans (congrArg some (by kernel_rfl))
 f240:=Tryz.func237.trans (congrArg some (by kernel_rfl))
 f241:=Tryz.func238.trans (congrArg some (by kernel_rfl))
 f276:=Tryz.func268.trans (congrArg some (by kernel_rfl))
 f277:=Tryz.func269.trans (congrArg some (by kernel_rfl))
 t0:=Tryz.underlying0
 a0:=Tryz.isAgg0
 z0:=Tryz.sizeOf0
 v0:=Tryz.zeroValue0
 t3:=Tryz.underlying3
 a3:=Tryz.isAgg3
 z3:=Tryz.sizeOf3
 v3:=Tryz.zeroValue3
 t4:=Tryz.underlying4
 a4:=Tryz.isAgg4
 z4:=Tryz.sizeOf4
 v4:=Tryz.zeroValue4
 t9:=Tryz.underlying9
 a9:=Tryz.isAgg9
 z9:=Tryz.sizeOf9
 v9:=Tryz.zeroValue9
 t20:=Tryz.underlying20
 a20:=Tryz.isAgg20
 z20:=Tryz.sizeOf20
 v20:=Tryz.zeroValue20
 t31:=Tryz.underlying47
 a31:=Tryz.isAgg47
 z31:=Tryz.sizeOf47
 v31:=Tryz.zeroValue47
 t37:=Tryz.underlying225
 a37:=Tryz.isAgg225
 z37:=Tryz.sizeOf225
 v37:=Tryz.zeroValue225
 t70:=Tryz.underlying224
 a70:=Tryz.isAgg224
 z70:=Tryz.sizeOf224
 v70:=Tryz.zeroValue224
 t72:=Tryz.underlying227
 a72:=Tryz.isAgg227
 z72:=Tryz.sizeOf227
 v72:=Tryz.zeroValue227
 t75:=Tryz.underlying204
 a75:=Tryz.isAgg204
 z75:=Tryz.sizeOf204
 v75:=Tryz.zeroValue204
 t76:=Tryz.underlying205
 a76:=Tryz.isAgg205
 z76:=Tryz.sizeOf205
 v76:=Tryz.zeroValue205
 t127:=Tryz.underlying261
 a127:=Tryz.isAgg261
 z127:=Tryz.sizeOf261
 v127:=Tryz.zeroValue261
 t164:=Tryz.underlying289
 a164:=Tryz.isAgg289
 z164:=Tryz.sizeOf289
 v164:=Tryz.zeroValue289 }
theorem Tryz.Builder_Extra_156:Builder.Extra Tryz.prog Tryz.lays156_ren:={
 sizeBuilder:=by kernel_rfl
 liesBuilder:=by kernel_rfl
 t5:=Tryz.underlying5
 a5:=Tryz.isAgg5
 z5:=Tryz.sizeOf5
 v5:=Tryz.zeroValue5
 infoByte:=by kernel_rfl
 cellsByte:=by kernel_rfl
 sizeByte:=by kernel_rfl
 neB5:=by decide }
open Go.RowKit in
theorem Tryz.strings_Join_none (a:Option Addr) (c:Nat) (sep:ByteArray) (w:World) :
  Calls Tryz.prog 172 #[.slice a 0 c,.string sep] w fun e w'=>e = .returned (.string ⟨#[]⟩)∧w'=w:=Any.strings_Join_none Tryz.lays156 Tryz.Builder_Extra_156 a c sep w
open Go.RowKit in
theorem Tryz.strings_Join (bk o c:Nat) (xs:List ByteArray) (sep:ByteArray) (w:World) (hcells:∀ (j:Nat) x,xs[j]? = some x→w.cell? ⟨bk,o + j,none⟩=some (.string x)) (hbk:bk < w.heap.size) (hN:xs.length ≤ 140737488355328) (hcap:xs.length ≤ c) (hlen:(Lib.join (xs.map (·.data.toList)) sep.data.toList).length ≤ 140737488355328) :
  Calls Tryz.prog 172 #[.slice (some ⟨bk,o,none⟩) xs.length c,.string sep] w fun e w'=>e = .returned (.string ⟨(Lib.join (xs.map (·.data.toList)) sep.data.toList).toArray⟩)∧Below w.heap.size w w':=Any.strings_Join Tryz.lays156 Tryz.Builder_Extra_156 bk o c xs sep w hcells hbk hN hcap hlen
def Tryz.lays103_ren:Go.Shelf.Ren:=⟨fun|103=>140|210=>187|206=>223|n=>n,fun|9=>9|4=>4|24=>165|3=>3|n=>n,fun|n=>n⟩
theorem Tryz.lays103:Go.Proofs.Lays.n103 Tryz.prog Tryz.lays103_ren:={
 mixed:=by kernel_rfl
 f103:=Tryz.func140.trans (congrArg some (by kernel_rfl))
 f206:=Tryz.func223.trans (congrArg some (by kernel_rfl))
 f210:=Tryz.func187.trans (congrArg some (by kernel_rfl))
 t3:=Tryz.underlying3
 a3:=Tryz.isAgg3
 z3:=Tryz.sizeOf3
 v3:=Tryz.zeroValue3
 t4:=Tryz.underlying4
 a4:=Tryz.isAgg4
 z4:=Tryz.sizeOf4
 v4:=Tryz.zeroValue4
 t9:=Tryz.underlying9
 a9:=Tryz.isAgg9
 z9:=Tryz.sizeOf9
 v9:=Tryz.zeroValue9
 t24:=Tryz.underlying165
 a24:=Tryz.isAgg165
 z24:=Tryz.sizeOf165
 v24:=Tryz.zeroValue165 }
open Go.RowKit in
theorem Tryz.strings_CutPrefix (s p:ByteArray) (w:World) :
  Calls Tryz.prog 140 #[.string s,.string p] w fun e w'=>e = .returned (.tuple #[.string ⟨(Lib.trimPrefix s.data.toList p.data.toList).toArray⟩,.bool (Lib.hasPrefix s.data.toList p.data.toList)])∧w'=w:=Any.strings_CutPrefix Tryz.lays103 s p w
def Tryz.lays172_ren:Go.Shelf.Ren:=⟨fun|172=>188|244=>224|245=>225|247=>256|279=>257|280=>258|281=>259|282=>260|287=>282|316=>283|171=>119|205=>284|321=>300|322=>301|243=>171|246=>202|283=>233|284=>234|285=>235|286=>236|129=>264|317=>263|318=>265|319=>266|320=>267|337=>286|338=>287|n=>n,fun|9=>9|3=>3|75=>204|76=>205|4=>4|5=>5|167=>277|37=>225|0=>0|85=>278|2=>2|168=>280|53=>256|175=>299|46=>275|210=>303|127=>261|145=>314|143=>312|21=>21|171=>255|173=>259|212=>285|51=>286|20=>20|213=>287|232=>317|233=>318|80=>164|n=>n,fun|15=>2|16=>3|17=>0|18=>4|19=>5|n=>n⟩
theorem Tryz.lays172:Go.Proofs.Lays.n172 Tryz.prog Tryz.lays172_ren:={
 mixed:=by kernel_rfl
 f129:=Tryz.func264.trans (congrArg some (by kernel_rfl))
 f171:=Tryz.func119.trans (congrArg some (by kernel_rfl))
 f172:=Tryz.func188.trans (congrArg some (by kernel_rfl))
 f205:=Tryz.func284.trans (congrArg some (by kernel_rfl))
 f243:=Tryz.func171.trans (congrArg some (by kernel_rfl))
 f244:=Tryz.func224.trans (congrArg some (by kernel_rfl))
 f245:=Tryz.func225.trans (congrArg some (by kernel_rfl))
 f246:=Tryz.func202.trans (congrArg some (by kernel_rfl))
 f247:=Tryz.func256.trans (congrArg some (by kernel_rfl))
 f279:=Tryz.func257.trans (congrArg some (by kernel_rfl))
 f280:=Tryz.func258.trans (congrArg some (by kernel_rfl))
 f281:=Tryz.func259.trans (congrArg some (by kernel_rfl))
 f282:=Tryz.func260.trans (congrArg some (by kernel_rfl))
 f283:=Tryz.func233.trans (congrArg some (by kernel_rfl))
 f284:=Tryz.func234.trans (congrArg some (by kernel_rfl))
 f285:=Tryz.func235.trans (congrArg some (by kernel_rfl))
 f286:=Tryz.func236.trans (congrArg some (by kernel_rfl))
 f287:=Tryz.func282.trans (congrArg some (by kernel_rfl))
 f316:=Tryz.func283.trans (congrArg some (by kernel_rfl))
 f317:=Tryz.func263.trans (congrArg some (by kernel_rfl))
 f318:=Tryz.func265.trans (congrArg some (by kernel_rfl))
 f319:=Tryz.func266.trans (congrArg some (by kernel_rfl))
 f320:=Tryz.func267.trans (congrArg some (by kernel_rfl))
 f321:=Tryz.func300.trans (congrArg some (by kernel_rfl))
 f322:=Tryz.func301.trans (congrArg some (by kernel_rfl))
 f337:=Tryz.func286.trans (congrArg some (by kernel_rfl))
 f338:=Tryz.func287.trans (congrArg some (by kernel_rfl))
 t0:=Tryz.underlying0
 a0:=Tryz.isAgg0
 z0:=Tryz.sizeOf0
 v0:=Tryz.zeroValue0
 t2:=Tryz.underlying2
 a2:=Tryz.isAgg2
 z2:=Tryz.sizeOf2
 v2:=Tryz.zeroValue2
 t3:=Tryz.underlying3
 a3:=Tryz.isAgg3
 z3:=Tryz.sizeOf3
 v3:=Tryz.zeroValue3
 t4:=Tryz.underlying4
 a4:=Tryz.isAgg4
 z4:=Tryz.sizeOf4
 v4:=Tryz.zeroValue4
 t5:=Tryz.underlying5
 a5:=Tryz.isAgg5
 z5:=Tryz.sizeOf5
 v5:=Tryz.zeroValue5
 t9:=Tryz.underlying9
 a9:=Tryz.isAgg9
 z9:=Tryz.sizeOf9
 v9:=Tryz.zeroValue9
 t20:=Tryz.underlying20
 a20:=Tryz.isAgg20
 z20:=Tryz.sizeOf20
 v20:=Tryz.zeroValue20
 t21:=Tryz.underlying21
 a21:=Tryz.isAgg21
 z21:=Tryz.sizeOf21
 v21:=Tryz.zeroValue21
 t37:=Tryz.underlying225
 a37:=Tryz.isAgg225
 z37:=Tryz.sizeOf225
 v37:=Tryz.zeroValue225
 t46:=Tryz.underlying275
 a46:=Tryz.isAgg275
 z46:=Tryz.sizeOf275
 v46:=Tryz.zeroValue275
 t51:=Tryz.underlying286
 a51:=Tryz.isAgg286
 z51:=Tryz.sizeOf286
 v51:=Tryz.zeroValue286
 t53:=Tryz.underlying256
 a53:=Tryz.isAgg256
 z53:=Tryz.sizeOf256
 v53:=Tryz.zeroValue256
 t75:=Tryz.underlying204
 a75:=Tryz.isAgg204
 z75:=Tryz.sizeOf204
 v75:=Tryz.zeroValue204
 t76:=Tryz.underlying205
 a76:=Tryz.isAgg205
 z76:=Tryz.sizeOf205
 v76:=Tryz.zeroValue205
 t85:=Tryz.underlying278
 a85:=Tryz.isAgg278
 z85:=Tryz.sizeOf278
 v85:=Tryz.zeroValue278
 t127:=Tryz.underlying261
 a127:=Tryz.isAgg261
 z127:=Tryz.sizeOf261
 v127:=Tryz.zeroValue261
 t143:=Tryz.underlying312
 a143:=Tryz.isAgg312
 z143:=Tryz.sizeOf312
 v143:=Tryz.zeroValue312
 t145:=Tryz.underlying314
 a145:=Tryz.isAgg314
 z145:=Tryz.sizeOf314
 v145:=Tryz.zeroValue314
 t167:=Tryz.underlying277
 a167:=Tryz.isAgg277
 z167:=Tryz.sizeOf277
 v167:=Tryz.zeroValue277
 t168:=Tryz.underlying280
 a168:=Tryz.isAgg280
 z168:=Tryz.sizeOf280
 v168:=Tryz.zeroValue280
 t171:=Tryz.underlying255
 a171:=Tryz.isAgg255
 z171:=Tryz.sizeOf255
 v171:=Tryz.zeroValue255
 t173:=Tryz.underlying259
 a173:=Tryz.isAgg259
 z173:=Tryz.sizeOf259
 v173:=Tryz.zeroValue259
 t175:=Tryz.underlying299
 a175:=Tryz.isAgg299
 z175:=Tryz.sizeOf299
 v175:=Tryz.zeroValue299
 t210:=Tryz.underlying303
 a210:=Tryz.isAgg303
 z210:=Tryz.sizeOf303
 v210:=Tryz.zeroValue303
 t212:=Tryz.underlying285
 a212:=Tryz.isAgg285
 z212:=Tryz.sizeOf285
 v212:=Tryz.zeroValue285
 t213:=Tryz.underlying287
 a213:=Tryz.isAgg287
 z213:=Tryz.sizeOf287
 t232:=Tryz.underlying317
 a232:=Tryz.isAgg317
 z232:=Tryz.sizeOf317
 v232:=Tryz.zeroValue317
 t233:=Tryz.underlying318
 a233:=Tryz.isAgg318
 z233:=Tryz.sizeOf318
 v233:=Tryz.zeroValue318
 g15:=by kernel_rfl
 g16:=by kernel_rfl
 g17:=by kernel_rfl
 g18:=by kernel_rfl
 g19:=by kernel_rfl }
open Go.RowKit in
theorem Tryz.strconv_Atoi (s:ByteArray) (n:Int) (hl:s.size ≤ 18) (h:Lib.atoi s.data.toList=some n) (w:World) :
  Calls Tryz.prog 188 #[.string s] w fun e w'=>e = .returned (.tuple #[.int .i64 n,.nilIface])∧∃ t,w'=Lib.bytesWorld w 5 t:=Any.strconv_Atoi Tryz.lays172 s n hl h w
def Tryz.laysM171_ren:Go.Shelf.Ren:=⟨fun|171=>119|243=>171|246=>202|283=>233|284=>234|285=>235|286=>236|129=>264|317=>263|318=>265|319=>266|320=>267|337=>286|338=>287|n=>n,fun|3=>3|9=>9|2=>2|4=>4|171=>255|0=>0|53=>256|37=>225|5=>5|173=>259|212=>285|51=>286|20=>20|213=>287|46=>275|232=>317|233=>318|n=>n,fun|17=>0|18=>4|19=>5|n=>n⟩
theorem Tryz.laysM171:Go.Proofs.LaysM.n171 Tryz.prog Tryz.laysM171_ren:={
 mixed:=by kernel_rfl
 f129:=Tryz.func264.trans (congrArg some (by kernel_rfl))
 f171:=Tryz.func119.trans (congrArg some (by kernel_rfl))
 f243:=Tryz.func171.trans (congrArg some (by kernel_rfl))
 f246:=Tryz.func202.trans (congrArg some (by kernel_rfl))
 f283:=Tryz.func233.trans (congrArg some (by kernel_rfl))
 f284:=Tryz.func234.trans (congrArg some (by kernel_rfl))
 f285:=Tryz.func235.trans (congrArg some (by kernel_rfl))
 f286:=Tryz.func236.trans (congrArg some (by kernel_rfl))
 f317:=Tryz.func263.trans (congrArg some (by kernel_rfl))
 f318:=Tryz.func265.trans (congrArg some (by kernel_rfl))
 f319:=Tryz.func266.trans (congrArg some (by kernel_rfl))
 f320:=Tryz.func267.trans (congrArg some (by kernel_rfl))
 f337:=Tryz.func286.trans (congrArg some (by kernel_rfl))
 f338:=Tryz.func287.trans (congrArg some (by kernel_rfl))
 t0:=Tryz.underlying0
 a0:=Tryz.isAgg0
 z0:=Tryz.sizeOf0
 v0:=Tryz.zeroValue0
 t2:=Tryz.underlying2
 a2:=Tryz.isAgg2
 z2:=Tryz.sizeOf2
 v2:=Tryz.zeroValue2
 t3:=Tryz.underlying3
 a3:=Tryz.isAgg3
 z3:=Tryz.sizeOf3
 v3:=Tryz.zeroValue3
 t4:=Tryz.underlying4
 a4:=Tryz.isAgg4
 z4:=Tryz.sizeOf4
 v4:=Tryz.zeroValue4
 t5:=Tryz.underlying5
 a5:=Tryz.isAgg5
 z5:=Tryz.sizeOf5
 v5:=Tryz.zeroValue5
 t9:=Tryz.underlying9
 a9:=Tryz.isAgg9
 z9:=Tryz.sizeOf9
 v9:=Tryz.zeroValue9
 t20:=Tryz.underlying20
 a20:=Tryz.isAgg20
 z20:=Tryz.sizeOf20
 v20:=Tryz.zeroValue20
 t37:=Tryz.underlying225
 a37:=Tryz.isAgg225
 z37:=Tryz.sizeOf225
 v37:=Tryz.zeroValue225
 t46:=Tryz.underlying275
 a46:=Tryz.isAgg275
 z46:=Tryz.sizeOf275
 v46:=Tryz.zeroValue275
 t51:=Tryz.underlying286
 a51:=Tryz.isAgg286
 z51:=Tryz.sizeOf286
 v51:=Tryz.zeroValue286
 t53:=Tryz.underlying256
 a53:=Tryz.isAgg256
 z53:=Tryz.sizeOf256
 v53:=Tryz.zeroValue256
 t171:=Tryz.underlying255
 a171:=Tryz.isAgg255
 z171:=Tryz.sizeOf255
 v171:=Tryz.zeroValue255
 t173:=Tryz.underlying259
 a173:=Tryz.isAgg259
 z173:=Tryz.sizeOf259
 v173:=Tryz.zeroValue259
 t212:=Tryz.underlying285
 a212:=Tryz.isAgg285
 z212:=Tryz.sizeOf285
 v212:=Tryz.zeroValue285
 t213:=Tryz.underlying287
 a213:=Tryz.isAgg287
 z213:=Tryz.sizeOf287
 t232:=Tryz.underlying317
 a232:=Tryz.isAgg317
 z232:=Tryz.sizeOf317
 v232:=Tryz.zeroValue317
 t233:=Tryz.underlying318
 a233:=Tryz.isAgg318
 z233:=Tryz.sizeOf318
 v233:=Tryz.zeroValue318
 g17:=by kernel_rfl
 g18:=by kernel_rfl
 g19:=by kernel_rfl
 i0:=by kernel_rfl
 i2:=by kernel_rfl
 i3:=by kernel_rfl
 i4:=by kernel_rfl
 i5:=by kernel_rfl
 i9:=by kernel_rfl
 i20:=by kernel_rfl
 i37:=by kernel_rfl
 i46:=by kernel_rfl
 i51:=by kernel_rfl
 i53:=by kernel_rfl
 i171:=by kernel_rfl
 i173:=by kernel_rfl
 i212:=by kernel_rfl
 i232:=by kernel_rfl
 i233:=by kernel_rfl
 m17:=by kernel_rfl
 m18:=by kernel_rfl
 m19:=by kernel_rfl }
open Go.RowKit Go.Sort Go.Lib in
theorem Tryz.strconv_Itoa (n:Int) (h0 : -9223372036854775808 ≤ n) (h1:n ≤ 9223372036854775807) (w:World) (htab:Lib.TabIs Tryz.prog w "internal/strconv.uint64pow10" .u64 Lib.pow10Tab) :
  Calls Tryz.prog 119 #[.int .i64 n] w fun e w'=>e = .returned (.string ⟨(Lib.itoa n).toArray⟩)∧∃ k os,w'=grow (w.drewN k) os:=Any.strconv_Itoa Tryz.laysM171 n h0 h1 w htab
def Tryz.lays143_ren:Go.Shelf.Ren:=⟨fun|143=>272|219=>289|217=>281|225=>255|224=>254|267=>304|266=>299|314=>312|n=>n,fun|9=>9|3=>3|4=>4|5=>5|46=>275|146=>327|51=>286|n=>n,fun|1=>1|n=>n⟩
theorem Tryz.lays143:Go.Proofs.Lays.n143 Tryz.prog Tryz.lays143_ren:={
 mixed:=by kernel_rfl
 f143:=Tryz.func272.trans (congrArg some (by kernel_rfl))
 f217:=Tryz.func281.trans (congrArg some (by kernel_rfl))
 f219:=Tryz.func289.trans (congrArg some (by kernel_rfl))
 f224:=Tryz.func254.trans (congrArg some (by kernel_rfl))
 f225:=Tryz.func255.trans (congrArg some (by kernel_rfl))
 f266:=Tryz.func299.trans (congrArg some (by kernel_rfl))
 f267:=Tryz.func304.trans (congrArg some (by kernel_rfl))
 f314:=Tryz.func312.trans (congrArg some (by kernel_rfl))
 t3:=Tryz.underlying3
 a3:=Tryz.isAgg3
 z3:=Tryz.sizeOf3
 v3:=Tryz.zeroValue3
 t4:=Tryz.underlying4
 a4:=Tryz.isAgg4
 z4:=Tryz.sizeOf4
 v4:=Tryz.zeroValue4
 t5:=Tryz.underlying5
 a5:=Tryz.isAgg5
 z5:=Tryz.sizeOf5
 v5:=Tryz.zeroValue5
 t9:=Tryz.underlying9
 a9:=Tryz.isAgg9
 z9:=Tryz.sizeOf9
 v9:=Tryz.zeroValue9
 t46:=Tryz.underlying275
 a46:=Tryz.isAgg275
 z46:=Tryz.sizeOf275
 v46:=Tryz.zeroValue275
 t51:=Tryz.underlying286
 a51:=Tryz.isAgg286
 z51:=Tryz.sizeOf286
 v51:=Tryz.zeroValue286
 t146:=Tryz.underlying327
 a146:=Tryz.isAgg327
 z146:=Tryz.sizeOf327
 v146:=Tryz.zeroValue327
 g1:=by kernel_rfl }
open Go.RowKit Go.Lib in
theorem Tryz.strings_Index_one (s:ByteArray) (c:UInt8) (w:World) :
  Calls Tryz.prog 272 #[.string s,.string ⟨#[c]⟩] w fun e w'=>e = .returned (.int .i64 (Lib.indexByte s.data.toList c))∧w'=w:=Any.strings_Index_one Tryz.lays143 s c w
def Tryz.laysGw15_ren:Go.Shelf.Ren:=⟨fun|15=>242|20=>273|n=>n,fun|9=>9|23=>263|3=>3|4=>4|0=>0|21=>21|n=>n,fun|n=>n⟩
theorem Tryz.laysGw15:Go.Proofs.LaysGw.n15 Tryz.prog Tryz.laysGw15_ren:={
 mixed:=by kernel_rfl
 f15:=Tryz.func242.trans (congrArg some (by kernel_rfl))
 f20:=Tryz.func273.trans (congrArg some (by kernel_rfl))
 t0:=Tryz.underlying0
 a0:=Tryz.isAgg0
 z0:=Tryz.sizeOf0
 v0:=Tryz.zeroValue0
 i0:=by kernel_rfl
 t3:=Tryz.underlying3
 a3:=Tryz.isAgg3
 z3:=Tryz.sizeOf3
 v3:=Tryz.zeroValue3
 i3:=by kernel_rfl
 t4:=Tryz.underlying4
 a4:=Tryz.isAgg4
 z4:=Tryz.sizeOf4
 v4:=Tryz.zeroValue4
 i4:=by kernel_rfl
 t9:=Tryz.underlying9
 a9:=Tryz.isAgg9
 z9:=Tryz.sizeOf9
 v9:=Tryz.zeroValue9
 i9:=by kernel_rfl
 t21:=Tryz.underlying21
 a21:=Tryz.isAgg21
 z21:=Tryz.sizeOf21
 v21:=Tryz.zeroValue21
 i21:=by kernel_rfl
 t23:=Tryz.underlying263
 a23:=Tryz.isAgg263
 z23:=Tryz.sizeOf263
 v23:=Tryz.zeroValue263
 i23:=by kernel_rfl }
open Go.RowKit Go.Lib in
theorem Tryz.strings_IndexFunc_runes (g:Nat) (lb:Array Value) (eg:∀ args w,(callFunc g args).run Tryz.prog w = .ok (.enter g args) w) (p:Nat→Bool) (s:ByteArray) (w:World) (hp:PredAtRunes Tryz.prog g lb p w) :
  Calls Tryz.prog 242 #[.string s,.func (.func g) #[] lb] w fun e w'=>e = .returned (.int .i64 (Lib.idxFunc p true s))∧Below w.heap.size w w':=Any.strings_IndexFunc_runes Tryz.laysGw15 g lb eg p s w hp
def Tryz.lays99_ren:Go.Shelf.Ren:=⟨fun|99=>226|206=>223|n=>n,fun|9=>9|4=>4|3=>3|n=>n,fun|n=>n⟩
theorem Tryz.lays99:Go.Proofs.Lays.n99 Tryz.prog Tryz.lays99_ren:={
 mixed:=by kernel_rfl
 f99:=Tryz.func226.trans (congrArg some (by kernel_rfl))
 f206:=Tryz.func223.trans (congrArg some (by kernel_rfl))
 t3:=Tryz.underlying3
 a3:=Tryz.isAgg3
 z3:=Tryz.sizeOf3
 v3:=Tryz.zeroValue3
 t4:=Tryz.underlying4
 a4:=Tryz.isAgg4
 z4:=Tryz.sizeOf4
 v4:=Tryz.zeroValue4
 t9:=Tryz.underlying9
 a9:=Tryz.isAgg9
 z9:=Tryz.sizeOf9
 v9:=Tryz.zeroValue9 }
open Go.RowKit Go.Lib in
theorem Tryz.strings_HasPrefix (s p:ByteArray) (w:World) :
  Calls Tryz.prog 226 #[.string s,.string p] w fun e w'=>e = .returned (.bool (Lib.hasPrefix s.data.toList p.data.toList))∧w'=w:=Any.strings_HasPrefix Tryz.lays99 s p w
def Tryz.lays153_ren:Go.Shelf.Ren:=⟨fun|153=>186|152=>219|226=>220|227=>221|228=>222|137=>252|119=>253|224=>254|225=>255|217=>281|266=>299|n=>n,fun|9=>9|3=>3|4=>4|5=>5|21=>21|117=>246|116=>245|0=>0|46=>275|124=>276|n=>n,fun|n=>n⟩
theorem Tryz.lays153:Go.Proofs.Lays.n153 Tryz.prog Tryz.lays153_ren:={
 mixed:=by kernel_rfl
 f119:=Tryz.func253.trans (congrArg some (by kernel_rfl))
 f137:=Tryz.func252.trans (congrArg some (by kernel_rfl))
 f152:=Tryz.func219.trans (congrArg some (by kernel_rfl))
 f153:=Tryz.func186.trans (congrArg some (by kernel_rfl))
 f217:=Tryz.func281.trans (congrArg some (by kernel_rfl))
 f224:=Tryz.func254.trans (congrArg some (by kernel_rfl))
 f225:=Tryz.func255.trans (congrArg some (by kernel_rfl))
 f226:=Tryz.func220.trans (congrArg some (by kernel_rfl))
 f227:=Tryz.func221.trans (congrArg some (by kernel_rfl))
 f228:=Tryz.func222.trans (congrArg some (by kernel_rfl))
 f266:=Tryz.func299.trans (congrArg some (by kernel_rfl))
 t0:=Tryz.underlying0
 a0:=Tryz.isAgg0
 z0:=Tryz.sizeOf0
 v0:=Tryz.zeroValue0
 t3:=Tryz.underlying3
 a3:=Tryz.isAgg3
 z3:=Tryz.sizeOf3
 v3:=Tryz.zeroValue3
 t4:=Tryz.underlying4
 a4:=Tryz.isAgg4
 z4:=Tryz.sizeOf4
 v4:=Tryz.zeroValue4
 t5:=Tryz.underlying5
 a5:=Tryz.isAgg5
 z5:=Tryz.sizeOf5
 v5:=Tryz.zeroValue5
 t9:=Tryz.underlying9
 a9:=Tryz.isAgg9
 z9:=Tryz.sizeOf9
 v9:=Tryz.zeroValue9
 t21:=Tryz.underlying21
 a21:=Tryz.isAgg21
 z21:=Tryz.sizeOf21
 v21:=Tryz.zeroValue21
 t46:=Tryz.underlying275
 a46:=Tryz.isAgg275
 z46:=Tryz.sizeOf275
 v46:=Tryz.zeroValue275
 t116:=Tryz.underlying245
 a116:=Tryz.isAgg245
 z116:=Tryz.sizeOf245
 t117:=Tryz.underlying246
 a117:=Tryz.isAgg246
 z117:=Tryz.sizeOf246
 v117:=Tryz.zeroValue246
 t124:=Tryz.underlying276
 a124:=Tryz.isAgg276
 z124:=Tryz.sizeOf276
 v124:=Tryz.zeroValue276 }
open Go.RowKit Go.Lib in
theorem Tryz.strings_IndexAny_laid (s chars:ByteArray) (w:World) (hs:s.size < 4294967281) (hcs:chars.size < 4294967281) (has:∀ (j:Nat) b,s.data.toList[j]? = some b→b.toNat < 128) (hac:∀ (j:Nat) b,chars.data.toList[j]? = some b→b.toNat < 128) :
  Calls Tryz.prog 186 #[.string s,.string chars] w fun e w'=>e = .returned (.int .i64 (Lib.indexAny s.data.toList chars.data.toList))∧Below w.heap.size w w':=Any.strings_IndexAny_laid Tryz.lays153 (by kernel_rfl) s chars w hs hcs has hac
end Go.Proofs
