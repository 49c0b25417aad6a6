/-
  DERIVED: THE SHELF's CONTRACTS AT THIS DUMP, IN PLAIN WORDS (tools/lay-plain.mjs out of 'TryzShelfCut.lean', which tools/lay-shelf.mjs wrote): THE SAME DECLARATIONS UNDER THE SAME NAMES: 'import', 'namespace', 'open', 'def', 'theorem' AND NOTHING ELSE: no command of the shelf's: FOR A HAND-IN. Each laying: the table of numbers ('.._ren') and one theorem, a field a fact of the dump's own or the kernel's comparison; each contract: ONE APPLICATION.
-/
import Derived.Shelf.Strings.Builder1
import Derived.Shelf.Strings.Builder2
import Derived.Shelf.Strings.OnBuilder
import Derived.Shelf.Small.Utf8
import Derived.Shelf.Small.Bits
import Derived.Shelf.Small.Strs
import Derived.Shelf.Small.Wraps
import Derived.Shelf.Strconv.Atoi
import Derived.Shelf.Strconv.Itoa0
import Derived.Shelf.Strconv.Itoa1
import Derived.Shelf.LaysM
import Derived.Shelf.Strconv.Itoa2
import Derived.Shelf.Strconv.Itoa3
import Derived.Shelf.Strconv.AtoiErrFast
import Derived.Shelf.Strconv.ParseIntEmpty
import Derived.Shelf.Strconv.AtoiFail
import Derived.Shelf.Strconv.Clone
import Derived.Shelf.Strconv.SyntaxError
import Derived.Shelf.LaysC
import Derived.Shelf.Strconv.ToError
import Derived.Shelf.Strconv.Lower
import Derived.Shelf.Strconv.ParseUint10
import Derived.Shelf.Strconv.ParseUint10Empty
import Derived.Shelf.Strconv.ParseUint10Any
import Derived.Shelf.Strconv.ParseInt10
import Derived.Shelf.Strconv.AtoiLong
import Derived.Shelf.Strconv.AtoiInnerAll
import Derived.Shelf.Strconv.RangeError
import Derived.Shelf.Strconv.ToErrorRange
import Derived.Shelf.Strconv.AtoiAll
import Derived.Shelf.Strconv.ErrVarAll
import Derived.Shelf.Strings.Search1
import Derived.Shelf.Strings.Search2
import Derived.Shelf.Strings.Search3
import Derived.Shelf.Strings.Shaped
import Derived.Shelf.GgClosure.StringsIndexFunc
import Derived.Ground.GgwProg
import Derived.Shelf.GgClosure.StringsIndexFuncTop
import Derived.Shelf.GgClosure.StringsRunes
import Derived.Shelf.Strings.Prefix
import Derived.Shelf.Unicode.Decode
import Derived.Shelf.Strings.Runes
import Derived.Shelf.Strings.IndexAny
import Derived.Shelf.Strings.AsciiSet
import Derived.Shelf.Strings.IndexAnyAll
import Derived.Shelf.Unicode.DecodeSlow
import Derived.Shelf.Unicode.DecodeAny
import Derived.Shelf.Slices.CompactS
import Derived.Shelf.Slices.Cells
import Derived.Ground.SlgmProg
import Derived.Shelf.SortM.Plain
import Derived.Shelf.SortM.SortNone
import Derived.Test.YtehhihdahalfeaaGreatDoorProg
set_option linter.unusedVariables false
set_option linter.unusedSimpArgs false
set_option linter.unnecessarySimpa false
namespace Go.Proofs
open Go.Shelf
def Tryz.lays156_ren:Go.Shelf.Ren:=⟨fun|156=>164|165=>199|166=>200|169=>201|240=>221|241=>222|276=>248|277=>249|n=>n,fun|31=>29|9=>9|3=>3|4=>4|0=>0|20=>20|72=>223|76=>217|70=>221|37=>200|75=>216|127=>243|164=>263|5=>5|80=>186|n=>n,fun|n=>n⟩
theorem Tryz.lays156:Go.Proofs.Lays.n156 Tryz.prog Tryz.lays156_ren:={
  mixed:=by kernel_rfl
  f156:=Tryz.func164.trans (congrArg some (by kernel_rfl))
  f165:=Tryz.func199.trans (congrArg some (by kernel_rfl))
  f166:=Tryz.func200.trans (congrArg some (by kernel_rfl))
  f169:=Tryz.func201.trans (congrArg some (by kernel_rfl))
  f240:=Tryz.func221.trans (congrArg some (by kernel_rfl))
  f241:=Tryz.func222.trans (congrArg some (by kernel_rfl))
  f276:=Tryz.func248.trans (congrArg some (by kernel_rfl))
  f277:=Tryz.func249.trans (congrArg some (by kernel_rfl))
  t0:=Tryz.underlying0
  a0:=Tryz.isAgg0
  z0:=Tryz.sizeOf0
  v0:=Tryz.zeroValue0
  t3:=Tryz.underlying3
  a3:=Tryz.isAgg3
  z3:=Tryz.sizeOf3
  v3:=Tryz.zeroValue3
  t4:=Tryz.underlying4
  a4:=Tryz.isAgg4
  z4:=Tryz.sizeOf4
  v4:=Tryz.zeroValue4
  t9:=Tryz.underlying9
  a9:=Tryz.isAgg9
  z9:=Tryz.sizeOf9
  v9:=Tryz.zeroValue9
  t20:=Tryz.underlying20
  a20:=Tryz.isAgg20
  z20:=Tryz.sizeOf20
  v20:=Tryz.zeroValue20
  t31:=Tryz.underlying29
  a31:=Tryz.isAgg29
  z31:=Tryz.sizeOf29
  v31:=Tryz.zeroValue29
  t37:=Tryz.underlying200
  a37:=Tryz.isAgg200
  z37:=Tryz.sizeOf200
  v37:=Tryz.zeroValue200
  t70:=Tryz.underlying221
  a70:=Tryz.isAgg221
  z70:=Tryz.sizeOf221
  v70:=Tryz.zeroValue221
  t72:=Tryz.underlying223
  a72:=Tryz.isAgg223
  z72:=Tryz.sizeOf223
  v72:=Tryz.zeroValue223
  t75:=Tryz.underlying216
  a75:=Tryz.isAgg216
  z75:=Tryz.sizeOf216
  v75:=Tryz.zeroValue216
  t76:=Tryz.underlying217
  a76:=Tryz.isAgg217
  z76:=Tryz.sizeOf217
  v76:=Tryz.zeroValue217
  t127:=Tryz.underlying243
  a127:=Tryz.isAgg243
  z127:=Tryz.sizeOf243
  v127:=Tryz.zeroValue243
  t164:=Tryz.underlying263
  a164:=Tryz.isAgg263
  z164:=Tryz.sizeOf263
  v164:=Tryz.zeroValue263 }
theorem Tryz.Builder_Extra_156:Builder.Extra Tryz.prog Tryz.lays156_ren:={
  sizeBuilder:=by kernel_rfl
  liesBuilder:=by kernel_rfl
  t5:=Tryz.underlying5
  a5:=Tryz.isAgg5
  z5:=Tryz.sizeOf5
  v5:=Tryz.zeroValue5
  infoByte:=by kernel_rfl
  cellsByte:=by kernel_rfl
  sizeByte:=by kernel_rfl
  neB5:=by decide }
open Go.RowKit in
/-- No element: the empty string; the world is as it was. (Whatever the slice's address and capacity: a nil slice too.) (LAID: no walk: one application.) -/
theorem Tryz.strings_Join_none (a:Option Addr) (c:Nat) (sep:ByteArray) (w:World) :
    Calls Tryz.prog 164 #[.slice a 0 c,.string sep] w fun e w'=>e = .returned (.string ⟨#[]⟩)∧w'=w:=Any.strings_Join_none Tryz.lays156 Tryz.Builder_Extra_156 a c sep w
open Go.RowKit in
/-- strings.Join: "Join concatenates the elements of its first argument to create a single string. The separator string sep is placed between elements in the resulting string.": HOWEVER MANY ELEMENTS. Below the heap's end the world is as it was. (LAID: no walk: one application.) -/
theorem Tryz.strings_Join (bk o c:Nat) (xs:List ByteArray) (sep:ByteArray) (w:World) (hcells:∀ (j:Nat) x,xs[j]? = some x→w.cell? ⟨bk,o + j,none⟩=some (.string x)) (hbk:bk < w.heap.size) (hN:xs.length ≤ 140737488355328) (hcap:xs.length ≤ c) (hlen:(Lib.join (xs.map (·.data.toList)) sep.data.toList).length ≤ 140737488355328) :
    Calls Tryz.prog 164 #[.slice (some ⟨bk,o,none⟩) xs.length c,.string sep] w fun e w'=>e = .returned (.string ⟨(Lib.join (xs.map (·.data.toList)) sep.data.toList).toArray⟩)∧Below w.heap.size w w':=Any.strings_Join Tryz.lays156 Tryz.Builder_Extra_156 bk o c xs sep w hcells hbk hN hcap hlen
def Tryz.lays103_ren:Go.Shelf.Ren:=⟨fun|103=>156|210=>193|206=>170|n=>n,fun|9=>9|4=>4|24=>170|3=>3|n=>n,fun|n=>n⟩
theorem Tryz.lays103:Go.Proofs.Lays.n103 Tryz.prog Tryz.lays103_ren:={
  mixed:=by kernel_rfl
  f103:=Tryz.func156.trans (congrArg some (by kernel_rfl))
  f206:=Tryz.func170.trans (congrArg some (by kernel_rfl))
  f210:=Tryz.func193.trans (congrArg some (by kernel_rfl))
  t3:=Tryz.underlying3
  a3:=Tryz.isAgg3
  z3:=Tryz.sizeOf3
  v3:=Tryz.zeroValue3
  t4:=Tryz.underlying4
  a4:=Tryz.isAgg4
  z4:=Tryz.sizeOf4
  v4:=Tryz.zeroValue4
  t9:=Tryz.underlying9
  a9:=Tryz.isAgg9
  z9:=Tryz.sizeOf9
  v9:=Tryz.zeroValue9
  t24:=Tryz.underlying170
  a24:=Tryz.isAgg170
  z24:=Tryz.sizeOf170
  v24:=Tryz.zeroValue170 }
open Go.RowKit in
/-- strings.CutPrefix: "CutPrefix returns s without the provided leading prefix string and reports whether it found the prefix. If s doesn't start with prefix, CutPrefix returns s, false. If prefix is the empty string, CutPrefix returns s, true.": IT RETURNS '(Lib.trimPrefix s p, Lib.hasPrefix s p)'; the world is as it was. (LAID: no walk: one application.) -/
theorem Tryz.strings_CutPrefix (s p:ByteArray) (w:World) :
    Calls Tryz.prog 156 #[.string s,.string p] w fun e w'=>e = .returned (.tuple #[.string ⟨(Lib.trimPrefix s.data.toList p.data.toList).toArray⟩,.bool (Lib.hasPrefix s.data.toList p.data.toList)])∧w'=w:=Any.strings_CutPrefix Tryz.lays103 s p w
def Tryz.lays172_ren:Go.Shelf.Ren:=⟨fun|172=>194|244=>219|245=>220|247=>243|279=>244|280=>245|281=>246|282=>247|287=>259|316=>260|171=>43|205=>261|321=>265|322=>266|243=>83|246=>129|283=>171|284=>172|285=>173|286=>174|129=>207|317=>206|318=>208|319=>209|320=>210|337=>227|338=>228|n=>n,fun|9=>9|3=>3|75=>216|76=>217|4=>4|5=>5|167=>257|37=>200|0=>0|85=>258|2=>2|168=>260|53=>197|175=>273|46=>233|210=>277|127=>243|145=>289|143=>287|21=>21|171=>196|173=>201|212=>230|51=>231|20=>20|213=>232|232=>266|233=>267|80=>186|n=>n,fun|15=>4|16=>5|17=>0|18=>1|19=>2|n=>n⟩
theorem Tryz.lays172:Go.Proofs.Lays.n172 Tryz.prog Tryz.lays172_ren:={
  mixed:=by kernel_rfl
  f129:=Tryz.func207.trans (congrArg some (by kernel_rfl))
  f171:=Tryz.func43.trans (congrArg some (by kernel_rfl))
  f172:=Tryz.func194.trans (congrArg some (by kernel_rfl))
  f205:=Tryz.func261.trans (congrArg some (by kernel_rfl))
  f243:=Tryz.func83.trans (congrArg some (by kernel_rfl))
  f244:=Tryz.func219.trans (congrArg some (by kernel_rfl))
  f245:=Tryz.func220.trans (congrArg some (by kernel_rfl))
  f246:=Tryz.func129.trans (congrArg some (by kernel_rfl))
  f247:=Tryz.func243.trans (congrArg some (by kernel_rfl))
  f279:=Tryz.func244.trans (congrArg some (by kernel_rfl))
  f280:=Tryz.func245.trans (congrArg some (by kernel_rfl))
  f281:=Tryz.func246.trans (congrArg some (by kernel_rfl))
  f282:=Tryz.func247.trans (congrArg some (by kernel_rfl))
  f283:=Tryz.func171.trans (congrArg some (by kernel_rfl))
  f284:=Tryz.func172.trans (congrArg some (by kernel_rfl))
  f285:=Tryz.func173.trans (congrArg some (by kernel_rfl))
  f286:=Tryz.func174.trans (congrArg some (by kernel_rfl))
  f287:=Tryz.func259.trans (congrArg some (by kernel_rfl))
  f316:=Tryz.func260.trans (congrArg some (by kernel_rfl))
  f317:=Tryz.func206.trans (congrArg some (by kernel_rfl))
  f318:=Tryz.func208.trans (congrArg some (by kernel_rfl))
  f319:=Tryz.func209.trans (congrArg some (by kernel_rfl))
  f320:=Tryz.func210.trans (congrArg some (by kernel_rfl))
  f321:=Tryz.func265.trans (congrArg some (by kernel_rfl))
  f322:=Tryz.func266.trans (congrArg some (by kernel_rfl))
  f337:=Tryz.func227.trans (congrArg some (by kernel_rfl))
  f338:=Tryz.func228.trans (congrArg some (by kernel_rfl))
  t0:=Tryz.underlying0
  a0:=Tryz.isAgg0
  z0:=Tryz.sizeOf0
  v0:=Tryz.zeroValue0
  t2:=Tryz.underlying2
  a2:=Tryz.isAgg2
  z2:=Tryz.sizeOf2
  v2:=Tryz.zeroValue2
  t3:=Tryz.underlying3
  a3:=Tryz.isAgg3
  z3:=Tryz.sizeOf3
  v3:=Tryz.zeroValue3
  t4:=Tryz.underlying4
  a4:=Tryz.isAgg4
  z4:=Tryz.sizeOf4
  v4:=Tryz.zeroValue4
  t5:=Tryz.underlying5
  a5:=Tryz.isAgg5
  z5:=Tryz.sizeOf5
  v5:=Tryz.zeroValue5
  t9:=Tryz.underlying9
  a9:=Tryz.isAgg9
  z9:=Tryz.sizeOf9
  v9:=Tryz.zeroValue9
  t20:=Tryz.underlying20
  a20:=Tryz.isAgg20
  z20:=Tryz.sizeOf20
  v20:=Tryz.zeroValue20
  t21:=Tryz.underlying21
  a21:=Tryz.isAgg21
  z21:=Tryz.sizeOf21
  v21:=Tryz.zeroValue21
  t37:=Tryz.underlying200
  a37:=Tryz.isAgg200
  z37:=Tryz.sizeOf200
  v37:=Tryz.zeroValue200
  t46:=Tryz.underlying233
  a46:=Tryz.isAgg233
  z46:=Tryz.sizeOf233
  v46:=Tryz.zeroValue233
  t51:=Tryz.underlying231
  a51:=Tryz.isAgg231
  z51:=Tryz.sizeOf231
  v51:=Tryz.zeroValue231
  t53:=Tryz.underlying197
  a53:=Tryz.isAgg197
  z53:=Tryz.sizeOf197
  v53:=Tryz.zeroValue197
  t75:=Tryz.underlying216
  a75:=Tryz.isAgg216
  z75:=Tryz.sizeOf216
  v75:=Tryz.zeroValue216
  t76:=Tryz.underlying217
  a76:=Tryz.isAgg217
  z76:=Tryz.sizeOf217
  v76:=Tryz.zeroValue217
  t85:=Tryz.underlying258
  a85:=Tryz.isAgg258
  z85:=Tryz.sizeOf258
  v85:=Tryz.zeroValue258
  t127:=Tryz.underlying243
  a127:=Tryz.isAgg243
  z127:=Tryz.sizeOf243
  v127:=Tryz.zeroValue243
  t143:=Tryz.underlying287
  a143:=Tryz.isAgg287
  z143:=Tryz.sizeOf287
  v143:=Tryz.zeroValue287
  t145:=Tryz.underlying289
  a145:=Tryz.isAgg289
  z145:=Tryz.sizeOf289
  v145:=Tryz.zeroValue289
  t167:=Tryz.underlying257
  a167:=Tryz.isAgg257
  z167:=Tryz.sizeOf257
  v167:=Tryz.zeroValue257
  t168:=Tryz.underlying260
  a168:=Tryz.isAgg260
  z168:=Tryz.sizeOf260
  v168:=Tryz.zeroValue260
  t171:=Tryz.underlying196
  a171:=Tryz.isAgg196
  z171:=Tryz.sizeOf196
  v171:=Tryz.zeroValue196
  t173:=Tryz.underlying201
  a173:=Tryz.isAgg201
  z173:=Tryz.sizeOf201
  v173:=Tryz.zeroValue201
  t175:=Tryz.underlying273
  a175:=Tryz.isAgg273
  z175:=Tryz.sizeOf273
  v175:=Tryz.zeroValue273
  t210:=Tryz.underlying277
  a210:=Tryz.isAgg277
  z210:=Tryz.sizeOf277
  v210:=Tryz.zeroValue277
  t212:=Tryz.underlying230
  a212:=Tryz.isAgg230
  z212:=Tryz.sizeOf230
  v212:=Tryz.zeroValue230
  t213:=Tryz.underlying232
  a213:=Tryz.isAgg232
  z213:=Tryz.sizeOf232
  t232:=Tryz.underlying266
  a232:=Tryz.isAgg266
  z232:=Tryz.sizeOf266
  v232:=Tryz.zeroValue266
  t233:=Tryz.underlying267
  a233:=Tryz.isAgg267
  z233:=Tryz.sizeOf267
  v233:=Tryz.zeroValue267
  g15:=by kernel_rfl
  g16:=by kernel_rfl
  g17:=by kernel_rfl
  g18:=by kernel_rfl
  g19:=by kernel_rfl }
open Go.RowKit in
/-- strconv.Atoi: "Atoi is equivalent to ParseInt(s, 10, 0), converted to type int.": AT A DECIMAL NUMERAL OF AT MOST 18 BYTES: its value, and a nil error. The world behind the call: the one new row that the library's '[]byte(s)' lays. (LAID: no walk: one application.) -/
theorem Tryz.strconv_Atoi (s:ByteArray) (n:Int) (hl:s.size ≤ 18) (h:Lib.atoi s.data.toList=some n) (w:World) :
    Calls Tryz.prog 194 #[.string s] w fun e w'=>e = .returned (.tuple #[.int .i64 n,.nilIface])∧∃ t,w'=Lib.bytesWorld w 5 t:=Any.strconv_Atoi Tryz.lays172 s n hl h w
def Tryz.laysM171_ren:Go.Shelf.Ren:=⟨fun|171=>43|243=>83|246=>129|283=>171|284=>172|285=>173|286=>174|129=>207|317=>206|318=>208|319=>209|320=>210|337=>227|338=>228|n=>n,fun|3=>3|9=>9|2=>2|4=>4|171=>196|0=>0|53=>197|37=>200|5=>5|173=>201|212=>230|51=>231|20=>20|213=>232|46=>233|232=>266|233=>267|n=>n,fun|17=>0|18=>1|19=>2|n=>n⟩
theorem Tryz.laysM171:Go.Proofs.LaysM.n171 Tryz.prog Tryz.laysM171_ren:={
  mixed:=by kernel_rfl
  f129:=Tryz.func207.trans (congrArg some (by kernel_rfl))
  f171:=Tryz.func43.trans (congrArg some (by kernel_rfl))
  f243:=Tryz.func83.trans (congrArg some (by kernel_rfl))
  f246:=Tryz.func129.trans (congrArg some (by kernel_rfl))
  f283:=Tryz.func171.trans (congrArg some (by kernel_rfl))
  f284:=Tryz.func172.trans (congrArg some (by kernel_rfl))
  f285:=Tryz.func173.trans (congrArg some (by kernel_rfl))
  f286:=Tryz.func174.trans (congrArg some (by kernel_rfl))
  f317:=Tryz.func206.trans (congrArg some (by kernel_rfl))
  f318:=Tryz.func208.trans (congrArg some (by kernel_rfl))
  f319:=Tryz.func209.trans (congrArg some (by kernel_rfl))
  f320:=Tryz.func210.trans (congrArg some (by kernel_rfl))
  f337:=Tryz.func227.trans (congrArg some (by kernel_rfl))
  f338:=Tryz.func228.trans (congrArg some (by kernel_rfl))
  t0:=Tryz.underlying0
  a0:=Tryz.isAgg0
  z0:=Tryz.sizeOf0
  v0:=Tryz.zeroValue0
  t2:=Tryz.underlying2
  a2:=Tryz.isAgg2
  z2:=Tryz.sizeOf2
  v2:=Tryz.zeroValue2
  t3:=Tryz.underlying3
  a3:=Tryz.isAgg3
  z3:=Tryz.sizeOf3
  v3:=Tryz.zeroValue3
  t4:=Tryz.underlying4
  a4:=Tryz.isAgg4
  z4:=Tryz.sizeOf4
  v4:=Tryz.zeroValue4
  t5:=Tryz.underlying5
  a5:=Tryz.isAgg5
  z5:=Tryz.sizeOf5
  v5:=Tryz.zeroValue5
  t9:=Tryz.underlying9
  a9:=Tryz.isAgg9
  z9:=Tryz.sizeOf9
  v9:=Tryz.zeroValue9
  t20:=Tryz.underlying20
  a20:=Tryz.isAgg20
  z20:=Tryz.sizeOf20
  v20:=Tryz.zeroValue20
  t37:=Tryz.underlying200
  a37:=Tryz.isAgg200
  z37:=Tryz.sizeOf200
  v37:=Tryz.zeroValue200
  t46:=Tryz.underlying233
  a46:=Tryz.isAgg233
  z46:=Tryz.sizeOf233
  v46:=Tryz.zeroValue233
  t51:=Tryz.underlying231
  a51:=Tryz.isAgg231
  z51:=Tryz.sizeOf231
  v51:=Tryz.zeroValue231
  t53:=Tryz.underlying197
  a53:=Tryz.isAgg197
  z53:=Tryz.sizeOf197
  v53:=Tryz.zeroValue197
  t171:=Tryz.underlying196
  a171:=Tryz.isAgg196
  z171:=Tryz.sizeOf196
  v171:=Tryz.zeroValue196
  t173:=Tryz.underlying201
  a173:=Tryz.isAgg201
  z173:=Tryz.sizeOf201
  v173:=Tryz.zeroValue201
  t212:=Tryz.underlying230
  a212:=Tryz.isAgg230
  z212:=Tryz.sizeOf230
  v212:=Tryz.zeroValue230
  t213:=Tryz.underlying232
  a213:=Tryz.isAgg232
  z213:=Tryz.sizeOf232
  t232:=Tryz.underlying266
  a232:=Tryz.isAgg266
  z232:=Tryz.sizeOf266
  v232:=Tryz.zeroValue266
  t233:=Tryz.underlying267
  a233:=Tryz.isAgg267
  z233:=Tryz.sizeOf267
  v233:=Tryz.zeroValue267
  g17:=by kernel_rfl
  g18:=by kernel_rfl
  g19:=by kernel_rfl
  i0:=by kernel_rfl
  i2:=by kernel_rfl
  i3:=by kernel_rfl
  i4:=by kernel_rfl
  i5:=by kernel_rfl
  i9:=by kernel_rfl
  i20:=by kernel_rfl
  i37:=by kernel_rfl
  i46:=by kernel_rfl
  i51:=by kernel_rfl
  i53:=by kernel_rfl
  i171:=by kernel_rfl
  i173:=by kernel_rfl
  i212:=by kernel_rfl
  i232:=by kernel_rfl
  i233:=by kernel_rfl
  m17:=by kernel_rfl
  m18:=by kernel_rfl
  m19:=by kernel_rfl }
open Go.RowKit Go.Sort Go.Lib in
/-- strconv.Itoa: "Itoa is equivalent to FormatInt(int64(i), 10).": i's DECIMAL NUMERAL ('Lib.itoa': a '-' where i is negative, then the digits), FOR EVERY int. The world behind the call: the world before it, new blocks behind the heap (the library's 'var a [24]byte'), draws. (LAID: no walk: one application.) -/
theorem Tryz.strconv_Itoa (n:Int) (h0 : -9223372036854775808 ≤ n) (h1:n ≤ 9223372036854775807) (w:World) (htab:Lib.TabIs Tryz.prog w "internal/strconv.uint64pow10" .u64 Lib.pow10Tab) :
    Calls Tryz.prog 43 #[.int .i64 n] w fun e w'=>e = .returned (.string ⟨(Lib.itoa n).toArray⟩)∧∃ k os,w'=grow (w.drewN k) os:=Any.strconv_Itoa Tryz.laysM171 n h0 h1 w htab
def Tryz.lays143_ren:Go.Shelf.Ren:=⟨fun|143=>225|219=>251|217=>258|225=>242|224=>241|267=>262|266=>264|314=>267|n=>n,fun|9=>9|3=>3|4=>4|5=>5|46=>233|146=>290|51=>231|n=>n,fun|1=>3|n=>n⟩
theorem Tryz.lays143:Go.Proofs.Lays.n143 Tryz.prog Tryz.lays143_ren:={
  mixed:=by kernel_rfl
  f143:=Tryz.func225.trans (congrArg some (by kernel_rfl))
  f217:=Tryz.func258.trans (congrArg some (by kernel_rfl))
  f219:=Tryz.func251.trans (congrArg some (by kernel_rfl))
  f224:=Tryz.func241.trans (congrArg some (by kernel_rfl))
  f225:=Tryz.func242.trans (congrArg some (by kernel_rfl))
  f266:=Tryz.func264.trans (congrArg some (by kernel_rfl))
  f267:=Tryz.func262.trans (congrArg some (by kernel_rfl))
  f314:=Tryz.func267.trans (congrArg some (by kernel_rfl))
  t3:=Tryz.underlying3
  a3:=Tryz.isAgg3
  z3:=Tryz.sizeOf3
  v3:=Tryz.zeroValue3
  t4:=Tryz.underlying4
  a4:=Tryz.isAgg4
  z4:=Tryz.sizeOf4
  v4:=Tryz.zeroValue4
  t5:=Tryz.underlying5
  a5:=Tryz.isAgg5
  z5:=Tryz.sizeOf5
  v5:=Tryz.zeroValue5
  t9:=Tryz.underlying9
  a9:=Tryz.isAgg9
  z9:=Tryz.sizeOf9
  v9:=Tryz.zeroValue9
  t46:=Tryz.underlying233
  a46:=Tryz.isAgg233
  z46:=Tryz.sizeOf233
  v46:=Tryz.zeroValue233
  t51:=Tryz.underlying231
  a51:=Tryz.isAgg231
  z51:=Tryz.sizeOf231
  v51:=Tryz.zeroValue231
  t146:=Tryz.underlying290
  a146:=Tryz.isAgg290
  z146:=Tryz.sizeOf290
  v146:=Tryz.zeroValue290
  g1:=by kernel_rfl }
open Go.RowKit Go.Lib in
/-- strings.Index: "Index returns the index of the first instance of substr in s, or -1 if substr is not present in s.": AT A substr OF ONE BYTE c: IT RETURNS 'Lib.indexByte s c'; the world is as it was. (LAID: no walk: one application.) -/
theorem Tryz.strings_Index_one (s:ByteArray) (c:UInt8) (w:World) :
    Calls Tryz.prog 225 #[.string s,.string ⟨#[c]⟩] w fun e w'=>e = .returned (.int .i64 (Lib.indexByte s.data.toList c))∧w'=w:=Any.strings_Index_one Tryz.lays143 s c w
open Go.RowKit Go.Lib in
/-- strings.Index: "Index returns the index of the first instance of substr in s, or -1 if substr is not present in s.": IT RETURNS 'Lib.index s substr'; the world is as it was. (LAID: no walk: one application.) -/
theorem Tryz.strings_Index (s sub:ByteArray) (m:Int) (w:World) (hs:s.size < 4294967281) (hm:w.cell? ⟨3,0,none⟩=some (.int .i64 m)) :
    Calls Tryz.prog 225 #[.string s,.string sub] w fun e w'=>e = .returned (.int .i64 (Lib.index s.data.toList sub.data.toList))∧w'=w:=Any.strings_Index Tryz.lays143 s sub m w hs hm
def Tryz.laysM143_ren:Go.Shelf.Ren:=⟨fun|143=>225|219=>251|217=>258|225=>242|224=>241|267=>262|266=>264|314=>267|n=>n,fun|9=>9|3=>3|4=>4|5=>5|46=>233|146=>290|51=>231|n=>n,fun|1=>3|n=>n⟩
theorem Tryz.laysM143:Go.Proofs.LaysM.n143 Tryz.prog Tryz.laysM143_ren:={
  mixed:=by kernel_rfl
  f143:=Tryz.func225.trans (congrArg some (by kernel_rfl))
  f217:=Tryz.func258.trans (congrArg some (by kernel_rfl))
  f219:=Tryz.func251.trans (congrArg some (by kernel_rfl))
  f224:=Tryz.func241.trans (congrArg some (by kernel_rfl))
  f225:=Tryz.func242.trans (congrArg some (by kernel_rfl))
  f266:=Tryz.func264.trans (congrArg some (by kernel_rfl))
  f267:=Tryz.func262.trans (congrArg some (by kernel_rfl))
  f314:=Tryz.func267.trans (congrArg some (by kernel_rfl))
  t3:=Tryz.underlying3
  a3:=Tryz.isAgg3
  z3:=Tryz.sizeOf3
  v3:=Tryz.zeroValue3
  t4:=Tryz.underlying4
  a4:=Tryz.isAgg4
  z4:=Tryz.sizeOf4
  v4:=Tryz.zeroValue4
  t5:=Tryz.underlying5
  a5:=Tryz.isAgg5
  z5:=Tryz.sizeOf5
  v5:=Tryz.zeroValue5
  t9:=Tryz.underlying9
  a9:=Tryz.isAgg9
  z9:=Tryz.sizeOf9
  v9:=Tryz.zeroValue9
  t46:=Tryz.underlying233
  a46:=Tryz.isAgg233
  z46:=Tryz.sizeOf233
  v46:=Tryz.zeroValue233
  t51:=Tryz.underlying231
  a51:=Tryz.isAgg231
  z51:=Tryz.sizeOf231
  v51:=Tryz.zeroValue231
  t146:=Tryz.underlying290
  a146:=Tryz.isAgg290
  z146:=Tryz.sizeOf290
  v146:=Tryz.zeroValue290
  g1:=by kernel_rfl
  i3:=by kernel_rfl
  i4:=by kernel_rfl
  i5:=by kernel_rfl
  i9:=by kernel_rfl
  i46:=by kernel_rfl
  i51:=by kernel_rfl
  i146:=by kernel_rfl
  m1:=by kernel_rfl
  s1_3:=fun w h=>Go.Proofs.cell_of_shapedOpen_int (zero:=#[.int .i64 0]) (t:=3) h (of_decide_eq_true (by kernel_rfl)) (by kernel_rfl) rfl (by kernel_rfl) (by kernel_rfl) Tryz.underlying3 }
open Go.RowKit Go.Lib in
theorem Tryz.strings_Index_shaped (s sub:ByteArray) (w:World) (h:w.ShapedOpen Tryz.prog) (hs:s.size < 4294967281) :
    Calls Tryz.prog 225 #[.string s,.string sub] w fun e w'=>e = .returned (.int .i64 (Lib.index s.data.toList sub.data.toList))∧w'=w:=Any.strings_Index_shaped Tryz.laysM143 s sub w h hs
def Tryz.laysGw15_ren:Go.Shelf.Ren:=⟨fun|15=>205|20=>226|n=>n,fun|9=>9|23=>226|3=>3|4=>4|0=>0|21=>21|n=>n,fun|n=>n⟩
theorem Tryz.laysGw15:Go.Proofs.LaysGw.n15 Tryz.prog Tryz.laysGw15_ren:={
  mixed:=by kernel_rfl
  f15:=Tryz.func205.trans (congrArg some (by kernel_rfl))
  f20:=Tryz.func226.trans (congrArg some (by kernel_rfl))
  t0:=Tryz.underlying0
  a0:=Tryz.isAgg0
  z0:=Tryz.sizeOf0
  v0:=Tryz.zeroValue0
  i0:=by kernel_rfl
  t3:=Tryz.underlying3
  a3:=Tryz.isAgg3
  z3:=Tryz.sizeOf3
  v3:=Tryz.zeroValue3
  i3:=by kernel_rfl
  t4:=Tryz.underlying4
  a4:=Tryz.isAgg4
  z4:=Tryz.sizeOf4
  v4:=Tryz.zeroValue4
  i4:=by kernel_rfl
  t9:=Tryz.underlying9
  a9:=Tryz.isAgg9
  z9:=Tryz.sizeOf9
  v9:=Tryz.zeroValue9
  i9:=by kernel_rfl
  t21:=Tryz.underlying21
  a21:=Tryz.isAgg21
  z21:=Tryz.sizeOf21
  v21:=Tryz.zeroValue21
  i21:=by kernel_rfl
  t23:=Tryz.underlying226
  a23:=Tryz.isAgg226
  z23:=Tryz.sizeOf226
  v23:=Tryz.zeroValue226
  i23:=by kernel_rfl }
open Go.RowKit Go.Lib in
theorem Tryz.strings_IndexFunc_runes (g:Nat) (lb:Array Value) (eg:∀ args w,(callFunc g args).run Tryz.prog w = .ok (.enter g args) w) (p:Nat→Bool) (s:ByteArray) (w:World) (hp:PredAtRunes Tryz.prog g lb p w) :
    Calls Tryz.prog 205 #[.string s,.func (.func g) #[] lb] w fun e w'=>e = .returned (.int .i64 (Lib.idxFunc p true s))∧Below w.heap.size w w':=Any.strings_IndexFunc_runes Tryz.laysGw15 g lb eg p s w hp
def Tryz.lays99_ren:Go.Shelf.Ren:=⟨fun|99=>126|206=>170|n=>n,fun|9=>9|4=>4|3=>3|n=>n,fun|n=>n⟩
theorem Tryz.lays99:Go.Proofs.Lays.n99 Tryz.prog Tryz.lays99_ren:={
  mixed:=by kernel_rfl
  f99:=Tryz.func126.trans (congrArg some (by kernel_rfl))
  f206:=Tryz.func170.trans (congrArg some (by kernel_rfl))
  t3:=Tryz.underlying3
  a3:=Tryz.isAgg3
  z3:=Tryz.sizeOf3
  v3:=Tryz.zeroValue3
  t4:=Tryz.underlying4
  a4:=Tryz.isAgg4
  z4:=Tryz.sizeOf4
  v4:=Tryz.zeroValue4
  t9:=Tryz.underlying9
  a9:=Tryz.isAgg9
  z9:=Tryz.sizeOf9
  v9:=Tryz.zeroValue9 }
open Go.RowKit Go.Lib in
/-- strings.HasPrefix: "HasPrefix reports whether the string s begins with prefix.": IT RETURNS 'Lib.hasPrefix s prefix'; the world is as it was. (LAID: no walk: one application.) -/
theorem Tryz.strings_HasPrefix (s p:ByteArray) (w:World) :
    Calls Tryz.prog 126 #[.string s,.string p] w fun e w'=>e = .returned (.bool (Lib.hasPrefix s.data.toList p.data.toList))∧w'=w:=Any.strings_HasPrefix Tryz.lays99 s p w
def Tryz.lays153_ren:Go.Shelf.Ren:=⟨fun|153=>192|152=>215|226=>216|227=>217|228=>218|137=>239|119=>240|224=>241|225=>242|217=>258|266=>264|n=>n,fun|9=>9|3=>3|4=>4|5=>5|21=>21|117=>240|116=>239|0=>0|46=>233|124=>256|n=>n,fun|n=>n⟩
theorem Tryz.lays153:Go.Proofs.Lays.n153 Tryz.prog Tryz.lays153_ren:={
  mixed:=by kernel_rfl
  f119:=Tryz.func240.trans (congrArg some (by kernel_rfl))
  f137:=Tryz.func239.trans (congrArg some (by kernel_rfl))
  f152:=Tryz.func215.trans (congrArg some (by kernel_rfl))
  f153:=Tryz.func192.trans (congrArg some (by kernel_rfl))
  f217:=Tryz.func258.trans (congrArg some (by kernel_rfl))
  f224:=Tryz.func241.trans (congrArg some (by kernel_rfl))
  f225:=Tryz.func242.trans (congrArg some (by kernel_rfl))
  f226:=Tryz.func216.trans (congrArg some (by kernel_rfl))
  f227:=Tryz.func217.trans (congrArg some (by kernel_rfl))
  f228:=Tryz.func218.trans (congrArg some (by kernel_rfl))
  f266:=Tryz.func264.trans (congrArg some (by kernel_rfl))
  t0:=Tryz.underlying0
  a0:=Tryz.isAgg0
  z0:=Tryz.sizeOf0
  v0:=Tryz.zeroValue0
  t3:=Tryz.underlying3
  a3:=Tryz.isAgg3
  z3:=Tryz.sizeOf3
  v3:=Tryz.zeroValue3
  t4:=Tryz.underlying4
  a4:=Tryz.isAgg4
  z4:=Tryz.sizeOf4
  v4:=Tryz.zeroValue4
  t5:=Tryz.underlying5
  a5:=Tryz.isAgg5
  z5:=Tryz.sizeOf5
  v5:=Tryz.zeroValue5
  t9:=Tryz.underlying9
  a9:=Tryz.isAgg9
  z9:=Tryz.sizeOf9
  v9:=Tryz.zeroValue9
  t21:=Tryz.underlying21
  a21:=Tryz.isAgg21
  z21:=Tryz.sizeOf21
  v21:=Tryz.zeroValue21
  t46:=Tryz.underlying233
  a46:=Tryz.isAgg233
  z46:=Tryz.sizeOf233
  v46:=Tryz.zeroValue233
  t116:=Tryz.underlying239
  a116:=Tryz.isAgg239
  z116:=Tryz.sizeOf239
  t117:=Tryz.underlying240
  a117:=Tryz.isAgg240
  z117:=Tryz.sizeOf240
  v117:=Tryz.zeroValue240
  t124:=Tryz.underlying256
  a124:=Tryz.isAgg256
  z124:=Tryz.sizeOf256
  v124:=Tryz.zeroValue256 }
open Go.RowKit Go.Lib in
theorem Tryz.strings_IndexAny_laid (s chars:ByteArray) (w:World) (hs:s.size < 4294967281) (hcs:chars.size < 4294967281) (has:∀ (j:Nat) b,s.data.toList[j]? = some b→b.toNat < 128) (hac:∀ (j:Nat) b,chars.data.toList[j]? = some b→b.toNat < 128) :
    Calls Tryz.prog 192 #[.string s,.string chars] w fun e w'=>e = .returned (.int .i64 (Lib.indexAny s.data.toList chars.data.toList))∧Below w.heap.size w w':=Any.strings_IndexAny_laid Tryz.lays153 (by kernel_rfl) s chars w hs hcs has hac
def Tryz.lays194_ren:Go.Shelf.Ren:=⟨fun|194=>132|n=>n,fun|31=>29|9=>9|3=>3|4=>4|0=>0|n=>n,fun|n=>n⟩
theorem Tryz.lays194:Go.Proofs.Lays.n194 Tryz.prog Tryz.lays194_ren:={
  mixed:=by kernel_rfl
  f194:=Tryz.func132.trans (congrArg some (by kernel_rfl))
  t0:=Tryz.underlying0
  a0:=Tryz.isAgg0
  z0:=Tryz.sizeOf0
  v0:=Tryz.zeroValue0
  t3:=Tryz.underlying3
  a3:=Tryz.isAgg3
  z3:=Tryz.sizeOf3
  v3:=Tryz.zeroValue3
  t4:=Tryz.underlying4
  a4:=Tryz.isAgg4
  z4:=Tryz.sizeOf4
  v4:=Tryz.zeroValue4
  t9:=Tryz.underlying9
  a9:=Tryz.isAgg9
  z9:=Tryz.sizeOf9
  v9:=Tryz.zeroValue9
  t31:=Tryz.underlying29
  a31:=Tryz.isAgg29
  z31:=Tryz.sizeOf29
  v31:=Tryz.zeroValue29 }
open Go.RowKit Go.Lib Go.Sort in
/-- slices.Compact at []string: "Compact replaces consecutive runs of equal elements with a single copy. This is like the uniq command found on Unix. Compact modifies the contents of the slice s and returns the modified slice, which may have a smaller length. Compact zeroes the elements between the new length and the original length. The result preserves the nilness of s.": IT RETURNS THE SLICE CUT TO 'Lib.compact zs'; ITS CELLS HOLD 'Lib.compact zs', THEN ZERO VALUES up to the old length; all else is as it was, but for the count of draws. IN THE WORDS OF slices.Sort's CONTRACT ('Holds', 'putRow'): so the everyday 'slices.Sort(xs); xs = slices.Compact(xs)' goes from the one contract to the other. It asks 'zs.length ≤ cap' (every slice's: the reslicing 's[:k]' looks at it). Length 0, nil: '.._empty'. (LAID: no walk: one application.) -/
theorem Tryz.slices_Compact_string (blk off cap:Nat) (zs:List (List UInt8)) (w:World) (hH:Holds encStr w blk off zs.toArray) (hsz:zs.length ≤ 9223372036854775807) (hcap:zs.length ≤ cap) :
    Calls Tryz.prog 132 #[.slice (some ⟨blk,off,none⟩) zs.length cap] w fun e w'=>e = .returned (.slice (some ⟨blk,off,none⟩) (Lib.compact zs).length cap)∧∃ q,w'=putRow encStr (Sort.ahead w q) blk off (Lib.compact zs ++ List.replicate (zs.length - (Lib.compact zs).length) []).toArray:=Any.slices_Compact_string Tryz.lays194 blk off cap zs w hH hsz hcap
open Go.RowKit Go.Lib Go.Sort in
/-- The same at a slice of length 0, a nil one too: it comes back as it is. (LAID: no walk: one application.) -/
theorem Tryz.slices_Compact_string_empty (a:Option Addr) (cap:Nat) (w:World) :
    Calls Tryz.prog 132 #[.slice a 0 cap] w fun e w'=>e = .returned (.slice a 0 cap)∧w'=w:=Any.slices_Compact_string_empty Tryz.lays194 a cap w
def Tryz.laysSlM6_f176_ren:Go.Shelf.Ren:=⟨fun|6=>176|8=>213|9=>212|19=>238|20=>207|21=>229|22=>230|23=>231|24=>232|25=>233|26=>234|27=>235|28=>236|29=>237|36=>252|31=>253|32=>254|37=>255|38=>256|39=>257|41=>263|n=>n,fun|27=>29|29=>9|3=>3|32=>233|26=>29|0=>0|44=>231|46=>197|4=>4|36=>250|35=>249|41=>107|5=>5|9=>9|53=>268|57=>174|63=>283|64=>284|n=>n,fun|n=>n⟩
theorem Tryz.laysSlM6_f176:Go.Proofs.SlLaysM.n6 Tryz.prog Tryz.laysSlM6_f176_ren:={
  mixed:=by kernel_rfl
  f6:=⟨Tryz.f176.name,by decide,Tryz.func176.trans (congrArg some (by kernel_rfl))⟩
  f8:=Tryz.func213.trans (congrArg some (by kernel_rfl))
  f9:=⟨Tryz.f212.name,by decide,Tryz.func212.trans (congrArg some (by kernel_rfl))⟩
  f19:=Tryz.func238.trans (congrArg some (by kernel_rfl))
  f20:=Tryz.func207.trans (congrArg some (by kernel_rfl))
  f21:=⟨Tryz.f229.name,by decide,Tryz.func229.trans (congrArg some (by kernel_rfl))⟩
  f22:=⟨Tryz.f230.name,by decide,Tryz.func230.trans (congrArg some (by kernel_rfl))⟩
  f23:=⟨Tryz.f231.name,by decide,Tryz.func231.trans (congrArg some (by kernel_rfl))⟩
  f24:=⟨Tryz.f232.name,by decide,Tryz.func232.trans (congrArg some (by kernel_rfl))⟩
  f25:=⟨Tryz.f233.name,by decide,Tryz.func233.trans (congrArg some (by kernel_rfl))⟩
  f26:=⟨Tryz.f234.name,by decide,Tryz.func234.trans (congrArg some (by kernel_rfl))⟩
  f27:=⟨Tryz.f235.name,by decide,Tryz.func235.trans (congrArg some (by kernel_rfl))⟩
  f28:=⟨Tryz.f236.name,by decide,Tryz.func236.trans (congrArg some (by kernel_rfl))⟩
  f29:=⟨Tryz.f237.name,by decide,Tryz.func237.trans (congrArg some (by kernel_rfl))⟩
  f31:=Tryz.func253.trans (congrArg some (by kernel_rfl))
  f32:=Tryz.func254.trans (congrArg some (by kernel_rfl))
  f36:=⟨Tryz.f252.name,by decide,Tryz.func252.trans (congrArg some (by kernel_rfl))⟩
  f37:=⟨Tryz.f255.name,by decide,Tryz.func255.trans (congrArg some (by kernel_rfl))⟩
  f38:=⟨Tryz.f256.name,by decide,Tryz.func256.trans (congrArg some (by kernel_rfl))⟩
  f39:=⟨Tryz.f257.name,by decide,Tryz.func257.trans (congrArg some (by kernel_rfl))⟩
  f41:=⟨Tryz.f263.name,by decide,Tryz.func263.trans (congrArg some (by kernel_rfl))⟩
  t0:=Tryz.underlying0
  a0:=Tryz.isAgg0
  z0:=Tryz.sizeOf0
  v0:=Tryz.zeroValue0
  t3:=Tryz.underlying3
  a3:=Tryz.isAgg3
  z3:=Tryz.sizeOf3
  v3:=Tryz.zeroValue3
  t4:=Tryz.underlying4
  a4:=Tryz.isAgg4
  z4:=Tryz.sizeOf4
  v4:=Tryz.zeroValue4
  t5:=Tryz.underlying5
  a5:=Tryz.isAgg5
  z5:=Tryz.sizeOf5
  v5:=Tryz.zeroValue5
  t9:=Tryz.underlying9
  a9:=Tryz.isAgg9
  z9:=Tryz.sizeOf9
  v9:=Tryz.zeroValue9
  t26:=Tryz.underlying29
  a26:=Tryz.isAgg29
  z26:=Tryz.sizeOf29
  v26:=Tryz.zeroValue29
  t27:=Tryz.underlying29
  a27:=Tryz.isAgg29
  z27:=Tryz.sizeOf29
  v27:=Tryz.zeroValue29
  t29:=Tryz.underlying9
  a29:=Tryz.isAgg9
  z29:=Tryz.sizeOf9
  v29:=Tryz.zeroValue9
  t32:=Tryz.underlying233
  a32:=Tryz.isAgg233
  z32:=Tryz.sizeOf233
  v32:=Tryz.zeroValue233
  t35:=Tryz.underlying249
  a35:=Tryz.isAgg249
  z35:=Tryz.sizeOf249
  v35:=Tryz.zeroValue249
  t36:=Tryz.underlying250
  a36:=Tryz.isAgg250
  z36:=Tryz.sizeOf250
  v36:=Tryz.zeroValue250
  t41:=Tryz.underlying107
  a41:=Tryz.isAgg107
  z41:=Tryz.sizeOf107
  v41:=Tryz.zeroValue107
  t44:=Tryz.underlying231
  a44:=Tryz.isAgg231
  z44:=Tryz.sizeOf231
  v44:=Tryz.zeroValue231
  t46:=Tryz.underlying197
  a46:=Tryz.isAgg197
  z46:=Tryz.sizeOf197
  v46:=Tryz.zeroValue197
  t53:=Tryz.underlying268
  a53:=Tryz.isAgg268
  z53:=Tryz.sizeOf268
  v53:=Tryz.zeroValue268
  t57:=Tryz.underlying174
  a57:=Tryz.isAgg174
  z57:=Tryz.sizeOf174
  v57:=Tryz.zeroValue174
  t63:=Tryz.underlying283
  a63:=Tryz.isAgg283
  z63:=Tryz.sizeOf283
  v63:=Tryz.zeroValue283
  t64:=Tryz.underlying284
  a64:=Tryz.isAgg284
  z64:=Tryz.sizeOf284
  v64:=Tryz.zeroValue284 }
open Go.Sort Go.RowKit in
theorem Tryz.slices_Sort_string (blk off cap:Nat) (ss:List (List UInt8)) (w:World) (hH:Holds encStr w blk off ss.toArray) (hblk:blk < w.heap.size) (hsz:ss.length < 4611686018427387904) :
    Calls Tryz.prog 176 #[.slice (some ⟨blk,off,none⟩) ss.length cap] w fun e w' =>
      e = .returned (.tuple #[])∧∃ n os,w'=grow (putRow encStr (Sort.ahead w n) blk off (ss.mergeSort fun x y=>decide (x ≤ y)).toArray) os:=AnyM.slices_Sort_string Tryz.laysSlM6_f176 blk off cap ss w hH hblk hsz
open Go.RowKit Go.Sort in
/-- .. and plain. (LAID AT THE INSTANCE 'slices.Sort[[]string,string]': no walk: one application.) -/
theorem Tryz.slices_Sort_string_none (p:Option Addr) (cap:Nat) (w:World) :
    Calls Tryz.prog 176 #[.slice p 0 cap] w fun e w'=>e = .returned (.tuple #[])∧w'=w:=AnyM.slices_Sort_string_none Tryz.laysSlM6_f176 p cap w
end Go.Proofs
