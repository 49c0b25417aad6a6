/- DERIVED: THE SHELF's CONTRACTS AT THIS DUMP, IN PLAIN WORDS (tools/lay-plain.mjs out of 'TryzShelfCut.lean', which tools/lay-shelf.mjs wrote): THE SAME DECLARATIONS UNDER THE SAME NAMES: 'import', 'namespace', 'open', 'def', 'theorem' AND NOTHING ELSE: no command of the shelf's: FOR A HAND-IN. Each laying: the table of numbers ('.._ren') and one theorem, a field a fact of the dump's own or the kernel's comparison; each contract: ONE APPLICATION. -/
import Derived.Shelf.Strings.OnBuilder
import Derived.Shelf.Small.Wraps
import Derived.Shelf.Strings.BuilderK
import Derived.Shelf.Strings.Builder2Cap
import Derived.Shelf.Strconv.Itoa3
import Derived.Shelf.Strconv.ErrVarAll
import Derived.Shelf.Strconv.ParseUintEmpty
import Derived.Shelf.Strconv.ParseUint10b64
import Derived.Shelf.Strconv.ParseUint10b32
import Derived.Shelf.Strconv.ParseUint10b16
import Derived.Shelf.Strconv.ParseUint10b8
import Derived.Shelf.Strings.Shaped
import Derived.Shelf.GgClosure.StringsRunes
import Derived.Shelf.Unicode.Decode
import Derived.Shelf.Strings.IndexAnyAll
import Derived.Shelf.Slices.Turned
import Derived.Shelf.Slices.Clone
import Derived.Shelf.Slices.Cells
import Derived.Shelf.SlicesE.Clone
import Derived.Shelf.SortM.Plain
import Derived.Shelf.SortM.SortNone
import Derived.Test.YtbnodhcijeaceaaGreatDoorProg
set_option linter.all false
namespace Go.Proofs
open Go.Shelf
def Tryz.lays156_ren:Go.Shelf.Ren:=⟨fun|156=>221|165=>263|166=>264|169=>265|240=>303|241=>304|276=>335|277=>336|n=>n,fun|31=>49|9=>9|3=>3|4=>4|0=>0|20=>20|72=>266|76=>246|70=>263|37=>264|75=>245|127=>301|164=>328|5=>5|80=>202|n=>n,fun|n=>n⟩
def Tryz.lays156:Go.Proofs.Lays.n156 Tryz.prog Tryz.lays156_ren:={
 mixed:=by kernel_rfl
 f156:=Tryz.func221.trans (congrArg some (by kernel_rfl))
 f165:=Tryz.func263.trans (congrArg some (by kernel_rfl))
 f166:=Tryz.func264.trans (congrArg some (by kernel_rfl))
 f169:=Tryz.func265.trans (congrArg some (by kernel_rfl))
 f240:=Tryz.func303.trans (congrArg some (by kernel_rfl))
 f241:=Tryz.func304.trans (congrArg some (by kernel_rfl))
 f276:=Tryz.func335.trans (congrArg some (by kernel_rfl))
 f277:=Tryz.func336.trans (congrArg some (by kernel_rfl))
 t0:=Tryz.underlying0
 a0:=Tryz.isAgg0
 z0:=Tryz.sizeOf0
 v0:=Tryz.zeroValue0
 t3:=Tryz.underlying3
 a3:=Tryz.isAgg3
 z3:=Tryz.sizeOf3
 v3:=Tryz.zeroValue3
 t4:=Tryz.underlying4
 a4:=Tryz.isAgg4
 z4:=Tryz.sizeOf4
 v4:=Tryz.zeroValue4
 t9:=Tryz.underlying9
 a9:=Tryz.isAgg9
 z9:=Tryz.sizeOf9
 v9:=Tryz.zeroValue9
 t20:=Tryz.underlying20
 a20:=Tryz.isAgg20
 z20:=Tryz.sizeOf20
 v20:=Tryz.zeroValue20
 t31:=Tryz.underlying49
 a31:=Tryz.isAgg49
 z31:=Tryz.sizeOf49
 v31:=Tryz.zeroValue49
 t37:=Tryz.underlying264
 a37:=Tryz.isAgg264
 z37:=Tryz.sizeOf264
 v37:=Tryz.zeroValue264
 t70:=Tryz.underlying263
 a70:=Tryz.isAgg263
 z70:=Tryz.sizeOf263
 v70:=Tryz.zeroValue263
 t72:=Tryz.underlying266
 a72:=Tryz.isAgg266
 z72:=Tryz.sizeOf266
 v72:=Tryz.zeroValue266
 t75:=Tryz.underlying245
 a75:=Tryz.isAgg245
 z75:=Tryz.sizeOf245
 v75:=Tryz.zeroValue245
 t76:=Tryz.underlying246
 a76:=Tryz.isAgg246
 z76:=Tryz.sizeOf246
 v76:=Tryz.zeroValue246
 t127:=Tryz.underlying301
 a127:=Tryz.isAgg301
 z127:=Tryz.sizeOf301
 v127:=Tryz.zeroValue301
 t164:=Tryz.underlying328
 a164:=Tryz.isAgg328
 z164:=Tryz.sizeOf328
 v164:=Tryz.zeroValue328 }
def Tryz.Builder_Extra_156:Builder.Extra Tryz.prog Tryz.lays156_ren:={
 sizeBuilder:=by kernel_rfl
 liesBuilder:=by kernel_rfl
 t5:=Tryz.underlying5
 a5:=Tryz.isAgg5
 z5:=Tryz.sizeOf5
 v5:=Tryz.zeroValue5
 infoByte:=by kernel_rfl
 cellsByte:=by kernel_rfl
 sizeByte:=by kernel_rfl
 neB5:=by decide }
open Go.RowKit in
def Tryz.strings_Join_none(a:Option Addr)(c:Nat)(sep:ByteArray)(w:World):
  Calls Tryz.prog 221 #[.slice a 0 c,.string sep] w fun e w'=>e=.returned (.string ⟨#[]⟩)∧w'=w:=Any.strings_Join_none Tryz.lays156 Tryz.Builder_Extra_156 a c sep w
open Go.RowKit in
def Tryz.strings_Join(bk o c:Nat)(xs:List ByteArray)(sep:ByteArray)(w:World)(hA:∀(j:Nat) x,xs[j]?=some x→w.cell? ⟨bk,o+j,none⟩=some (.string x))(gA:bk<w.heap.size)(hN:xs.length≤140737488355328)(qA:xs.length≤c)(hlen:(Lib.join (xs.map (·.data.toList)) sep.data.toList).length≤140737488355328):
  Calls Tryz.prog 221 #[.slice (some ⟨bk,o,none⟩) xs.length c,.string sep] w fun e w'=>e=.returned (.string ⟨(Lib.join (xs.map (·.data.toList)) sep.data.toList).toArray⟩)∧Below w.heap.size w w':=Any.strings_Join Tryz.lays156 Tryz.Builder_Extra_156 bk o c xs sep w hA gA hN qA hlen
def Tryz.lays103_ren:Go.Shelf.Ren:=⟨fun|103=>189|210=>247|206=>289|n=>n,fun|9=>9|4=>4|24=>203|3=>3|n=>n,fun|n=>n⟩
def Tryz.lays103:Go.Proofs.Lays.n103 Tryz.prog Tryz.lays103_ren:={
 mixed:=by kernel_rfl
 f103:=Tryz.func189.trans (congrArg some (by kernel_rfl))
 f206:=Tryz.func289.trans (congrArg some (by kernel_rfl))
 f210:=Tryz.func247.trans (congrArg some (by kernel_rfl))
 t3:=Tryz.underlying3
 a3:=Tryz.isAgg3
 z3:=Tryz.sizeOf3
 v3:=Tryz.zeroValue3
 t4:=Tryz.underlying4
 a4:=Tryz.isAgg4
 z4:=Tryz.sizeOf4
 v4:=Tryz.zeroValue4
 t9:=Tryz.underlying9
 a9:=Tryz.isAgg9
 z9:=Tryz.sizeOf9
 v9:=Tryz.zeroValue9
 t24:=Tryz.underlying203
 a24:=Tryz.isAgg203
 z24:=Tryz.sizeOf203
 v24:=Tryz.zeroValue203 }
open Go.RowKit in
def Tryz.strings_CutPrefix(s p:ByteArray)(w:World):
  Calls Tryz.prog 189 #[.string s,.string p] w fun e w'=>e=.returned (.tuple #[.string ⟨(Lib.trimPrefix s.data.toList p.data.toList).toArray⟩,.bool (Lib.hasPrefix s.data.toList p.data.toList)])∧w'=w:=Any.strings_CutPrefix Tryz.lays103 s p w
def Tryz.lays172_ren:Go.Shelf.Ren:=⟨fun|172=>248|244=>290|245=>291|247=>323|279=>324|280=>325|281=>326|282=>327|287=>356|316=>357|171=>165|205=>358|321=>379|322=>380|243=>220|246=>262|283=>299|284=>300|285=>301|286=>302|129=>331|317=>330|318=>332|319=>333|320=>334|337=>360|338=>361|n=>n,fun|9=>9|3=>3|75=>245|76=>246|4=>4|5=>5|167=>317|37=>264|0=>0|85=>318|2=>2|168=>320|53=>296|175=>347|46=>314|210=>351|127=>301|145=>369|143=>367|21=>21|171=>295|173=>299|212=>325|51=>326|20=>20|213=>327|232=>372|233=>373|80=>202|n=>n,fun|15=>4|16=>5|17=>0|18=>6|19=>7|n=>n⟩
def Tryz.lays172:Go.Proofs.Lays.n172 Tryz.prog Tryz.lays172_ren:={
 mixed:=by kernel_rfl
 f129:=Tryz.func331.trans (congrArg some (by kernel_rfl))
 f171:=Tryz.func165.trans (congrArg some (by kernel_rfl))
 f172:=Tryz.func248.trans (congrArg some (by kernel_rfl))
 f205:=Tryz.func358.trans (congrArg some (by kernel_rfl))
 f243:=Tryz.func220.trans (congrArg some (by kernel_rfl))
 f244:=Tryz.func290.trans (congrArg some (by kernel_rfl))
 f245:=Tryz.func291.trans (congrArg some (by kernel_rfl))
 f246:=Tryz.func262.trans (congrArg some (by kernel_rfl))
 f247:=Tryz.func323.trans (congrArg some (by kernel_rfl))
 f279:=Tryz.func324.trans (congrArg some (by kernel_rfl))
 f280:=Tryz.func325.trans (congrArg some (by kernel_rfl))
 f281:=Tryz.func326.trans (congrArg some (by kernel_rfl))
 f282:=Tryz.func327.trans (congrArg some (by kernel_rfl))
 f283:=Tryz.func299.trans (congrArg some (by kernel_rfl))
 f284:=Tryz.func300.trans (congrArg some (by kernel_rfl))
 f285:=Tryz.func301.trans (congrArg some (by kernel_rfl))
 f286:=Tryz.func302.trans (congrArg some (by kernel_rfl))
 f287:=Tryz.func356.trans (congrArg some (by kernel_rfl))
 f316:=Tryz.func357.trans (congrArg some (by kernel_rfl))
 f317:=Tryz.func330.trans (congrArg some (by kernel_rfl))
 f318:=Tryz.func332.trans (congrArg some (by kernel_rfl))
 f319:=Tryz.func333.trans (congrArg some (by kernel_rfl))
 f320:=Tryz.func334.trans (congrArg some (by kernel_rfl))
 f321:=Tryz.func379.trans (congrArg some (by kernel_rfl))
 f322:=Tryz.func380.trans (congrArg some (by kernel_rfl))
 f337:=Tryz.func360.trans (congrArg some (by kernel_rfl))
 f338:=Tryz.func361.trans (congrArg some (by kernel_rfl))
 t0:=Tryz.underlying0
 a0:=Tryz.isAgg0
 z0:=Tryz.sizeOf0
 v0:=Tryz.zeroValue0
 t2:=Tryz.underlying2
 a2:=Tryz.isAgg2
 z2:=Tryz.sizeOf2
 v2:=Tryz.zeroValue2
 t3:=Tryz.underlying3
 a3:=Tryz.isAgg3
 z3:=Tryz.sizeOf3
 v3:=Tryz.zeroValue3
 t4:=Tryz.underlying4
 a4:=Tryz.isAgg4
 z4:=Tryz.sizeOf4
 v4:=Tryz.zeroValue4
 t5:=Tryz.underlying5
 a5:=Tryz.isAgg5
 z5:=Tryz.sizeOf5
 v5:=Tryz.zeroValue5
 t9:=Tryz.underlying9
 a9:=Tryz.isAgg9
 z9:=Tryz.sizeOf9
 v9:=Tryz.zeroValue9
 t20:=Tryz.underlying20
 a20:=Tryz.isAgg20
 z20:=Tryz.sizeOf20
 v20:=Tryz.zeroValue20
 t21:=Tryz.underlying21
 a21:=Tryz.isAgg21
 z21:=Tryz.sizeOf21
 v21:=Tryz.zeroValue21
 t37:=Tryz.underlying264
 a37:=Tryz.isAgg264
 z37:=Tryz.sizeOf264
 v37:=Tryz.zeroValue264
 t46:=Tryz.underlying314
 a46:=Tryz.isAgg314
 z46:=Tryz.sizeOf314
 v46:=Tryz.zeroValue314
 t51:=Tryz.underlying326
 a51:=Tryz.isAgg326
 z51:=Tryz.sizeOf326
 v51:=Tryz.zeroValue326
 t53:=Tryz.underlying296
 a53:=Tryz.isAgg296
 z53:=Tryz.sizeOf296
 v53:=Tryz.zeroValue296
 t75:=Tryz.underlying245
 a75:=Tryz.isAgg245
 z75:=Tryz.sizeOf245
 v75:=Tryz.zeroValue245
 t76:=Tryz.underlying246
 a76:=Tryz.isAgg246
 z76:=Tryz.sizeOf246
 v76:=Tryz.zeroValue246
 t85:=Tryz.underlying318
 a85:=Tryz.isAgg318
 z85:=Tryz.sizeOf318
 v85:=Tryz.zeroValue318
 t127:=Tryz.underlying301
 a127:=Tryz.isAgg301
 z127:=Tryz.sizeOf301
 v127:=Tryz.zeroValue301
 t143:=Tryz.underlying367
 a143:=Tryz.isAgg367
 z143:=Tryz.sizeOf367
 v143:=Tryz.zeroValue367
 t145:=Tryz.underlying369
 a145:=Tryz.isAgg369
 z145:=Tryz.sizeOf369
 v145:=Tryz.zeroValue369
 t167:=Tryz.underlying317
 a167:=Tryz.isAgg317
 z167:=Tryz.sizeOf317
 v167:=Tryz.zeroValue317
 t168:=Tryz.underlying320
 a168:=Tryz.isAgg320
 z168:=Tryz.sizeOf320
 v168:=Tryz.zeroValue320
 t171:=Tryz.underlying295
 a171:=Tryz.isAgg295
 z171:=Tryz.sizeOf295
 v171:=Tryz.zeroValue295
 t173:=Tryz.underlying299
 a173:=Tryz.isAgg299
 z173:=Tryz.sizeOf299
 v173:=Tryz.zeroValue299
 t175:=Tryz.underlying347
 a175:=Tryz.isAgg347
 z175:=Tryz.sizeOf347
 v175:=Tryz.zeroValue347
 t210:=Tryz.underlying351
 a210:=Tryz.isAgg351
 z210:=Tryz.sizeOf351
 v210:=Tryz.zeroValue351
 t212:=Tryz.underlying325
 a212:=Tryz.isAgg325
 z212:=Tryz.sizeOf325
 v212:=Tryz.zeroValue325
 t213:=Tryz.underlying327
 a213:=Tryz.isAgg327
 z213:=Tryz.sizeOf327
 t232:=Tryz.underlying372
 a232:=Tryz.isAgg372
 z232:=Tryz.sizeOf372
 v232:=Tryz.zeroValue372
 t233:=Tryz.underlying373
 a233:=Tryz.isAgg373
 z233:=Tryz.sizeOf373
 v233:=Tryz.zeroValue373
 g15:=by kernel_rfl
 g16:=by kernel_rfl
 g17:=by kernel_rfl
 g18:=by kernel_rfl
 g19:=by kernel_rfl }
open Go.RowKit in
def Tryz.strconv_Atoi(s:ByteArray)(n:Int)(hl:s.size≤18)(h:Lib.atoi s.data.toList=some n)(w:World):
  Calls Tryz.prog 248 #[.string s] w fun e w'=>e=.returned (.tuple #[.int .i64 n,.nilIface])∧∃t,w'=Lib.bytesWorld w 5 t:=Any.strconv_Atoi Tryz.lays172 s n hl h w
def Tryz.laysM171_ren:Go.Shelf.Ren:=⟨fun|171=>165|243=>220|246=>262|283=>299|284=>300|285=>301|286=>302|129=>331|317=>330|318=>332|319=>333|320=>334|337=>360|338=>361|n=>n,fun|3=>3|9=>9|2=>2|4=>4|171=>295|0=>0|53=>296|37=>264|5=>5|173=>299|212=>325|51=>326|20=>20|213=>327|46=>314|232=>372|233=>373|n=>n,fun|17=>0|18=>6|19=>7|n=>n⟩
def Tryz.laysM171:Go.Proofs.LaysM.n171 Tryz.prog Tryz.laysM171_ren:={
 mixed:=by kernel_rfl
 f129:=Tryz.func331.trans (congrArg some (by kernel_rfl))
 f171:=Tryz.func165.trans (congrArg some (by kernel_rfl))
 f243:=Tryz.func220.trans (congrArg some (by kernel_rfl))
 f246:=Tryz.func262.trans (congrArg some (by kernel_rfl))
 f283:=Tryz.func299.trans (congrArg some (by kernel_rfl))
 f284:=Tryz.func300.trans (congrArg some (by kernel_rfl))
 f285:=Tryz.func301.trans (congrArg some (by kernel_rfl))
 f286:=Tryz.func302.trans (congrArg some (by kernel_rfl))
 f317:=Tryz.func330.trans (congrArg some (by kernel_rfl))
 f318:=Tryz.func332.trans (congrArg some (by kernel_rfl))
 f319:=Tryz.func333.trans (congrArg some (by kernel_rfl))
 f320:=Tryz.func334.trans (congrArg some (by kernel_rfl))
 f337:=Tryz.func360.trans (congrArg some (by kernel_rfl))
 f338:=Tryz.func361.trans (congrArg some (by kernel_rfl))
 t0:=Tryz.underlying0
 a0:=Tryz.isAgg0
 z0:=Tryz.sizeOf0
 v0:=Tryz.zeroValue0
 t2:=Tryz.underlying2
 a2:=Tryz.isAgg2
 z2:=Tryz.sizeOf2
 v2:=Tryz.zeroValue2
 t3:=Tryz.underlying3
 a3:=Tryz.isAgg3
 z3:=Tryz.sizeOf3
 v3:=Tryz.zeroValue3
 t4:=Tryz.underlying4
 a4:=Tryz.isAgg4
 z4:=Tryz.sizeOf4
 v4:=Tryz.zeroValue4
 t5:=Tryz.underlying5
 a5:=Tryz.isAgg5
 z5:=Tryz.sizeOf5
 v5:=Tryz.zeroValue5
 t9:=Tryz.underlying9
 a9:=Tryz.isAgg9
 z9:=Tryz.sizeOf9
 v9:=Tryz.zeroValue9
 t20:=Tryz.underlying20
 a20:=Tryz.isAgg20
 z20:=Tryz.sizeOf20
 v20:=Tryz.zeroValue20
 t37:=Tryz.underlying264
 a37:=Tryz.isAgg264
 z37:=Tryz.sizeOf264
 v37:=Tryz.zeroValue264
 t46:=Tryz.underlying314
 a46:=Tryz.isAgg314
 z46:=Tryz.sizeOf314
 v46:=Tryz.zeroValue314
 t51:=Tryz.underlying326
 a51:=Tryz.isAgg326
 z51:=Tryz.sizeOf326
 v51:=Tryz.zeroValue326
 t53:=Tryz.underlying296
 a53:=Tryz.isAgg296
 z53:=Tryz.sizeOf296
 v53:=Tryz.zeroValue296
 t171:=Tryz.underlying295
 a171:=Tryz.isAgg295
 z171:=Tryz.sizeOf295
 v171:=Tryz.zeroValue295
 t173:=Tryz.underlying299
 a173:=Tryz.isAgg299
 z173:=Tryz.sizeOf299
 v173:=Tryz.zeroValue299
 t212:=Tryz.underlying325
 a212:=Tryz.isAgg325
 z212:=Tryz.sizeOf325
 v212:=Tryz.zeroValue325
 t213:=Tryz.underlying327
 a213:=Tryz.isAgg327
 z213:=Tryz.sizeOf327
 t232:=Tryz.underlying372
 a232:=Tryz.isAgg372
 z232:=Tryz.sizeOf372
 v232:=Tryz.zeroValue372
 t233:=Tryz.underlying373
 a233:=Tryz.isAgg373
 z233:=Tryz.sizeOf373
 v233:=Tryz.zeroValue373
 g17:=by kernel_rfl
 g18:=by kernel_rfl
 g19:=by kernel_rfl
 i0:=by kernel_rfl
 i2:=by kernel_rfl
 i3:=by kernel_rfl
 i4:=by kernel_rfl
 i5:=by kernel_rfl
 i9:=by kernel_rfl
 i20:=by kernel_rfl
 i37:=by kernel_rfl
 i46:=by kernel_rfl
 i51:=by kernel_rfl
 i53:=by kernel_rfl
 i171:=by kernel_rfl
 i173:=by kernel_rfl
 i212:=by kernel_rfl
 i232:=by kernel_rfl
 i233:=by kernel_rfl
 m17:=by kernel_rfl
 m18:=by kernel_rfl
 m19:=by kernel_rfl }
open Go.RowKit Go.Sort Go.Lib in
def Tryz.strconv_Itoa (n:Int) (h0 : -9223372036854775808≤n) (h1:n≤9223372036854775807) (w:World) (hA:Lib.TabIs Tryz.prog w "internal/strconv.uint64pow10" .u64 Lib.pow10Tab) :
  Calls Tryz.prog 165 #[.int .i64 n] w fun e w'=>e=.returned (.string ⟨(Lib.itoa n).toArray⟩)∧∃k os,w'=grow (w.drewN k) os:=Any.strconv_Itoa Tryz.laysM171 n h0 h1 w hA
def Tryz.lays143_ren:Go.Shelf.Ren:=⟨fun|143=>283|219=>318|217=>354|225=>322|224=>321|267=>355|266=>377|314=>378|n=>n,fun|9=>9|3=>3|4=>4|5=>5|46=>314|146=>364|51=>326|n=>n,fun|1=>3|n=>n⟩
def Tryz.lays143:Go.Proofs.Lays.n143 Tryz.prog Tryz.lays143_ren:={
 mixed:=by kernel_rfl
 f143:=Tryz.func283.trans (congrArg some (by kernel_rfl))
 f217:=Tryz.func354.trans (congrArg some (by kernel_rfl))
 f219:=Tryz.func318.trans (congrArg some (by kernel_rfl))
 f224:=Tryz.func321.trans (congrArg some (by kernel_rfl))
 f225:=Tryz.func322.trans (congrArg some (by kernel_rfl))
 f266:=Tryz.func377.trans (congrArg some (by kernel_rfl))
 f267:=Tryz.func355.trans (congrArg some (by kernel_rfl))
 f314:=Tryz.func378.trans (congrArg some (by kernel_rfl))
 t3:=Tryz.underlying3
 a3:=Tryz.isAgg3
 z3:=Tryz.sizeOf3
 v3:=Tryz.zeroValue3
 t4:=Tryz.underlying4
 a4:=Tryz.isAgg4
 z4:=Tryz.sizeOf4
 v4:=Tryz.zeroValue4
 t5:=Tryz.underlying5
 a5:=Tryz.isAgg5
 z5:=Tryz.sizeOf5
 v5:=Tryz.zeroValue5
 t9:=Tryz.underlying9
 a9:=Tryz.isAgg9
 z9:=Tryz.sizeOf9
 v9:=Tryz.zeroValue9
 t46:=Tryz.underlying314
 a46:=Tryz.isAgg314
 z46:=Tryz.sizeOf314
 v46:=Tryz.zeroValue314
 t51:=Tryz.underlying326
 a51:=Tryz.isAgg326
 z51:=Tryz.sizeOf326
 v51:=Tryz.zeroValue326
 t146:=Tryz.underlying364
 a146:=Tryz.isAgg364
 z146:=Tryz.sizeOf364
 v146:=Tryz.zeroValue364
 g1:=by kernel_rfl }
open Go.RowKit Go.Lib in
def Tryz.strings_Index_one(s:ByteArray)(c:UInt8)(w:World):
  Calls Tryz.prog 283 #[.string s,.string ⟨#[c]⟩] w fun e w'=>e=.returned (.int .i64 (Lib.indexByte s.data.toList c))∧w'=w:=Any.strings_Index_one Tryz.lays143 s c w
open Go.RowKit Go.Lib in
def Tryz.strings_Index(s sub:ByteArray)(m:Int)(w:World)(hs:s.size<4294967281)(hm:w.cell? ⟨3,0,none⟩=some (.int .i64 m)):
  Calls Tryz.prog 283 #[.string s,.string sub] w fun e w'=>e=.returned (.int .i64 (Lib.index s.data.toList sub.data.toList))∧w'=w:=Any.strings_Index Tryz.lays143 s sub m w hs hm
def Tryz.laysM143_ren:Go.Shelf.Ren:=⟨fun|143=>283|219=>318|217=>354|225=>322|224=>321|267=>355|266=>377|314=>378|n=>n,fun|9=>9|3=>3|4=>4|5=>5|46=>314|146=>364|51=>326|n=>n,fun|1=>3|n=>n⟩
def Tryz.laysM143:Go.Proofs.LaysM.n143 Tryz.prog Tryz.laysM143_ren:={
 mixed:=by kernel_rfl
 f143:=Tryz.func283.trans (congrArg some (by kernel_rfl))
 f217:=Tryz.func354.trans (congrArg some (by kernel_rfl))
 f219:=Tryz.func318.trans (congrArg some (by kernel_rfl))
 f224:=Tryz.func321.trans (congrArg some (by kernel_rfl))
 f225:=Tryz.func322.trans (congrArg some (by kernel_rfl))
 f266:=Tryz.func377.trans (congrArg some (by kernel_rfl))
 f267:=Tryz.func355.trans (congrArg some (by kernel_rfl))
 f314:=Tryz.func378.trans (congrArg some (by kernel_rfl))
 t3:=Tryz.underlying3
 a3:=Tryz.isAgg3
 z3:=Tryz.sizeOf3
 v3:=Tryz.zeroValue3
 t4:=Tryz.underlying4
 a4:=Tryz.isAgg4
 z4:=Tryz.sizeOf4
 v4:=Tryz.zeroValue4
 t5:=Tryz.underlying5
 a5:=Tryz.isAgg5
 z5:=Tryz.sizeOf5
 v5:=Tryz.zeroValue5
 t9:=Tryz.underlying9
 a9:=Tryz.isAgg9
 z9:=Tryz.sizeOf9
 v9:=Tryz.zeroValue9
 t46:=Tryz.underlying314
 a46:=Tryz.isAgg314
 z46:=Tryz.sizeOf314
 v46:=Tryz.zeroValue314
 t51:=Tryz.underlying326
 a51:=Tryz.isAgg326
 z51:=Tryz.sizeOf326
 v51:=Tryz.zeroValue326
 t146:=Tryz.underlying364
 a146:=Tryz.isAgg364
 z146:=Tryz.sizeOf364
 v146:=Tryz.zeroValue364
 g1:=by kernel_rfl
 i3:=by kernel_rfl
 i4:=by kernel_rfl
 i5:=by kernel_rfl
 i9:=by kernel_rfl
 i46:=by kernel_rfl
 i51:=by kernel_rfl
 i146:=by kernel_rfl
 m1:=by kernel_rfl
 s1_3:=fun w h=>Go.Proofs.cell_of_shapedOpen_int (zero:=#[.int .i64 0]) (t:=3) h (of_decide_eq_true (by kernel_rfl)) (by kernel_rfl) rfl (by kernel_rfl) (by kernel_rfl) Tryz.underlying3 }
open Go.RowKit Go.Lib in
def Tryz.strings_Index_shaped(s sub:ByteArray)(w:World)(h:w.ShapedOpen Tryz.prog)(hs:s.size<4294967281):
  Calls Tryz.prog 283 #[.string s,.string sub] w fun e w'=>e=.returned (.int .i64 (Lib.index s.data.toList sub.data.toList))∧w'=w:=Any.strings_Index_shaped Tryz.laysM143 s sub w h hs
def Tryz.laysGw15_ren:Go.Shelf.Ren:=⟨fun|15=>245|20=>284|n=>n,fun|9=>9|23=>241|3=>3|4=>4|0=>0|21=>21|n=>n,fun|n=>n⟩
def Tryz.laysGw15:Go.Proofs.LaysGw.n15 Tryz.prog Tryz.laysGw15_ren:={
 mixed:=by kernel_rfl
 f15:=Tryz.func245.trans (congrArg some (by kernel_rfl))
 f20:=Tryz.func284.trans (congrArg some (by kernel_rfl))
 t0:=Tryz.underlying0
 a0:=Tryz.isAgg0
 z0:=Tryz.sizeOf0
 v0:=Tryz.zeroValue0
 i0:=by kernel_rfl
 t3:=Tryz.underlying3
 a3:=Tryz.isAgg3
 z3:=Tryz.sizeOf3
 v3:=Tryz.zeroValue3
 i3:=by kernel_rfl
 t4:=Tryz.underlying4
 a4:=Tryz.isAgg4
 z4:=Tryz.sizeOf4
 v4:=Tryz.zeroValue4
 i4:=by kernel_rfl
 t9:=Tryz.underlying9
 a9:=Tryz.isAgg9
 z9:=Tryz.sizeOf9
 v9:=Tryz.zeroValue9
 i9:=by kernel_rfl
 t21:=Tryz.underlying21
 a21:=Tryz.isAgg21
 z21:=Tryz.sizeOf21
 v21:=Tryz.zeroValue21
 i21:=by kernel_rfl
 t23:=Tryz.underlying241
 a23:=Tryz.isAgg241
 z23:=Tryz.sizeOf241
 v23:=Tryz.zeroValue241
 i23:=by kernel_rfl }
open Go.RowKit Go.Lib in
def Tryz.strings_IndexFunc_runes(g:Nat)(lb:Array Value)(eg:∀args w,(callFunc g args).run Tryz.prog w=.ok (.enter g args) w)(p:Nat→Bool)(s:ByteArray)(w:World)(hp:PredAtRunes Tryz.prog g lb p w):
  Calls Tryz.prog 245 #[.string s,.func (.func g) #[] lb] w fun e w'=>e=.returned (.int .i64 (Lib.idxFunc p true s))∧Below w.heap.size w w':=Any.strings_IndexFunc_runes Tryz.laysGw15 g lb eg p s w hp
def Tryz.lays99_ren:Go.Shelf.Ren:=⟨fun|99=>292|206=>289|n=>n,fun|9=>9|4=>4|3=>3|n=>n,fun|n=>n⟩
def Tryz.lays99:Go.Proofs.Lays.n99 Tryz.prog Tryz.lays99_ren:={
 mixed:=by kernel_rfl
 f99:=Tryz.func292.trans (congrArg some (by kernel_rfl))
 f206:=Tryz.func289.trans (congrArg some (by kernel_rfl))
 t3:=Tryz.underlying3
 a3:=Tryz.isAgg3
 z3:=Tryz.sizeOf3
 v3:=Tryz.zeroValue3
 t4:=Tryz.underlying4
 a4:=Tryz.isAgg4
 z4:=Tryz.sizeOf4
 v4:=Tryz.zeroValue4
 t9:=Tryz.underlying9
 a9:=Tryz.isAgg9
 z9:=Tryz.sizeOf9
 v9:=Tryz.zeroValue9 }
open Go.RowKit Go.Lib in
def Tryz.strings_HasPrefix(s p:ByteArray)(w:World):
  Calls Tryz.prog 292 #[.string s,.string p] w fun e w'=>e=.returned (.bool (Lib.hasPrefix s.data.toList p.data.toList))∧w'=w:=Any.strings_HasPrefix Tryz.lays99 s p w
def Tryz.lays153_ren:Go.Shelf.Ren:=⟨fun|153=>246|152=>285|226=>286|227=>287|228=>288|137=>319|119=>320|224=>321|225=>322|217=>354|266=>377|n=>n,fun|9=>9|3=>3|4=>4|5=>5|21=>21|117=>287|116=>286|0=>0|46=>314|124=>316|n=>n,fun|n=>n⟩
def Tryz.lays153:Go.Proofs.Lays.n153 Tryz.prog Tryz.lays153_ren:={
 mixed:=by kernel_rfl
 f119:=Tryz.func320.trans (congrArg some (by kernel_rfl))
 f137:=Tryz.func319.trans (congrArg some (by kernel_rfl))
 f152:=Tryz.func285.trans (congrArg some (by kernel_rfl))
 f153:=Tryz.func246.trans (congrArg some (by kernel_rfl))
 f217:=Tryz.func354.trans (congrArg some (by kernel_rfl))
 f224:=Tryz.func321.trans (congrArg some (by kernel_rfl))
 f225:=Tryz.func322.trans (congrArg some (by kernel_rfl))
 f226:=Tryz.func286.trans (congrArg some (by kernel_rfl))
 f227:=Tryz.func287.trans (congrArg some (by kernel_rfl))
 f228:=Tryz.func288.trans (congrArg some (by kernel_rfl))
 f266:=Tryz.func377.trans (congrArg some (by kernel_rfl))
 t0:=Tryz.underlying0
 a0:=Tryz.isAgg0
 z0:=Tryz.sizeOf0
 v0:=Tryz.zeroValue0
 t3:=Tryz.underlying3
 a3:=Tryz.isAgg3
 z3:=Tryz.sizeOf3
 v3:=Tryz.zeroValue3
 t4:=Tryz.underlying4
 a4:=Tryz.isAgg4
 z4:=Tryz.sizeOf4
 v4:=Tryz.zeroValue4
 t5:=Tryz.underlying5
 a5:=Tryz.isAgg5
 z5:=Tryz.sizeOf5
 v5:=Tryz.zeroValue5
 t9:=Tryz.underlying9
 a9:=Tryz.isAgg9
 z9:=Tryz.sizeOf9
 v9:=Tryz.zeroValue9
 t21:=Tryz.underlying21
 a21:=Tryz.isAgg21
 z21:=Tryz.sizeOf21
 v21:=Tryz.zeroValue21
 t46:=Tryz.underlying314
 a46:=Tryz.isAgg314
 z46:=Tryz.sizeOf314
 v46:=Tryz.zeroValue314
 t116:=Tryz.underlying286
 a116:=Tryz.isAgg286
 z116:=Tryz.sizeOf286
 t117:=Tryz.underlying287
 a117:=Tryz.isAgg287
 z117:=Tryz.sizeOf287
 v117:=Tryz.zeroValue287
 t124:=Tryz.underlying316
 a124:=Tryz.isAgg316
 z124:=Tryz.sizeOf316
 v124:=Tryz.zeroValue316 }
open Go.RowKit Go.Lib in
def Tryz.strings_IndexAny_laid(s chars:ByteArray)(w:World)(hs:s.size<4294967281)(hA:chars.size<4294967281)(has:∀(j:Nat) b,s.data.toList[j]?=some b→b.toNat<128)(qA:∀(j:Nat) b,chars.data.toList[j]?=some b→b.toNat<128):
  Calls Tryz.prog 246 #[.string s,.string chars] w fun e w'=>e=.returned (.int .i64 (Lib.indexAny s.data.toList chars.data.toList))∧Below w.heap.size w w':=Any.strings_IndexAny_laid Tryz.lays153 (by kernel_rfl) s chars w hs hA has qA
def Tryz.lays194_ren:Go.Shelf.Ren:=⟨fun|194=>239|n=>n,fun|31=>49|9=>9|3=>3|4=>4|0=>0|n=>n,fun|n=>n⟩
def Tryz.lays194:Go.Proofs.Lays.n194 Tryz.prog Tryz.lays194_ren:={
 mixed:=by kernel_rfl
 f194:=Tryz.func239.trans (congrArg some (by kernel_rfl))
 t0:=Tryz.underlying0
 a0:=Tryz.isAgg0
 z0:=Tryz.sizeOf0
 v0:=Tryz.zeroValue0
 t3:=Tryz.underlying3
 a3:=Tryz.isAgg3
 z3:=Tryz.sizeOf3
 v3:=Tryz.zeroValue3
 t4:=Tryz.underlying4
 a4:=Tryz.isAgg4
 z4:=Tryz.sizeOf4
 v4:=Tryz.zeroValue4
 t9:=Tryz.underlying9
 a9:=Tryz.isAgg9
 z9:=Tryz.sizeOf9
 v9:=Tryz.zeroValue9
 t31:=Tryz.underlying49
 a31:=Tryz.isAgg49
 z31:=Tryz.sizeOf49
 v31:=Tryz.zeroValue49 }
open Go.RowKit Go.Lib Go.Sort in
def Tryz.slices_Compact_string(blk off cap:Nat)(zs:List (List UInt8))(w:World)(hH:Holds encStr w blk off zs.toArray)(hsz:zs.length≤9223372036854775807)(hA:zs.length≤cap):
  Calls Tryz.prog 239 #[.slice (some ⟨blk,off,none⟩) zs.length cap] w fun e w'=>e=.returned (.slice (some ⟨blk,off,none⟩) (Lib.compact zs).length cap)∧∃q,w'=putRow encStr (Sort.ahead w q) blk off (Lib.compact zs++List.replicate (zs.length-(Lib.compact zs).length) []).toArray:=Any.slices_Compact_string Tryz.lays194 blk off cap zs w hH hsz hA
open Go.RowKit Go.Lib Go.Sort in
def Tryz.slices_Compact_string_empty(a:Option Addr)(cap:Nat)(w:World):
  Calls Tryz.prog 239 #[.slice a 0 cap] w fun e w'=>e=.returned (.slice a 0 cap)∧w'=w:=Any.slices_Compact_string_empty Tryz.lays194 a cap w
def Tryz.laysSlM6_f279_ren:Go.Shelf.Ren:=⟨fun|6=>279|8=>316|9=>315|19=>353|20=>331|21=>344|22=>345|23=>346|24=>347|25=>348|26=>349|27=>350|28=>351|29=>352|36=>371|31=>372|32=>373|37=>374|38=>375|39=>376|41=>390|n=>n,fun|27=>49|29=>9|3=>3|32=>314|26=>49|0=>0|44=>326|46=>296|4=>4|36=>337|35=>336|41=>116|5=>5|9=>9|53=>359|57=>222|63=>378|64=>379|n=>n,fun|n=>n⟩
def Tryz.laysSlM6_f279:Go.Proofs.SlLaysM.n6 Tryz.prog Tryz.laysSlM6_f279_ren:={
 mixed:=by kernel_rfl
 f6:=⟨Tryz.f279.name,by decide,Tryz.func279.trans (congrArg some (by kernel_rfl))⟩
 f8:=Tryz.func316.trans (congrArg some (by kernel_rfl))
 f9:=⟨Tryz.f315.name,by decide,Tryz.func315.trans (congrArg some (by kernel_rfl))⟩
 f19:=Tryz.func353.trans (congrArg some (by kernel_rfl))
 f20:=Tryz.func331.trans (congrArg some (by kernel_rfl))
 f21:=⟨Tryz.f344.name,by decide,Tryz.func344.trans (congrArg some (by kernel_rfl))⟩
 f22:=⟨Tryz.f345.name,by decide,Tryz.func345.trans (congrArg some (by kernel_rfl))⟩
 f23:=⟨Tryz.f346.name,by decide,Tryz.func346.trans (congrArg some (by kernel_rfl))⟩
 f24:=⟨Tryz.f347.name,by decide,Tryz.func347.trans (congrArg some (by kernel_rfl))⟩
 f25:=⟨Tryz.f348.name,by decide,Tryz.func348.trans (congrArg some (by kernel_rfl))⟩
 f26:=⟨Tryz.f349.name,by decide,Tryz.func349.trans (congrArg some (by kernel_rfl))⟩
 f27:=⟨Tryz.f350.name,by decide,Tryz.func350.trans (congrArg some (by kernel_rfl))⟩
 f28:=⟨Tryz.f351.name,by decide,Tryz.func351.trans (congrArg some (by kernel_rfl))⟩
 f29:=⟨Tryz.f352.name,by decide,Tryz.func352.trans (congrArg some (by kernel_rfl))⟩
 f31:=Tryz.func372.trans (congrArg some (by kernel_rfl))
 f32:=Tryz.func373.trans (congrArg some (by kernel_rfl))
 f36:=⟨Tryz.f371.name,by decide,Tryz.func371.trans (congrArg some (by kernel_rfl))⟩
 f37:=⟨Tryz.f374.name,by decide,Tryz.func374.trans (congrArg some (by kernel_rfl))⟩
 f38:=⟨Tryz.f375.name,by decide,Tryz.func375.trans (congrArg some (by kernel_rfl))⟩
 f39:=⟨Tryz.f376.name,by decide,Tryz.func376.trans (congrArg some (by kernel_rfl))⟩
 f41:=⟨Tryz.f390.name,by decide,Tryz.func390.trans (congrArg some (by kernel_rfl))⟩
 t0:=Tryz.underlying0
 a0:=Tryz.isAgg0
 z0:=Tryz.sizeOf0
 v0:=Tryz.zeroValue0
 t3:=Tryz.underlying3
 a3:=Tryz.isAgg3
 z3:=Tryz.sizeOf3
 v3:=Tryz.zeroValue3
 t4:=Tryz.underlying4
 a4:=Tryz.isAgg4
 z4:=Tryz.sizeOf4
 v4:=Tryz.zeroValue4
 t5:=Tryz.underlying5
 a5:=Tryz.isAgg5
 z5:=Tryz.sizeOf5
 v5:=Tryz.zeroValue5
 t9:=Tryz.underlying9
 a9:=Tryz.isAgg9
 z9:=Tryz.sizeOf9
 v9:=Tryz.zeroValue9
 t26:=Tryz.underlying49
 a26:=Tryz.isAgg49
 z26:=Tryz.sizeOf49
 v26:=Tryz.zeroValue49
 t27:=Tryz.underlying49
 a27:=Tryz.isAgg49
 z27:=Tryz.sizeOf49
 v27:=Tryz.zeroValue49
 t29:=Tryz.underlying9
 a29:=Tryz.isAgg9
 z29:=Tryz.sizeOf9
 v29:=Tryz.zeroValue9
 t32:=Tryz.underlying314
 a32:=Tryz.isAgg314
 z32:=Tryz.sizeOf314
 v32:=Tryz.zeroValue314
 t35:=Tryz.underlying336
 a35:=Tryz.isAgg336
 z35:=Tryz.sizeOf336
 v35:=Tryz.zeroValue336
 t36:=Tryz.underlying337
 a36:=Tryz.isAgg337
 z36:=Tryz.sizeOf337
 v36:=Tryz.zeroValue337
 t41:=Tryz.underlying116
 a41:=Tryz.isAgg116
 z41:=Tryz.sizeOf116
 v41:=Tryz.zeroValue116
 t44:=Tryz.underlying326
 a44:=Tryz.isAgg326
 z44:=Tryz.sizeOf326
 v44:=Tryz.zeroValue326
 t46:=Tryz.underlying296
 a46:=Tryz.isAgg296
 z46:=Tryz.sizeOf296
 v46:=Tryz.zeroValue296
 t53:=Tryz.underlying359
 a53:=Tryz.isAgg359
 z53:=Tryz.sizeOf359
 v53:=Tryz.zeroValue359
 t57:=Tryz.underlying222
 a57:=Tryz.isAgg222
 z57:=Tryz.sizeOf222
 v57:=Tryz.zeroValue222
 t63:=Tryz.underlying378
 a63:=Tryz.isAgg378
 z63:=Tryz.sizeOf378
 v63:=Tryz.zeroValue378
 t64:=Tryz.underlying379
 a64:=Tryz.isAgg379
 z64:=Tryz.sizeOf379
 v64:=Tryz.zeroValue379 }
open Go.Sort Go.RowKit in
def Tryz.slices_Sort_string(blk off cap:Nat)(ss:List (List UInt8))(w:World)(hH:Holds encStr w blk off ss.toArray)(hA:blk<w.heap.size)(hsz:ss.length<4611686018427387904):
  Calls Tryz.prog 279 #[.slice (some ⟨blk,off,none⟩) ss.length cap] w fun e w'=>
   e=.returned (.tuple #[])∧∃n os,w'=grow (putRow encStr (Sort.ahead w n) blk off (ss.mergeSort fun x y=>decide (x≤y)).toArray) os:=AnyM.slices_Sort_string Tryz.laysSlM6_f279 blk off cap ss w hH hA hsz
open Go.RowKit Go.Sort in
def Tryz.slices_Sort_string_none(p:Option Addr)(cap:Nat)(w:World):
  Calls Tryz.prog 279 #[.slice p 0 cap] w fun e w'=>e=.returned (.tuple #[])∧w'=w:=AnyM.slices_Sort_string_none Tryz.laysSlM6_f279 p cap w
