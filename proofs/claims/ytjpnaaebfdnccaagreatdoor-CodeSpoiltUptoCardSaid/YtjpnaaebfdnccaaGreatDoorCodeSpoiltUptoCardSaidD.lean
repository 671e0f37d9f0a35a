/-
  Parts of the proof: DERIVED: THE SHELF's CONTRACTS AT THIS DUMP, IN PLAIN WORDS (tools/lay-plain.mjs out of 'TryzShelf.lean', which tools/lay-shelf.mjs wrote): THE SAME DECLARATIONS UNDER THE SAME NAMES: 'import', 'namespace', 'open', 'def', 'theorem' AND NOTHING ELSE: no command of the shelf's: FOR A HAND-IN. Each laying: the table of numbers ('.._ren') and one theorem, a field a fact of the dump's own or the kernel's comparison; each contract: ONE APPLICATION. Package strings' Builder at this program: copyCheck, WriteByte, WriteString. Library functions at this program, told to the reckoning: IndexByte, Count, Itoa, Atoi, strings.Builder. Functions that defer one closure: no panic, the closure does nothing. The machine by reckoning: functions whose text goes with any number of blocks. The closures that code.Read and code.Load defer: without a panic they do nothing. The functions that both slothlaw17.awake and the document's Check run through, as the machine's text. What slothlaw17.awake runs through, as the machine's text; what is known of the library. The document's bytes of codes: numbers. The sum behind the bytes of a code. code.forms. A table in memory of its own, with marks behind its lists: shapes, codes. A table in memory of its own, with marks behind its lists: globals. A table in memory of its own, with marks behind its lists: what comes of it. The document's writer of codes: an instruction's text. A table's blocks handed on: what comes out of a function, what is handed to one. The marks behind a table's lists stand. A table that was lent is turned: numbers. Are two tables the same? A table that was lent: how it reads, and what a call leaves of it. The document's words on one instruction, and the program's. What code.Check comes to: plain definitions. code.Check. Functions of package code: what they come to. The document's Check: names, sizes, heads. code.checkCode. code.checkCode: the depths; the whole. The document's Check: numbers, depths. code.Check, the whole. The document's Check is what code.Check comes to. CodeEnds: what it says that Check lets a code pass: one depth for each instruction. CodeEnds: a way through a code. CodeEnds: its three turns, and the whole. CodeChecks evaluated. The document's writer of codes: a table's text. The document's bytes of codes: names, instructions, globals. Equations of pieces under a guard, of memory that becomes data. Equations of pieces that overlap. Equations of what gives up. Conditions: none.
-/
import Derived.Test.YtjpnaaebfdnccaaGreatDoorCodeSpoiltUptoCardSaidC
import Derived.Shelf.Strings.Builder1
import Derived.Shelf.Small.Strs
import Derived.Shelf.LaysM
import Derived.Shelf.Strconv.Itoa3
import Derived.Shelf.Strings.Count
import Derived.Shelf.Strconv.Atoi
import Derived.Test.YtjpnaaebfdnccaaGreatDoorProg
import Derived.Test.YtjpnaaebfdnccaaGreatDoorChecked
import Derived.Lib.LaidTab
import Derived.Lib.SmallJoins
import Derived.Below
import Derived.Recover
import Derived.KernelRfl
set_option linter.unusedVariables false
set_option linter.unusedSimpArgs false

section
namespace Go.Proofs
open Go.Shelf
def Tryz.lays170_ren:Go.Shelf.Ren:=⟨fun|170=>51|n=>n,fun|70=>76|3=>3|0=>0|72=>78|37=>40|5=>5|n=>n,fun|n=>n⟩
theorem Tryz.lays170:Go.Proofs.Lays.n170 Tryz.prog Tryz.lays170_ren:={
 mixed:=by kernel_rfl
 f170:=Tryz.func51.trans (congrArg some (by kernel_rfl))
 t0:=Tryz.underlying0
 a0:=Tryz.isAgg0
 z0:=Tryz.sizeOf0
 v0:=Tryz.zeroValue0
 t3:=Tryz.underlying3
 a3:=Tryz.isAgg3
 z3:=Tryz.sizeOf3
 v3:=Tryz.zeroValue3
 t37:=Tryz.underlying40
 a37:=Tryz.isAgg40
 z37:=Tryz.sizeOf40
 v37:=Tryz.zeroValue40
 t70:=Tryz.underlying76
 a70:=Tryz.isAgg76
 z70:=Tryz.sizeOf76
 v70:=Tryz.zeroValue76
 t72:=Tryz.underlying78
 a72:=Tryz.isAgg78
 z72:=Tryz.sizeOf78
 v72:=Tryz.zeroValue78 }
def Tryz.lays169_ren:Go.Shelf.Ren:=⟨fun|169=>52|n=>n,fun|70=>76|9=>9|0=>0|72=>78|37=>40|127=>131|3=>3|5=>5|n=>n,fun|n=>n⟩
theorem Tryz.lays169:Go.Proofs.Lays.n169 Tryz.prog Tryz.lays169_ren:={
 mixed:=by kernel_rfl
 f169:=Tryz.func52.trans (congrArg some (by kernel_rfl))
 t0:=Tryz.underlying0
 a0:=Tryz.isAgg0
 z0:=Tryz.sizeOf0
 v0:=Tryz.zeroValue0
 t3:=Tryz.underlying3
 a3:=Tryz.isAgg3
 z3:=Tryz.sizeOf3
 v3:=Tryz.zeroValue3
 t9:=Tryz.underlying9
 a9:=Tryz.isAgg9
 z9:=Tryz.sizeOf9
 v9:=Tryz.zeroValue9
 t37:=Tryz.underlying40
 a37:=Tryz.isAgg40
 z37:=Tryz.sizeOf40
 v37:=Tryz.zeroValue40
 t70:=Tryz.underlying76
 a70:=Tryz.isAgg76
 z70:=Tryz.sizeOf76
 v70:=Tryz.zeroValue76
 t72:=Tryz.underlying78
 a72:=Tryz.isAgg78
 z72:=Tryz.sizeOf78
 v72:=Tryz.zeroValue78
 t127:=Tryz.underlying131
 a127:=Tryz.isAgg131
 z127:=Tryz.sizeOf131
 v127:=Tryz.zeroValue131 }
theorem Tryz.Builder_Extra_169:Builder.Extra Tryz.prog Tryz.lays169_ren:={
 sizeBuilder:=by kernel_rfl
 liesBuilder:=by kernel_rfl
 t5:=Tryz.underlying5
 a5:=Tryz.isAgg5
 z5:=Tryz.sizeOf5
 v5:=Tryz.zeroValue5
 infoByte:=by kernel_rfl
 cellsByte:=by kernel_rfl
 sizeByte:=by kernel_rfl
 neB5:=by decide }
def Tryz.lays137_ren:Go.Shelf.Ren:=⟨fun|137=>123|217=>137|266=>149|n=>n,fun|9=>9|5=>5|3=>3|n=>n,fun|n=>n⟩
theorem Tryz.lays137:Go.Proofs.Lays.n137 Tryz.prog Tryz.lays137_ren:={
 mixed:=by kernel_rfl
 f137:=Tryz.func123.trans (congrArg some (by kernel_rfl))
 f217:=Tryz.func137.trans (congrArg some (by kernel_rfl))
 f266:=Tryz.func149.trans (congrArg some (by kernel_rfl))
 t3:=Tryz.underlying3
 a3:=Tryz.isAgg3
 z3:=Tryz.sizeOf3
 v3:=Tryz.zeroValue3
 t5:=Tryz.underlying5
 a5:=Tryz.isAgg5
 z5:=Tryz.sizeOf5
 v5:=Tryz.zeroValue5
 t9:=Tryz.underlying9
 a9:=Tryz.isAgg9
 z9:=Tryz.sizeOf9
 v9:=Tryz.zeroValue9 }
open Go.RowKit in
theorem Tryz.strings_IndexByte(s:ByteArray)(c:Int)(w:World) :
  Calls Tryz.prog 123 #[.string s,.int .u8 c] w fun e w'=>e=.returned (.int .i64 (Lib.indexByte s.data.toList c.toNat.toUInt8))∧w'=w:=Any.strings_IndexByte Tryz.lays137 s c w
def Tryz.lays172_ren:Go.Shelf.Ren:=⟨fun|172=>111|244=>124|245=>125|247=>138|279=>139|280=>140|281=>141|282=>142|287=>150|316=>151|171=>49|205=>152|321=>154|322=>155|243=>89|246=>107|283=>119|284=>120|285=>121|286=>122|129=>133|317=>132|318=>134|319=>135|320=>136|337=>147|338=>148|n=>n,fun|9=>9|3=>3|75=>80|76=>81|4=>4|5=>5|167=>171|37=>40|0=>0|85=>172|2=>2|168=>174|53=>105|175=>183|46=>109|210=>186|127=>131|145=>195|143=>193|21=>21|171=>156|173=>159|212=>167|51=>107|20=>20|213=>168|232=>190|233=>191|80=>84|n=>n,fun|15=>4|16=>5|17=>0|18=>6|19=>7|n=>n⟩
theorem Tryz.lays172:Go.Proofs.Lays.n172 Tryz.prog Tryz.lays172_ren:={
 mixed:=by kernel_rfl
 f129:=Tryz.func133.trans (congrArg some (by kernel_rfl))
 f171:=Tryz.func49.trans (congrArg some (by kernel_rfl))
 f172:=Tryz.func111.trans (congrArg some (by kernel_rfl))
 f205:=Tryz.func152.trans (congrArg some (by kernel_rfl))
 f243:=Tryz.func89.trans (congrArg some (by kernel_rfl))
 f244:=Tryz.func124.trans (congrArg some (by kernel_rfl))
 f245:=Tryz.func125.trans (congrArg some (by kernel_rfl))
 f246:=Tryz.func107.trans (congrArg some (by kernel_rfl))
 f247:=Tryz.func138.trans (congrArg some (by kernel_rfl))
 f279:=Tryz.func139.trans (congrArg some (by kernel_rfl))
 f280:=Tryz.func140.trans (congrArg some (by kernel_rfl))
 f281:=Tryz.func141.trans (congrArg some (by kernel_rfl))
 f282:=Tryz.func142.trans (congrArg some (by kernel_rfl))
 f283:=Tryz.func119.trans (congrArg some (by kernel_rfl))
 f284:=Tryz.func120.trans (congrArg some (by kernel_rfl))
 f285:=Tryz.func121.trans (congrArg some (by kernel_rfl))
 f286:=Tryz.func122.trans (congrArg some (by kernel_rfl))
 f287:=Tryz.func150.trans (congrArg some (by kernel_rfl))
 f316:=Tryz.func151.trans (congrArg some (by kernel_rfl))
 f317:=Tryz.func132.trans (congrArg some (by kernel_rfl))
 f318:=Tryz.func134.trans (congrArg some (by kernel_rfl))
 f319:=Tryz.func135.trans (congrArg some (by kernel_rfl))
 f320:=Tryz.func136.trans (congrArg some (by kernel_rfl))
 f321:=Tryz.func154.trans (congrArg some (by kernel_rfl))
 f322:=Tryz.func155.trans (congrArg some (by kernel_rfl))
 f337:=Tryz.func147.trans (congrArg some (by kernel_rfl))
 f338:=Tryz.func148.trans (congrArg some (by kernel_rfl))
 t0:=Tryz.underlying0
 a0:=Tryz.isAgg0
 z0:=Tryz.sizeOf0
 v0:=Tryz.zeroValue0
 t2:=Tryz.underlying2
 a2:=Tryz.isAgg2
 z2:=Tryz.sizeOf2
 v2:=Tryz.zeroValue2
 t3:=Tryz.underlying3
 a3:=Tryz.isAgg3
 z3:=Tryz.sizeOf3
 v3:=Tryz.zeroValue3
 t4:=Tryz.underlying4
 a4:=Tryz.isAgg4
 z4:=Tryz.sizeOf4
 v4:=Tryz.zeroValue4
 t5:=Tryz.underlying5
 a5:=Tryz.isAgg5
 z5:=Tryz.sizeOf5
 v5:=Tryz.zeroValue5
 t9:=Tryz.underlying9
 a9:=Tryz.isAgg9
 z9:=Tryz.sizeOf9
 v9:=Tryz.zeroValue9
 t20:=Tryz.underlying20
 a20:=Tryz.isAgg20
 z20:=Tryz.sizeOf20
 v20:=Tryz.zeroValue20
 t21:=Tryz.underlying21
 a21:=Tryz.isAgg21
 z21:=Tryz.sizeOf21
 v21:=Tryz.zeroValue21
 t37:=Tryz.underlying40
 a37:=Tryz.isAgg40
 z37:=Tryz.sizeOf40
 v37:=Tryz.zeroValue40
 t46:=Tryz.underlying109
 a46:=Tryz.isAgg109
 z46:=Tryz.sizeOf109
 v46:=Tryz.zeroValue109
 t51:=Tryz.underlying107
 a51:=Tryz.isAgg107
 z51:=Tryz.sizeOf107
 v51:=Tryz.zeroValue107
 t53:=Tryz.underlying105
 a53:=Tryz.isAgg105
 z53:=Tryz.sizeOf105
 v53:=Tryz.zeroValue105
 t75:=Tryz.underlying80
 a75:=Tryz.isAgg80
 z75:=Tryz.sizeOf80
 v75:=Tryz.zeroValue80
 t76:=Tryz.underlying81
 a76:=Tryz.isAgg81
 z76:=Tryz.sizeOf81
 v76:=Tryz.zeroValue81
 t85:=Tryz.underlying172
 a85:=Tryz.isAgg172
 z85:=Tryz.sizeOf172
 v85:=Tryz.zeroValue172
 t127:=Tryz.underlying131
 a127:=Tryz.isAgg131
 z127:=Tryz.sizeOf131
 v127:=Tryz.zeroValue131
 t143:=Tryz.underlying193
 a143:=Tryz.isAgg193
 z143:=Tryz.sizeOf193
 v143:=Tryz.zeroValue193
 t145:=Tryz.underlying195
 a145:=Tryz.isAgg195
 z145:=Tryz.sizeOf195
 v145:=Tryz.zeroValue195
 t167:=Tryz.underlying171
 a167:=Tryz.isAgg171
 z167:=Tryz.sizeOf171
 v167:=Tryz.zeroValue171
 t168:=Tryz.underlying174
 a168:=Tryz.isAgg174
 z168:=Tryz.sizeOf174
 v168:=Tryz.zeroValue174
 t171:=Tryz.underlying156
 a171:=Tryz.isAgg156
 z171:=Tryz.sizeOf156
 v171:=Tryz.zeroValue156
 t173:=Tryz.underlying159
 a173:=Tryz.isAgg159
 z173:=Tryz.sizeOf159
 v173:=Tryz.zeroValue159
 t175:=Tryz.underlying183
 a175:=Tryz.isAgg183
 z175:=Tryz.sizeOf183
 v175:=Tryz.zeroValue183
 t210:=Tryz.underlying186
 a210:=Tryz.isAgg186
 z210:=Tryz.sizeOf186
 v210:=Tryz.zeroValue186
 t212:=Tryz.underlying167
 a212:=Tryz.isAgg167
 z212:=Tryz.sizeOf167
 v212:=Tryz.zeroValue167
 t213:=Tryz.underlying168
 a213:=Tryz.isAgg168
 z213:=Tryz.sizeOf168
 t232:=Tryz.underlying190
 a232:=Tryz.isAgg190
 z232:=Tryz.sizeOf190
 v232:=Tryz.zeroValue190
 t233:=Tryz.underlying191
 a233:=Tryz.isAgg191
 z233:=Tryz.sizeOf191
 v233:=Tryz.zeroValue191
 g15:=by kernel_rfl
 g16:=by kernel_rfl
 g17:=by kernel_rfl
 g18:=by kernel_rfl
 g19:=by kernel_rfl }
open Go.RowKit in
theorem Tryz.strconv_Atoi(s:ByteArray)(n:Int)(hl:s.size≤18)(h:Lib.atoi s.data.toList=some n)(w:World) :
  Calls Tryz.prog 111 #[.string s] w fun e w'=>e=.returned (.tuple #[.int .i64 n,.nilIface])∧∃ t,w'=Lib.bytesWorld w 5 t:=Any.strconv_Atoi Tryz.lays172 s n hl h w
def Tryz.laysM171_ren:Go.Shelf.Ren:=⟨fun|171=>49|243=>89|246=>107|283=>119|284=>120|285=>121|286=>122|129=>133|317=>132|318=>134|319=>135|320=>136|337=>147|338=>148|n=>n,fun|3=>3|9=>9|2=>2|4=>4|171=>156|0=>0|53=>105|37=>40|5=>5|173=>159|212=>167|51=>107|20=>20|213=>168|46=>109|232=>190|233=>191|n=>n,fun|17=>0|18=>6|19=>7|n=>n⟩
theorem Tryz.laysM171:Go.Proofs.LaysM.n171 Tryz.prog Tryz.laysM171_ren:={
 mixed:=by kernel_rfl
 f129:=Tryz.func133.trans (congrArg some (by kernel_rfl))
 f171:=Tryz.func49.trans (congrArg some (by kernel_rfl))
 f243:=Tryz.func89.trans (congrArg some (by kernel_rfl))
 f246:=Tryz.func107.trans (congrArg some (by kernel_rfl))
 f283:=Tryz.func119.trans (congrArg some (by kernel_rfl))
 f284:=Tryz.func120.trans (congrArg some (by kernel_rfl))
 f285:=Tryz.func121.trans (congrArg some (by kernel_rfl))
 f286:=Tryz.func122.trans (congrArg some (by kernel_rfl))
 f317:=Tryz.func132.trans (congrArg some (by kernel_rfl))
 f318:=Tryz.func134.trans (congrArg some (by kernel_rfl))
 f319:=Tryz.func135.trans (congrArg some (by kernel_rfl))
 f320:=Tryz.func136.trans (congrArg some (by kernel_rfl))
 f337:=Tryz.func147.trans (congrArg some (by kernel_rfl))
 f338:=Tryz.func148.trans (congrArg some (by kernel_rfl))
 t0:=Tryz.underlying0
 a0:=Tryz.isAgg0
 z0:=Tryz.sizeOf0
 v0:=Tryz.zeroValue0
 t2:=Tryz.underlying2
 a2:=Tryz.isAgg2
 z2:=Tryz.sizeOf2
 v2:=Tryz.zeroValue2
 t3:=Tryz.underlying3
 a3:=Tryz.isAgg3
 z3:=Tryz.sizeOf3
 v3:=Tryz.zeroValue3
 t4:=Tryz.underlying4
 a4:=Tryz.isAgg4
 z4:=Tryz.sizeOf4
 v4:=Tryz.zeroValue4
 t5:=Tryz.underlying5
 a5:=Tryz.isAgg5
 z5:=Tryz.sizeOf5
 v5:=Tryz.zeroValue5
 t9:=Tryz.underlying9
 a9:=Tryz.isAgg9
 z9:=Tryz.sizeOf9
 v9:=Tryz.zeroValue9
 t20:=Tryz.underlying20
 a20:=Tryz.isAgg20
 z20:=Tryz.sizeOf20
 v20:=Tryz.zeroValue20
 t37:=Tryz.underlying40
 a37:=Tryz.isAgg40
 z37:=Tryz.sizeOf40
 v37:=Tryz.zeroValue40
 t46:=Tryz.underlying109
 a46:=Tryz.isAgg109
 z46:=Tryz.sizeOf109
 v46:=Tryz.zeroValue109
 t51:=Tryz.underlying107
 a51:=Tryz.isAgg107
 z51:=Tryz.sizeOf107
 v51:=Tryz.zeroValue107
 t53:=Tryz.underlying105
 a53:=Tryz.isAgg105
 z53:=Tryz.sizeOf105
 v53:=Tryz.zeroValue105
 t171:=Tryz.underlying156
 a171:=Tryz.isAgg156
 z171:=Tryz.sizeOf156
 v171:=Tryz.zeroValue156
 t173:=Tryz.underlying159
 a173:=Tryz.isAgg159
 z173:=Tryz.sizeOf159
 v173:=Tryz.zeroValue159
 t212:=Tryz.underlying167
 a212:=Tryz.isAgg167
 z212:=Tryz.sizeOf167
 v212:=Tryz.zeroValue167
 t213:=Tryz.underlying168
 a213:=Tryz.isAgg168
 z213:=Tryz.sizeOf168
 t232:=Tryz.underlying190
 a232:=Tryz.isAgg190
 z232:=Tryz.sizeOf190
 v232:=Tryz.zeroValue190
 t233:=Tryz.underlying191
 a233:=Tryz.isAgg191
 z233:=Tryz.sizeOf191
 v233:=Tryz.zeroValue191
 g17:=by kernel_rfl
 g18:=by kernel_rfl
 g19:=by kernel_rfl
 i0:=by kernel_rfl
 i2:=by kernel_rfl
 i3:=by kernel_rfl
 i4:=by kernel_rfl
 i5:=by kernel_rfl
 i9:=by kernel_rfl
 i20:=by kernel_rfl
 i37:=by kernel_rfl
 i46:=by kernel_rfl
 i51:=by kernel_rfl
 i53:=by kernel_rfl
 i171:=by kernel_rfl
 i173:=by kernel_rfl
 i212:=by kernel_rfl
 i232:=by kernel_rfl
 i233:=by kernel_rfl
 m17:=by kernel_rfl
 m18:=by kernel_rfl
 m19:=by kernel_rfl }
open Go.RowKit Go.Sort Go.Lib in
theorem Tryz.strconv_Itoa(n:Int)(h0 : -9223372036854775808≤n)(h1:n≤9223372036854775807)(w:World)(htab:Lib.TabIs Tryz.prog w "internal/strconv.uint64pow10" .u64 Lib.pow10Tab) :
  Calls Tryz.prog 49 #[.int .i64 n] w fun e w'=>e=.returned (.string ⟨(Lib.itoa n).toArray⟩)∧∃ k os,w'=grow (w.drewN k) os:=Any.strconv_Itoa Tryz.laysM171 n h0 h1 w htab
def Tryz.lays138_ren:Go.Shelf.Ren:=⟨fun|138=>115|195=>127|218=>128|143=>117|219=>130|217=>137|225=>144|224=>145|267=>146|266=>149|314=>153|n=>n,fun|9=>9|3=>3|4=>4|5=>5|0=>0|46=>109|146=>188|51=>107|n=>n,fun|1=>1|n=>n⟩
theorem Tryz.lays138:Go.Proofs.Lays.n138 Tryz.prog Tryz.lays138_ren:={
 mixed:=by kernel_rfl
 f138:=Tryz.func115.trans (congrArg some (by kernel_rfl))
 f143:=Tryz.func117.trans (congrArg some (by kernel_rfl))
 f195:=Tryz.func127.trans (congrArg some (by kernel_rfl))
 f217:=Tryz.func137.trans (congrArg some (by kernel_rfl))
 f218:=Tryz.func128.trans (congrArg some (by kernel_rfl))
 f219:=Tryz.func130.trans (congrArg some (by kernel_rfl))
 f224:=Tryz.func145.trans (congrArg some (by kernel_rfl))
 f225:=Tryz.func144.trans (congrArg some (by kernel_rfl))
 f266:=Tryz.func149.trans (congrArg some (by kernel_rfl))
 f267:=Tryz.func146.trans (congrArg some (by kernel_rfl))
 f314:=Tryz.func153.trans (congrArg some (by kernel_rfl))
 t0:=Tryz.underlying0
 a0:=Tryz.isAgg0
 z0:=Tryz.sizeOf0
 v0:=Tryz.zeroValue0
 t3:=Tryz.underlying3
 a3:=Tryz.isAgg3
 z3:=Tryz.sizeOf3
 v3:=Tryz.zeroValue3
 t4:=Tryz.underlying4
 a4:=Tryz.isAgg4
 z4:=Tryz.sizeOf4
 v4:=Tryz.zeroValue4
 t5:=Tryz.underlying5
 a5:=Tryz.isAgg5
 z5:=Tryz.sizeOf5
 v5:=Tryz.zeroValue5
 t9:=Tryz.underlying9
 a9:=Tryz.isAgg9
 z9:=Tryz.sizeOf9
 v9:=Tryz.zeroValue9
 t46:=Tryz.underlying109
 a46:=Tryz.isAgg109
 z46:=Tryz.sizeOf109
 v46:=Tryz.zeroValue109
 t51:=Tryz.underlying107
 a51:=Tryz.isAgg107
 z51:=Tryz.sizeOf107
 v51:=Tryz.zeroValue107
 t146:=Tryz.underlying188
 a146:=Tryz.isAgg188
 z146:=Tryz.sizeOf188
 v146:=Tryz.zeroValue188
 g1:=by kernel_rfl }
open Go.RowKit Go.Lib in
theorem Tryz.strings_Count_one(s:ByteArray)(c:UInt8)(w:World) :
  Calls Tryz.prog 115 #[.string s,.string ⟨#[c]⟩] w fun e w'=>e=.returned (.int .i64 (Lib.countByte s.data.toList c))∧w'=w:=Any.strings_Count_one Tryz.lays138 s c w
end Go.Proofs
end

section
set_option linter.unusedVariables false
namespace Go.Vm
open Go.RowKit Go.Shelf Go.Proofs
set_option maxHeartbeats 2000000 in
set_option maxRecDepth 100000 in
theorem j1X(b:Nat)(w:World)(h0:w.cell? ⟨b,0,none⟩=some (.pointer (some ⟨b,0,none⟩))) :
  Calls Tryz.prog 87 #[.pointer (some ⟨b,0,none⟩)] w fun e w'=>e=.returned (.tuple #[])∧w'=w:=by
 obtain⟨j,hj,_⟩:=Option.map_eq_some_iff.1 Tryz.Builder_Extra_169.sizeBuilder
 have mixed:Tryz.prog.follows .mixedOrders=true:=by kernel_rfl
 have t72:=Tryz.underlying78;have a72:=Tryz.isAgg78;have z72:=Tryz.sizeOf78;have v72:=Tryz.zeroValue78;have u72:=Tryz.runUnderlying78
 have t70:=Tryz.underlying76;have a70:=Tryz.isAgg76;have z70:=Tryz.sizeOf76;have v70:=Tryz.zeroValue76;have u70:=Tryz.runUnderlying76
 have t9:=Tryz.underlying9;have a9:=Tryz.isAgg9;have z9:=Tryz.sizeOf9;have v9:=Tryz.zeroValue9;have u9:=Tryz.runUnderlying9
 have t4:=Tryz.underlying4;have a4:=Tryz.isAgg4;have z4:=Tryz.sizeOf4;have v4:=Tryz.zeroValue4;have u4:=Tryz.runUnderlying4
 have t164:=Tryz.underlying145;have a164:=Tryz.isAgg145;have z164:=Tryz.sizeOf145;have v164:=Tryz.zeroValue145;have u164:=Tryz.runUnderlying145
 go_enter Tryz.func87,Tryz.ntmps87
 go_wp2
 rw[Lib.run_neq_ptr_same w _ Tryz.underlying76 hj]
 go_wp2
 go_end0
 exact⟨rfl,rfl⟩
set_option maxHeartbeats 2000000 in
set_option maxRecDepth 100000 in
theorem z93(b:Nat)(w:World)(h0:w.cell? ⟨b,0,none⟩=some (.pointer none))(hsh:w.shape? b=some (78,2))(hfz:w.frozen? ⟨b,0,none⟩=false) :
  Calls Tryz.prog 87 #[.pointer (some ⟨b,0,none⟩)] w fun e w'=>e=.returned (.tuple #[])∧w'=w.setCell ⟨b,0,none⟩ (.pointer (some ⟨b,0,none⟩)):=by
 obtain⟨j,hj,hjs⟩:=Option.map_eq_some_iff.1 Tryz.Builder_Extra_169.sizeBuilder
 have mixed:Tryz.prog.follows .mixedOrders=true:=by kernel_rfl
 have t72:=Tryz.underlying78;have a72:=Tryz.isAgg78;have z72:=Tryz.sizeOf78;have v72:=Tryz.zeroValue78;have u72:=Tryz.runUnderlying78
 have t70:=Tryz.underlying76;have a70:=Tryz.isAgg76;have z70:=Tryz.sizeOf76;have v70:=Tryz.zeroValue76;have u70:=Tryz.runUnderlying76
 have t9:=Tryz.underlying9;have a9:=Tryz.isAgg9;have z9:=Tryz.sizeOf9;have v9:=Tryz.zeroValue9;have u9:=Tryz.runUnderlying9
 have t4:=Tryz.underlying4;have a4:=Tryz.isAgg4;have z4:=Tryz.sizeOf4;have v4:=Tryz.zeroValue4;have u4:=Tryz.runUnderlying4
 have t164:=Tryz.underlying145;have a164:=Tryz.isAgg145;have z164:=Tryz.sizeOf145;have v164:=Tryz.zeroValue145;have u164:=Tryz.runUnderlying145
 go_enter Tryz.func87,Tryz.ntmps87
 go_wp2
 rw[Lib.run_to_unsafe w ⟨b,0,none⟩ Tryz.underlying76 Tryz.underlying145 hj (by rw[hjs];decide) hsh (Nat.zero_lt_succ 1)]
 simp only[Result.andThen]
 rw[Oper.upon_value]
 go_wp2
 rw[run_callFunc_extern Tryz.func105 (by kernel_rfl) (by kernel_rfl) (by kernel_rfl) (e:=Extern.AbiNoEscape.same) (by kernel_rfl)]
 rw[Lib.run_noEscape]
 simp only[Result.andThen]
 rw[Oper.upon_value]
 go_wp2
 rw[Lib.run_from_unsafe w ⟨b,0,none⟩ Tryz.underlying145 Tryz.underlying76 hj hsh Tryz.Builder_Extra_169.liesBuilder]
 simp only[Result.andThen]
 rw[Oper.upon_value]
 go_wp2
 go_end0
 exact⟨rfl,rfl⟩
theorem q7z{w:World}{b:Nat}{p v:Value}{bs:List Value}(h:BAt 78 5 w b p v bs) :
  Calls Tryz.prog 87 #[.pointer (some ⟨b,0,none⟩)] w fun e w'=>e=.returned (.tuple #[])∧BAt 78 5 w' b (.pointer (some ⟨b,0,none⟩)) v bs∧w'.os=w.os∧w'.tape=w.tape∧w'.output=w.output∧SizeEq w' w∧∀ k,k≠b→w'.heap[k]? = w.heap[k]?:=by
 rcases h.hp with rfl|rfl
 ·have hA:Lib.BuilderAtF 78 5 0 b (.pointer none) bs w:=⟨Nat.zero_le _,v,h.hb,h.own,h.ne⟩
  refine(z93 b w hA.cell0 hA.shape hA.frozen0).mono ?_
  rintro e w' ⟨rfl,rfl⟩
  refine⟨rfl,⟨.inr rfl,?_,?_,h.ne⟩,rfl,rfl,rfl,by simp [SizeEq],fun k hk=>Below.heap_setCell _ _ _ _ hk⟩
  ·have:=h.hb
   simp [World.setCell,Array.getElem?_modify,this]
  ·exact h.own.kept (row:=some b) ⟨rfl,rfl,rfl,by simp [World.setCell],fun k _ hk=>Below.heap_setCell _ _ _ _ (fun e=>hk (by simp [e]))⟩ (Or.inr h.ne)
 ·have hA:Lib.BuilderAtF 78 5 0 b (.pointer (some ⟨b,0,none⟩)) bs w:=⟨Nat.zero_le _,v,h.hb,h.own,h.ne⟩
  refine(j1X b w hA.cell0).mono ?_
  rintro e w' ⟨rfl,rfl⟩
  exact⟨rfl,h,rfl,rfl,rfl,rfl,fun _ _=>rfl⟩
set_option maxHeartbeats 2000000 in
set_option maxRecDepth 100000 in
theorem z1i{w:World}{b:Nat}{p v:Value}{bs:List Value}(h:BAt 78 5 w b p v bs)(c:Int)(hlen:bs.length+1≤140737488355328) :
  Calls Tryz.prog 110 #[.pointer (some ⟨b,0,none⟩),.int .u8 c] w fun e w'=>e=.returned .nilIface∧∃ v',BAt 78 5 w' b (.pointer (some ⟨b,0,none⟩)) v' (bs++[.int .u8 c])∧Kept w w' b v v':=by
 obtain⟨i0,hi,hz0,hz1,hz2⟩:=info_parts (show(Tryz.prog.info? 5).map (fun i=>(i.zero,i.size,i.bytes))=some (some (.int .u8 0),1,1) from Tryz.Builder_Extra_169.infoByte)
 have mixed:Tryz.prog.follows .mixedOrders=true:=by kernel_rfl
 have t72:=Tryz.underlying78;have a72:=Tryz.isAgg78;have z72:=Tryz.sizeOf78;have v72:=Tryz.zeroValue78;have u72:=Tryz.runUnderlying78
 have t70:=Tryz.underlying76;have a70:=Tryz.isAgg76;have z70:=Tryz.sizeOf76;have v70:=Tryz.zeroValue76;have u70:=Tryz.runUnderlying76
 have t5:=Tryz.underlying5;have a5:=Tryz.isAgg5;have z5:=Tryz.sizeOf5;have v5:=Tryz.zeroValue5;have u5:=Tryz.runUnderlying5
 have t37:=Tryz.underlying40;have a37:=Tryz.isAgg40;have z37:=Tryz.sizeOf40;have v37:=Tryz.zeroValue40;have u37:=Tryz.runUnderlying40
 have t9:=Tryz.underlying9;have a9:=Tryz.isAgg9;have z9:=Tryz.sizeOf9;have v9:=Tryz.zeroValue9;have u9:=Tryz.runUnderlying9
 have t4:=Tryz.underlying4;have a4:=Tryz.isAgg4;have z4:=Tryz.sizeOf4;have v4:=Tryz.zeroValue4;have u4:=Tryz.runUnderlying4
 have t164:=Tryz.underlying145;have a164:=Tryz.isAgg145;have z164:=Tryz.sizeOf145;have v164:=Tryz.zeroValue145;have u164:=Tryz.runUnderlying145
 have e240:∀ args w,(callFunc 87 args).run Tryz.prog w=.ok (.enter 87 args) w:=enters_of Tryz.func87 (by kernel_rfl) rfl
 go_enter Tryz.func110,Tryz.ntmps110
 go_wp2_with (go_at_fn 87;refine(q7z h).mono ?_)
 rintro e w1 ⟨rfl,h1,o1,o2,o3,hsz1,hold1⟩
 obtain⟨_,hbk,hown,hne⟩:=h1
 have c0:w1.cell? ⟨b,0,none⟩=some (.pointer (some ⟨b,0,none⟩)):=by rw[Lib.cell_of_heap hbk];rfl
 have c1:w1.cell? ⟨b,1,none⟩=some v:=by rw[Lib.cell_of_heap hbk];rfl
 go_wp2_with (at_builtin;refine q9u rfl _ _ 40 rfl 5 i0 Tryz.underlying40 hi hz0 hz1 hz2 _ _ _ rfl (hown.alloc _) ⟨w1.heap.size,0,none⟩ 1 1 [.int .u8 c] rfl rfl ?c1 ?c2 ?c3 ?c4 ?_)
 case c1=>
  intro j u hj
  match j,hj with
  |0,hj=>simp at hj;subst hj;simp [Addr.add]
 case c2=>intro u hu;simp at hu;subst hu;rfl
 case c3=>unfold maxLen;omega
 case c4=>omega
 intro v' w2 hown' hgrow _ hsame
 have hlt:b<w1.heap.size:=by
  rcases Nat.lt_or_ge b w1.heap.size with h'|h'
  ·exact h'
  ·simp [Array.getElem?_eq_none h'] at hbk
 have hb2:w2.heap[b]? = some (.cells #[.pointer (some ⟨b,0,none⟩),v] 78 (0,0)):=by
  rw[hgrow.block b (by simp;omega) (fun e=>hne e.symm),Lib.alloc_old w1 _ b hlt]
  exact hbk
 have d0:w2.cell? ⟨b,0,none⟩=some (.pointer (some ⟨b,0,none⟩)):=by rw[Lib.cell_of_heap hb2];rfl
 have d1:w2.cell? ⟨b,1,none⟩=some v:=by rw[Lib.cell_of_heap hb2];rfl
 have f1:w2.frozen? ⟨b,1,none⟩=false:=Lib.frozen_of_heap hb2 1
 obtain⟨g,cap,rfl⟩:∃ g cap,v'=.slice (some ⟨g,0,none⟩) (bs.length+1) cap:=by
  rcases hown'.2 with⟨_,h0⟩|⟨g,cap,cur,fz,hv,_⟩
  ·omega
  ·exact⟨g,cap,hv⟩
 go_wp2
 go_ret
 refine⟨rfl,_,z9h (by decide:(78:TypeId)≠5) (w:=w) (w1:=w1.alloc (.cells #[.int .u8 c] 5)) (.inr (by simp [hsz1.eq])) ⟨o1,o2,o3⟩ (fun k hk hkb=>by rw[Lib.alloc_old w1 _ k (by rw[hsz1.eq];exact hk)];exact hold1 k hkb) hb2 hgrow (by simpa using hown') hsame (fun g hg=>(h.own.lt g hg).2)⟩
set_option maxHeartbeats 2000000 in
set_option maxRecDepth 100000 in
theorem q9w{w:World}{b:Nat}{p v:Value}{bs:List Value}(h:BAt 78 5 w b p v bs)(s:ByteArray)(hlen:bs.length+s.size≤140737488355328) :
  Calls Tryz.prog 47 #[.pointer (some ⟨b,0,none⟩),.string s] w fun e w'=>e=.returned (.tuple #[.int .i64 s.size,.nilIface])∧∃ v',BAt 78 5 w' b (.pointer (some ⟨b,0,none⟩)) v' (bs++Lib.strCells s)∧Kept w w' b v v'∧(v=.slice none 0 0→s.size=0→v'=.slice none 0 0):=by
 obtain⟨i0,hi,hz0,hz1,hz2⟩:=info_parts (show(Tryz.prog.info? 5).map (fun i=>(i.zero,i.size,i.bytes))=some (some (.int .u8 0),1,1) from Tryz.Builder_Extra_169.infoByte)
 have mixed:Tryz.prog.follows .mixedOrders=true:=by kernel_rfl
 have t72:=Tryz.underlying78;have a72:=Tryz.isAgg78;have z72:=Tryz.sizeOf78;have v72:=Tryz.zeroValue78;have u72:=Tryz.runUnderlying78
 have t70:=Tryz.underlying76;have a70:=Tryz.isAgg76;have z70:=Tryz.sizeOf76;have v70:=Tryz.zeroValue76;have u70:=Tryz.runUnderlying76
 have t37:=Tryz.underlying40;have a37:=Tryz.isAgg40;have z37:=Tryz.sizeOf40;have v37:=Tryz.zeroValue40;have u37:=Tryz.runUnderlying40
 have t3:=Tryz.underlying3;have a3:=Tryz.isAgg3;have z3:=Tryz.sizeOf3;have v3:=Tryz.zeroValue3;have u3:=Tryz.runUnderlying3
 have t9:=Tryz.underlying9;have a9:=Tryz.isAgg9;have z9:=Tryz.sizeOf9;have v9:=Tryz.zeroValue9;have u9:=Tryz.runUnderlying9
 have t4:=Tryz.underlying4;have a4:=Tryz.isAgg4;have z4:=Tryz.sizeOf4;have v4:=Tryz.zeroValue4;have u4:=Tryz.runUnderlying4
 have t164:=Tryz.underlying145;have a164:=Tryz.isAgg145;have z164:=Tryz.sizeOf145;have v164:=Tryz.zeroValue145;have u164:=Tryz.runUnderlying145
 have t5:=Tryz.underlying5;have a5:=Tryz.isAgg5;have z5:=Tryz.sizeOf5;have v5:=Tryz.zeroValue5;have u5:=Tryz.runUnderlying5
 have e240:∀ args w,(callFunc 87 args).run Tryz.prog w=.ok (.enter 87 args) w:=enters_of Tryz.func87 (by kernel_rfl) rfl
 go_enter Tryz.func47,Tryz.ntmps47
 go_wp2_with (go_at_fn 87;refine(q7z h).mono ?_)
 rintro e w1 ⟨rfl,h1,o1,o2,o3,hsz1,hold1⟩
 obtain⟨_,hbk,hown,hne⟩:=h1
 have c0:w1.cell? ⟨b,0,none⟩=some (.pointer (some ⟨b,0,none⟩)):=by rw[Lib.cell_of_heap hbk];rfl
 have c1:w1.cell? ⟨b,1,none⟩=some v:=by rw[Lib.cell_of_heap hbk];rfl
 go_wp2_with (at_builtin;refine q58 rfl _ _ 40 9 rfl 5 i0 Tryz.underlying40 Tryz.underlying9 hi hz0 hz1 hz2 _ _ _ rfl hown s rfl ?c3 ?c4 ?_)
 case c3=>unfold maxLen;omega
 case c4=>omega
 intro v' w2 hown' hgrow hnil hsame
 have hlt:b<w1.heap.size:=by
  rcases Nat.lt_or_ge b w1.heap.size with h'|h'
  ·exact h'
  ·simp [Array.getElem?_eq_none h'] at hbk
 have hb2:w2.heap[b]? = some (.cells #[.pointer (some ⟨b,0,none⟩),v] 78 (0,0)):=by
  rw[hgrow.block b hlt (fun e=>hne e.symm)]
  exact hbk
 have d0:w2.cell? ⟨b,0,none⟩=some (.pointer (some ⟨b,0,none⟩)):=by rw[Lib.cell_of_heap hb2];rfl
 have d1:w2.cell? ⟨b,1,none⟩=some v:=by rw[Lib.cell_of_heap hb2];rfl
 have f1:w2.frozen? ⟨b,1,none⟩=false:=Lib.frozen_of_heap hb2 1
 obtain⟨ao,n',cap,rfl⟩:∃ ao n' cap,v'=.slice ao n' cap:=by
  rcases hown'.2 with⟨hv,_⟩|⟨g,cap,cur,fz,hv,_⟩
  ·exact⟨_,_,_,hv⟩
  ·exact⟨_,_,_,hv⟩
 go_wp2
 go_ret2
 have hp:=z9h (bs':=bs++Lib.strCells s) (by decide:(78:TypeId)≠5) (w:=w) (.inl hsz1.eq) ⟨o1,o2,o3⟩ (fun k hk hkb=>hold1 k hkb) hb2 hgrow (by simpa [Lib.strCells_length] using hown') hsame (fun g hg=>(h.own.lt g hg).2)
 exact⟨rfl,_,hp.1,hp.2,fun h1 h2=>hnil.2 ⟨h1,by
  obtain⟨⟨l⟩⟩:=s
  cases l with
  |nil=>rfl
  |cons a r=>simp [ByteArray.size] at h2⟩⟩
theorem tB_wb:WbOk Tryz.prog 110 78 5:=fun h c hl=>z1i h c hl
theorem tB_ws:WsOk Tryz.prog 47 78 5:=fun h s hl=>q9w h s hl
end Go.Vm
end

section
namespace Go.Vm
open Go.RowKit Go.Shelf Go.Proofs Go.Sort
def GT:Nat→Option (List D)
 |0=>some (Lib.pow10Tab.map fun z=>.int .u64 z)
 |_=>none
theorem gP10:Tryz.prog.globalNamed "internal/strconv.uint64pow10" = some 0:=by kernel_rfl
theorem z99{w:World}{F:Nat→Prop}{v:Value}{k:IntKind}{n:Int}(h:RepD w F v (.int k n)):v=.int k n:=by
 cases h with|int k n=>rfl
theorem z2U{w:World}{F:Nat→Prop}(h:GlobRel w F GT):Lib.TabIs Tryz.prog w "internal/strconv.uint64pow10" .u64 Lib.pow10Tab:=by
 have hx:=h 0 _ rfl
 rw[if_neg (show ¬ q74 (Lib.pow10Tab.map fun z=>D.int .u64 z)=true from fun e=>Bool.noConfusion (show false=true from e))] at hx
 obtain⟨h1,cs,t,fz,h2,h3⟩:=hx
 unfold Lib.TabIs World.var?
 rw[gP10]
 show(match w.heap[0]? with|some (.cells cs _ _)=>some cs|_=>none)=_
 rw[h2]
 show some cs=_
 congr 1
 apply Array.ext
 ·rw[h3];simp
 ·intro j hj1 hj2
  cases h1 with
  |ptr b o cells g hf hc hr=>
   have hj:j<Lib.pow10Tab.length:=by simpa using hj2
   have e:(Lib.pow10Tab.map fun z=>D.int .u64 z)[j]? = some (.int .u64 Lib.pow10Tab[j]):=by simp [hj]
   have hv:=hr j _ e
   have hg:=z99 hv
   have hcell:=hc j _ e
   rw[hg,Nat.zero_add] at hcell
   have:w.cell? ⟨0,j,none⟩=some cs[j]:=by
    rw[Lib.cell_of_heap h2]
    simp [hj1]
   rw[this] at hcell
   simpa using Option.some.inj hcell
theorem q4H{w:World}{F:Nat→Prop}{base:Nat}(hF:∀ b,F b→b<w.heap.size):HeapRel w F (fun _ _=>False) base (fun _=>none) 0 (indexed []):=
 ⟨fun b blk h=>absurd (show look [] b=some blk from h) (by simp [look]),fun b b' l l' h=>(by cases h),fun b l h=>(by cases h),hF⟩
theorem q1A:Tryz.prog.follows .mixedOrders=true:=by kernel_rfl
theorem z5k(s:List UInt8)(c:UInt8)(a b:Bool):q2o Tryz.prog GT 123 [.d a (.str s),.d b (.int .u8 c.toNat)] (.d false (.int .i64 (Lib.indexByte s c))) []:=by
 intro w F vals hF hG hR
 obtain⟨hsz,hval⟩:=hR
 obtain⟨l⟩:=vals
 match l,hsz,hval with
 |[v0,v1],hsz,hval=>
  obtain⟨t,e0,e0'⟩:=(hval 0 v0 (.d a (.str s)) rfl rfl).str_inv
  have e1:=(hval 1 v1 (.d b (.int .u8 c.toNat)) rfl rfl).int_inv
  subst e0;subst e1
  refine(Tryz.strings_IndexByte t c.toNat w).mono ?_
  rintro e w' ⟨rfl,rfl⟩
  refine⟨_,F,fun _=>none,rfl,.refl _ _,fun b h=>.inl h,?_,q4H hF⟩
  have:(c.toNat:Int).toNat.toUInt8=c:=by simp
  rw[←e0',this]
  exact .d _ _ _ (.int _ _)
 |[],hsz,_=>simp at hsz
 |[_],hsz,_=>simp at hsz
 |_ :: _ :: _ :: _,hsz,_=>simp at hsz
theorem z5l(s:List UInt8)(c:UInt8)(a b:Bool):q2o Tryz.prog GT 115 [.d a (.str s),.d b (.str [c])] (.d false (.int .i64 (s.count c))) []:=by
 intro w F vals hF hG hR
 obtain⟨hsz,hval⟩:=hR
 obtain⟨l⟩:=vals
 match l,hsz,hval with
 |[v0,v1],hsz,hval=>
  obtain⟨t,e0,e0'⟩:=(hval 0 v0 (.d a (.str s)) rfl rfl).str_inv
  obtain⟨u,e1,e1'⟩:=(hval 1 v1 (.d b (.str [c])) rfl rfl).str_inv
  subst e0;subst e1
  have hu:u=⟨#[c]⟩:=by
   obtain⟨u⟩:=u
   obtain⟨u⟩:=u
   simp only at e1'
   rw[←e1']
  subst hu
  refine(Tryz.strings_Count_one t c w).mono ?_
  rintro e w' ⟨rfl,rfl⟩
  refine⟨_,F,fun _=>none,rfl,.refl _ _,fun b h=>.inl h,?_,q4H hF⟩
  rw[e0']
  exact .d _ _ _ (.int _ _)
 |[],hsz,_=>simp at hsz
 |[_],hsz,_=>simp at hsz
 |_ :: _ :: _ :: _,hsz,_=>simp at hsz
theorem z7m(n:Int)(a:Bool)(h0 : -9223372036854775808≤n)(h1:n≤9223372036854775807):q2o Tryz.prog GT 49 [.d a (.int .i64 n)] (.d false (.str (Lib.itoa n))) []:=by
 intro w F vals hF hG hR
 obtain⟨hsz,hval⟩:=hR
 obtain⟨l⟩:=vals
 match l,hsz,hval with
 |[v0],hsz,hval=>
  have e0:=(hval 0 v0 (.d a (.int .i64 n)) rfl rfl).int_inv
  subst e0
  refine(Tryz.strconv_Itoa n h0 h1 w (z2U hG)).mono ?_
  rintro e w' ⟨rfl,k,os,rfl⟩
  have hsz:(grow (w.drewN k) os).heap.size=w.heap.size+os.size:=by
   show((w.drewN k).heap++os).size=_
   simp
  refine⟨_,F,fun _=>none,rfl,⟨rfl,rfl,rfl,by rw[hsz];omega,fun j hj=>?_⟩,fun b h=>.inl h,?_,q4H (fun b h=>by rw[hsz];have:=hF b h;omega)⟩
  ·show((w.drewN k).heap++os)[j]? = _
   rw[Array.getElem?_append_left (by simpa using hj)]
   simp
  ·exact .d _ _ _ (.str ⟨(Lib.itoa n).toArray⟩)
 |[],hsz,_=>simp at hsz
 |_ :: _ :: _,hsz,_=>simp at hsz
theorem z7n(s:List UInt8)(a:Bool)(n:Int)(hl:s.length≤18)(h:Lib.atoi s=some n):q2o Tryz.prog GT 111 [.d a (.str s)] (.tup [.d false (.int .i64 n),.d false .nilif]) []:=by
 intro w F vals hF hG hR
 obtain⟨hsz,hval⟩:=hR
 obtain⟨l⟩:=vals
 match l,hsz,hval with
 |[v0],hsz,hval=>
  obtain⟨t,e0,e0'⟩:=(hval 0 v0 (.d a (.str s)) rfl rfl).str_inv
  subst e0
  have hsz':t.size≤18:=by
   have:t.size=t.data.toList.length:=by simp
   rw[this,←e0'];exact hl
  refine(Tryz.strconv_Atoi t n hsz' (by rw[←e0'];exact h) w).mono ?_
  rintro e w' ⟨rfl,b,rfl⟩
  have hs:=Lib.bytesWorld_size w 5 b
  refine⟨_,F,fun _=>none,rfl,Go.Joins.below_bytesWorld _ w 5 b (Nat.le_refl _),fun b h=>.inl h,?_,q4H (fun x hx=>by rw[hs];have:=hF x hx;omega)⟩
  refine .tup _ _ rfl fun j v x hv hx=>?_
  match j with
  |0=>simp at hv hx;subst hv;subst hx;exact .d _ _ _ (.int _ _)
  |1=>simp at hv hx;subst hv;subst hx;exact .d _ _ _ .nilif
  |j+2=>simp at hv
 |[],hsz,_=>simp at hsz
 |_ :: _ :: _,hsz,_=>simp at hsz
end Go.Vm
end

section
namespace Go.Vm
open Go.RowKit
variable {P:Program}
def Cx.later(K:Cx)(ds:List Deferred):Cx:=⟨K.call,K.eff,K.glob,K.loc,ds,K.pan⟩
theorem Cx.later_sound{K:Cx}(h:K.Sound P)(ds:List Deferred):(K.later ds).Sound P:=⟨h.1,h.2,h.3,h.4⟩
theorem z4r(K:Cx)(ds:List Deferred)(s:S):∀ e,ev (K.later ds) s e=ev K s e:=by
 intro e
 induction e <;> simp only[ev, *] <;> rfl
theorem StRel.later{K:Cx}{X:Nat→Nat→Prop}{base:Nat}{w0:World}{F0:Nat→Prop}{m:Nat}{σ0:Nat→Option Loc}{n:Nat}{s:S}{a a':Act}{w:World}{F:Nat→Prop}{σ:Nat→Option Loc}
  (h:StRel K X base w0 F0 m σ0 n s a w F σ) {ds:List Deferred} (hs:a'.tmps.size=n) (hd:a'.defers=ds) (ht:∀ t v,look s.rho t=some v→a'.tmps.getD t undef=a.tmps.getD t undef):StRel (K.later ds) X base w0 F0 m σ0 n s a' w F σ:=
 ⟨h.heap,h.glob,h.le,h.frame,h.frz,hs,hd,fun t v hv=>by rw[ht t v hv];exact h.rho t v hv,h.dom,h.stab,h.nxm,h.xm,h.sub⟩
theorem z2f{K:Cx}{fn:Func}{own:Bool}{res:List E}{m:Nat}{w w':World}{F F':Nat→Prop}{σ σ':Nat→Option Loc}{s:S}{a:Act}{vs:List V}{r:V}{news:List Blk}{mv:List Nat}
  (hres:mapO (resE P) fn.results.toList=some res) (hs:StRel K (OwnB σ) w.heap.size w F m σ fn.ntmps s a w' F' σ') (hvs:mapO (ev K s) res=some vs) (hfin:finish m own s (q0d vs)=some (r,news,mv)) :
  ∃ v,(results fn a.tmps).run P w'=.ok v w'∧∃ v' F' σ',Ending.returned v=.returned v'∧Frame (OwnB σ) w.heap.size w w'∧(∀ b,F b→F' b)∧(∀ b,F' b→F b∨w.heap.size≤b)∧
   RepV w' F' w.heap.size σ' v' r∧HeapRel w' F' (OwnB σ) w.heap.size σ' news.length (indexed news)∧∀ i l,i<m→σ i=some l→i∉mv→σ' i=some l:=by
 obtain⟨v,h1,h2⟩:=q6e hs hres hvs
 unfold finish at hfin
 simp only at hfin
 generalize (if own=true then q03 s.heap (refN s.heap+64) [] (List.range m++(q0d vs).refs) else List.range m)=bs at hfin
 split at hfin
 case isFalse=>cases hfin
 rename_i hc2
 simp only[Bool.and_eq_true,decide_eq_true_eq] at hc2
 obtain⟨hnd,hpre⟩:=hc2
 cases h3:finV (m==0) bs s.heap (q0d vs) with
 |none=>simp [h3] at hfin
 |some r'=>
  cases h4:mapO (finB (m==0) bs s.heap) bs with
  |none=>simp [h3,h4] at hfin
  |some news'=>
   simp only[h3,h4,Option.some.injEq,Prod.mk.injEq] at hfin
   obtain⟨rfl,rfl,rfl⟩:=hfin
   have hpin:∀ b,b<m→bs[b]? = some b:=fun b hb'=>by
    have:(bs.take m)[b]? = some b:=by rw[hpre];simp [hb']
    simpa [List.getElem?_take,hb'] using this
   have hX:∀ b k,OwnB σ b k→bs[b]? = some b:=fun b k hx=>hpin b (hs.xm b k hx)
   have hy:z56 (OwnB σ) w.heap.size bs σ':=by
    intro i l hl
    obtain⟨hni,hl'⟩:=q5N hl
    rcases(hs.heap.own i l hl').2.2.1 with h|h
    ·exact h
    ·have:=List.mem_of_getElem? (hX i _ h)
     simp [this] at hni
   refine⟨v,h1,v,FZ F' bs σ',outs bs σ',rfl,hs.frame,fun b hb'=>.inl (hs.sub b hb'),fun b hb'=>?_,q96 hs.heap hy h3 h2,z2h hs.heap hy hnd hX h4,fun i l hi hl hm'=>?_⟩
   ·rcases hb' with hb'|⟨i,l,hl,rfl⟩
    ·exact hs.frz b hb'
    ·exact .inr (hy i l hl)
   ·unfold outs
    rw[hpin i hi]
    exact hs.stab i l hi hl (fun hc=>hm' (List.mem_filter.2 ⟨List.mem_range.2 hi,by simpa [List.contains_eq_mem] using hc⟩))
def z8a(k G:Nat)(cap:List Nat):Code→Bool
 |.region _ ops draw=>!draw&&match ops.toList with
  |[o,p]=>o.dst==some k&&o.guard.isNone&&p.dst==none&&p.guard.isNone &&
   (match o.op with|.makeFunc (.func g) f c=>g==G&&f.toList.isEmpty&&decide (c.toList.map (fun x=>match x with|.tmp t=>some t|_=>none)=cap.map some)|_=>false) &&
   (match p.op with|.defer c=>c.args.toList.isEmpty&&(match c.callee with|.value (.tmp t)=>t==k|_=>false)|_=>false)
  |_=>false
 |_=>false
theorem j1T{l:List Operand}{cap:List Nat}(h:l.map (fun x=>match x with|.tmp t=>some t|_=>none)=cap.map some):l=cap.map Operand.tmp:=by
 induction l generalizing cap with
 |nil=>cases cap <;> simp_all
 |cons x l ih=>
  cases cap with
  |nil=>simp at h
  |cons t cap=>
   simp only[List.map_cons,List.cons.injEq] at h
   rw[ih h.2]
   cases x <;> simp_all
theorem z78{k G:Nat}{cap:List Nat}{code:Code}(h:z8a k G cap code=true){Q:Exit→Act→World→Prop}{a:Act}{w:World}(hk:k<a.tmps.size)
  (hQ:Q .normal { tmps:=a.tmps.setIfInBounds k (.func (.func G) #[] (cap.map fun t=>a.tmps.getD t undef).toArray),defers:={ target:=.fn (.func G) (cap.map fun t=>a.tmps.getD t undef).toArray,args:=#[] } :: a.defers } w):code.wp P Q a w:=by
 cases code with
 |region id ops draw=>
  simp only[z8a,Bool.and_eq_true,Bool.not_eq_true'] at h
  obtain⟨rfl,h⟩:=h
  split at h
  ·rename_i o p hops
   simp only[Bool.and_eq_true,beq_iff_eq,Option.isNone_iff_eq_none] at h
   obtain⟨⟨⟨⟨⟨h1,h2⟩,h3⟩,h4⟩,h5⟩,h6⟩:=h
   obtain⟨od,oo,ot,op,oa,og⟩:=o
   obtain⟨pd,po,pt,pp,pa,pg⟩:=p
   simp only at h1 h2 h3 h4 h5 h6
   subst h1;subst h2;subst h3;subst h4
   split at h5
   case h_2=>cases h5
   rename_i g f c
   simp only[Bool.and_eq_true,beq_iff_eq,List.isEmpty_iff,decide_eq_true_eq] at h5
   obtain⟨⟨rfl,hf⟩,hc⟩:=h5
   have hc:=j1T hc
   obtain⟨c⟩:=c
   obtain⟨f⟩:=f
   simp only at hf hc
   subst hf;subst hc
   split at h6
   case h_2=>cases h6
   rename_i d
   obtain⟨dc,da,dt⟩:=d
   simp only[Bool.and_eq_true,List.isEmpty_iff] at h6
   obtain⟨h7,h8⟩:=h6
   split at h8
   case h_2=>cases h8
   rename_i t
   simp only[beq_iff_eq] at h8
   subst h8
   obtain⟨da⟩:=da
   simp only at h7
   subst h7
   obtain⟨ops⟩:=ops
   simp only at hops
   subst hops
   refine wp_region ?_
   have hmf:∀(fn:Fn) (first cap:Array Value) (w:World),(Instr.makeFunc fn first cap).run P w=.ok (.func fn first cap) w:=fun _ _ _ _=>rfl
   have e:a.eval ∘ Operand.tmp=fun t=>a.tmps.getD t undef:=rfl
   simp only[List.size_toArray,List.length_cons,List.length_nil,List.range_succ,List.range_zero,List.nil_append,List.cons_append]
   simp [wpOps,Region.wanted,Oper.wp,Oper.upon,execOp,Act.put,Act.eval,resolve,Deferred.ofValue,go_sem,hmf,hk,e]
   left
   left
   simpa using hQ
  ·cases h
 |_=>simp [z8a] at h
structure DfrF where
 c0:C
 ca:C
 cb:C
 res:List E
 k:Nat
 G:Nat
 cap:List Nat
def j01(P:Program)(f:FuncId)(n:Nat)(g:DfrF):Bool:=match P.funcs[f]? with
 |some fn=>match fn.body with
  |some (.seq c0 (.seq ca (.seq r cb)))=>chk P 0 fn.ntmps g.c0 c0&&chk P 0 fn.ntmps g.ca ca&&z8a g.k g.G g.cap r&&decide (g.k<fn.ntmps)&&chk P 0 fn.ntmps g.cb cb &&
    decide (mapO (resE P) fn.results.toList=some g.res)&&decide (n≤fn.ntmps)&&(fn.name != "runtime.NumGoroutine")&&q0p P g.G
  |_=>false
 |none=>false
inductive DfrRun(K:Cx)(g:DfrF)(args:List V)(r:V)(news:List Blk):Prop where
 |early (s0 s1:S) (vs:List V) (mv:List Nat) (h0:exec K g.c0 (startS args [])=some (.nrm,s0)) (h1:exec K g.ca s0=some (.ret,s1)) (hv:mapO (ev K s1) g.res=some vs) (hf:finish 0 false s1 (q0d vs)=some (r,news,mv))
 |late (s0 s1:S) (h0:exec K g.c0 (startS args [])=some (.nrm,s0)) (h1:exec K g.ca s0=some (.nrm,s1)) (hk:look s1.rho g.k=none) (h2:∀ ds,∃ s2 vs mv,exec (K.later ds) g.cb s1=some (.ret,s2)∧mapO (ev (K.later ds) s2) g.res=some vs∧finish 0 false s2 (q0d vs)=some (r,news,mv))
def j1k(P:Program)(G n:Nat):Prop:=∀(cap:Array Value)(w:World),cap.size=n→CallsD P G cap .returning w fun e u' w'=>u'=.returning∧e=.returned (.tuple #[])∧w'=w
theorem q9h(hm:P.follows .mixedOrders=true){K:Cx}(hK:K.Sound P){f:FuncId}{g:DfrF}{args:List V}{r:V}{news:List Blk}(hok:j01 P f args.length g=true)(hq:j1k P g.G g.cap.length)(hr:DfrRun K g args r news)(hd0:K.dfr=[]:=by rfl) :
  q0p P f=true∧q2o P K.glob f args r news:=by
 unfold j01 at hok
 cases hf:P.funcs[f]? with
 |none=>simp [hf] at hok
 |some fn=>
  simp only[hf] at hok
  split at hok
  case h_2=>cases hok
  rename_i c0 ca rg cb hb
  simp only[Bool.and_eq_true,decide_eq_true_eq] at hok
  obtain⟨⟨⟨⟨⟨⟨⟨⟨k0,ka⟩,kr⟩,kk⟩,kb⟩,hres⟩,hn⟩,hname⟩,hG⟩:=hok
  refine⟨by simp [q0p,hf,hb,hname],fun w F vals hF hGl hargs=>?_⟩
  have hX:∀ b k,¬ OwnB (fun _=>none) b k:=by rintro b k ⟨l,h,_⟩;cases h
  have hH:HeapRel w F (OwnB fun _=>none) w.heap.size (fun _=>none) ([]:List Blk).length (indexed []):=⟨fun b blk h=>by simp [indexed,look] at h,fun b b' l l' h=>(by cases h),fun b l h=>(by cases h),hF⟩
  refine calls_of_wp_defers hf hb ?_
  have hst:StRel K (OwnB fun _=>none) w.heap.size w F 0 (fun _=>none) fn.ntmps (startS args []) { tmps:=vals++Array.replicate (fn.ntmps - vals.size) undef,defers:=[] } w F (fun _=>none):=by
   refine⟨hH,hGl,Nat.le_refl _,.refl _ _ _,fun b hb=>.inl hb,?_,hd0.symm,fun t v hv=>?_,fun b blk h=>?_,fun _ _ _ h _=>h,Nat.le_refl _,fun b k hx=>?_,fun _ h=>h⟩
   ·have:=hargs.1
    simp;omega
   ·obtain⟨_,hv'⟩:=q6p args 0 t v hv
    rw[Nat.sub_zero] at hv'
    have ht:t<vals.size:=by rw[hargs.1];exact(List.getElem?_eq_some_iff.1 hv').1
    have hget:(vals++Array.replicate (fn.ntmps - vals.size) undef).getD t undef=vals[t]:=by
     rw[Array.getD_eq_getD_getElem?,Array.getElem?_append_left ht]
     simp [ht]
    show RepV w F w.heap.size _ ((vals++Array.replicate (fn.ntmps - vals.size) undef).getD t undef) v
    rw[hget]
    exact hargs.2 t _ v (by simp [ht]) hv'
   ·simp [startS,indexed,look] at h
   ·exact absurd hx (hX b k)
  have shut:∀(s:S) (a:Act) (w':World) (F':Nat→Prop) (σ':Nat→Option Loc) (vs:List V) (mv:List Nat) (K1:Cx),StRel K1 (OwnB fun _=>none) w.heap.size w F 0 (fun _=>none) fn.ntmps s a w' F' σ'→mapO (ev K1 s) g.res=some vs→finish 0 false s (q0d vs)=some (r,news,mv)→
    ∃ v,(results fn a.tmps).run P w'=.ok v w'∧(∃ v' F' σ',Ending.returned v=.returned v'∧Below w.heap.size w w'∧(∀ b,F' b→F b∨w.heap.size≤b)∧
     RepV w' F' w.heap.size σ' v' r∧HeapRel w' F' (fun _ _=>False) w.heap.size σ' news.length (indexed news)):=by
   intro s a w' F' σ' vs mv K1 hs hvs hfin
   obtain⟨v,h1,v',F'',σ'',he,hfr,_,hF',hR,hHr,_⟩:=z2f hres hs hvs hfin
   refine⟨v,h1,v',F'',σ'',he,⟨hfr.os,hfr.tape,hfr.output,hfr.size,fun k hk=>hfr.block k hk (fun b=>hX b k)⟩,hF',hR,⟨hHr.blk,hHr.inj,fun b l hb=>?_,hHr.fro⟩⟩
   obtain⟨o1,o2,o3,o4⟩:=hHr.own b l hb
   exact⟨o1,o2,o3.imp id (fun hx=>hX b _ hx),o4⟩
  have hev:∀ ds (s:S),mapO (ev (K.later ds) s) g.res=mapO (ev K s) g.res:=fun ds s=>by
   have:ev (K.later ds) s=ev K s:=funext fun e=>z4r K ds s e
   rw[this]
  cases hr with
  |early s0 s1 vs mv h0 h1 hv hfn=>
   refine wp_seq (wp_mono (q0Y hm hK g.c0 c0 _ _ _ _ _ _ k0 h0 hst) fun e a w1 hp=>?_)
   obtain⟨rfl,F1,σ1,hs1⟩:=hp
   refine wp_seq (wp_mono (q0Y hm hK g.ca ca _ _ _ _ _ _ ka h1 hs1) fun e a w2 hp=>?_)
   obtain⟨rfl,F2,σ2,hs2⟩:=hp
   obtain⟨v,q1,q2⟩:=shut s1 a w2 F2 σ2 vs mv K hs2 hv hfn
   show Leaves P fn a.tmps _ a.defers .returning w2
   rw[hs2.dfr,hd0]
   exact⟨v,q1,q2⟩
  |late s0 s1 h0 h1 hk h2=>
   refine wp_seq (wp_mono (q0Y hm hK g.c0 c0 _ _ _ _ _ _ k0 h0 hst) fun e a w1 hp=>?_)
   obtain⟨rfl,F1,σ1,hs1⟩:=hp
   refine wp_seq (wp_mono (q0Y hm hK g.ca ca _ _ _ _ _ _ ka h1 hs1) fun e a w2 hp=>?_)
   obtain⟨rfl,F2,σ2,hs2⟩:=hp
   refine wp_seq (z78 kr (by rw[hs2.size];exact kk) ?_)
   have hdf:a.defers=[]:=hs2.dfr.trans hd0
   rw[hdf]
   generalize hcap:(g.cap.map fun t=>a.tmps.getD t undef).toArray=cap
   have hcs:cap.size=g.cap.length:=by rw[←hcap];simp
   have hs3:StRel (K.later [{ target:=.fn (.func g.G) cap,args:=#[] }]) (OwnB fun _=>none) w.heap.size w F 0 (fun _=>none) fn.ntmps s1 { tmps:=a.tmps.setIfInBounds g.k (.func (.func g.G) #[] cap),defers:=[{ target:=.fn (.func g.G) cap,args:=#[] }] } w2 F2 σ2:=
    hs2.later (by simp [hs2.size]) rfl fun t v ht=>by
     have hne:t≠g.k:=by rintro rfl;rw[hk] at ht;cases ht
     simp only[Array.getD_eq_getD_getElem?]
     rw[Array.getElem?_setIfInBounds_ne (by omega)]
   obtain⟨s2,vs,mv,h2,hv,hfn⟩:=h2 [{ target:=.fn (.func g.G) cap,args:=#[] }]
   refine wp_mono (q0Y hm (Cx.later_sound hK _) g.cb cb _ _ _ _ _ _ kb h2 hs3) fun e a3 w3 hp=>?_
   obtain⟨rfl,F3,σ3,hs4⟩:=hp
   obtain⟨v,q1,q2⟩:=shut s2 a3 w3 F3 σ3 vs mv _ hs4 hv hfn
   show Leaves P fn a3.tmps _ a3.defers .returning w3
   rw[hs4.dfr]
   refine leaves_cons (f:=g.G) (args:=cap) (by simp) ?_ ((hq cap w3 hcs).mono ?_)
   ·have:=q3g (w:=w3) hG cap
    simpa [invoke] using this
   ·rintro e u' w4 ⟨rfl,rfl,rfl⟩
    exact⟨v,q1,q2⟩
end Go.Vm
end

section
namespace Go.Vm
open Go.RowKit
variable {P:Program}
def z8z:List Row→FuncId→Nat→Option Row
 |[],_,_=>none
 |r :: l,f,m=>if r.f=f∧r.m=m then some r else z8z l f m
theorem q8Z{T:List Row}{f:FuncId}{m:Nat}{r:Row}(h:z8z T f m=some r):r∈T∧r.f=f:=by
 induction T with
 |nil=>cases h
 |cons q T ih=>
  simp only[z8z] at h
  split at h
  ·rename_i he
   obtain rfl:=Option.some.inj h
   exact⟨by simp,he.1⟩
  ·exact⟨List.mem_cons_of_mem _ (ih h).1,(ih h).2⟩
def cxM(K0:Cx)(N:Nat)(T:List Row):Nat→Cx
 |0=>K0
 |n+1=>⟨fun f vs=>match z8z T f 0 with
   |some r=>if r.m=0∧r.n=vs.length then match q63 N (cxM K0 N T n) r.g vs [] with
    |some (v,blks,_)=>some (v,blks)
    |none=>none
    else none
   |none=>K0.call f vs,
  fun f vs bs=>match z8z T f bs.length with
   |some r=>if r.m=bs.length∧r.n=vs.length then q63 N (cxM K0 N T n) r.g vs bs else none
   |none=>K0.eff f vs bs,K0.glob,K0.loc,[],fun _ _ _=>none⟩
theorem z3w{K0:Cx}(h:K0.dfr=[])(N:Nat)(T:List Row)(n:Nat):(cxM K0 N T n).dfr=[]:=by cases n;exact h;rfl
theorem q78(K0:Cx)(N:Nat)(T:List Row)(n:Nat):(cxM K0 N T n).glob=K0.glob:=by cases n <;> rfl
theorem z9d(hm:P.follows .mixedOrders=true){K0:Cx}(h0:K0.Sound P){N:Nat}{T:List Row}(hT:∀ r∈T,q1s P r.f r.m r.n r.g=true)(hl:∀ r∈T,K0.loc r.f=true→K0.glob=fun _=>none)(hd0:K0.dfr=[]:=by rfl):∀ n,(cxM K0 N T n).Sound P:=by
 intro n
 induction n with
 |zero=>exact h0
 |succ n ih=>
  have call:∀ f args r news,(cxM K0 N T (n+1)).call f args=some (r,news)→q0p P f=true∧q2o P K0.glob f args r news:=by
   intro f args r news h
   simp only[cxM] at h
   split at h
   ·rename_i q hq
    obtain⟨h1,rfl⟩:=q8Z hq
    split at h
    ·rename_i hc
     split at h
     ·rename_i v blks mv hr
      simp only[Option.some.injEq,Prod.mk.injEq] at h
      obtain⟨rfl,rfl⟩:=h
      have ok:=hT q h1
      rw[hc.1,hc.2] at ok
      have:=q4q hm ih ok (q5v hr) (z3w hd0 ..)
      rw[q78] at this
      exact this
     ·cases h
    ·cases h
   ·exact h0.pure f args r news h
  refine⟨fun f args r news h=>?_,fun f args r news hl' h=>?_,fun f args blks r blks' mv h=>?_,fun f args blks v h=>(by cases h)⟩
  ·have:=call f args r news h
   rw[←q78 K0 N T (n+1)] at this
   exact this
  ·have hl2:K0.loc f=true:=hl'
   have h2:=h
   simp only[cxM] at h2
   split at h2
   ·rename_i q hq
    obtain⟨h1,rfl⟩:=q8Z hq
    have e:=hl q h1 hl2
    have:=(call q.f args r news h).2
    rw[e] at this
    exact this
   ·exact h0.loc f args r news hl2 h2
  ·have h2:=h
   simp only[cxM] at h2
   split at h2
   ·rename_i q hq
    obtain⟨h1,rfl⟩:=q8Z hq
    split at h2
    ·rename_i hc
     have ok:=hT q h1
     rw[hc.1,hc.2] at ok
     have:=z2o hm ih ok (q5v h2) (z3w hd0 ..)
     rw[q78] at this
     exact this
    ·cases h2
   ·exact h0.eff f args blks r blks' mv h2
def j3s(N:Nat)(K:Cx)(g:DfrF)(s1:S):Option (V×List Blk):=match execC N K g.cb s1 with
 |some (.ret,s2)=>match mapO (ev K s2) g.res with
  |some vs=>match finish 0 false s2 (q0d vs) with
   |some (r,news,_)=>some (r,news)
   |none=>none
  |none=>none
 |_=>none
theorem z9b{N:Nat}{K:Cx}{g:DfrF}{args:List V}{s0 s1:S}{r:V}{news:List Blk}(h0:execC N K g.c0 (startS args [])=some (.nrm,s0))(h1:execC N K g.ca s0=some (.nrm,s1))(hk:look s1.rho g.k=none)
  (h2:∀ ds,j3s N (K.later ds) g s1=some (r,news)):DfrRun K g args r news:=by
 refine .late s0 s1 ((q76 N K g.c0).1 _ _ h0) ((q76 N K g.ca).1 _ _ h1) hk fun ds=>?_
 have h:=h2 ds
 unfold j3s at h
 split at h
 case h_2=>cases h
 rename_i s2 he
 split at h
 case h_2=>cases h
 rename_i vs hv
 split at h
 case h_2=>cases h
 rename_i r' news' mv hf
 simp only[Option.some.injEq,Prod.mk.injEq] at h
 obtain⟨rfl,rfl⟩:=h
 exact⟨s2,vs,mv,(q76 N _ g.cb).1 _ _ he,hv,hf⟩
end Go.Vm
end

section
namespace Go.Vm
open Go.Proofs
theorem j2e:j1k Tryz.prog 59 2:=by
 intro cap w hcap
 obtain⟨l⟩:=cap
 match l,hcap with
 |[p,q],_=>
  refine(callsD_of_wpS (R:=fun e u' w'=>u'=.returning∧e=.returned (.tuple #[])∧w'=w) Tryz.func59 rfl fun c₀ cs hu=>?_)
  apply wpS_seq
  apply wpS_region
  simp [wpOpsS,go_sem,recoverD,hu,Tryz.ntmps59,Exit.thenS]
  apply wpS_seq
  apply wpS_region
  simp [wpOpsS,go_sem,recoverD,hu,Tryz.ntmps59,Exit.thenS]
  refine wpS_cond (t:=false) (by simp [Act.eval,Array.replicate]) ?_
  simp only[Bool.false_eq_true,if_false]
  refine wpS_of_wp (wp_skip ?_)
  cases c₀
  simp_all [bodyPostS,results,Tryz.results59]
theorem z26:j1k Tryz.prog 76 2:=by
 intro cap w hcap
 obtain⟨l⟩:=cap
 match l,hcap with
 |[p,q],_=>
  refine(callsD_of_wpS (R:=fun e u' w'=>u'=.returning∧e=.returned (.tuple #[])∧w'=w) Tryz.func76 rfl fun c₀ cs hu=>?_)
  apply wpS_seq
  apply wpS_region
  simp [wpOpsS,go_sem,recoverD,hu,Tryz.ntmps76,Exit.thenS]
  apply wpS_seq
  apply wpS_region
  simp [wpOpsS,go_sem,recoverD,hu,Tryz.ntmps76,Exit.thenS]
  refine wpS_cond (t:=false) (by simp [Act.eval,Array.replicate]) ?_
  simp only[Bool.false_eq_true,if_false]
  refine wpS_of_wp (wp_skip ?_)
  cases c₀
  simp_all [bodyPostS,results,Tryz.results76]
end Go.Vm
end

section
namespace Go.Vm
set_option maxRecDepth 100000
/- 'sloth/code.Check' -/
def f13_L0:C:= (.seq (.reg [⟨[],[(20,(.bin .lss (.sl 19) (.sl 18)))],[],none,[1,3,17,18,19],1,[],[],[]⟩]) (.seq (.cond (.sl 20) .skip (.seq (.tidy 0 [1,3]) (.exit 0))) (.seq (.block 1 (.seq (.reg [⟨[(5,.box (.agg (.cons (.str []) (.cons (.int .i64 0) .nil))))],[],[],some (none,.store 2 (.sl 5) (.ld 2 true (.ia 2 (.sl 17) (.sl 19)))),[1,3,5,17,18,19],4,[],[],[]⟩]) (.seq (.seq (.reg [⟨[],[(43,(.or (.or (.or (.un .not (.call 35 (.cons (.ld 1 false (.fa 0 (.sl 5))) .nil))) (.bin .gtr (.lkp false 2 (.int .i64 0) (.sl 3) (.ld 1 false (.fa 0 (.sl 5)))) (.int .i64 0))) (.bin .lss (.ld 1 false (.fa 1 (.sl 5))) (.int .i64 0))) (.bin .gtr (.ld 1 false (.fa 1 (.sl 5))) (.int .i64 8))))],[],none,[1,3,5,17,18,19],21,[],[],[]⟩]) (.cond (.sl 43) (.seq (.reg [⟨[],[(2,(.int .i64 172))],[],none,[],1,[],[],[]⟩]) (.seq (.tidy 0 [2]) .ret)) .skip)) (.reg [⟨[],[],[],some (none,.mset 2 (.sl 3) (.ld 1 false (.fa 0 (.sl 5))) (.int .i64 1)),[1,3,17,18,19],4,[],[],[]⟩])))) (.reg [⟨[],[(19,(.bin .add (.sl 19) (.int .i64 1)))],[],none,[1,3,17,18],2,[],[],[]⟩]))))
def f13_L1:C:= (.seq (.reg [⟨[],[(51,(.bin .lss (.sl 50) (.sl 49)))],[],none,[1,3,48,49,50],1,[],[],[]⟩]) (.seq (.cond (.sl 51) .skip (.seq (.tidy 0 [1,3]) (.exit 2))) (.seq (.block 3 (.seq (.reg [⟨[(7,.box (.agg (.cons (.str []) (.cons (.int .i64 0) .nil))))],[(6,(.sl 50))],[],some (none,.store 2 (.sl 7) (.ld 2 true (.ia 2 (.sl 48) (.sl 50)))),[1,3,7,48,49,50],6,[],[],[]⟩]) (.seq (.reg [⟨[],[(68,(.or (.bin .geq (.sl 6) (.len false (.ld 1 false (.fa 0 (.sl 1))))) (.eqs true true [2,0] (.ld 2 true (.ia 2 (.ld 1 false (.fa 0 (.sl 1))) (.sl 6))) (.ld 2 true (.sl 7)))))],[],none,[1,3,48,49,50],14,[[],[],[1],[1,2],[2,1,3,0],[0,3,1,2,4],[4,2,1,3,0,5],[5,0,3,1,2,4,6],[4,2,1,3,0,5],[8,6,4,2,1,3,0,5,7],[7,5,0,3,1,2,4,6,8,9],[4,2,1,3,0,5],[11,9,8,6,4,2,1,3,0,5,7,10],[10,7,6,8,9,11,12,4,2,1,3,0,5]],[],[]⟩]) (.cond (.sl 68) (.seq (.reg [⟨[],[(2,(.int .i64 172))],[],none,[],1,[],[],[]⟩]) (.seq (.tidy 0 [2]) .ret)) .skip)))) (.reg [⟨[],[(50,(.bin .add (.sl 50) (.int .i64 1)))],[],none,[1,3,48,49],2,[],[],[]⟩]))))
def f13_L2:C:= (.seq (.reg [⟨[],[(75,(.bin .lss (.sl 74) (.sl 73)))],[],none,[1,3,72,73,74],1,[],[],[]⟩]) (.seq (.cond (.sl 75) .skip (.seq (.tidy 0 [1]) (.exit 4))) (.seq (.block 5 (.seq (.reg [⟨[(9,.box (.agg (.cons (.str []) (.cons (.int .i64 0) (.cons (.nilsl 3) .nil)))))],[],[],some (none,.store 3 (.sl 9) (.ld 3 true (.ia 3 (.sl 72) (.sl 74)))),[1,3,9,72,73,74],4,[],[],[]⟩]) (.seq (.seq (.reg [⟨[],[(98,(.or (.or (.or (.un .not (.call 35 (.cons (.ld 1 false (.fa 0 (.sl 9))) .nil))) (.bin .gtr (.lkp false 2 (.int .i64 0) (.sl 3) (.ld 1 false (.fa 0 (.sl 9)))) (.int .i64 0))) (.bin .lss (.ld 1 false (.fa 1 (.sl 9))) (.int .i64 0))) (.bin .gtr (.ld 1 false (.fa 1 (.sl 9))) (.int .i64 24))))],[],none,[1,3,9,72,73,74],21,[],[],[]⟩]) (.cond (.sl 98) (.seq (.reg [⟨[],[(2,(.int .i64 172))],[],none,[],1,[],[],[]⟩]) (.seq (.tidy 0 [2]) .ret)) .skip)) (.reg [⟨[],[],[],some (none,.mset 2 (.sl 3) (.ld 1 false (.fa 0 (.sl 9))) (.int .i64 1)),[1,3,72,73,74],4,[],[],[]⟩])))) (.reg [⟨[],[(74,(.bin .add (.sl 74) (.int .i64 1)))],[],none,[1,3,72,73],2,[],[],[]⟩]))))
def f13_L3:C:= (.seq (.reg [⟨[],[(107,(.bin .lss (.sl 106) (.sl 105)))],[],none,[1,104,105,106],1,[],[],[]⟩]) (.seq (.cond (.sl 107) .skip (.seq (.tidy 0 []) (.exit 6))) (.seq (.block 7 (.seq (.reg [⟨[(11,.box (.agg (.cons (.str []) (.cons (.int .i64 0) (.cons (.nilsl 3) .nil)))))],[],[],some (none,.store 3 (.sl 11) (.ld 3 true (.ia 3 (.sl 104) (.sl 106)))),[1,11,104,105,106],4,[],[],[]⟩]) (.seq (.reg [⟨[],[(12,(.call 37 (.cons (.ld 2 true (.sl 1)) (.cons (.ld 3 true (.sl 11)) .nil))))],[],none,[1,104,105,106],4,[],[],[]⟩]) (.seq (.reg [⟨[],[(114,(.bin .neq (.sl 12) (.int .i64 0)))],[],none,[1,12,104,105,106],2,[],[],[]⟩]) (.cond (.sl 114) (.seq (.reg [⟨[],[(2,(.sl 12))],[],none,[],2,[],[],[]⟩]) (.seq (.tidy 0 [2]) .ret)) .skip))))) (.reg [⟨[],[(106,(.bin .add (.sl 106) (.int .i64 1)))],[],none,[1,104,105],2,[],[],[]⟩]))))
def f13:Fun:=⟨ (.seq (.reg [⟨[(1,.box (.sl 0))],[],[(.int .i64 0)],none,[1],2,[],[],[]⟩]) (.seq (.seq (.reg [⟨[],[(14,(.call 34 (.cons (.ld 2 true (.sl 1)) .nil)))],[],none,[1],2,[],[],[]⟩]) (.cond (.sl 14) (.seq (.reg [⟨[],[(2,(.int .i64 4))],[],none,[],1,[],[],[]⟩]) (.seq (.tidy 0 [2]) .ret)) .skip)) (.seq (.reg [⟨[(15,.mkm)],[(3,(.sl 15))],[],none,[1],2,[],[],[]⟩]) (.seq (.seq (.reg [⟨[],[(17,(.ld 1 false (.fa 0 (.sl 1)))),(18,(.len false (.ld 1 false (.fa 0 (.sl 1))))),(19,(.int .i64 0))],[],none,[1,3],4,[],[],[]⟩]) (.block 0 (.seq (.tidy 0 [1,3,17,18,19]) (.loop (.seq (.tidy 0 [1,3,17,18,19]) f13_L0))))) (.seq (.seq (.reg [⟨[(48,.callo 36 .nil)],[(49,(.len false (.sl 48))),(50,(.int .i64 0))],[],none,[1,3,48],3,[],[],[]⟩]) (.block 2 (.seq (.tidy 0 [1,3,48,49,50]) (.loop (.seq (.tidy 0 [1,3,48,49,50]) f13_L1))))) (.seq (.reg [⟨[],[],[],some (none,.mclr (.sl 3)),[1,3],2,[],[],[]⟩]) (.seq (.seq (.reg [⟨[],[(72,(.ld 1 false (.fa 1 (.sl 1)))),(73,(.len false (.ld 1 false (.fa 1 (.sl 1))))),(74,(.int .i64 0))],[],none,[1,3],4,[],[],[]⟩]) (.block 4 (.seq (.tidy 0 [1,3,72,73,74]) (.loop (.seq (.tidy 0 [1,3,72,73,74]) f13_L2))))) (.seq (.seq (.reg [⟨[],[(104,(.ld 1 false (.fa 1 (.sl 1)))),(105,(.len false (.ld 1 false (.fa 1 (.sl 1))))),(106,(.int .i64 0))],[],none,[1],4,[],[],[]⟩]) (.block 6 (.seq (.tidy 0 [1,104,105,106]) (.loop (.seq (.tidy 0 [1,104,105,106]) f13_L3))))) (.seq (.reg [⟨[],[(2,(.int .i64 0))],[],none,[],1,[],[],[]⟩]) (.seq (.tidy 0 [2]) .ret)))))))))), [(.sl 2)],false⟩
theorem j4P:q1s Go.Proofs.Tryz.prog 13 0 1 f13=true:=by kernel_rfl
/- 'sloth/code.great' -/
def f34_L0:C:= (.seq (.reg [⟨[],[(10,(.bin .lss (.sl 9) (.sl 8)))],[],none,[1,3,7,8,9],1,[],[],[]⟩]) (.seq (.cond (.sl 10) .skip (.seq (.tidy 0 [1,3]) (.exit 0))) (.seq (.block 1 (.seq (.reg [⟨[(5,.box (.agg (.cons (.str []) (.cons (.int .i64 0) (.cons (.nilsl 3) .nil)))))],[],[],some (none,.store 3 (.sl 5) (.ld 3 true (.ia 3 (.sl 7) (.sl 9)))),[1,3,5,7,8,9],4,[],[],[]⟩]) (.seq (.reg [⟨[],[(3,(.bin .add (.sl 3) (.len false (.ld 1 false (.fa 2 (.sl 5))))))],[],none,[1,5,7,8,9],6,[],[],[]⟩]) (.seq (.reg [⟨[],[(21,(.bin .gtr (.len false (.ld 1 false (.fa 2 (.sl 5)))) (.int .i64 8000)))],[],none,[1,3,7,8,9],4,[],[],[]⟩]) (.cond (.sl 21) (.seq (.reg [⟨[],[(2,(.bool true))],[],none,[],1,[],[],[]⟩]) (.seq (.tidy 0 [2]) .ret)) .skip))))) (.reg [⟨[],[(9,(.bin .add (.sl 9) (.int .i64 1)))],[],none,[1,3,7,8],2,[],[],[]⟩]))))
def f34:Fun:=⟨ (.seq (.reg [⟨[(1,.box (.sl 0))],[],[(.bool false)],none,[1],2,[],[],[]⟩]) (.seq (.reg [⟨[],[(3,(.int .i64 0))],[],none,[1],1,[],[],[]⟩]) (.seq (.seq (.reg [⟨[],[(7,(.ld 1 false (.fa 1 (.sl 1)))),(8,(.len false (.ld 1 false (.fa 1 (.sl 1))))),(9,(.int .i64 0))],[],none,[1,3],4,[],[],[]⟩]) (.block 0 (.seq (.tidy 0 [1,3,7,8,9]) (.loop (.seq (.tidy 0 [1,3,7,8,9]) f34_L0))))) (.seq (.reg [⟨[],[(2,(.or (.or (.bin .gtr (.len false (.ld 1 false (.fa 0 (.sl 1)))) (.int .i64 2000)) (.bin .gtr (.len false (.ld 1 false (.fa 1 (.sl 1)))) (.int .i64 2000))) (.bin .gtr (.sl 3) (.int .i64 200000))))],[],none,[],15,[],[],[]⟩]) (.seq (.tidy 0 [2]) .ret))))), [(.sl 2)],false⟩
theorem j4H:q1s Go.Proofs.Tryz.prog 34 0 1 f34=true:=by kernel_rfl
/- 'sloth/code.isName' -/
def f35_L0:C:= (.seq (.reg [⟨[],[(7,(.bin .lss (.sl 6) (.sl 5)))],[],none,[0,5,6],1,[],[],[]⟩]) (.seq (.cond (.sl 7) .skip (.seq (.tidy 0 [0]) (.exit 0))) (.seq (.block 1 (.seq (.reg [⟨[],[(3,(.sl 6))],[],none,[0,5,6],2,[],[],[]⟩]) (.seq (.reg [⟨[],[(18,(.or (.bin .lss (.ix (.sl 0) (.sl 3)) (.int .u8 32)) (.bin .gtr (.ix (.sl 0) (.sl 3)) (.int .u8 126))))],[],none,[0,5,6],10,[],[],[]⟩]) (.cond (.sl 18) (.seq (.reg [⟨[],[(2,(.bool false))],[],none,[],1,[],[],[]⟩]) (.seq (.tidy 0 [2]) .ret)) .skip)))) (.reg [⟨[],[(6,(.bin .add (.sl 6) (.int .i64 1)))],[],none,[0,5],2,[],[],[]⟩]))))
def f35:Fun:=⟨ (.seq (.reg [⟨[],[],[(.bool false)],none,[0],1,[],[],[]⟩]) (.seq (.seq (.reg [⟨[],[(5,(.len true (.sl 0))),(6,(.int .i64 0))],[],none,[0],3,[],[],[]⟩]) (.block 0 (.seq (.tidy 0 [0,5,6]) (.loop (.seq (.tidy 0 [0,5,6]) f35_L0))))) (.seq (.reg [⟨[],[(2,(.and (.bin .geq (.len true (.sl 0)) (.int .i64 1)) (.bin .leq (.len true (.sl 0)) (.int .i64 4096))))],[],none,[],9,[],[],[]⟩]) (.seq (.tidy 0 [2]) .ret)))), [(.sl 2)],false⟩
theorem j4G:q1s Go.Proofs.Tryz.prog 35 0 1 f35=true:=by kernel_rfl
/- 'sloth/code.given' -/
def f36:Fun:=⟨ (.seq (.reg [⟨[],[],[(.nilsl 2)],none,[],1,[],[],[]⟩]) (.seq (.reg [⟨[(8,.lits 2 (.cons (.set 0 1 (.str [70,97,108,115,101]) (.agg (.cons (.str []) (.cons (.int .i64 0) .nil)))) (.cons (.set 0 1 (.str [84,114,117,101]) (.agg (.cons (.str []) (.cons (.int .i64 0) .nil)))) (.cons (.set 0 1 (.str [85,110,105,116]) (.agg (.cons (.str []) (.cons (.int .i64 0) .nil)))) (.cons (.set 0 1 (.str [78,105,108]) (.agg (.cons (.str []) (.cons (.int .i64 0) .nil)))) (.cons (.set 1 1 (.int .i64 2) (.set 0 1 (.str [67,111,110,115]) (.agg (.cons (.str []) (.cons (.int .i64 0) .nil))))) (.cons (.set 1 1 (.int .i64 2) (.set 0 1 (.str [80,97,105,114]) (.agg (.cons (.str []) (.cons (.int .i64 0) .nil))))) (.cons (.set 1 1 (.int .i64 3) (.set 0 1 (.str [84,114,105,112,108,101]) (.agg (.cons (.str []) (.cons (.int .i64 0) .nil))))) .nil))))))))],[(0,(.sl 8))],[],none,[],9,[],[],[]⟩]) (.seq (.tidy 0 [0]) .ret))), [(.sl 0)],true⟩
theorem j4F:q1s Go.Proofs.Tryz.prog 36 0 0 f36=true:=by kernel_rfl
/- 'sloth/code.checkCode' -/
def f37_L0:C:= (.seq (.reg [⟨[],[(23,(.bin .lss (.sl 22) (.sl 21)))],[],none,[2,3,20,21,22],1,[],[],[]⟩]) (.seq (.cond (.sl 23) .skip (.seq (.tidy 0 [2,3]) (.exit 0))) (.seq (.block 1 (.seq (.reg [⟨[(6,.box (.agg (.cons (.int .i64 0) (.cons (.int .i64 0) (.cons (.int .i64 0) .nil)))))],[(5,(.sl 22))],[],some (none,.store 3 (.sl 6) (.ld 3 true (.ia 3 (.sl 20) (.sl 22)))),[2,3,6,20,21,22],6,[],[],[]⟩]) (.seq (.reg [⟨[(7,.box (.agg (.cons (.str []) (.cons (.int .i64 0) (.cons (.int .i64 0) .nil)))))],[(32,(.ext 1 (.call 79 (.cons (.ld 1 false (.fa 0 (.sl 6))) .nil))))],[],some (none,.store 3 (.sl 7) (.ext 0 (.call 79 (.cons (.ld 1 false (.fa 0 (.sl 6))) .nil)))),[2,3,5,6,7,20,21,22],8,[],[],[]⟩,⟨[],[(8,(.sl 32))],[],none,[2,3,5,6,7,20,21,22],1,[],[],[]⟩]) (.seq (.seq (.reg [⟨[],[(34,(.un .not (.sl 8)))],[],none,[2,3,5,6,7,20,21,22],2,[],[],[]⟩]) (.cond (.sl 34) (.seq (.reg [⟨[],[(4,(.int .i64 172))],[],none,[],1,[],[],[]⟩]) (.seq (.tidy 0 [4]) .ret)) .skip)) (.seq (.reg [⟨[],[(9,(.call 80 (.cons (.ld 2 true (.sl 2)) (.cons (.ld 3 true (.sl 3)) (.cons (.sl 5) (.cons (.ld 1 false (.fa 1 (.sl 6))) (.cons (.ld 1 false (.fa 1 (.sl 7))) .nil))))))),(10,(.call 80 (.cons (.ld 2 true (.sl 2)) (.cons (.ld 3 true (.sl 3)) (.cons (.sl 5) (.cons (.ld 1 false (.fa 2 (.sl 6))) (.cons (.ld 1 false (.fa 2 (.sl 7))) .nil)))))))],[],none,[2,3,20,21,22],18,[[],[],[],[],[3],[],[5],[5,6,3,4,2,1,0],[],[],[],[],[11],[],[13],[0,1,2,4,3,6,5,7,13,14,11,12,10,9,8],[8,9,10,12,11,14,13,15,0,1,2,4,3,6,5,7],[16,8,9,10,12,11,14,13,7,5,6,3,4,2,1,0,15]],[],[]⟩]) (.seq (.seq (.reg [⟨[],[(56,(.or (.bin .eql (.sl 9) (.int .i64 172)) (.bin .eql (.sl 10) (.int .i64 172))))],[],none,[2,3,9,10,20,21,22],6,[],[],[]⟩]) (.cond (.sl 56) (.seq (.reg [⟨[],[(4,(.int .i64 172))],[],none,[],1,[],[],[]⟩]) (.seq (.tidy 0 [4]) .ret)) .skip)) (.seq (.reg [⟨[],[(62,(.or (.bin .neq (.sl 9) (.int .i64 0)) (.bin .neq (.sl 10) (.int .i64 0))))],[],none,[2,3,20,21,22],6,[],[],[]⟩]) (.cond (.sl 62) (.seq (.reg [⟨[],[(4,(.int .i64 174))],[],none,[],1,[],[],[]⟩]) (.seq (.tidy 0 [4]) .ret)) .skip)))))))) (.reg [⟨[],[(22,(.bin .add (.sl 22) (.int .i64 1)))],[],none,[2,3,20,21],2,[],[],[]⟩]))))
def f37_L1:C:= (.seq (.reg [⟨[],[(81,(.bin .lss (.sl 80) (.sl 79)))],[],none,[2,3,11,78,79,80],1,[],[],[]⟩]) (.seq (.cond (.sl 81) .skip (.seq (.tidy 0 []) (.exit 2))) (.seq (.block 3 (.seq (.reg [⟨[(13,.box (.agg (.cons (.int .i64 0) (.cons (.int .i64 0) (.cons (.int .i64 0) .nil)))))],[(12,(.sl 80))],[],some (none,.store 3 (.sl 13) (.ld 3 true (.ia 3 (.sl 78) (.sl 80)))),[2,3,11,13,78,79,80],6,[],[],[]⟩]) (.seq (.reg [⟨[],[(14,(.ld 1 false (.ia 1 (.sl 11) (.sl 12))))],[],none,[2,3,11,12,13,78,79,80],5,[],[],[]⟩]) (.seq (.seq (.reg [⟨[],[(90,(.bin .eql (.sl 14) (.int .i64 0)))],[],none,[2,3,11,12,13,14,78,79,80],2,[],[],[]⟩]) (.cond (.sl 90) (.seq (.reg [⟨[],[(4,(.int .i64 174))],[],none,[],1,[],[],[]⟩]) (.seq (.tidy 0 [4]) .ret)) .skip)) (.seq (.reg [⟨[],[(15,(.ext 0 (.call 81 (.cons (.ld 2 true (.sl 2)) (.cons (.ld 3 true (.sl 13)) (.cons (.sl 14) .nil)))))),(16,(.ext 1 (.call 81 (.cons (.ld 2 true (.sl 2)) (.cons (.ld 3 true (.sl 13)) (.cons (.sl 14) .nil))))))],[],none,[2,3,11,12,13,78,79,80],9,[],[],[]⟩]) (.seq (.seq (.reg [⟨[],[(99,(.un .not (.sl 16)))],[],none,[2,3,11,12,13,15,78,79,80],2,[],[],[]⟩]) (.cond (.sl 99) (.seq (.reg [⟨[],[(4,(.int .i64 173))],[],none,[],1,[],[],[]⟩]) (.seq (.tidy 0 [4]) .ret)) .skip)) (.seq (.reg [⟨[],[(17,(.and (.and (.bin .neq (.ld 1 false (.fa 0 (.sl 13))) (.int .i64 13)) (.bin .neq (.ld 1 false (.fa 0 (.sl 13))) (.int .i64 16))) (.bin .neq (.ld 1 false (.fa 0 (.sl 13))) (.int .i64 17))))],[],none,[2,3,11,12,13,15,78,79,80],14,[],[],[]⟩]) (.seq (.seq (.reg [⟨[],[(121,(.and (.sl 17) (.bin .eql (.bin .add (.sl 12) (.int .i64 1)) (.len false (.ld 1 false (.fa 2 (.sl 3)))))))],[],none,[2,3,11,12,13,15,17,78,79,80],9,[],[],[]⟩]) (.cond (.sl 121) (.seq (.reg [⟨[],[(4,(.int .i64 174))],[],none,[],1,[],[],[]⟩]) (.seq (.tidy 0 [4]) .ret)) .skip)) (.seq (.seq (.reg [⟨[],[(123,(.sl 17))],[],some (some 128,.calle 82 (.cons (.sl 11) (.cons (.bin .add (.sl 12) (.int .i64 1)) (.cons (.sl 15) .nil)))),[2,3,11,13,15,78,79,80],7,[],[((.sl 17),true)],[]⟩,⟨[],[(130,(.and (.sl 123) (.un .not (.sl 128))))],[],none,[2,3,11,13,15,78,79,80],2,[],[],[]⟩]) (.cond (.sl 130) (.seq (.reg [⟨[],[(4,(.int .i64 173))],[],none,[],1,[],[],[]⟩]) (.seq (.tidy 0 [4]) .ret)) .skip)) (.seq (.reg [⟨[],[(18,(.int .i64 0))],[],none,[2,3,11,13,15,78,79,80],1,[],[],[]⟩]) (.seq (.seq (.reg [⟨[],[(132,(.ld 1 false (.fa 0 (.sl 13))))],[],none,[2,3,11,13,15,18,78,79,80],2,[],[],[]⟩]) (.block 4 (.seq (.reg [⟨[],[(133,(.bin .eql (.sl 132) (.int .i64 13)))],[],none,[2,3,11,13,15,18,78,79,80,132],2,[],[],[]⟩]) (.cond (.sl 133) (.reg [⟨[],[(18,(.ld 1 false (.fa 1 (.sl 13))))],[],none,[2,3,11,15,78,79,80],3,[],[],[]⟩]) (.seq (.seq (.reg [⟨[],[(137,(.bin .eql (.sl 132) (.int .i64 14)))],[],none,[2,3,11,13,15,18,78,79,80,132],2,[],[],[]⟩]) (.cond (.sl 137) .skip (.reg [⟨[],[(137,(.bin .eql (.sl 132) (.int .i64 15)))],[],none,[2,3,11,13,15,18,78,79,80],2,[],[],[]⟩]))) (.cond (.sl 137) (.reg [⟨[],[(18,(.ld 1 false (.fa 2 (.sl 13))))],[],none,[2,3,11,15,78,79,80],3,[],[],[]⟩]) .skip)))))) (.seq (.reg [⟨[],[(144,(.bin .gtr (.sl 18) (.int .i64 0)))],[],some (some 148,.calle 82 (.cons (.sl 11) (.cons (.sl 18) (.cons (.sl 15) .nil)))),[2,3,11,78,79,80],7,[],[((.bin .gtr (.sl 18) (.int .i64 0)),true)],[]⟩,⟨[],[(150,(.and (.sl 144) (.un .not (.sl 148))))],[],none,[2,3,11,78,79,80],2,[],[],[]⟩]) (.cond (.sl 150) (.seq (.reg [⟨[],[(4,(.int .i64 173))],[],none,[],1,[],[],[]⟩]) (.seq (.tidy 0 [4]) .ret)) .skip))))))))))))) (.reg [⟨[],[(80,(.bin .add (.sl 80) (.int .i64 1)))],[],none,[2,3,11,78,79],2,[],[],[]⟩]))))
def f37:Fun:=⟨ (.seq (.reg [⟨[(2,.box (.sl 0)),(3,.box (.sl 1))],[],[(.int .i64 0)],none,[2,3],3,[],[],[]⟩]) (.seq (.seq (.reg [⟨[],[(20,(.ld 1 false (.fa 2 (.sl 3)))),(21,(.len false (.ld 1 false (.fa 2 (.sl 3))))),(22,(.int .i64 0))],[],none,[2,3],4,[],[],[]⟩]) (.block 0 (.seq (.tidy 0 [2,3,20,21,22]) (.loop (.seq (.tidy 0 [2,3,20,21,22]) f37_L0))))) (.seq (.seq (.reg [⟨[],[(67,(.bin .eql (.len false (.ld 1 false (.fa 2 (.sl 3)))) (.int .i64 0)))],[],none,[2,3],4,[],[],[]⟩]) (.cond (.sl 67) (.seq (.reg [⟨[],[(4,(.int .i64 174))],[],none,[],1,[],[],[]⟩]) (.seq (.tidy 0 [4]) .ret)) .skip)) (.seq (.reg [⟨[(71,.mks 1 (.cons (.int .i64 0) .nil) (.len false (.ld 1 false (.fa 2 (.sl 3)))) (.len false (.ld 1 false (.fa 2 (.sl 3)))))],[(11,(.sl 71))],[],none,[2,3],5,[],[],[]⟩]) (.seq (.reg [⟨[],[],[],some (none,.store 1 (.ia 1 (.sl 11) (.int .i64 0)) (.bin .add (.ld 1 false (.fa 1 (.sl 3))) (.int .i64 1))),[2,3,11],6,[],[],[]⟩]) (.seq (.seq (.reg [⟨[],[(78,(.ld 1 false (.fa 2 (.sl 3)))),(79,(.len false (.ld 1 false (.fa 2 (.sl 3))))),(80,(.int .i64 0))],[],none,[2,3,11],4,[],[],[]⟩]) (.block 2 (.seq (.tidy 0 [2,3,11,78,79,80]) (.loop (.seq (.tidy 0 [2,3,11,78,79,80]) f37_L1))))) (.seq (.reg [⟨[],[(4,(.int .i64 0))],[],none,[],1,[],[],[]⟩]) (.seq (.tidy 0 [4]) .ret)))))))), [(.sl 4)],false⟩
theorem j4E:q1s Go.Proofs.Tryz.prog 37 0 2 f37=true:=by kernel_rfl
/- 'sloth/slothref17.Shapes' -/
def f78:Fun:=⟨ (.seq (.reg [⟨[],[],[(.nilsl 2)],none,[],1,[],[],[]⟩]) (.seq (.reg [⟨[(8,.lits 2 (.cons (.set 0 1 (.str [70,97,108,115,101]) (.agg (.cons (.str []) (.cons (.int .i64 0) .nil)))) (.cons (.set 0 1 (.str [84,114,117,101]) (.agg (.cons (.str []) (.cons (.int .i64 0) .nil)))) (.cons (.set 0 1 (.str [85,110,105,116]) (.agg (.cons (.str []) (.cons (.int .i64 0) .nil)))) (.cons (.set 0 1 (.str [78,105,108]) (.agg (.cons (.str []) (.cons (.int .i64 0) .nil)))) (.cons (.set 1 1 (.int .i64 2) (.set 0 1 (.str [67,111,110,115]) (.agg (.cons (.str []) (.cons (.int .i64 0) .nil))))) (.cons (.set 1 1 (.int .i64 2) (.set 0 1 (.str [80,97,105,114]) (.agg (.cons (.str []) (.cons (.int .i64 0) .nil))))) (.cons (.set 1 1 (.int .i64 3) (.set 0 1 (.str [84,114,105,112,108,101]) (.agg (.cons (.str []) (.cons (.int .i64 0) .nil))))) .nil))))))))],[(0,(.sl 8))],[],none,[],9,[],[],[]⟩]) (.seq (.tidy 0 [0]) .ret))), [(.sl 0)],true⟩
/- 'sloth/code.forms' -/
def f79:Fun:=⟨ (.seq (.reg [⟨[(2,.box (.agg (.cons (.str []) (.cons (.int .i64 0) (.cons (.int .i64 0) .nil)))))],[],[(.bool false)],none,[0,2],2,[],[],[]⟩]) (.seq (.reg [⟨[(4,.box (.agg (.cons (.str []) (.cons (.int .i64 0) (.cons (.int .i64 0) (.cons (.str []) (.cons (.int .i64 0) (.cons (.int .i64 0) (.cons (.str []) (.cons (.int .i64 0) (.cons (.int .i64 0) (.cons (.str []) (.cons (.int .i64 0) (.cons (.int .i64 0) (.cons (.str []) (.cons (.int .i64 0) (.cons (.int .i64 0) (.cons (.str []) (.cons (.int .i64 0) (.cons (.int .i64 0) (.cons (.str []) (.cons (.int .i64 0) (.cons (.int .i64 0) (.cons (.str []) (.cons (.int .i64 0) (.cons (.int .i64 0) (.cons (.str []) (.cons (.int .i64 0) (.cons (.int .i64 0) (.cons (.str []) (.cons (.int .i64 0) (.cons (.int .i64 0) (.cons (.str []) (.cons (.int .i64 0) (.cons (.int .i64 0) (.cons (.str []) (.cons (.int .i64 0) (.cons (.int .i64 0) (.cons (.str []) (.cons (.int .i64 0) (.cons (.int .i64 0) (.cons (.str []) (.cons (.int .i64 0) (.cons (.int .i64 0) (.cons (.str []) (.cons (.int .i64 0) (.cons (.int .i64 0) (.cons (.str []) (.cons (.int .i64 0) (.cons (.int .i64 0) (.cons (.str []) (.cons (.int .i64 0) (.cons (.int .i64 0) (.cons (.str []) (.cons (.int .i64 0) (.cons (.int .i64 0) .nil))))))))))))))))))))))))))))))))))))))))))))))))))))))))],[],[],some (none,.store 54 (.sl 4) (.set 51 3 (.set 2 1 (.int .i64 0) (.set 1 1 (.int .i64 0) (.set 0 1 (.str [117,110,119,105,110,100]) (.agg (.cons (.str []) (.cons (.int .i64 0) (.cons (.int .i64 0) .nil))))))) (.set 48 3 (.set 2 1 (.int .i64 0) (.set 1 1 (.int .i64 7) (.set 0 1 (.str [102,97,105,108]) (.agg (.cons (.str []) (.cons (.int .i64 0) (.cons (.int .i64 0) .nil))))))) (.set 45 3 (.set 2 1 (.int .i64 8) (.set 1 1 (.int .i64 3) (.set 0 1 (.str [116,101,115,116,105,110,116]) (.agg (.cons (.str []) (.cons (.int .i64 0) (.cons (.int .i64 0) .nil))))))) (.set 42 3 (.set 2 1 (.int .i64 8) (.set 1 1 (.int .i64 5) (.set 0 1 (.str [116,101,115,116,99,111,110]) (.agg (.cons (.str []) (.cons (.int .i64 0) (.cons (.int .i64 0) .nil))))))) (.set 39 3 (.set 2 1 (.int .i64 0) (.set 1 1 (.int .i64 8) (.set 0 1 (.str [106,117,109,112]) (.agg (.cons (.str []) (.cons (.int .i64 0) (.cons (.int .i64 0) .nil))))))) (.set 36 3 (.set 2 1 (.int .i64 0) (.set 1 1 (.int .i64 6) (.set 0 1 (.str [97,114,105,116,104]) (.agg (.cons (.str []) (.cons (.int .i64 0) (.cons (.int .i64 0) .nil))))))) (.set 33 3 (.set 2 1 (.int .i64 0) (.set 1 1 (.int .i64 0) (.set 0 1 (.str [101,118,97,108]) (.agg (.cons (.str []) (.cons (.int .i64 0) (.cons (.int .i64 0) .nil))))))) (.set 30 3 (.set 2 1 (.int .i64 0) (.set 1 1 (.int .i64 5) (.set 0 1 (.str [115,112,108,105,116]) (.agg (.cons (.str []) (.cons (.int .i64 0) (.cons (.int .i64 0) .nil))))))) (.set 27 3 (.set 2 1 (.int .i64 0) (.set 1 1 (.int .i64 5) (.set 0 1 (.str [112,97,99,107]) (.agg (.cons (.str []) (.cons (.int .i64 0) (.cons (.int .i64 0) .nil))))))) (.set 24 3 (.set 2 1 (.int .i64 0) (.set 1 1 (.int .i64 1) (.set 0 1 (.str [97,108,108,111,99]) (.agg (.cons (.str []) (.cons (.int .i64 0) (.cons (.int .i64 0) .nil))))))) (.set 21 3 (.set 2 1 (.int .i64 0) (.set 1 1 (.int .i64 2) (.set 0 1 (.str [117,112,100,97,116,101]) (.agg (.cons (.str []) (.cons (.int .i64 0) (.cons (.int .i64 0) .nil))))))) (.set 18 3 (.set 2 1 (.int .i64 0) (.set 1 1 (.int .i64 0) (.set 0 1 (.str [97,112,112,108,121]) (.agg (.cons (.str []) (.cons (.int .i64 0) (.cons (.int .i64 0) .nil))))))) (.set 15 3 (.set 2 1 (.int .i64 0) (.set 1 1 (.int .i64 1) (.set 0 1 (.str [115,108,105,100,101]) (.agg (.cons (.str []) (.cons (.int .i64 0) (.cons (.int .i64 0) .nil))))))) (.set 12 3 (.set 2 1 (.int .i64 0) (.set 1 1 (.int .i64 1) (.set 0 1 (.str [112,111,112]) (.agg (.cons (.str []) (.cons (.int .i64 0) (.cons (.int .i64 0) .nil))))))) (.set 9 3 (.set 2 1 (.int .i64 0) (.set 1 1 (.int .i64 3) (.set 0 1 (.str [105,110,116]) (.agg (.cons (.str []) (.cons (.int .i64 0) (.cons (.int .i64 0) .nil))))))) (.set 6 3 (.set 2 1 (.int .i64 0) (.set 1 1 (.int .i64 4) (.set 0 1 (.str [103,108,111,98]) (.agg (.cons (.str []) (.cons (.int .i64 0) (.cons (.int .i64 0) .nil))))))) (.set 3 3 (.set 2 1 (.int .i64 0) (.set 1 1 (.int .i64 1) (.set 0 1 (.str [112,117,115,104]) (.agg (.cons (.str []) (.cons (.int .i64 0) (.cons (.int .i64 0) .nil))))))) (.set 0 3 (.agg (.cons (.str []) (.cons (.int .i64 0) (.cons (.int .i64 0) .nil)))) (.agg (.cons (.str []) (.cons (.int .i64 0) (.cons (.int .i64 0) (.cons (.str []) (.cons (.int .i64 0) (.cons (.int .i64 0) (.cons (.str []) (.cons (.int .i64 0) (.cons (.int .i64 0) (.cons (.str []) (.cons (.int .i64 0) (.cons (.int .i64 0) (.cons (.str []) (.cons (.int .i64 0) (.cons (.int .i64 0) (.cons (.str []) (.cons (.int .i64 0) (.cons (.int .i64 0) (.cons (.str []) (.cons (.int .i64 0) (.cons (.int .i64 0) (.cons (.str []) (.cons (.int .i64 0) (.cons (.int .i64 0) (.cons (.str []) (.cons (.int .i64 0) (.cons (.int .i64 0) (.cons (.str []) (.cons (.int .i64 0) (.cons (.int .i64 0) (.cons (.str []) (.cons (.int .i64 0) (.cons (.int .i64 0) (.cons (.str []) (.cons (.int .i64 0) (.cons (.int .i64 0) (.cons (.str []) (.cons (.int .i64 0) (.cons (.int .i64 0) (.cons (.str []) (.cons (.int .i64 0) (.cons (.int .i64 0) (.cons (.str []) (.cons (.int .i64 0) (.cons (.int .i64 0) (.cons (.str []) (.cons (.int .i64 0) (.cons (.int .i64 0) (.cons (.str []) (.cons (.int .i64 0) (.cons (.int .i64 0) (.cons (.str []) (.cons (.int .i64 0) (.cons (.int .i64 0) .nil)))))))))))))))))))))))))))))))))))))))))))))))))))))))))))))))))))))))))),[0,2,4],21,[],[],[]⟩]) (.seq (.seq (.reg [⟨[],[(29,(.or (.bin .lss (.sl 0) (.int .i64 1)) (.bin .geq (.sl 0) (.int .i64 18))))],[],none,[0,2,4],6,[],[],[]⟩]) (.cond (.sl 29) (.seq (.reg [⟨[],[],[],some (none,.store 3 (.sl 2) (.agg (.cons (.str []) (.cons (.int .i64 0) (.cons (.int .i64 0) .nil))))),[2],2,[],[],[]⟩,⟨[],[(3,(.bool false))],[],none,[2],1,[],[],[]⟩]) (.seq (.tidy 0 [2,3]) .ret)) .skip)) (.seq (.reg [⟨[],[],[],some (none,.store 3 (.sl 2) (.ld 3 true (.aa 18 3 (.sl 4) (.sl 0)))),[2],4,[],[],[]⟩,⟨[],[(3,(.bool true))],[],none,[2],1,[],[],[]⟩]) (.seq (.tidy 0 [2,3]) .ret))))), [(.ld 3 true (.sl 2)),(.sl 3)],false⟩
theorem j4r:q1s Go.Proofs.Tryz.prog 79 0 1 f79=true:=by kernel_rfl
/- 'sloth/code.number' -/
def f80:Fun:=⟨ (.seq (.reg [⟨[(5,.box (.sl 0)),(6,.box (.sl 1))],[],[(.int .i64 0)],none,[2,3,4,5,6],3,[],[],[]⟩]) (.seq (.reg [⟨[],[(11,(.bool true))],[],none,[2,3,4,5,6],1,[],[],[]⟩]) (.seq (.seq (.reg [⟨[],[(12,(.sl 4))],[],none,[2,3,5,6,11],1,[],[],[]⟩]) (.block 0 (.seq (.reg [⟨[],[(13,(.bin .eql (.sl 12) (.int .i64 0)))],[],none,[2,3,5,6,11,12],2,[],[],[]⟩]) (.cond (.sl 13) (.reg [⟨[],[(11,(.bin .eql (.sl 3) (.int .i64 0)))],[],none,[],3,[],[],[]⟩]) (.seq (.reg [⟨[],[(17,(.bin .eql (.sl 12) (.int .i64 1)))],[],none,[2,3,5,6,11,12],2,[],[],[]⟩]) (.cond (.sl 17) (.reg [⟨[],[(11,(.bin .geq (.sl 3) (.int .i64 0)))],[],none,[],3,[],[],[]⟩]) (.seq (.reg [⟨[],[(21,(.bin .eql (.sl 12) (.int .i64 2)))],[],none,[2,3,5,6,11,12],2,[],[],[]⟩]) (.cond (.sl 21) (.reg [⟨[],[(11,(.bin .geq (.sl 3) (.int .i64 1)))],[],none,[],3,[],[],[]⟩]) (.seq (.reg [⟨[],[(25,(.bin .eql (.sl 12) (.int .i64 3)))],[],none,[2,3,5,6,11,12],2,[],[],[]⟩]) (.cond (.sl 25) (.reg [⟨[],[(11,(.and (.bin .geq (.sl 3) (.int .i64 (-4611686018427387904))) (.bin .leq (.sl 3) (.int .i64 4611686018427387903))))],[],none,[],7,[],[],[]⟩]) (.seq (.reg [⟨[],[(33,(.bin .eql (.sl 12) (.int .i64 4)))],[],none,[2,3,5,6,11,12],2,[],[],[]⟩]) (.cond (.sl 33) (.reg [⟨[],[(11,(.and (.bin .geq (.sl 3) (.int .i64 0)) (.bin .lss (.sl 3) (.len false (.ld 1 false (.fa 1 (.sl 5)))))))],[],none,[],10,[],[],[]⟩]) (.seq (.reg [⟨[],[(44,(.bin .eql (.sl 12) (.int .i64 5)))],[],none,[2,3,5,6,11,12],2,[],[],[]⟩]) (.cond (.sl 44) (.reg [⟨[],[(11,(.and (.bin .geq (.sl 3) (.int .i64 0)) (.bin .lss (.sl 3) (.len false (.ld 1 false (.fa 0 (.sl 5)))))))],[],none,[],10,[],[],[]⟩]) (.seq (.reg [⟨[],[(55,(.bin .eql (.sl 12) (.int .i64 6)))],[],none,[2,3,6,11,12],2,[],[],[]⟩]) (.cond (.sl 55) (.reg [⟨[],[(11,(.and (.bin .geq (.sl 3) (.int .i64 1)) (.bin .leq (.sl 3) (.int .i64 11))))],[],none,[],7,[],[],[]⟩]) (.seq (.reg [⟨[],[(63,(.bin .eql (.sl 12) (.int .i64 7)))],[],none,[2,3,6,11,12],2,[],[],[]⟩]) (.cond (.sl 63) (.reg [⟨[],[(11,(.and (.bin .geq (.sl 3) (.int .i64 1)) (.bin .leq (.sl 3) (.int .i64 4))))],[],none,[],7,[],[],[]⟩]) (.seq (.reg [⟨[],[(71,(.bin .eql (.sl 12) (.int .i64 8)))],[],none,[2,3,6,11],2,[],[],[]⟩]) (.cond (.sl 71) (.seq (.reg [⟨[],[(82,(.or (.bin .leq (.sl 3) (.sl 2)) (.bin .geq (.sl 3) (.len false (.ld 1 false (.fa 2 (.sl 6)))))))],[],none,[11],10,[],[],[]⟩]) (.cond (.sl 82) (.seq (.reg [⟨[],[(10,(.int .i64 174))],[],none,[],1,[],[],[]⟩]) (.seq (.tidy 0 [10]) .ret)) .skip)) .skip)))))))))))))))))))) (.seq (.seq (.reg [⟨[],[(84,(.un .not (.sl 11)))],[],none,[],2,[],[],[]⟩]) (.cond (.sl 84) (.seq (.reg [⟨[],[(10,(.int .i64 172))],[],none,[],1,[],[],[]⟩]) (.seq (.tidy 0 [10]) .ret)) .skip)) (.seq (.reg [⟨[],[(10,(.int .i64 0))],[],none,[],1,[],[],[]⟩]) (.seq (.tidy 0 [10]) .ret)))))), [(.sl 10)],false⟩
theorem j4q:q1s Go.Proofs.Tryz.prog 80 0 5 f80=true:=by kernel_rfl
/- 'sloth/code.stacked' -/
def f81:Fun:=⟨ (.seq (.reg [⟨[(3,.box (.sl 0)),(4,.box (.sl 1))],[],[(.bool false),(.int .i64 0)],none,[2,3,4],4,[],[],[]⟩]) (.seq (.reg [⟨[],[(8,(.bool true)),(9,(.sl 2))],[],none,[2,3,4],3,[],[],[]⟩]) (.seq (.seq (.reg [⟨[],[(13,(.ld 1 false (.fa 0 (.sl 4))))],[],none,[2,3,4,8,9],2,[],[],[]⟩]) (.block 0 (.seq (.reg [⟨[],[(14,(.bin .eql (.sl 13) (.int .i64 1)))],[],none,[2,3,4,8,9,13],2,[],[],[]⟩]) (.cond (.sl 14) (.reg [⟨[],[(8,(.bin .lss (.ld 1 false (.fa 1 (.sl 4))) (.sl 2))),(9,(.bin .add (.sl 2) (.int .i64 1)))],[],none,[],8,[],[],[]⟩]) (.seq (.seq (.reg [⟨[],[(22,(.bin .eql (.sl 13) (.int .i64 2)))],[],none,[2,3,4,8,9,13],2,[],[],[]⟩]) (.cond (.sl 22) .skip (.reg [⟨[],[(22,(.bin .eql (.sl 13) (.int .i64 3)))],[],none,[2,3,4,8,9,13],2,[],[],[]⟩]))) (.cond (.sl 22) (.reg [⟨[],[(9,(.bin .add (.sl 2) (.int .i64 1)))],[],none,[8],3,[],[],[]⟩]) (.seq (.reg [⟨[],[(27,(.bin .eql (.sl 13) (.int .i64 4)))],[],none,[2,3,4,8,9,13],2,[],[],[]⟩]) (.cond (.sl 27) (.reg [⟨[],[(8,(.bin .lss (.ld 1 false (.fa 1 (.sl 4))) (.sl 2))),(9,(.bin .sub (.sl 2) (.ld 1 false (.fa 1 (.sl 4)))))],[],none,[],10,[[],[0],[],[2,0,1],[],[],[5],[5,6,4],[1,0,2,3],[3,2,0,1,8,4,6,5,7]],[],[]⟩]) (.seq (.reg [⟨[],[(37,(.bin .eql (.sl 13) (.int .i64 5)))],[],none,[2,3,4,8,9,13],2,[],[],[]⟩]) (.cond (.sl 37) (.reg [⟨[],[(8,(.bin .lss (.ld 1 false (.fa 1 (.sl 4))) (.bin .sub (.sl 2) (.int .i64 1)))),(9,(.bin .sub (.sl 2) (.ld 1 false (.fa 1 (.sl 4)))))],[],none,[],11,[[],[0],[],[2],[2,3,0,1],[],[],[6],[6,7,5],[1,0,3,2,4],[4,2,3,0,1,9,5,7,6,8]],[],[]⟩]) (.seq (.seq (.reg [⟨[],[(48,(.bin .eql (.sl 13) (.int .i64 6)))],[],none,[2,3,4,8,9,13],2,[],[],[]⟩]) (.cond (.sl 48) .skip (.reg [⟨[],[(48,(.bin .eql (.sl 13) (.int .i64 12)))],[],none,[2,3,4,8,9,13],2,[],[],[]⟩]))) (.cond (.sl 48) (.reg [⟨[],[(8,(.bin .gtr (.sl 2) (.int .i64 2))),(9,(.bin .sub (.sl 2) (.int .i64 1)))],[],none,[],6,[],[],[]⟩]) (.seq (.reg [⟨[],[(55,(.bin .eql (.sl 13) (.int .i64 7)))],[],none,[2,3,4,8,9,13],2,[],[],[]⟩]) (.cond (.sl 55) (.reg [⟨[],[(8,(.bin .lss (.ld 1 false (.fa 1 (.sl 4))) (.sl 2))),(9,(.bin .sub (.sl 2) (.int .i64 1)))],[],none,[],8,[],[],[]⟩]) (.seq (.reg [⟨[],[(63,(.bin .eql (.sl 13) (.int .i64 8)))],[],none,[2,3,4,8,9,13],2,[],[],[]⟩]) (.cond (.sl 63) (.reg [⟨[],[(8,(.bin .leq (.ld 1 false (.fa 1 (.sl 4))) (.int .i64 8000))),(9,(.bin .add (.sl 2) (.cond (.and (.bin .eql (.bin .and (.int .i64 8000) (.int .i64 0)) (.bin .and (.int .i64 8000) (.int .i64 0))) (.bin .lss (.int .i64 8000) (.ld 1 false (.fa 1 (.sl 4))))) (.int .i64 8000) (.ld 1 false (.fa 1 (.sl 4))))))],[],none,[],10,[[],[0],[0,1],[],[],[4],[4,5],[5,4,6,3],[1,0,2],[2,0,1,8,3,6,4,5,7]],[],[]⟩]) (.seq (.reg [⟨[],[(73,(.bin .eql (.sl 13) (.int .i64 9)))],[],none,[2,3,4,8,9,13],2,[],[],[]⟩]) (.cond (.sl 73) (.seq (.reg [⟨[],[(10,(.ld 1 false (.fa 1 (.ia 2 (.ld 1 false (.fa 0 (.sl 3))) (.ld 1 false (.fa 1 (.sl 4)))))))],[],none,[2],8,[],[],[]⟩]) (.reg [⟨[],[(8,(.bin .lss (.sl 10) (.sl 2))),(9,(.bin .add (.bin .sub (.sl 2) (.sl 10)) (.int .i64 1)))],[],none,[],9,[],[],[]⟩])) (.seq (.reg [⟨[],[(89,(.bin .eql (.sl 13) (.int .i64 10)))],[],none,[2,3,4,8,9,13],2,[],[],[]⟩]) (.cond (.sl 89) (.reg [⟨[],[(8,(.bin .gtr (.sl 2) (.int .i64 1))),(9,(.bin .add (.bin .sub (.sl 2) (.int .i64 1)) (.ld 1 false (.fa 1 (.ia 2 (.ld 1 false (.fa 0 (.sl 3))) (.ld 1 false (.fa 1 (.sl 4))))))))],[],none,[],14,[[],[0],[],[2],[],[4],[],[6],[6,7,4,5],[5,4,7,6,8],[8,6,7,4,5,9],[9,5,4,7,6,8,10,2,3],[0,1],[1,0,12,3,2,10,8,6,7,4,5,9,11]],[],[]⟩]) (.seq (.seq (.reg [⟨[],[(103,(.bin .eql (.sl 13) (.int .i64 11)))],[],none,[2,8,9,13],2,[],[],[]⟩]) (.cond (.sl 103) .skip (.seq (.reg [⟨[],[(103,(.bin .eql (.sl 13) (.int .i64 14)))],[],none,[2,8,9,13],2,[],[],[]⟩]) (.cond (.sl 103) .skip (.reg [⟨[],[(103,(.bin .eql (.sl 13) (.int .i64 15)))],[],none,[2,8,9,13],2,[],[],[]⟩]))))) (.cond (.sl 103) (.reg [⟨[],[(8,(.bin .gtr (.sl 2) (.int .i64 1)))],[],none,[9],3,[],[],[]⟩]) (.seq (.reg [⟨[],[(109,(.bin .eql (.sl 13) (.int .i64 17)))],[],none,[2,8,9],2,[],[],[]⟩]) (.cond (.sl 109) (.reg [⟨[],[(8,(.bin .eql (.sl 2) (.int .i64 1)))],[],none,[9],3,[],[],[]⟩]) .skip)))))))))))))))))))))))) (.seq (.reg [⟨[],[(6,(.sl 9)),(7,(.and (.sl 8) (.bin .leq (.sl 9) (.int .i64 8000))))],[],none,[],8,[],[],[]⟩]) (.seq (.tidy 0 [6,7]) .ret))))), [(.sl 6),(.sl 7)],false⟩
theorem j4p:q1s Go.Proofs.Tryz.prog 81 0 3 f81=true:=by kernel_rfl
/- 'sloth/code.reach' -/
def f82:Fun:=⟨ (.seq (.reg [⟨[],[],[(.bool false)],none,[0,1,2],1,[],[],[]⟩]) (.seq (.seq (.reg [⟨[],[(11,(.bin .eql (.ld 1 false (.ia 1 (.sl 0) (.sl 1))) (.int .i64 0)))],[],none,[0,1,2],5,[],[],[]⟩]) (.cond (.sl 11) (.reg [⟨[],[],[],some (none,.store 1 (.ia 1 (.sl 0) (.sl 1)) (.sl 2)),[0,1,2],5,[],[],[]⟩]) .skip)) (.seq (.reg [⟨[],[(6,(.bin .eql (.ld 1 false (.ia 1 (.sl 0) (.sl 1))) (.sl 2)))],[],none,[],7,[],[],[]⟩]) (.seq (.tidy 1 [6]) .ret)))), [(.sl 6)],false⟩
theorem j4o:q1s Go.Proofs.Tryz.prog 82 1 3 f82=true:=by kernel_rfl
end Go.Vm
end

section
namespace Go.Vm
set_option maxRecDepth 100000
open Go.RowKit Go.Shelf Go.Proofs
/- 'sloth/slothlaw17.awake' -/
/- 'sloth/slothref17.Same' -/
def j4O:C:= (.seq (.seq (.reg [⟨[],[(30,(.bin .lss (.sl 5) (.len false (.ld 1 false (.fa 0 (.sl 2))))))],[],none,[2,3,5],5,[],[],[]⟩]) (.cond (.sl 30) .skip (.seq (.tidy 0 [2,3]) (.exit 0)))) (.seq (.block 1 (.seq (.reg [⟨[],[(43,(.eqs true true [2,0] (.ld 2 true (.ia 2 (.ld 1 false (.fa 0 (.sl 2))) (.sl 5))) (.ld 2 true (.ia 2 (.ld 1 false (.fa 0 (.sl 3))) (.sl 5)))))],[],none,[2,3,5],11,[[],[0],[],[2,0,1],[1,0,2,3],[],[5],[],[7,5,6],[6,5,7,8],[8,7,5,6,9,3,2,0,1,4]],[],[]⟩]) (.cond (.sl 43) (.seq (.reg [⟨[],[(4,(.bool false))],[],none,[],1,[],[],[]⟩]) (.seq (.tidy 0 [4]) .ret)) .skip))) (.reg [⟨[],[(5,(.bin .add (.sl 5) (.int .i64 1)))],[],none,[2,3],3,[],[],[]⟩])))
def j4N:C:= (.seq (.seq (.reg [⟨[],[(86,(.bin .lss (.sl 9) (.len false (.ld 1 false (.fa 2 (.sl 7))))))],[],none,[2,3,6,7,8,9],5,[],[],[]⟩]) (.cond (.sl 86) .skip (.seq (.tidy 0 [2,3,6]) (.exit 4)))) (.seq (.block 5 (.seq (.reg [⟨[],[(99,(.eqs true true [0,0,0] (.ld 3 true (.ia 3 (.ld 1 false (.fa 2 (.sl 7))) (.sl 9))) (.ld 3 true (.ia 3 (.ld 1 false (.fa 2 (.sl 8))) (.sl 9)))))],[],none,[2,3,6,7,8,9],11,[[],[0],[],[2,0,1],[1,0,2,3],[],[5],[],[7,5,6],[6,5,7,8],[8,7,5,6,9,3,2,0,1,4]],[],[]⟩]) (.cond (.sl 99) (.seq (.reg [⟨[],[(4,(.bool false))],[],none,[],1,[],[],[]⟩]) (.seq (.tidy 0 [4]) .ret)) .skip))) (.reg [⟨[],[(9,(.bin .add (.sl 9) (.int .i64 1)))],[],none,[2,3,6,7,8],3,[],[],[]⟩])))
def j4M:C:= (.seq (.seq (.reg [⟨[],[(48,(.bin .lss (.sl 6) (.len false (.ld 1 false (.fa 1 (.sl 2))))))],[],none,[2,3,6],5,[],[],[]⟩]) (.cond (.sl 48) .skip (.seq (.tidy 0 []) (.exit 2)))) (.seq (.block 3 (.seq (.reg [⟨[(7,.box (.agg (.cons (.str []) (.cons (.int .i64 0) (.cons (.nilsl 3) .nil)))))],[],[],some (none,.store 3 (.sl 7) (.ld 3 true (.ia 3 (.ld 1 false (.fa 1 (.sl 2))) (.sl 6)))),[2,3,6,7],7,[],[],[]⟩]) (.seq (.reg [⟨[(8,.box (.agg (.cons (.str []) (.cons (.int .i64 0) (.cons (.nilsl 3) .nil)))))],[],[],some (none,.store 3 (.sl 8) (.ld 3 true (.ia 3 (.ld 1 false (.fa 1 (.sl 3))) (.sl 6)))),[2,3,6,7,8],7,[],[],[]⟩]) (.seq (.seq (.reg [⟨[],[(81,(.or (.or (.bin .neq (.ld 1 false (.fa 0 (.sl 7))) (.ld 1 false (.fa 0 (.sl 8)))) (.bin .neq (.ld 1 false (.fa 1 (.sl 7))) (.ld 1 false (.fa 1 (.sl 8))))) (.bin .neq (.len false (.ld 1 false (.fa 2 (.sl 7)))) (.len false (.ld 1 false (.fa 2 (.sl 8)))))))],[],none,[2,3,6,7,8],21,[],[],[]⟩]) (.cond (.sl 81) (.seq (.reg [⟨[],[(4,(.bool false))],[],none,[],1,[],[],[]⟩]) (.seq (.tidy 0 [4]) .ret)) .skip)) (.seq (.reg [⟨[],[(9,(.int .i64 0))],[],none,[2,3,6,7,8],1,[],[],[]⟩]) (.block 4 (.seq (.tidy 0 [2,3,6,7,8,9]) (.loop (.seq (.tidy 0 [2,3,6,7,8,9]) j4N))))))))) (.reg [⟨[],[(6,(.bin .add (.sl 6) (.int .i64 1)))],[],none,[2,3],3,[],[],[]⟩])))
def f15:Fun:=⟨ (.seq (.reg [⟨[(2,.box (.sl 0)),(3,.box (.sl 1))],[],[(.bool false)],none,[2,3],3,[],[],[]⟩]) (.seq (.seq (.reg [⟨[],[(25,(.or (.bin .neq (.len false (.ld 1 false (.fa 0 (.sl 2)))) (.len false (.ld 1 false (.fa 0 (.sl 3))))) (.bin .neq (.len false (.ld 1 false (.fa 1 (.sl 2)))) (.len false (.ld 1 false (.fa 1 (.sl 3)))))))],[],none,[2,3],16,[],[],[]⟩]) (.cond (.sl 25) (.seq (.reg [⟨[],[(4,(.bool false))],[],none,[],1,[],[],[]⟩]) (.seq (.tidy 0 [4]) .ret)) .skip)) (.seq (.seq (.reg [⟨[],[(5,(.int .i64 0))],[],none,[2,3],1,[],[],[]⟩]) (.block 0 (.seq (.tidy 0 [2,3,5]) (.loop (.seq (.tidy 0 [2,3,5]) j4O))))) (.seq (.seq (.reg [⟨[],[(6,(.int .i64 0))],[],none,[2,3],1,[],[],[]⟩]) (.block 2 (.seq (.tidy 0 [2,3,6]) (.loop (.seq (.tidy 0 [2,3,6]) j4M))))) (.seq (.reg [⟨[],[(4,(.bool true))],[],none,[],1,[],[],[]⟩]) (.seq (.tidy 0 [4]) .ret)))))), [(.sl 4)],false⟩
/- 'sloth/code.Print' -/
def j4L:C:= (.seq (.reg [⟨[],[(21,(.bin .lss (.sl 20) (.sl 19)))],[],none,[1,5,18,19,20],1,[],[],[]⟩]) (.seq (.cond (.sl 21) .skip (.seq (.tidy 0 [1,5]) (.exit 0))) (.seq (.block 1 (.seq (.reg [⟨[(7,.box (.agg (.cons (.str []) (.cons (.int .i64 0) .nil))))],[],[],some (none,.store 2 (.sl 7) (.ld 2 true (.ia 2 (.sl 18) (.sl 20)))),[1,5,7,18,19,20],4,[],[],[]⟩]) (.reg [⟨[],[],[],some (some 34,.calle 47 (.cons (.sl 5) (.cons (.bin .add (.bin .add (.bin .add (.bin .add (.str [115,104,97,112,101,32]) (.call 48 (.cons (.ld 1 false (.fa 0 (.sl 7))) .nil))) (.str [32])) (.call 49 (.cons (.ld 1 false (.fa 1 (.sl 7))) .nil))) (.str [10])) .nil))),[1,5,18,19,20],11,[[],[0],[0,1],[1,0,2],[2,0,1,3],[],[5],[1,0,2,5,6],[6,5,7,3,1,0,2,4],[4,2,0,1,3,7,5,6,8],[8,6,5,7,3,1,0,2,4,9]],[],[]⟩]))) (.reg [⟨[],[(20,(.bin .add (.sl 20) (.int .i64 1)))],[],none,[1,5,18,19],2,[],[],[]⟩]))))
def j4K:C:= (.seq (.reg [⟨[],[(58,(.bin .lss (.sl 57) (.sl 56)))],[],none,[1,5,37,38,39,55,56,57],1,[],[],[]⟩]) (.seq (.cond (.sl 58) .skip (.seq (.tidy 0 [1,5,37,38,39]) (.exit 4))) (.seq (.block 5 (.seq (.reg [⟨[(11,.box (.agg (.cons (.int .i64 0) (.cons (.int .i64 0) (.cons (.int .i64 0) .nil)))))],[],[],some (none,.store 3 (.sl 11) (.ld 3 true (.ia 3 (.sl 55) (.sl 57)))),[1,5,11,37,38,39,55,56,57],4,[],[],[]⟩]) (.reg [⟨[],[],[],some (some 64,.calle 47 (.cons (.sl 5) (.cons (.call 50 (.cons (.ld 2 true (.sl 1)) (.cons (.ld 3 true (.sl 11)) .nil))) .nil))),[1,5,37,38,39,55,56,57],4,[],[],[]⟩]))) (.reg [⟨[],[(57,(.bin .add (.sl 57) (.int .i64 1)))],[],none,[1,5,37,38,39,55,56],2,[],[],[]⟩]))))
def j4J:C:= (.seq (.reg [⟨[],[(40,(.bin .lss (.sl 39) (.sl 38)))],[],none,[1,5,37,38,39],1,[],[],[]⟩]) (.seq (.cond (.sl 40) .skip (.seq (.tidy 0 [5]) (.exit 2))) (.seq (.block 3 (.seq (.reg [⟨[(9,.box (.agg (.cons (.str []) (.cons (.int .i64 0) (.cons (.nilsl 3) .nil)))))],[],[],some (none,.store 3 (.sl 9) (.ld 3 true (.ia 3 (.sl 37) (.sl 39)))),[1,5,9,37,38,39],4,[],[],[]⟩]) (.seq (.reg [⟨[],[],[],some (some 53,.calle 47 (.cons (.sl 5) (.cons (.bin .add (.bin .add (.bin .add (.bin .add (.str [103,108,111,98,97,108,32]) (.call 48 (.cons (.ld 1 false (.fa 0 (.sl 9))) .nil))) (.str [32])) (.call 49 (.cons (.ld 1 false (.fa 1 (.sl 9))) .nil))) (.str [10])) .nil))),[1,5,9,37,38,39],11,[[],[0],[0,1],[1,0,2],[2,0,1,3],[],[5],[1,0,2,5,6],[6,5,7,3,1,0,2,4],[4,2,0,1,3,7,5,6,8],[8,6,5,7,3,1,0,2,4,9]],[],[]⟩]) (.seq (.seq (.reg [⟨[],[(55,(.ld 1 false (.fa 2 (.sl 9)))),(56,(.len false (.ld 1 false (.fa 2 (.sl 9))))),(57,(.int .i64 0))],[],none,[1,5,37,38,39],4,[],[],[]⟩]) (.block 4 (.seq (.tidy 0 [1,5,37,38,39,55,56,57]) (.loop (.seq (.tidy 0 [1,5,37,38,39,55,56,57]) j4K))))) (.seq (.reg [⟨[],[],[],some (some 66,.calle 51 (.cons (.sl 5) .nil)),[1,5,37,38,39],1,[],[],[]⟩,⟨[],[(67,(.bin .gtr (.sl 66) (.int .i64 8388608)))],[],none,[1,5,37,38,39],1,[],[],[]⟩]) (.cond (.sl 67) (.seq (.reg [⟨[],[(2,(.str [])),(3,(.int .i64 4))],[],none,[],2,[],[],[]⟩]) (.seq (.tidy 0 [2,3]) .ret)) .skip)))))) (.reg [⟨[],[(39,(.bin .add (.sl 39) (.int .i64 1)))],[],none,[1,5,37,38],2,[],[],[]⟩]))))
def f19:Fun:=⟨ (.seq (.reg [⟨[(1,.box (.sl 0))],[],[(.int .i64 0),(.str [])],none,[1],3,[],[],[]⟩]) (.seq (.seq (.reg [⟨[],[(4,(.call 13 (.cons (.ld 2 true (.sl 1)) .nil)))],[],none,[1],3,[],[],[]⟩]) (.seq (.reg [⟨[],[(15,(.bin .neq (.sl 4) (.int .i64 0)))],[],none,[1,4],2,[],[],[]⟩]) (.cond (.sl 15) (.seq (.reg [⟨[],[(2,(.str [])),(3,(.sl 4))],[],none,[],3,[],[],[]⟩]) (.seq (.tidy 0 [2,3]) .ret)) .skip))) (.seq (.reg [⟨[(5,.bld 78 5)],[],[],none,[1,5],1,[],[],[]⟩]) (.seq (.seq (.reg [⟨[],[(18,(.ld 1 false (.fa 0 (.sl 1)))),(19,(.len false (.ld 1 false (.fa 0 (.sl 1))))),(20,(.int .i64 0))],[],none,[1,5],4,[],[],[]⟩]) (.block 0 (.seq (.tidy 0 [1,5,18,19,20]) (.loop (.seq (.tidy 0 [1,5,18,19,20]) j4L))))) (.seq (.seq (.reg [⟨[],[(37,(.ld 1 false (.fa 1 (.sl 1)))),(38,(.len false (.ld 1 false (.fa 1 (.sl 1))))),(39,(.int .i64 0))],[],none,[1,5],4,[],[],[]⟩]) (.block 2 (.seq (.tidy 0 [1,5,37,38,39]) (.loop (.seq (.tidy 0 [1,5,37,38,39]) j4J))))) (.seq (.seq (.reg [⟨[],[],[],some (some 69,.calle 51 (.cons (.sl 5) .nil)),[5],1,[],[],[]⟩,⟨[],[(70,(.bin .gtr (.sl 69) (.int .i64 8388608)))],[],none,[5],1,[],[],[]⟩]) (.cond (.sl 70) (.seq (.reg [⟨[],[(2,(.str [])),(3,(.int .i64 4))],[],none,[],2,[],[],[]⟩]) (.seq (.tidy 0 [2,3]) .ret)) .skip)) (.seq (.reg [⟨[],[],[],some (some 71,.calle 52 (.cons (.sl 5) .nil)),[],1,[],[],[]⟩,⟨[],[(2,(.sl 71)),(3,(.int .i64 0))],[],none,[],2,[],[],[]⟩]) (.seq (.tidy 0 [2,3]) .ret)))))))), [(.sl 2),(.sl 3)],false⟩
/- 'sloth/code.Read' -/
def f21:Fun:=⟨ (.seq (.reg [⟨[(2,.box (.agg (.cons (.nilsl 2) (.cons (.nilsl 3) .nil)))),(3,.box (.int .i64 0))],[],[],none,[0,2,3],2,[],[],[]⟩]) (.seq (.seq (.reg [⟨[],[(7,(.bin .gtr (.len true (.sl 0)) (.int .i64 8388608)))],[],none,[0,2,3],3,[],[],[]⟩]) (.cond (.sl 7) (.seq (.reg [⟨[],[],[],some (none,.store 2 (.sl 2) (.agg (.cons (.nilsl 2) (.cons (.nilsl 3) .nil)))),[2,3],2,[],[],[]⟩,⟨[],[],[],some (none,.store 1 (.sl 3) (.int .i64 2)),[2,3],1,[],[],[]⟩]) (.seq (.tidy 0 [2,3]) .ret)) .skip)) (.seq .stuck (.seq (.reg [⟨[(12,.box (.set 0 1 (.sl 0) (.agg (.cons (.str []) (.cons (.int .i64 0) (.cons (.nilsl 3) (.cons (.nilsl 2) (.cons (.nilsl 3) .nil))))))))],[(4,(.sl 12))],[],none,[2,3],4,[],[],[]⟩]) (.seq (.reg [⟨[],[],[],some (some 14,.calle 60 (.cons (.sl 4) .nil)),[2,3,4],2,[],[],[]⟩]) (.seq (.reg [⟨[],[],[],some (some 16,.calle 61 (.cons (.sl 4) .nil)),[2,3,4],2,[],[],[]⟩]) (.seq (.seq (.reg [⟨[],[(21,(.call 34 (.cons (.ld 2 true (.fa 3 (.fa 0 (.sl 4)))) .nil)))],[],none,[2,3,4],5,[],[],[]⟩]) (.cond (.sl 21) (.seq (.reg [⟨[],[],[],some (none,.store 2 (.sl 2) (.agg (.cons (.nilsl 2) (.cons (.nilsl 3) .nil)))),[2,3],2,[],[],[]⟩,⟨[],[],[],some (none,.store 1 (.sl 3) (.int .i64 4)),[2,3],1,[],[],[]⟩]) (.seq (.tidy 0 [2,3]) .ret)) .skip)) (.seq (.reg [⟨[],[],[],some (none,.store 2 (.sl 2) (.ld 2 true (.fa 3 (.fa 0 (.sl 4))))),[2,3],5,[],[],[]⟩,⟨[],[],[],some (none,.store 1 (.sl 3) (.int .i64 0)),[2,3],1,[],[],[]⟩]) (.seq (.tidy 0 [2,3]) .ret))))))))), [(.ld 2 true (.sl 2)),(.ld 1 false (.sl 3))],false⟩
/- 'sloth/code.Bytes' -/
def f24_L0:C:= (.seq (.reg [⟨[],[(28,(.bin .lss (.sl 27) (.sl 26)))],[],none,[1,5,25,26,27],1,[],[],[]⟩]) (.seq (.cond (.sl 28) .skip (.seq (.tidy 0 [1,5]) (.exit 0))) (.seq (.block 1 (.seq (.reg [⟨[(7,.box (.agg (.cons (.str []) (.cons (.int .i64 0) .nil))))],[],[],some (none,.store 2 (.sl 7) (.ld 2 true (.ia 2 (.sl 25) (.sl 27)))),[1,5,7,25,26,27],4,[],[],[]⟩]) (.reg [⟨[],[(37,(.conv .u64 (.ld 1 false (.fa 1 (.sl 7)))))],[],some (some 34,.calle 69 (.cons (.sl 5) (.cons (.ld 1 false (.fa 0 (.sl 7))) .nil))),[1,25,26,27],7,[[],[],[1],[1,2,0],[],[4],[4,5],[5,4,6,0,2,1,3],[3,1,2,0,6,4,5,7]],[],[(.fa 1 (.sl 7)),(.ld 1 false (.fa 1 (.sl 7))),(.conv .u64 (.ld 1 false (.fa 1 (.sl 7))))]⟩,⟨[],[],[],some (some 38,.calle 68 (.cons (.sl 34) (.cons (.sl 37) .nil))),[1,25,26,27],1,[],[],[]⟩,⟨[],[(5,(.sl 38))],[],none,[1,25,26,27],1,[],[],[]⟩]))) (.reg [⟨[],[(27,(.bin .add (.sl 27) (.int .i64 1)))],[],none,[1,5,25,26],2,[],[],[]⟩]))))
def f24_L1:C:= (.seq (.reg [⟨[],[(70,(.bin .lss (.sl 69) (.sl 68)))],[],none,[5,47,48,49,67,68,69],1,[],[],[]⟩]) (.seq (.cond (.sl 70) .skip (.seq (.tidy 0 [5,47,48,49]) (.exit 4))) (.seq (.block 5 (.seq (.reg [⟨[(11,.box (.agg (.cons (.int .i64 0) (.cons (.int .i64 0) (.cons (.int .i64 0) .nil)))))],[],[],some (none,.store 3 (.sl 11) (.ld 3 true (.ia 3 (.sl 67) (.sl 69)))),[5,11,47,48,49,67,68,69],4,[],[],[]⟩]) (.reg [⟨[],[],[],some (some 75,.calle 70 (.cons (.sl 5) (.cons (.ld 3 true (.sl 11)) .nil))),[47,48,49,67,68,69],3,[],[],[]⟩,⟨[],[(5,(.sl 75))],[],none,[47,48,49,67,68,69],1,[],[],[]⟩]))) (.reg [⟨[],[(69,(.bin .add (.sl 69) (.int .i64 1)))],[],none,[5,47,48,49,67,68],2,[],[],[]⟩]))))
def f24_L2:C:= (.seq (.reg [⟨[],[(50,(.bin .lss (.sl 49) (.sl 48)))],[],none,[5,47,48,49],1,[],[],[]⟩]) (.seq (.cond (.sl 50) .skip (.seq (.tidy 0 [5]) (.exit 2))) (.seq (.block 3 (.seq (.reg [⟨[(9,.box (.agg (.cons (.str []) (.cons (.int .i64 0) (.cons (.nilsl 3) .nil)))))],[],[],some (none,.store 3 (.sl 9) (.ld 3 true (.ia 3 (.sl 47) (.sl 49)))),[5,9,47,48,49],4,[],[],[]⟩]) (.seq (.regp [0,1,2,4,5,6,8,9,10,11,3,7,12,13] [⟨[],[],[(.conv .u64 (.len false (.ld 1 false (.fa 2 (.sl 9))))),(.conv .u64 (.ld 1 false (.fa 1 (.sl 9))))],some (some 56,.calle 69 (.cons (.sl 5) (.cons (.ld 1 false (.fa 0 (.sl 9))) .nil))),[9,47,48,49],11,[[],[],[1],[],[3],[3,4],[],[6],[6,7],[7,6,8],[1,2,0],[4,3,5,0,2,1,10],[8,6,7,9,10,1,2,0,5,3,4,11],[11,4,3,5,0,2,1,10,9,7,6,8,12]],[],[(.fa 1 (.sl 9)),(.ld 1 false (.fa 1 (.sl 9))),(.conv .u64 (.ld 1 false (.fa 1 (.sl 9)))),(.fa 2 (.sl 9)),(.ld 1 false (.fa 2 (.sl 9))),(.len false (.ld 1 false (.fa 2 (.sl 9)))),(.conv .u64 (.len false (.ld 1 false (.fa 2 (.sl 9)))))]⟩,⟨[],[],[(.conv .u64 (.len false (.ld 1 false (.fa 2 (.sl 9)))))],some (some 60,.calle 68 (.cons (.sl 56) (.cons (.conv .u64 (.ld 1 false (.fa 1 (.sl 9)))) .nil))),[9,47,48,49],1,[],[],[(.fa 2 (.sl 9)),(.ld 1 false (.fa 2 (.sl 9))),(.len false (.ld 1 false (.fa 2 (.sl 9)))),(.conv .u64 (.len false (.ld 1 false (.fa 2 (.sl 9)))))]⟩,⟨[],[],[],some (some 65,.calle 68 (.cons (.sl 60) (.cons (.conv .u64 (.len false (.ld 1 false (.fa 2 (.sl 9))))) .nil))),[9,47,48,49],1,[],[],[]⟩,⟨[],[(5,(.sl 65))],[],none,[9,47,48,49],1,[],[],[]⟩]) (.seq (.reg [⟨[],[(67,(.ld 1 false (.fa 2 (.sl 9)))),(68,(.len false (.ld 1 false (.fa 2 (.sl 9))))),(69,(.int .i64 0))],[],none,[5,47,48,49],4,[],[],[]⟩]) (.block 4 (.seq (.tidy 0 [5,47,48,49,67,68,69]) (.loop (.seq (.tidy 0 [5,47,48,49,67,68,69]) f24_L1)))))))) (.reg [⟨[],[(49,(.bin .add (.sl 49) (.int .i64 1)))],[],none,[5,47,48],2,[],[],[]⟩]))))
def f24:Fun:=⟨ (.seq (.reg [⟨[(1,.box (.sl 0))],[],[(.int .i64 0),(.nilsl 1)],none,[1],3,[],[],[]⟩]) (.seq (.seq (.reg [⟨[],[(4,(.call 13 (.cons (.ld 2 true (.sl 1)) .nil)))],[],none,[1],3,[],[],[]⟩]) (.seq (.reg [⟨[],[(15,(.bin .neq (.sl 4) (.int .i64 0)))],[],none,[1,4],2,[],[],[]⟩]) (.cond (.sl 15) (.seq (.reg [⟨[],[(2,(.nilsl 1)),(3,(.sl 4))],[],none,[],3,[],[],[]⟩]) (.seq (.tidy 0 [2,3]) .ret)) .skip))) (.seq (.reg [⟨[(17,.lits 1 (.cons (.int .u8 83) (.cons (.int .u8 76) (.cons (.int .u8 84) (.cons (.int .u8 72) .nil)))))],[],[],none,[1,17],1,[],[],[]⟩,⟨[],[],[],some (some 18,.mark (.sl 17)),[1],1,[],[],[]⟩,⟨[],[],[],some (some 23,.calle 68 (.cons (.sl 18) (.cons (.conv .u64 (.len false (.ld 1 false (.fa 0 (.sl 1))))) .nil))),[1],5,[],[],[]⟩,⟨[],[(5,(.sl 23))],[],none,[1],1,[],[],[]⟩]) (.seq (.seq (.reg [⟨[],[(25,(.ld 1 false (.fa 0 (.sl 1)))),(26,(.len false (.ld 1 false (.fa 0 (.sl 1))))),(27,(.int .i64 0))],[],none,[1,5],4,[],[],[]⟩]) (.block 0 (.seq (.tidy 0 [1,5,25,26,27]) (.loop (.seq (.tidy 0 [1,5,25,26,27]) f24_L0))))) (.seq (.reg [⟨[],[],[],some (some 45,.calle 68 (.cons (.sl 5) (.cons (.conv .u64 (.len false (.ld 1 false (.fa 1 (.sl 1))))) .nil))),[1],6,[],[],[]⟩,⟨[],[(5,(.sl 45))],[],none,[1],1,[],[],[]⟩]) (.seq (.seq (.reg [⟨[],[(47,(.ld 1 false (.fa 1 (.sl 1)))),(48,(.len false (.ld 1 false (.fa 1 (.sl 1))))),(49,(.int .i64 0))],[],none,[5],4,[],[],[]⟩]) (.block 2 (.seq (.tidy 0 [5,47,48,49]) (.loop (.seq (.tidy 0 [5,47,48,49]) f24_L2))))) (.seq (.reg [⟨[],[],[],some (some 82,.app 1 (.sl 5) (.call 71 (.cons (.call 72 (.cons (.sl 5) .nil)) .nil))),[],5,[],[],[]⟩,⟨[],[(5,(.sl 82))],[],none,[],1,[],[],[]⟩]) (.seq (.seq (.reg [⟨[],[(85,(.bin .gtr (.len false (.sl 5)) (.int .i64 8388608)))],[],none,[5],3,[],[],[]⟩]) (.cond (.sl 85) (.seq (.reg [⟨[],[(2,(.nilsl 1)),(3,(.int .i64 4))],[],none,[],2,[],[],[]⟩]) (.seq (.tidy 0 [2,3]) .ret)) .skip)) (.seq (.reg [⟨[],[(2,(.sl 5)),(3,(.int .i64 0))],[],none,[],3,[],[],[]⟩]) (.seq (.tidy 0 [2,3]) .ret)))))))))), [(.sl 2),(.sl 3)],true⟩
theorem j4I:q1s Go.Proofs.Tryz.prog 24 0 1 f24=true:=by kernel_rfl
/- 'sloth/code.Load' -/
def f27:Fun:=⟨ (.seq (.reg [⟨[(2,.box (.agg (.cons (.nilsl 2) (.cons (.nilsl 3) .nil)))),(3,.box (.int .i64 0))],[],[],none,[0,2,3],2,[],[],[]⟩]) (.seq (.seq (.reg [⟨[],[(8,(.bin .gtr (.len false (.sl 0)) (.int .i64 8388608)))],[],none,[0,2,3],3,[],[],[]⟩]) (.cond (.sl 8) (.seq (.reg [⟨[],[],[],some (none,.store 2 (.sl 2) (.agg (.cons (.nilsl 2) (.cons (.nilsl 3) .nil)))),[2,3],2,[],[],[]⟩,⟨[],[],[],some (none,.store 1 (.sl 3) (.int .i64 2)),[2,3],1,[],[],[]⟩]) (.seq (.keep [2,3]) .ret)) .skip)) (.seq .stuck (.seq (.reg [⟨[],[(4,(.bin .sub (.len false (.sl 0)) (.int .i64 4)))],[],none,[0,2,3],4,[],[],[]⟩]) (.seq (.seq (.reg [⟨[],[(34,(.or (.or (.bin .lss (.sl 4) (.int .i64 4)) (.bin .neq (.b2s (.cut false false true false 1 (.sl 0) .nil (.int .i64 4) .nil)) (.str [83,76,84,72]))) (.bin .neq (.b2s (.call 71 (.cons (.call 72 (.cons (.cut false false true false 1 (.sl 0) .nil (.sl 4) .nil) .nil)) .nil))) (.b2s (.cut false true false false 1 (.sl 0) (.sl 4) .nil .nil)))))],[],none,[0,2,3,4],21,[[],[0],[0,1],[1,0,2],[2,0,1,3],[3,1,0,2,4],[4,2,0,1,3,5],[5,3,4,6,1,0,2],[2,0,1,6,4,3,5,7],[7,5,3,4,6,1,0,2,8],[7,5,3,4,6,1,0,2,8],[10,8,2,0,1,6,4,3,5,7,9],[9,7,5,3,4,6,1,0,2,8,10,11],[11,10,8,2,0,1,6,4,3,5,7,9,12],[12,9,7,5,3,4,6,1,0,2,8,10,11,13],[7,5,3,4,6,1,0,2,8],[7,5,3,4,6,1,0,2,8],[16,8,2,0,1,6,4,3,5,7,15],[15,7,5,3,4,6,1,0,2,8,16,17],[17,16,15,18,13,11,10,8,2,0,1,6,4,3,5,7,9,12,14],[14,12,9,10,11,13,18,15,16,17,19,7,5,3,4,6,1,0,2,8]],[],[]⟩]) (.cond (.sl 34) (.seq (.reg [⟨[],[],[],some (none,.store 2 (.sl 2) (.agg (.cons (.nilsl 2) (.cons (.nilsl 3) .nil)))),[2,3],2,[],[],[]⟩,⟨[],[],[],some (none,.store 1 (.sl 3) (.int .i64 171)),[2,3],1,[],[],[]⟩]) (.seq (.keep [2,3]) .ret)) .skip)) (.seq (.reg [⟨[(40,.box (.set 0 1 (.cut false true true false 1 (.sl 0) (.int .i64 4) (.sl 4) .nil) (.agg (.cons (.nilsl 1) .nil))))],[(5,(.sl 40))],[],none,[2,3],6,[],[],[]⟩]) (.seq (.reg [⟨[],[],[],some (some 42,.calle 77 (.cons (.sl 5) .nil)),[2,3,5],2,[],[],[]⟩,⟨[],[],[],some (none,.store 2 (.sl 2) (.sl 42)),[2,3,5],1,[],[],[]⟩]) (.seq (.seq (.reg [⟨[],[(53,(.or (.bin .gtr (.len false (.ld 1 false (.fa 0 (.fa 0 (.sl 5))))) (.int .i64 0)) (.bin .neq (.call 13 (.cons (.ld 2 true (.sl 2)) .nil)) (.int .i64 0))))],[],none,[2,3],11,[],[],[]⟩]) (.cond (.sl 53) (.seq (.reg [⟨[],[],[],some (none,.store 2 (.sl 2) (.agg (.cons (.nilsl 2) (.cons (.nilsl 3) .nil)))),[2,3],2,[],[],[]⟩,⟨[],[],[],some (none,.store 1 (.sl 3) (.int .i64 171)),[2,3],1,[],[],[]⟩]) (.seq (.keep [2,3]) .ret)) .skip)) (.seq (.reg [⟨[],[],[],some (none,.store 2 (.sl 2) (.ld 2 true (.sl 2))),[2,3],2,[],[],[]⟩,⟨[],[],[],some (none,.store 1 (.sl 3) (.int .i64 0)),[2,3],1,[],[],[]⟩]) (.seq (.keep [2,3]) .ret)))))))))), [(.ld 2 true (.sl 2)),(.ld 1 false (.sl 3))],false⟩
/- 'sloth/slothlaw17.id' -/
def f33:Fun:=⟨ (.seq (.reg [⟨[(0,.box (.agg (.cons (.nilsl 2) (.cons (.nilsl 3) .nil))))],[],[],none,[0],1,[],[],[]⟩]) (.seq (.reg [⟨[(6,.lits 3 (.cons (.set 0 1 (.int .i64 1) (.agg (.cons (.int .i64 0) (.cons (.int .i64 0) (.cons (.int .i64 0) .nil))))) (.cons (.set 1 1 (.int .i64 2) (.set 0 1 (.int .i64 7) (.agg (.cons (.int .i64 0) (.cons (.int .i64 0) (.cons (.int .i64 0) .nil)))))) (.cons (.set 1 1 (.int .i64 1) (.set 0 1 (.int .i64 4) (.agg (.cons (.int .i64 0) (.cons (.int .i64 0) (.cons (.int .i64 0) .nil)))))) (.cons (.set 0 1 (.int .i64 17) (.agg (.cons (.int .i64 0) (.cons (.int .i64 0) (.cons (.int .i64 0) .nil))))) .nil)))))],[(1,(.sl 6))],[],none,[0],6,[],[],[]⟩]) (.seq (.reg [⟨[(7,.callo 78 .nil),(10,.lits 3 (.cons (.set 2 1 (.sl 1) (.set 1 1 (.int .i64 1) (.set 0 1 (.str [105,100]) (.agg (.cons (.str []) (.cons (.int .i64 0) (.cons (.nilsl 3) .nil))))))) .nil))],[],[],some (none,.store 2 (.sl 0) (.set 1 1 (.sl 10) (.set 0 1 (.sl 7) (.agg (.cons (.nilsl 2) (.cons (.nilsl 3) .nil)))))),[0],6,[],[],[]⟩]) (.seq (.tidy 0 [0]) .ret)))), [(.ld 2 true (.sl 0))],false⟩
/- 'sloth/code.quote' -/
def f48:Fun:=⟨ (.seq (.reg [⟨[],[],[(.str [])],none,[0],1,[],[],[]⟩]) (.seq (.reg [⟨[],[(2,(.bin .add (.bin .add (.str [34]) (.call 88 (.cons (.call 88 (.cons (.sl 0) (.cons (.str [92]) (.cons (.str [92,92]) .nil)))) (.cons (.str [34]) (.cons (.str [92,34]) .nil))))) (.str [34])))],[],none,[],6,[],[],[]⟩]) (.seq (.tidy 0 [2]) .ret))), [(.sl 2)],false⟩
/- 'sloth/code.line' -/
def f50:Fun:=⟨ (.seq (.reg [⟨[(2,.box (.sl 0)),(3,.box (.sl 1))],[],[(.str [])],none,[2,3],3,[],[],[]⟩]) (.seq (.reg [⟨[(5,.box (.agg (.cons (.str []) (.cons (.int .i64 0) (.cons (.int .i64 0) .nil)))))],[(13,(.ext 1 (.call 79 (.cons (.ld 1 false (.fa 0 (.sl 3))) .nil))))],[],some (none,.store 3 (.sl 5) (.ext 0 (.call 79 (.cons (.ld 1 false (.fa 0 (.sl 3))) .nil)))),[2,3,5],8,[],[],[]⟩,⟨[],[],[(.sl 13)],none,[2,3,5],1,[],[],[]⟩]) (.seq (.reg [⟨[],[(7,(.str [10]))],[],none,[2,3,5],1,[],[],[]⟩]) (.seq (.block 0 (.seq (.block 3 (.seq (.block 2 (.seq (.block 1 (.seq (.seq (.seq (.reg [⟨[],[(14,(.bin .neq (.ld 1 false (.fa 2 (.sl 5))) (.int .i64 0)))],[],none,[2,3,5,7],4,[],[],[]⟩]) (.cond (.sl 14) (.seq (.tidy 0 [2,3,5,7]) (.exit 1)) .skip)) (.seq (.reg [⟨[],[(18,(.bin .neq (.ld 1 false (.fa 1 (.sl 5))) (.int .i64 0)))],[],none,[2,3,5,7],4,[],[],[]⟩]) (.cond (.sl 18) (.seq (.tidy 0 [2,3,5,7]) (.exit 2)) .skip))) (.seq (.tidy 0 [5,7]) (.exit 3)))) (.reg [⟨[],[(7,(.bin .add (.bin .add (.str [32]) (.call 49 (.cons (.ld 1 false (.fa 2 (.sl 3))) .nil))) (.sl 7)))],[],none,[2,3,5],7,[],[],[]⟩]))) (.reg [⟨[],[(7,(.bin .add (.bin .add (.str [32]) (.call 90 (.cons (.ld 2 true (.sl 2)) (.cons (.ld 1 false (.fa 1 (.sl 5))) (.cons (.ld 1 false (.fa 1 (.sl 3))) .nil))))) (.sl 7)))],[],none,[5],10,[],[],[]⟩]))) (.seq (.reg [⟨[],[(7,(.bin .add (.bin .add (.str [32,32]) (.ld 1 false (.fa 0 (.sl 5)))) (.sl 7)))],[],none,[],6,[],[],[]⟩]) (.seq (.tidy 0 [7]) (.exit 0))))) (.seq (.reg [⟨[],[(4,(.sl 7))],[],none,[],2,[],[],[]⟩]) (.seq (.tidy 0 [4]) .ret)))))), [(.sl 4)],false⟩
/- '(*sloth/code.reader).table' -/
def j4D:C:= (.seq (.seq (.reg [⟨[],[(7,(.bin .eql (.sl 2) (.str [115,104,97,112,101])))],[],none,[0,2],2,[],[],[]⟩]) (.cond (.sl 7) .skip (.seq (.keep [0,2]) (.exit 0)))) (.seq (.block 1 (.regl [⟨[],[],[(.ld 1 false (.fa 0 (.fa 3 (.fa 0 (.sl 0)))))],some (some 17,.calle 97 (.cons (.sl 0) .nil)),[0],9,[[],[],[1],[1,2],[2,1,3],[3,1,2,4],[],[6],[],[6,7,8],[8,9,6,7],[7,6,9,8,10],[10,8,9,6,7,11,4,2,1,3,5],[12,11,10,9,8,7,6,5,4,3,2,1,0],[0,1,2,3,4,5,6,7,8,9,10,11,12,13],[13,12,11,10,9,8,7,6,5,4,3,2,1,0,14],[14,0,1,2,3,4,5,6,7,8,9,10,11,12,13,15]],[],[(.sl 0),(.fa 0 (.sl 0)),(.fa 3 (.fa 0 (.sl 0))),(.fa 0 (.fa 3 (.fa 0 (.sl 0)))),(.ld 1 false (.fa 0 (.fa 3 (.fa 0 (.sl 0)))))]⟩,⟨[],[],[(.ld 1 false (.fa 0 (.fa 3 (.fa 0 (.sl 0)))))],some (some 19,.calle 98 (.cons (.sl 0) .nil)),[0,17],1,[],[],[(.sl 0),(.fa 0 (.sl 0)),(.fa 3 (.fa 0 (.sl 0))),(.fa 0 (.fa 3 (.fa 0 (.sl 0)))),(.ld 1 false (.fa 0 (.fa 3 (.fa 0 (.sl 0)))))]⟩,⟨[(21,.lits 2 (.cons (.set 1 1 (.sl 19) (.set 0 1 (.sl 17) (.agg (.cons (.str []) (.cons (.int .i64 0) .nil))))) .nil))],[],[],some (some 22,.app 2 (.ld 1 false (.fa 0 (.fa 3 (.fa 0 (.sl 0))))) (.sl 21)),[0],3,[],[],[(.sl 0)]⟩,⟨[],[],[],some (none,.store 1 (.fa 0 (.fa 3 (.fa 0 (.sl 0)))) (.sl 22)),[0],4,[],[],[]⟩])) (.reg [⟨[],[],[],some (some 9,.calle 96 (.cons (.sl 0) .nil)),[0],2,[],[],[]⟩,⟨[],[(2,(.sl 9))],[],none,[0],1,[],[],[]⟩])))
def j4C:C:= (.seq (.seq (.reg [⟨[],[(44,(.and (.bin .neq (.sl 2) (.str [])) (.bin .neq (.sl 2) (.str [103,108,111,98,97,108]))))],[],none,[0,2,3],6,[],[],[]⟩]) (.cond (.sl 44) .skip (.seq (.keep [0,2,3]) (.exit 4)))) (.seq (.block 5 (.regl [⟨[],[],[],some (some 60,.calle 99 (.cons (.sl 0) (.cons (.sl 2) (.cons (.len false (.ld 1 false (.fa 1 (.fa 3 (.fa 0 (.sl 0)))))) (.cons (.len false (.ld 1 false (.fa 2 (.sl 3)))) .nil))))),[0,3],14,[[],[0],[],[],[],[4],[4,5],[5,4,6],[6,4,5,7],[7,5,4,6,8],[],[10],[10,11],[11,10,12,8,6,4,5,7,9,3,2],[2,3,9,7,5,4,6,8,12,10,11,13],[13,11,10,12,8,6,4,5,7,9,3,2,14,0,1],[15,14,13,12,11,10,9,8,7,6,5,4,3,2,1,0],[0,1,2,3,4,5,6,7,8,9,10,11,12,13,14,15,16]],[],[(.fa 2 (.sl 3)),(.ld 1 false (.fa 2 (.sl 3)))]⟩,⟨[(61,.lits 3 (.cons (.sl 60) .nil))],[],[],some (some 62,.app 3 (.ld 1 false (.fa 2 (.sl 3))) (.sl 61)),[0,3],2,[],[],[]⟩,⟨[],[],[],some (none,.store 1 (.fa 2 (.sl 3)) (.sl 62)),[0,3],2,[],[],[]⟩])) (.reg [⟨[],[],[],some (some 46,.calle 96 (.cons (.sl 0) .nil)),[0,3],2,[],[],[]⟩,⟨[],[(2,(.sl 46))],[],none,[0,3],1,[],[],[]⟩])))
def j4B:C:= (.seq (.seq (.reg [⟨[],[(27,(.bin .neq (.sl 2) (.str [])))],[],none,[0,2],2,[],[],[]⟩]) (.cond (.sl 27) .skip (.seq (.keep []) (.exit 2)))) (.block 3 (.seq (.seq (.reg [⟨[],[(29,(.bin .neq (.sl 2) (.str [103,108,111,98,97,108])))],[],none,[0],2,[],[],[]⟩]) (.cond (.sl 29) (.reg [⟨[],[],[],some (none,.panic (.mki 95 (.agg .nil))),[0],3,[],[],[]⟩]) .skip)) (.seq (.reg [⟨[],[],[],some (some 33,.calle 97 (.cons (.sl 0) .nil)),[0],2,[],[],[]⟩,⟨[],[],[],some (some 35,.calle 98 (.cons (.sl 0) .nil)),[0,33],2,[],[],[]⟩,⟨[(3,.box (.agg (.cons (.str []) (.cons (.int .i64 0) (.cons (.nilsl 3) .nil)))))],[],[],some (none,.store 3 (.sl 3) (.set 1 1 (.sl 35) (.set 0 1 (.sl 33) (.agg (.cons (.str []) (.cons (.int .i64 0) (.cons (.nilsl 3) .nil))))))),[0,3],3,[],[],[]⟩]) (.seq (.seq (.reg [⟨[],[],[],some (some 38,.calle 96 (.cons (.sl 0) .nil)),[0,3],2,[],[],[]⟩,⟨[],[(2,(.sl 38))],[],none,[0,3],1,[],[],[]⟩]) (.block 4 (.seq (.keep [0,2,3]) (.loop (.seq (.keep [0,2,3]) j4C))))) (.regl [⟨[(71,.lits 3 (.cons (.ld 3 true (.sl 3)) .nil))],[],[],some (some 72,.app 3 (.ld 1 false (.fa 1 (.fa 3 (.fa 0 (.sl 0))))) (.sl 71)),[0,2],9,[[],[],[1],[1,2],[2,1,3],[3,1,2,4],[],[6],[6,7,4,2,1,3,5],[8,7,6,5,4,3,2,1,0],[0,1,2,3,4,5,6,7,8,9],[9,8,7,6,5,4,3,2,1,0,10],[10,0,1,2,3,4,5,6,7,8,9,11]],[],[(.sl 0)]⟩,⟨[],[],[],some (none,.store 1 (.fa 1 (.fa 3 (.fa 0 (.sl 0)))) (.sl 72)),[0,2],4,[],[],[]⟩]))))))
def f60:Fun:=⟨ (.seq (.reg [⟨[],[],[],some (some 5,.calle 96 (.cons (.sl 0) .nil)),[0],2,[],[],[]⟩,⟨[],[(2,(.sl 5))],[],none,[0],1,[],[],[]⟩]) (.seq (.block 0 (.seq (.keep [0,2]) (.loop (.seq (.keep [0,2]) j4D)))) (.block 2 (.seq (.keep [0,2]) (.loop (.seq (.keep [0,2]) j4B)))))), [],false⟩
/- '(*sloth/code.reader).resolve' -/
def j4A:C:= (.seq (.reg [⟨[],[(26,(.bin .lss (.sl 25) (.sl 24)))],[],none,[0,2,3,23,24,25],1,[],[],[]⟩]) (.seq (.cond (.sl 26) .skip (.seq (.keep [0,2,3]) (.exit 0))) (.seq (.block 1 (.seq (.reg [⟨[(5,.box (.agg (.cons (.str []) (.cons (.int .i64 0) .nil))))],[(4,(.sl 25))],[],some (none,.store 2 (.sl 5) (.ld 2 true (.ia 2 (.sl 23) (.sl 25)))),[0,2,3,5,23,24,25],6,[],[],[]⟩]) (.seq (.reg [⟨[],[(7,(.ext 1 (.lkp true 2 (.int .i64 0) (.sl 2) (.ld 1 false (.fa 0 (.sl 5))))))],[(.ext 0 (.lkp true 2 (.int .i64 0) (.sl 2) (.ld 1 false (.fa 0 (.sl 5)))))],none,[0,2,3,4,5,23,24,25],9,[],[],[]⟩]) (.seq (.reg [⟨[],[(38,(.un .not (.sl 7)))],[],none,[0,2,3,4,5,23,24,25],2,[],[],[]⟩]) (.cond (.sl 38) (.reg [⟨[],[],[],some (none,.mset 2 (.sl 2) (.ld 1 false (.fa 0 (.sl 5))) (.sl 4)),[0,2,3,23,24,25],5,[],[],[]⟩]) .skip))))) (.reg [⟨[],[(25,(.bin .add (.sl 25) (.int .i64 1)))],[],none,[0,2,3,23,24],2,[],[],[]⟩]))))
def j4z:C:= (.seq (.reg [⟨[],[(51,(.bin .lss (.sl 50) (.sl 49)))],[],none,[0,2,3,48,49,50],1,[],[],[]⟩]) (.seq (.cond (.sl 51) .skip (.seq (.keep [0,2,3]) (.exit 2))) (.seq (.block 3 (.seq (.reg [⟨[(9,.box (.agg (.cons (.str []) (.cons (.int .i64 0) (.cons (.nilsl 3) .nil)))))],[(8,(.sl 50))],[],some (none,.store 3 (.sl 9) (.ld 3 true (.ia 3 (.sl 48) (.sl 50)))),[0,2,3,9,48,49,50],6,[],[],[]⟩]) (.seq (.reg [⟨[],[(11,(.ext 1 (.lkp true 2 (.int .i64 0) (.sl 3) (.ld 1 false (.fa 0 (.sl 9))))))],[(.ext 0 (.lkp true 2 (.int .i64 0) (.sl 3) (.ld 1 false (.fa 0 (.sl 9)))))],none,[0,2,3,8,9,48,49,50],9,[],[],[]⟩]) (.seq (.reg [⟨[],[(63,(.un .not (.sl 11)))],[],none,[0,2,3,8,9,48,49,50],2,[],[],[]⟩]) (.cond (.sl 63) (.reg [⟨[],[],[],some (none,.mset 2 (.sl 3) (.ld 1 false (.fa 0 (.sl 9))) (.sl 8)),[0,2,3,48,49,50],5,[],[],[]⟩]) .skip))))) (.reg [⟨[],[(50,(.bin .add (.sl 50) (.int .i64 1)))],[],none,[0,2,3,48,49],2,[],[],[]⟩]))))
def j4y:C:= (.seq (.reg [⟨[],[(75,(.bin .lss (.sl 74) (.sl 73)))],[],none,[0,2,3,72,73,74],1,[],[],[]⟩]) (.seq (.cond (.sl 75) .skip (.seq (.keep []) (.exit 4))) (.seq (.block 5 (.seq (.reg [⟨[(13,.box (.agg (.cons (.int .i64 0) (.cons (.int .i64 0) (.cons (.str []) .nil)))))],[],[],some (none,.store 3 (.sl 13) (.ld 3 true (.ia 3 (.sl 72) (.sl 74)))),[0,2,3,13,72,73,74],4,[],[],[]⟩]) (.seq (.reg [⟨[],[(14,(.ia 3 (.ld 1 false (.fa 2 (.ia 3 (.ld 1 false (.fa 1 (.fa 3 (.fa 0 (.sl 0))))) (.ld 1 false (.fa 0 (.sl 13)))))) (.ld 1 false (.fa 1 (.sl 13)))))],[],none,[0,2,3,13,72,73,74],14,[[],[0],[0,1],[1,0,2],[2,0,1,3],[],[5],[5,6,3,1,0,2,4],[4,2,0,1,3,6,5,7],[7,5,6,3,1,0,2,4,8],[],[10],[10,11,8,4,2,0,1,3,6,5,7,9],[9,7,5,6,3,1,0,2,4,8,11,10,12]],[],[]⟩]) (.seq (.reg [⟨[],[(15,(.ext 0 (.lkp true 2 (.int .i64 0) (.sl 2) (.ld 1 false (.fa 2 (.sl 13)))))),(16,(.ext 1 (.lkp true 2 (.int .i64 0) (.sl 2) (.ld 1 false (.fa 2 (.sl 13))))))],[],none,[0,2,3,13,14,72,73,74],9,[],[],[]⟩]) (.seq (.seq (.reg [⟨[],[(102,(.bin .eql (.ld 1 false (.fa 0 (.fa 0 (.sl 14)))) (.int .i64 2)))],[],none,[0,2,3,13,14,15,16,72,73,74],5,[],[],[]⟩]) (.cond (.sl 102) (.reg [⟨[],[(15,(.ext 0 (.lkp true 2 (.int .i64 0) (.sl 3) (.ld 1 false (.fa 2 (.sl 13)))))),(16,(.ext 1 (.lkp true 2 (.int .i64 0) (.sl 3) (.ld 1 false (.fa 2 (.sl 13))))))],[],none,[0,2,3,14,72,73,74],9,[],[],[]⟩]) .skip)) (.seq (.seq (.reg [⟨[],[(111,(.un .not (.sl 16)))],[],none,[0,2,3,14,15,72,73,74],2,[],[],[]⟩]) (.cond (.sl 111) (.reg [⟨[],[],[],some (none,.panic (.mki 95 (.agg .nil))),[0,2,3,14,15,72,73,74],3,[],[],[]⟩]) .skip)) (.reg [⟨[],[],[],some (none,.store 1 (.fa 1 (.fa 0 (.sl 14))) (.sl 15)),[0,2,3,72,73,74],5,[],[],[]⟩]))))))) (.reg [⟨[],[(74,(.bin .add (.sl 74) (.int .i64 1)))],[],none,[0,2,3,72,73],2,[],[],[]⟩]))))
def f61:Fun:=⟨ (.seq (.reg [⟨[(17,.mkm),(18,.mkm)],[(2,(.sl 17)),(3,(.sl 18))],[],none,[0],4,[],[],[]⟩]) (.seq (.seq (.reg [⟨[],[(23,(.ld 1 false (.fa 0 (.fa 3 (.fa 0 (.sl 0)))))),(24,(.len false (.ld 1 false (.fa 0 (.fa 3 (.fa 0 (.sl 0))))))),(25,(.int .i64 0))],[],none,[0,2,3],7,[],[],[]⟩]) (.block 0 (.seq (.keep [0,2,3,23,24,25]) (.loop (.seq (.keep [0,2,3,23,24,25]) j4A))))) (.seq (.seq (.reg [⟨[],[(48,(.ld 1 false (.fa 1 (.fa 3 (.fa 0 (.sl 0)))))),(49,(.len false (.ld 1 false (.fa 1 (.fa 3 (.fa 0 (.sl 0))))))),(50,(.int .i64 0))],[],none,[0,2,3],7,[],[],[]⟩]) (.block 2 (.seq (.keep [0,2,3,48,49,50]) (.loop (.seq (.keep [0,2,3,48,49,50]) j4z))))) (.seq (.reg [⟨[],[(72,(.ld 1 false (.fa 2 (.fa 0 (.sl 0))))),(73,(.len false (.ld 1 false (.fa 2 (.fa 0 (.sl 0)))))),(74,(.int .i64 0))],[],none,[0,2,3],6,[],[],[]⟩]) (.block 4 (.seq (.keep [0,2,3,72,73,74]) (.loop (.seq (.keep [0,2,3,72,73,74]) j4y)))))))), [],false⟩
/- 'sloth/code.put' -/
def f68_L0:C:= (.seq (.seq (.reg [⟨[],[(6,(.bin .gtr (.sl 1) (.int .u64 127)))],[],none,[0,1],2,[],[],[]⟩]) (.cond (.sl 6) .skip (.seq (.tidy 1 [0,1]) (.exit 0)))) (.seq (.block 1 (.reg [⟨[(13,.lits 1 (.cons (.bin .or (.conv .u8 (.sl 1)) (.int .u8 128)) .nil))],[],[],some (some 14,.app 1 (.sl 0) (.sl 13)),[1],6,[],[],[]⟩,⟨[],[(0,(.sl 14))],[],none,[1],1,[],[],[]⟩])) (.reg [⟨[],[(1,(.sh false (.sl 1) (.int .u64 7)))],[],none,[0],3,[],[],[]⟩])))
def f68:Fun:=⟨ (.seq (.reg [⟨[],[],[(.nilsl 1)],none,[0,1],1,[],[],[]⟩]) (.seq (.block 0 (.seq (.tidy 1 [0,1]) (.loop (.seq (.tidy 1 [0,1]) f68_L0)))) (.seq (.reg [⟨[(18,.lits 1 (.cons (.conv .u8 (.sl 1)) .nil))],[],[],some (some 19,.app 1 (.sl 0) (.sl 18)),[],5,[],[],[]⟩,⟨[],[(4,(.sl 19))],[],none,[],1,[],[],[]⟩]) (.seq (.tidy 1 [4]) .ret)))), [(.sl 4)],false⟩
theorem j4x:q1s Go.Proofs.Tryz.prog 68 1 2 f68=true:=by kernel_rfl
/- 'sloth/code.putName' -/
def f69:Fun:=⟨ (.seq (.reg [⟨[],[],[(.nilsl 1)],none,[0,1],1,[],[],[]⟩]) (.seq (.reg [⟨[],[],[],some (some 9,.calle 68 (.cons (.sl 0) (.cons (.conv .u64 (.len true (.sl 1))) .nil))),[1],5,[],[],[]⟩,⟨[],[],[],some (some 11,.app 1 (.sl 9) (.s2r (.sl 1))),[],2,[],[],[]⟩,⟨[],[(4,(.sl 11))],[],none,[],1,[],[],[]⟩]) (.seq (.tidy 1 [4]) .ret))), [(.sl 4)],false⟩
theorem j4w:q1s Go.Proofs.Tryz.prog 69 1 2 f69=true:=by kernel_rfl
/- 'sloth/code.putInstr' -/
def f70:Fun:=⟨ (.seq (.reg [⟨[(3,.box (.sl 1))],[],[(.nilsl 1)],none,[0,3],2,[],[],[]⟩]) (.seq (.reg [⟨[(5,.box (.agg (.cons (.str []) (.cons (.int .i64 0) (.cons (.int .i64 0) .nil)))))],[(12,(.ext 1 (.call 79 (.cons (.ld 1 false (.fa 0 (.sl 3))) .nil))))],[],some (none,.store 3 (.sl 5) (.ext 0 (.call 79 (.cons (.ld 1 false (.fa 0 (.sl 3))) .nil)))),[0,3,5],8,[],[],[]⟩,⟨[],[],[(.sl 12)],none,[0,3,5],1,[],[],[]⟩]) (.seq (.reg [⟨[],[],[],some (some 17,.calle 68 (.cons (.sl 0) (.cons (.conv .u64 (.ld 1 false (.fa 0 (.sl 3)))) .nil))),[3,5],5,[],[],[]⟩,⟨[],[(0,(.sl 17))],[],none,[3,5],1,[],[],[]⟩]) (.seq (.seq (.reg [⟨[],[(20,(.bin .eql (.ld 1 false (.fa 1 (.sl 5))) (.int .i64 3)))],[],none,[0,3,5],3,[],[],[]⟩]) (.cond (.sl 20) (.reg [⟨[],[],[],some (some 25,.calle 68 (.cons (.sl 0) (.cons (.call 100 (.cons (.ld 1 false (.fa 1 (.sl 3))) .nil)) .nil))),[3,5],5,[],[],[]⟩,⟨[],[(0,(.sl 25))],[],none,[3,5],1,[],[],[]⟩]) (.seq (.reg [⟨[],[(28,(.bin .neq (.ld 1 false (.fa 1 (.sl 5))) (.int .i64 0)))],[],none,[0,3,5],3,[],[],[]⟩]) (.cond (.sl 28) (.reg [⟨[],[],[],some (some 33,.calle 68 (.cons (.sl 0) (.cons (.conv .u64 (.ld 1 false (.fa 1 (.sl 3)))) .nil))),[3,5],5,[],[],[]⟩,⟨[],[(0,(.sl 33))],[],none,[3,5],1,[],[],[]⟩]) .skip)))) (.seq (.seq (.reg [⟨[],[(36,(.bin .neq (.ld 1 false (.fa 2 (.sl 5))) (.int .i64 0)))],[],none,[0,3],3,[],[],[]⟩]) (.cond (.sl 36) (.reg [⟨[],[],[],some (some 41,.calle 68 (.cons (.sl 0) (.cons (.conv .u64 (.ld 1 false (.fa 2 (.sl 3)))) .nil))),[],5,[],[],[]⟩,⟨[],[(0,(.sl 41))],[],none,[],1,[],[],[]⟩]) .skip)) (.seq (.reg [⟨[],[(4,(.sl 0))],[],none,[],2,[],[],[]⟩]) (.seq (.tidy 1 [4]) .ret))))))), [(.sl 4)],false⟩
theorem j4v:q1s Go.Proofs.Tryz.prog 70 1 2 f70=true:=by kernel_rfl
/- 'sloth/code.four' -/
def f71:Fun:=⟨ (.seq (.reg [⟨[],[],[(.nilsl 1)],none,[0],1,[],[],[]⟩]) (.seq (.reg [⟨[(14,.lits 1 (.cons (.conv .u8 (.sl 0)) (.cons (.conv .u8 (.sh false (.sl 0) (.int .u64 8))) (.cons (.conv .u8 (.sh false (.sl 0) (.int .u64 16))) (.cons (.conv .u8 (.sh false (.sl 0) (.int .u64 24))) .nil)))))],[(2,(.sl 14))],[],none,[],13,[],[],[]⟩]) (.seq (.tidy 0 [2]) .ret))), [(.sl 2)],false⟩
theorem j4u:q1s Go.Proofs.Tryz.prog 71 0 1 f71=true:=by kernel_rfl
/- 'sloth/code.sum' -/
def f72_L0:C:= (.seq (.reg [⟨[],[(18,(.bin .lss (.sl 17) (.int .i64 8)))],[],none,[3,7,8,9,17],1,[],[],[]⟩]) (.seq (.cond (.sl 18) .skip (.seq (.tidy 0 [3,7,8,9]) (.exit 2))) (.seq (.block 3 (.seq (.reg [⟨[],[(6,(.bin .and (.sl 3) (.int .u32 1)))],[],none,[3,7,8,9,17],3,[],[],[]⟩]) (.seq (.reg [⟨[],[(3,(.sh false (.sl 3) (.int .u64 1)))],[],none,[6,7,8,9,17],3,[],[],[]⟩]) (.seq (.reg [⟨[],[(24,(.bin .eql (.sl 6) (.int .u32 1)))],[],none,[3,7,8,9,17],2,[],[],[]⟩]) (.cond (.sl 24) (.reg [⟨[],[(3,(.bin .xor (.sl 3) (.int .u32 3988292384)))],[],none,[7,8,9,17],3,[],[],[]⟩]) .skip))))) (.reg [⟨[],[(17,(.bin .add (.sl 17) (.int .i64 1)))],[],none,[3,7,8,9],2,[],[],[]⟩]))))
def f72_L1:C:= (.seq (.reg [⟨[],[(10,(.bin .lss (.sl 9) (.sl 8)))],[],none,[3,7,8,9],1,[],[],[]⟩]) (.seq (.cond (.sl 10) .skip (.seq (.tidy 0 [3]) (.exit 0))) (.seq (.block 1 (.seq (.reg [⟨[],[(5,(.ld 1 false (.ia 1 (.sl 7) (.sl 9))))],[],none,[3,7,8,9],3,[],[],[]⟩]) (.seq (.reg [⟨[],[(3,(.bin .xor (.sl 3) (.conv .u32 (.sl 5))))],[],none,[7,8,9],5,[],[],[]⟩]) (.seq (.reg [⟨[],[(17,(.int .i64 0))],[],none,[3,7,8,9],1,[],[],[]⟩]) (.block 2 (.seq (.tidy 0 [3,7,8,9,17]) (.loop (.seq (.tidy 0 [3,7,8,9,17]) f72_L0)))))))) (.reg [⟨[],[(9,(.bin .add (.sl 9) (.int .i64 1)))],[],none,[3,7,8],2,[],[],[]⟩]))))
def f72:Fun:=⟨ (.seq (.reg [⟨[],[],[(.int .u32 0)],none,[0],1,[],[],[]⟩]) (.seq (.reg [⟨[],[(3,(.int .u32 4294967295))],[],none,[0],1,[],[],[]⟩]) (.seq (.seq (.reg [⟨[],[(7,(.sl 0)),(8,(.len false (.sl 0))),(9,(.int .i64 0))],[],none,[3],3,[],[],[]⟩]) (.block 0 (.seq (.tidy 0 [3,7,8,9]) (.loop (.seq (.tidy 0 [3,7,8,9]) f72_L1))))) (.seq (.reg [⟨[],[(2,(.un .xor (.sl 3)))],[],none,[],3,[],[],[]⟩]) (.seq (.tidy 0 [2]) .ret))))), [(.sl 2)],false⟩
theorem j4t:q1s Go.Proofs.Tryz.prog 72 0 1 f72=true:=by kernel_rfl
/- '(*sloth/code.loader).table' -/
def q99:C:= (.seq (.reg [⟨[],[(8,(.bin .lss (.sl 7) (.sl 6)))],[],none,[0,2,3,6,7],1,[],[],[]⟩]) (.seq (.cond (.sl 8) .skip (.seq (.keep [0,2,3]) (.exit 0))) (.seq (.block 1 (.regl [⟨[],[],[(.ld 1 false (.fa 0 (.sl 3)))],some (some 12,.calle 102 (.cons (.sl 0) .nil)),[0,2,3,6,7],5,[[],[0],[],[2],[],[2,3,4],[4,5,2,3],[3,2,5,4,6],[6,4,5,2,3,7,0,1],[8,7,6,5,4,3,2,1,0],[0,1,2,3,4,5,6,7,8,9]],[],[(.fa 0 (.sl 3)),(.ld 1 false (.fa 0 (.sl 3))),(.sl 0)]⟩,⟨[],[],[(.ld 1 false (.fa 0 (.sl 3)))],some (some 14,.calle 103 (.cons (.sl 0) .nil)),[0,2,3,6,7,12],1,[],[],[(.fa 0 (.sl 3)),(.ld 1 false (.fa 0 (.sl 3)))]⟩,⟨[(16,.lits 2 (.cons (.set 1 1 (.sl 14) (.set 0 1 (.sl 12) (.agg (.cons (.str []) (.cons (.int .i64 0) .nil))))) .nil))],[],[],some (some 17,.app 2 (.ld 1 false (.fa 0 (.sl 3))) (.sl 16)),[0,2,3,6,7],3,[],[],[]⟩,⟨[],[],[],some (none,.store 1 (.fa 0 (.sl 3)) (.sl 17)),[0,2,3,6,7],2,[],[],[]⟩])) (.reg [⟨[],[(7,(.bin .add (.sl 7) (.int .i64 1)))],[],none,[0,2,3,6],2,[],[],[]⟩]))))
def q98:C:= (.seq (.reg [⟨[],[(32,(.bin .lss (.sl 31) (.sl 30)))],[],none,[0,2,3,4,21,22,30,31],1,[],[],[]⟩]) (.seq (.cond (.sl 32) .skip (.seq (.keep [0,2,3,4,21,22]) (.exit 4))) (.seq (.block 5 (.regl [⟨[],[],[(.ld 1 false (.fa 2 (.sl 4)))],some (some 36,.calle 104 (.cons (.sl 0) .nil)),[0,2,3,4,21,22,30,31],4,[[],[0],[],[2],[2,3],[3,2,4,0,1],[5,4,3,2,1,0],[0,1,2,3,4,5,6]],[],[(.fa 2 (.sl 4)),(.ld 1 false (.fa 2 (.sl 4)))]⟩,⟨[(37,.lits 3 (.cons (.sl 36) .nil))],[],[],some (some 38,.app 3 (.ld 1 false (.fa 2 (.sl 4))) (.sl 37)),[0,2,3,4,21,22,30,31],2,[],[],[]⟩,⟨[],[],[],some (none,.store 1 (.fa 2 (.sl 4)) (.sl 38)),[0,2,3,4,21,22,30,31],2,[],[],[]⟩])) (.reg [⟨[],[(31,(.bin .add (.sl 31) (.int .i64 1)))],[],none,[0,2,3,4,21,22,30],2,[],[],[]⟩]))))
def f77_L2:C:= (.seq (.reg [⟨[],[(23,(.bin .lss (.sl 22) (.sl 21)))],[],none,[0,2,3,21,22],1,[],[],[]⟩]) (.seq (.cond (.sl 23) .skip (.seq (.keep [2,3]) (.exit 2))) (.seq (.block 3 (.seq (.reg [⟨[],[],[],some (some 25,.calle 102 (.cons (.sl 0) .nil)),[0,2,3,21,22],2,[],[],[]⟩,⟨[],[],[],some (some 27,.calle 103 (.cons (.sl 0) .nil)),[0,2,3,21,22,25],2,[],[],[]⟩,⟨[(4,.box (.agg (.cons (.str []) (.cons (.int .i64 0) (.cons (.nilsl 3) .nil)))))],[],[],some (none,.store 3 (.sl 4) (.set 1 1 (.sl 27) (.set 0 1 (.sl 25) (.agg (.cons (.str []) (.cons (.int .i64 0) (.cons (.nilsl 3) .nil))))))),[0,2,3,4,21,22],3,[],[],[]⟩]) (.seq (.seq (.seq (.ownc 4 2 3) (.reg [⟨[],[],[],some (some 30,.calle 101 (.cons (.sl 0) .nil)),[0,2,3,4,21,22],2,[],[],[]⟩,⟨[],[(31,(.int .i64 0))],[],none,[0,2,3,4,21,22,30],1,[],[],[]⟩])) (.block 4 (.seq (.keep [0,2,3,4,21,22,30,31]) (.loop (.seq (.keep [0,2,3,4,21,22,30,31]) q98))))) (.reg [⟨[(44,.lits 3 (.cons (.ld 3 true (.sl 4)) .nil))],[],[],some (some 45,.app 3 (.ld 1 false (.fa 1 (.sl 3))) (.sl 44)),[0,2,3,21,22],5,[],[],[]⟩,⟨[],[],[],some (none,.store 1 (.fa 1 (.sl 3)) (.sl 45)),[0,2,3,21,22],2,[],[],[]⟩])))) (.reg [⟨[],[(22,(.bin .add (.sl 22) (.int .i64 1)))],[],none,[0,2,3,21],2,[],[],[]⟩]))))
def f77:Fun:=⟨ (.seq (.reg [⟨[(2,.box (.agg (.cons (.nilsl 2) (.cons (.nilsl 3) .nil))))],[],[],none,[0,2],1,[],[],[]⟩]) (.seq (.reg [⟨[(3,.box (.agg (.cons (.nilsl 2) (.cons (.nilsl 3) .nil))))],[],[],none,[0,2,3],1,[],[],[]⟩]) (.seq (.seq (.seq (.ownc 3 0 2) (.seq (.ownc 3 1 3) (.reg [⟨[],[],[],some (some 6,.calle 101 (.cons (.sl 0) .nil)),[0,2,3],2,[],[],[]⟩,⟨[],[(7,(.int .i64 0))],[],none,[0,2,3,6],1,[],[],[]⟩]))) (.block 0 (.seq (.keep [0,2,3,6,7]) (.loop (.seq (.keep [0,2,3,6,7]) q99))))) (.seq (.seq (.reg [⟨[],[],[],some (some 21,.calle 101 (.cons (.sl 0) .nil)),[0,2,3],2,[],[],[]⟩,⟨[],[(22,(.int .i64 0))],[],none,[0,2,3,21],1,[],[],[]⟩]) (.block 2 (.seq (.keep [0,2,3,21,22]) (.loop (.seq (.keep [0,2,3,21,22]) f77_L2))))) (.seq (.reg [⟨[],[],[],some (none,.store 2 (.sl 2) (.ld 2 true (.sl 3))),[2],2,[],[],[]⟩]) (.seq (.keep [2]) .ret)))))), [(.ld 2 true (.sl 2))],false⟩
theorem j4s:q1s Go.Proofs.Tryz.prog 77 1 1 f77=true:=by kernel_rfl
/- 'strings.ReplaceAll' -/
def f88:Fun:=⟨ (.seq (.reg [⟨[],[],[(.str [])],none,[0,1,2],1,[],[],[]⟩]) (.seq (.reg [⟨[],[(6,(.call 106 (.cons (.sl 0) (.cons (.sl 1) (.cons (.sl 2) (.cons (.int .i64 (-1)) .nil))))))],[],none,[],5,[],[],[]⟩]) (.seq (.tidy 0 [6]) .ret))), [(.sl 6)],false⟩
/- 'sloth/code.piece' -/
def f90:Fun:=⟨ (.seq (.reg [⟨[(3,.box (.sl 0))],[],[(.str [])],none,[1,2,3],2,[],[],[]⟩]) (.seq (.seq (.reg [⟨[],[(7,(.sl 1))],[],none,[2,3],1,[],[],[]⟩]) (.block 0 (.seq (.reg [⟨[],[(8,(.bin .eql (.sl 7) (.int .i64 4)))],[],none,[2,3,7],2,[],[],[]⟩]) (.cond (.sl 8) (.seq (.reg [⟨[],[(6,(.call 48 (.cons (.ld 1 false (.fa 0 (.ia 3 (.ld 1 false (.fa 1 (.sl 3))) (.sl 2)))) .nil)))],[],none,[],8,[],[],[]⟩]) (.seq (.tidy 0 [6]) .ret)) (.seq (.reg [⟨[],[(17,(.bin .eql (.sl 7) (.int .i64 5)))],[],none,[2,3,7],2,[],[],[]⟩]) (.cond (.sl 17) (.seq (.reg [⟨[],[(6,(.call 48 (.cons (.ld 1 false (.fa 0 (.ia 2 (.ld 1 false (.fa 0 (.sl 3))) (.sl 2)))) .nil)))],[],none,[],8,[],[],[]⟩]) (.seq (.tidy 0 [6]) .ret)) (.seq (.reg [⟨[],[(26,(.bin .eql (.sl 7) (.int .i64 6)))],[],none,[2],2,[],[],[]⟩]) (.cond (.sl 26) (.seq (.reg [⟨[],[(6,(.ld 1 false (.ia 1 (.call 108 .nil) (.sl 2))))],[],none,[],5,[],[],[]⟩]) (.seq (.tidy 0 [6]) .ret)) .skip)))))))) (.seq (.reg [⟨[],[(6,(.call 49 (.cons (.sl 2) .nil)))],[],none,[],3,[],[],[]⟩]) (.seq (.tidy 0 [6]) .ret)))), [(.sl 6)],false⟩
/- '(*sloth/code.reader).word' -/
def j4n:C:= (.seq (.seq (.reg [⟨[],[(55,(.and (.and (.and (.bin .lss (.ld 1 false (.fa 1 (.fa 0 (.sl 0)))) (.len true (.ld 1 false (.fa 0 (.fa 0 (.sl 0)))))) (.bin .geq (.ix (.ld 1 false (.fa 0 (.fa 0 (.sl 0)))) (.ld 1 false (.fa 1 (.fa 0 (.sl 0))))) (.int .u8 33))) (.bin .leq (.ix (.ld 1 false (.fa 0 (.fa 0 (.sl 0)))) (.ld 1 false (.fa 1 (.fa 0 (.sl 0))))) (.int .u8 126))) (.bin .neq (.ix (.ld 1 false (.fa 0 (.fa 0 (.sl 0)))) (.ld 1 false (.fa 1 (.fa 0 (.sl 0))))) (.int .u8 34))))],[],none,[0,3],46,[[],[0],[0,1],[1,0,2],[],[4],[4,5],[5,4,6],[6,4,5,7],[7,5,4,6,8,2,0,1,3],[3,1,0,2,8,6,4,5,7,9],[9,7,5,4,6,8,2,0,1,3,10],[10,3,1,0,2,8,6,4,5,7,9,11],[11,9,7,5,4,6,8,2,0,1,3,10,12],[12,10,3,1,0,2,8,6,4,5,7,9,11,13],[9,7,5,4,6,8,2,0,1,3,10],[10,3,1,0,2,8,6,4,5,7,9,15],[15,9,7,5,4,6,8,2,0,1,3,10,16],[16,10,3,1,0,2,8,6,4,5,7,9,15,17],[17,15,16,18,13,11,9,7,5,4,6,8,2,0,1,3,10,12,14],[14,12,10,3,1,0,2,8,6,4,5,7,9,11,13,18,16,15,17,19],[19,17,15,16,18,13,11,12,14,20,9,7,5,4,6,8,2,0,1,3,10],[10,3,1,0,2,8,6,4,5,7,9,20,14,12,11,13,18,16,15,17,19,21],[21,19,17,15,16,18,13,11,12,14,20,9,7,5,4,6,8,2,0,1,3,10,22],[22,10,3,1,0,2,8,6,4,5,7,9,20,14,12,11,13,18,16,15,17,19,21,23],[23,21,19,17,15,16,18,13,11,12,14,20,9,7,5,4,6,8,2,0,1,3,10,22,24],[24,22,10,3,1,0,2,8,6,4,5,7,9,20,14,12,11,13,18,16,15,17,19,21,23,25],[21,19,17,15,16,18,13,11,12,14,20,9,7,5,4,6,8,2,0,1,3,10,22],[22,10,3,1,0,2,8,6,4,5,7,9,20,14,12,11,13,18,16,15,17,19,21,27],[27,21,19,17,15,16,18,13,11,12,14,20,9,7,5,4,6,8,2,0,1,3,10,22,28],[28,22,10,3,1,0,2,8,6,4,5,7,9,20,14,12,11,13,18,16,15,17,19,21,27,29],[29,27,28,30,25,23,21,19,17,15,16,18,13,11,12,14,20,9,7,5,4,6,8,2,0,1,3,10,22,24,26],[26,24,22,10,3,1,0,2,8,6,4,5,7,9,20,14,12,11,13,18,16,15,17,19,21,23,25,30,28,27,29,31],[31,29,27,28,30,25,23,24,26,32,21,19,17,15,16,18,13,11,12,14,20,9,7,5,4,6,8,2,0,1,3,10,22],[22,10,3,1,0,2,8,6,4,5,7,9,20,14,12,11,13,18,16,15,17,19,21,32,26,24,23,25,30,28,27,29,31,33],[33,31,29,27,28,30,25,23,24,26,32,21,19,17,15,16,18,13,11,12,14,20,9,7,5,4,6,8,2,0,1,3,10,22,34],[34,22,10,3,1,0,2,8,6,4,5,7,9,20,14,12,11,13,18,16,15,17,19,21,32,26,24,23,25,30,28,27,29,31,33,35],[35,33,31,29,27,28,30,25,23,24,26,32,21,19,17,15,16,18,13,11,12,14,20,9,7,5,4,6,8,2,0,1,3,10,22,34,36],[36,34,22,10,3,1,0,2,8,6,4,5,7,9,20,14,12,11,13,18,16,15,17,19,21,32,26,24,23,25,30,28,27,29,31,33,35,37],[33,31,29,27,28,30,25,23,24,26,32,21,19,17,15,16,18,13,11,12,14,20,9,7,5,4,6,8,2,0,1,3,10,22,34],[34,22,10,3,1,0,2,8,6,4,5,7,9,20,14,12,11,13,18,16,15,17,19,21,32,26,24,23,25,30,28,27,29,31,33,39],[39,33,31,29,27,28,30,25,23,24,26,32,21,19,17,15,16,18,13,11,12,14,20,9,7,5,4,6,8,2,0,1,3,10,22,34,40],[40,34,22,10,3,1,0,2,8,6,4,5,7,9,20,14,12,11,13,18,16,15,17,19,21,32,26,24,23,25,30,28,27,29,31,33,39,41],[41,39,40,42,37,35,33,31,29,27,28,30,25,23,24,26,32,21,19,17,15,16,18,13,11,12,14,20,9,7,5,4,6,8,2,0,1,3,10,22,34,36,38],[38,36,34,22,10,3,1,0,2,8,6,4,5,7,9,20,14,12,11,13,18,16,15,17,19,21,32,26,24,23,25,30,28,27,29,31,33,35,37,42,40,39,41,43],[43,41,39,40,42,37,35,36,38,44,33,31,29,27,28,30,25,23,24,26,32,21,19,17,15,16,18,13,11,12,14,20,9,7,5,4,6,8,2,0,1,3,10,22,34]],[],[]⟩]) (.cond (.sl 55) .skip (.seq (.keep [0,3]) (.exit 0)))) (.block 1 (.reg [⟨[],[],[],some (none,.store 1 (.fa 1 (.fa 0 (.sl 0))) (.bin .add (.ld 1 false (.fa 1 (.fa 0 (.sl 0)))) (.int .i64 1))),[0,3],8,[],[],[]⟩])))
def f96:Fun:=⟨ (.seq (.reg [⟨[],[],[(.str [])],none,[0],1,[],[],[]⟩]) (.seq (.reg [⟨[],[],[],some (some 5,.calle 109 (.cons (.sl 0) .nil)),[0],2,[],[],[]⟩]) (.seq (.reg [⟨[],[(3,(.ld 1 false (.fa 1 (.fa 0 (.sl 0)))))],[],none,[0],5,[],[],[]⟩]) (.seq (.block 0 (.seq (.keep [0,3]) (.loop (.seq (.keep [0,3]) j4n)))) (.seq (.seq (.reg [⟨[],[(80,(.and (.bin .eql (.ld 1 false (.fa 1 (.fa 0 (.sl 0)))) (.sl 3)) (.bin .lss (.ld 1 false (.fa 1 (.fa 0 (.sl 0)))) (.len true (.ld 1 false (.fa 0 (.fa 0 (.sl 0))))))))],[],none,[0,3],18,[[],[0],[0,1],[1,0,2],[],[4,2,0,1,3],[3,1,0,2,4,5],[5,4,2,0,1,3,6],[6,3,1,0,2,4,5,7],[7,5,4,2,0,1,3,6,8],[8,6,3,1,0,2,4,5,7,9],[5,4,2,0,1,3,6],[6,3,1,0,2,4,5,11],[11,5,4,2,0,1,3,6,12],[12,6,3,1,0,2,4,5,11,13],[13,11,5,4,2,0,1,3,6,12,14],[14,12,11,13,15,9,7,5,4,2,0,1,3,6,8,10],[10,8,7,9,15,13,11,12,14,16,5,4,2,0,1,3,6]],[],[]⟩]) (.cond (.sl 80) (.reg [⟨[],[],[],some (none,.panic (.mki 95 (.agg .nil))),[0,3],3,[],[],[]⟩]) .skip)) (.seq (.reg [⟨[],[(2,(.cut true true true false 0 (.ld 1 false (.fa 0 (.fa 0 (.sl 0)))) (.sl 3) (.ld 1 false (.fa 1 (.fa 0 (.sl 0)))) .nil))],[],none,[],11,[[],[0],[0,1],[1,0,2],[],[],[5],[5,6],[6,5,7],[7,5,6,8,4,2,0,1,3],[3,1,0,2,4,8,6,5,7,9]],[],[]⟩]) (.seq (.keep [2]) .ret))))))), [(.sl 2)],false⟩
/- '(*sloth/code.reader).name' -/
def j4m:C:= (.seq (.seq (.reg [⟨[],[(58,(.and (.bin .lss (.ld 1 false (.fa 1 (.fa 0 (.sl 0)))) (.len true (.ld 1 false (.fa 0 (.fa 0 (.sl 0)))))) (.bin .neq (.ix (.ld 1 false (.fa 0 (.fa 0 (.sl 0)))) (.ld 1 false (.fa 1 (.fa 0 (.sl 0))))) (.int .u8 34))))],[],none,[0,3],22,[[],[0],[0,1],[1,0,2],[],[4],[4,5],[5,4,6],[6,4,5,7],[7,5,4,6,8,2,0,1,3],[3,1,0,2,8,6,4,5,7,9],[9,7,5,4,6,8,2,0,1,3,10],[10,3,1,0,2,8,6,4,5,7,9,11],[11,9,7,5,4,6,8,2,0,1,3,10,12],[12,10,3,1,0,2,8,6,4,5,7,9,11,13],[9,7,5,4,6,8,2,0,1,3,10],[10,3,1,0,2,8,6,4,5,7,9,15],[15,9,7,5,4,6,8,2,0,1,3,10,16],[16,10,3,1,0,2,8,6,4,5,7,9,15,17],[17,15,16,18,13,11,9,7,5,4,6,8,2,0,1,3,10,12,14],[14,12,10,3,1,0,2,8,6,4,5,7,9,11,13,18,16,15,17,19],[19,17,15,16,18,13,11,12,14,20,9,7,5,4,6,8,2,0,1,3,10]],[],[]⟩]) (.cond (.sl 58) .skip (.seq (.keep [0,3]) (.exit 0)))) (.seq (.block 1 (.seq (.seq (.reg [⟨[],[(75,(.bin .eql (.ix (.ld 1 false (.fa 0 (.fa 0 (.sl 0)))) (.ld 1 false (.fa 1 (.fa 0 (.sl 0))))) (.int .u8 92)))],[],none,[0,3],10,[[],[0],[0,1],[1,0,2],[],[4],[4,5],[5,4,6],[6,4,5,7,2,0,1,3],[3,1,0,2,7,5,4,6,8]],[],[]⟩]) (.cond (.sl 75) (.seq (.reg [⟨[],[],[],some (none,.store 1 (.fa 1 (.fa 0 (.sl 0))) (.bin .add (.ld 1 false (.fa 1 (.fa 0 (.sl 0)))) (.int .i64 1))),[0,3],8,[],[],[]⟩]) (.seq (.reg [⟨[],[(116,(.or (.bin .eql (.ld 1 false (.fa 1 (.fa 0 (.sl 0)))) (.len true (.ld 1 false (.fa 0 (.fa 0 (.sl 0)))))) (.and (.bin .neq (.ix (.ld 1 false (.fa 0 (.fa 0 (.sl 0)))) (.ld 1 false (.fa 1 (.fa 0 (.sl 0))))) (.int .u8 34)) (.bin .neq (.ix (.ld 1 false (.fa 0 (.fa 0 (.sl 0)))) (.ld 1 false (.fa 1 (.fa 0 (.sl 0))))) (.int .u8 92)))))],[],none,[0,3],34,[[],[0],[0,1],[1,0,2],[],[4],[4,5],[5,4,6],[6,4,5,7],[7,5,4,6,8,2,0,1,3],[3,1,0,2,8,6,4,5,7,9],[9,7,5,4,6,8,2,0,1,3,10],[10,3,1,0,2,8,6,4,5,7,9,11],[11,9,7,5,4,6,8,2,0,1,3,10,12],[12,10,3,1,0,2,8,6,4,5,7,9,11,13],[9,7,5,4,6,8,2,0,1,3,10],[10,3,1,0,2,8,6,4,5,7,9,15],[15,9,7,5,4,6,8,2,0,1,3,10,16],[16,10,3,1,0,2,8,6,4,5,7,9,15,17],[17,15,16,18,13,11,9,7,5,4,6,8,2,0,1,3,10,12,14],[14,12,10,3,1,0,2,8,6,4,5,7,9,11,13,18,16,15,17,19],[19,17,15,16,18,13,11,9,7,5,4,6,8,2,0,1,3,10,12,14,20],[20,14,12,10,3,1,0,2,8,6,4,5,7,9,11,13,18,16,15,17,19,21],[21,19,17,15,16,18,13,11,9,7,5,4,6,8,2,0,1,3,10,12,14,20,22],[22,20,14,12,10,3,1,0,2,8,6,4,5,7,9,11,13,18,16,15,17,19,21,23],[23,21,19,17,15,16,18,13,11,9,7,5,4,6,8,2,0,1,3,10,12,14,20,22,24],[20,14,12,10,3,1,0,2,8,6,4,5,7,9,11,13,18,16,15,17,19,21],[21,19,17,15,16,18,13,11,9,7,5,4,6,8,2,0,1,3,10,12,14,20,26],[26,20,14,12,10,3,1,0,2,8,6,4,5,7,9,11,13,18,16,15,17,19,21,27],[27,21,19,17,15,16,18,13,11,9,7,5,4,6,8,2,0,1,3,10,12,14,20,26,28],[28,26,27,29,24,22,20,14,12,10,3,1,0,2,8,6,4,5,7,9,11,13,18,16,15,17,19,21,23,25],[25,23,21,19,17,15,16,18,13,11,9,7,5,4,6,8,2,0,1,3,10,12,14,20,22,24,29,27,26,28,30],[30,28,26,27,29,24,22,23,25,31,20,14,12,10,3,1,0,2,8,6,4,5,7,9,11,13,18,16,15,17,19,21],[21,19,17,15,16,18,13,11,12,14,20,31,25,23,22,24,29,27,26,28,30,32,9,7,5,4,6,8,2,0,1,3,10]],[],[]⟩]) (.cond (.sl 116) (.reg [⟨[],[],[],some (none,.panic (.mki 95 (.agg .nil))),[0,3],3,[],[],[]⟩]) .skip))) .skip)) (.reg [⟨[],[],[],some (some 128,.calle 110 (.cons (.sl 3) (.cons (.ix (.ld 1 false (.fa 0 (.fa 0 (.sl 0)))) (.ld 1 false (.fa 1 (.fa 0 (.sl 0))))) .nil))),[0,3],10,[[],[0],[0,1],[1,0,2],[],[4],[4,5],[5,4,6],[6,4,5,7,2,0,1,3],[3,1,0,2,7,5,4,6,8]],[],[]⟩]))) (.reg [⟨[],[],[],some (none,.store 1 (.fa 1 (.fa 0 (.sl 0))) (.bin .add (.ld 1 false (.fa 1 (.fa 0 (.sl 0)))) (.int .i64 1))),[0,3],8,[],[],[]⟩])))
def f97:Fun:=⟨ (.seq (.reg [⟨[],[],[(.str [])],none,[0],1,[],[],[]⟩]) (.seq (.reg [⟨[],[],[],some (some 5,.calle 109 (.cons (.sl 0) .nil)),[0],2,[],[],[]⟩]) (.seq (.reg [⟨[(3,.bld 78 5)],[],[],none,[0,3],1,[],[],[]⟩]) (.seq (.seq (.reg [⟨[],[(27,(.or (.bin .eql (.ld 1 false (.fa 1 (.fa 0 (.sl 0)))) (.len true (.ld 1 false (.fa 0 (.fa 0 (.sl 0)))))) (.bin .neq (.ix (.ld 1 false (.fa 0 (.fa 0 (.sl 0)))) (.ld 1 false (.fa 1 (.fa 0 (.sl 0))))) (.int .u8 34))))],[],none,[0,3],22,[[],[0],[0,1],[1,0,2],[],[4],[4,5],[5,4,6],[6,4,5,7],[7,5,4,6,8,2,0,1,3],[3,1,0,2,8,6,4,5,7,9],[9,7,5,4,6,8,2,0,1,3,10],[10,3,1,0,2,8,6,4,5,7,9,11],[11,9,7,5,4,6,8,2,0,1,3,10,12],[12,10,3,1,0,2,8,6,4,5,7,9,11,13],[9,7,5,4,6,8,2,0,1,3,10],[10,3,1,0,2,8,6,4,5,7,9,15],[15,9,7,5,4,6,8,2,0,1,3,10,16],[16,10,3,1,0,2,8,6,4,5,7,9,15,17],[17,15,16,18,13,11,9,7,5,4,6,8,2,0,1,3,10,12,14],[14,12,10,3,1,0,2,8,6,4,5,7,9,11,13,18,16,15,17,19],[19,17,15,16,18,13,11,12,14,20,9,7,5,4,6,8,2,0,1,3,10]],[],[]⟩]) (.cond (.sl 27) (.reg [⟨[],[],[],some (none,.panic (.mki 95 (.agg .nil))),[0,3],3,[],[],[]⟩]) .skip)) (.seq (.seq (.reg [⟨[],[],[],some (none,.store 1 (.fa 1 (.fa 0 (.sl 0))) (.bin .add (.ld 1 false (.fa 1 (.fa 0 (.sl 0)))) (.int .i64 1))),[0,3],8,[],[],[]⟩]) (.block 0 (.seq (.keep [0,3]) (.loop (.seq (.keep [0,3]) j4m))))) (.seq (.seq (.reg [⟨[],[(139,(.bin .eql (.ld 1 false (.fa 1 (.fa 0 (.sl 0)))) (.len true (.ld 1 false (.fa 0 (.fa 0 (.sl 0)))))))],[],some (some 140,.calle 52 (.cons (.sl 3) .nil)),[0,3],12,[[],[0],[0,1],[1,0,2],[],[4],[4,5],[5,4,6],[6,4,5,7],[7,5,4,6,8,2,0,1,3],[3,1,0,2,8,6,4,5,7,9],[9,7,5,4,6,8,2,0,1,3,10],[10,3,1,0,2,8,6,4,5,7,9,11],[11,9,7,5,4,6,8,2,0,1,3,10,12],[12,11,13,9,7,5,4,6,8,2,0,1,3,10]],[((.bin .eql (.ld 1 false (.fa 1 (.fa 0 (.sl 0)))) (.len true (.ld 1 false (.fa 0 (.fa 0 (.sl 0)))))),false)],[]⟩,⟨[],[(143,(.or (.sl 139) (.un .not (.call 35 (.cons (.sl 140) .nil)))))],[],none,[0,3],3,[],[],[]⟩]) (.cond (.sl 143) (.reg [⟨[],[],[],some (none,.panic (.mki 95 (.agg .nil))),[0,3],3,[],[],[]⟩]) .skip)) (.seq (.reg [⟨[],[],[],some (none,.store 1 (.fa 1 (.fa 0 (.sl 0))) (.bin .add (.ld 1 false (.fa 1 (.fa 0 (.sl 0)))) (.int .i64 1))),[3],8,[],[],[]⟩]) (.seq (.reg [⟨[],[],[],some (some 153,.calle 52 (.cons (.sl 3) .nil)),[],1,[],[],[]⟩,⟨[],[(2,(.sl 153))],[],none,[],1,[],[],[]⟩]) (.seq (.keep [2]) .ret))))))))), [(.sl 2)],false⟩
/- '(*sloth/code.reader).number' -/
def f98:Fun:=⟨ (.seq (.reg [⟨[],[],[(.int .i64 0)],none,[0],1,[],[],[]⟩]) (.seq (.reg [⟨[],[],[],some (some 7,.calle 96 (.cons (.sl 0) .nil)),[],2,[],[],[]⟩,⟨[],[(3,(.sl 7))],[],none,[],1,[],[],[]⟩]) (.seq (.reg [⟨[],[(4,(.ext 0 (.call 111 (.cons (.sl 3) .nil)))),(5,(.ext 1 (.call 111 (.cons (.sl 3) .nil))))],[],none,[3],7,[],[],[]⟩]) (.seq (.seq (.reg [⟨[],[(28,(.or (.or (.or (.eqs true false [5] (.sl 5) .nilif) (.bin .neq (.call 49 (.cons (.sl 4) .nil)) (.sl 3))) (.bin .lss (.sl 4) (.int .i64 (-4611686018427387904)))) (.bin .gtr (.sl 4) (.int .i64 4611686018427387903))))],[],none,[4],16,[],[],[]⟩]) (.cond (.sl 28) (.reg [⟨[],[],[],some (none,.panic (.mki 95 (.agg .nil))),[4],3,[],[],[]⟩]) .skip)) (.seq (.reg [⟨[],[(2,(.sl 4))],[],none,[],2,[],[],[]⟩]) (.seq (.keep [2]) .ret)))))), [(.sl 2)],false⟩
/- '(*sloth/code.reader).instr' -/
def j4l:C:= (.seq (.block 1 (.seq (.reg [⟨[(10,.box (.agg (.cons (.str []) (.cons (.int .i64 0) (.cons (.int .i64 0) .nil)))))],[(19,(.ext 1 (.call 79 (.cons (.sl 9) .nil))))],[],some (none,.store 3 (.sl 10) (.ext 0 (.call 79 (.cons (.sl 9) .nil)))),[0,1,2,3,8,9,10],7,[],[],[]⟩,⟨[],[(11,(.sl 19))],[],none,[0,1,2,3,8,9,10],1,[],[],[]⟩]) (.seq (.seq (.reg [⟨[],[(21,(.un .not (.sl 11)))],[],none,[0,1,2,3,8,9,10],2,[],[],[]⟩]) (.cond (.sl 21) (.reg [⟨[],[],[],some (none,.panic (.mki 95 (.agg .nil))),[0,1,2,3,8,9,10],3,[],[],[]⟩]) .skip)) (.seq (.seq (.reg [⟨[],[(27,(.bin .neq (.ld 1 false (.fa 0 (.sl 10))) (.sl 1)))],[],none,[0,1,2,3,8,9,10],4,[],[],[]⟩]) (.cond (.sl 27) (.seq (.keep [0,1,2,3,8,9]) (.exit 1)) .skip)) (.seq (.reg [⟨[(12,.box (.agg (.cons (.int .i64 0) (.cons (.int .i64 0) (.cons (.int .i64 0) .nil)))))],[],[],some (none,.store 3 (.sl 12) (.set 0 1 (.sl 9) (.agg (.cons (.int .i64 0) (.cons (.int .i64 0) (.cons (.int .i64 0) .nil)))))),[0,2,3,8,10,12],4,[],[],[]⟩]) (.seq (.seq (.reg [⟨[],[(32,(.bin .neq (.ld 1 false (.fa 1 (.sl 10))) (.int .i64 0)))],[],none,[0,2,3,8,10,12],3,[],[],[]⟩]) (.cond (.sl 32) (.reg [⟨[],[],[],some (some 38,.calle 112 (.cons (.sl 0) (.cons (.ld 1 false (.fa 1 (.sl 10))) (.cons (.sl 2) (.cons (.sl 3) .nil))))),[0,8,10,12],6,[],[],[]⟩,⟨[],[],[],some (none,.store 1 (.fa 1 (.sl 12)) (.sl 38)),[0,8,10,12],2,[],[],[]⟩]) .skip)) (.seq (.seq (.reg [⟨[],[(42,(.bin .neq (.ld 1 false (.fa 2 (.sl 10))) (.int .i64 0)))],[],none,[0,8,12],3,[],[],[]⟩]) (.cond (.sl 42) (.reg [⟨[],[],[],some (some 44,.calle 98 (.cons (.sl 0) .nil)),[8,12],2,[],[],[]⟩,⟨[],[],[],some (none,.store 1 (.fa 2 (.sl 12)) (.sl 44)),[8,12],2,[],[],[]⟩]) .skip)) (.seq (.reg [⟨[],[],[],some (none,.store 3 (.sl 8) (.ld 3 true (.sl 12))),[8],2,[],[],[]⟩]) (.seq (.keep [8]) .ret))))))))) (.reg [⟨[],[(9,(.bin .add (.sl 9) (.int .i64 1)))],[],none,[0,1,2,3,8],3,[],[],[]⟩]))
def f99:Fun:=⟨ (.seq (.reg [⟨[(8,.box (.agg (.cons (.int .i64 0) (.cons (.int .i64 0) (.cons (.int .i64 0) .nil)))))],[],[],none,[0,1,2,3,8],1,[],[],[]⟩]) (.seq (.reg [⟨[],[(9,(.int .i64 1))],[],none,[0,1,2,3,8],1,[],[],[]⟩]) (.block 0 (.seq (.keep [0,1,2,3,8,9]) (.loop (.seq (.keep [0,1,2,3,8,9]) j4l)))))), [(.ld 3 true (.sl 8))],false⟩
/- 'sloth/code.folded' -/
def f100:Fun:=⟨ (.seq (.reg [⟨[],[],[(.int .u64 0)],none,[0],1,[],[],[]⟩]) (.seq (.seq (.reg [⟨[],[(4,(.bin .lss (.sl 0) (.int .i64 0)))],[],none,[0],2,[],[],[]⟩]) (.cond (.sl 4) (.seq (.reg [⟨[],[(2,(.bin .add (.bin .mul (.int .u64 2) (.conv .u64 (.un .neg (.bin .add (.sl 0) (.int .i64 1))))) (.int .u64 1)))],[],none,[],7,[],[],[]⟩]) (.seq (.tidy 0 [2]) .ret)) .skip)) (.seq (.reg [⟨[],[(2,(.bin .mul (.int .u64 2) (.conv .u64 (.sl 0))))],[],none,[],4,[],[],[]⟩]) (.seq (.tidy 0 [2]) .ret)))), [(.sl 2)],false⟩
theorem j22:q1s Go.Proofs.Tryz.prog 100 0 1 f100=true:=by kernel_rfl
/- '(*sloth/code.loader).count' -/
def f101:Fun:=⟨ (.seq (.reg [⟨[],[],[(.int .i64 0)],none,[0],1,[],[],[]⟩]) (.seq (.reg [⟨[],[],[],some (some 5,.calle 103 (.cons (.sl 0) .nil)),[0],2,[],[],[]⟩,⟨[],[(3,(.sl 5))],[],none,[0],1,[],[],[]⟩]) (.seq (.seq (.reg [⟨[],[(12,(.bin .gtr (.sl 3) (.len false (.ld 1 false (.fa 0 (.fa 0 (.sl 0)))))))],[],none,[3],7,[],[],[]⟩]) (.cond (.sl 12) (.reg [⟨[],[],[],some (none,.panic (.mki 95 (.agg .nil))),[3],3,[],[],[]⟩]) .skip)) (.seq (.reg [⟨[],[(2,(.sl 3))],[],none,[],2,[],[],[]⟩]) (.seq (.tidy 1 [2]) .ret))))), [(.sl 2)],false⟩
theorem j21:q1s Go.Proofs.Tryz.prog 101 1 1 f101=true:=by kernel_rfl
/- '(*sloth/code.loader).name' -/
def f102:Fun:=⟨ (.seq (.reg [⟨[],[],[(.str [])],none,[0],1,[],[],[]⟩]) (.seq (.reg [⟨[],[],[],some (some 6,.calle 101 (.cons (.sl 0) .nil)),[0],2,[],[],[]⟩,⟨[],[(3,(.sl 6))],[],none,[0],1,[],[],[]⟩]) (.seq (.reg [⟨[],[(4,(.b2s (.cut false false true false 1 (.ld 1 false (.fa 0 (.fa 0 (.sl 0)))) .nil (.sl 3) .nil)))],[],none,[0,3],8,[],[],[]⟩]) (.seq (.reg [⟨[],[],[],some (none,.store 1 (.fa 0 (.fa 0 (.sl 0))) (.cut false true false false 1 (.ld 1 false (.fa 0 (.fa 0 (.sl 0)))) (.sl 3) .nil .nil)),[4],10,[],[],[]⟩]) (.seq (.reg [⟨[],[(2,(.sl 4))],[],none,[],2,[],[],[]⟩]) (.seq (.tidy 1 [2]) .ret)))))), [(.sl 2)],false⟩
theorem j20:q1s Go.Proofs.Tryz.prog 102 1 1 f102=true:=by kernel_rfl
/- '(*sloth/code.loader).number' -/
def f103:Fun:=⟨ (.seq (.reg [⟨[],[],[(.int .i64 0)],none,[0],1,[],[],[]⟩]) (.seq (.reg [⟨[],[],[],some (some 5,.calle 113 (.cons (.sl 0) .nil)),[],2,[],[],[]⟩,⟨[],[(3,(.sl 5))],[],none,[],1,[],[],[]⟩]) (.seq (.seq (.reg [⟨[],[(7,(.bin .gtr (.sl 3) (.int .u64 9223372036854775807)))],[],none,[3],2,[],[],[]⟩]) (.cond (.sl 7) (.reg [⟨[],[],[],some (none,.panic (.mki 95 (.agg .nil))),[3],3,[],[],[]⟩]) .skip)) (.seq (.reg [⟨[],[(2,(.conv .i64 (.sl 3)))],[],none,[],3,[],[],[]⟩]) (.seq (.tidy 1 [2]) .ret))))), [(.sl 2)],false⟩
theorem j2Z:q1s Go.Proofs.Tryz.prog 103 1 1 f103=true:=by kernel_rfl
/- '(*sloth/code.loader).instr' -/
def f104:Fun:=⟨ (.seq (.reg [⟨[(2,.box (.agg (.cons (.int .i64 0) (.cons (.int .i64 0) (.cons (.int .i64 0) .nil)))))],[],[],none,[0,2],1,[],[],[]⟩]) (.seq (.reg [⟨[],[],[],some (some 7,.calle 103 (.cons (.sl 0) .nil)),[0,2],2,[],[],[]⟩,⟨[(3,.box (.agg (.cons (.int .i64 0) (.cons (.int .i64 0) (.cons (.int .i64 0) .nil)))))],[],[],some (none,.store 3 (.sl 3) (.set 0 1 (.sl 7) (.agg (.cons (.int .i64 0) (.cons (.int .i64 0) (.cons (.int .i64 0) .nil)))))),[0,2,3],3,[],[],[]⟩]) (.seq (.reg [⟨[(4,.box (.agg (.cons (.str []) (.cons (.int .i64 0) (.cons (.int .i64 0) .nil)))))],[(14,(.ext 1 (.call 79 (.cons (.ld 1 false (.fa 0 (.sl 3))) .nil))))],[],some (none,.store 3 (.sl 4) (.ext 0 (.call 79 (.cons (.ld 1 false (.fa 0 (.sl 3))) .nil)))),[0,2,3,4],8,[],[],[]⟩,⟨[],[(5,(.sl 14))],[],none,[0,2,3,4],1,[],[],[]⟩]) (.seq (.block 0 (.seq (.reg [⟨[],[(15,(.un .not (.sl 5)))],[],none,[0,2,3,4],3,[],[],[]⟩]) (.cond (.sl 15) (.reg [⟨[],[],[],some (none,.panic (.mki 95 (.agg .nil))),[0,2,3,4],3,[],[],[]⟩]) (.seq (.reg [⟨[],[(20,(.bin .eql (.ld 1 false (.fa 1 (.sl 4))) (.int .i64 3)))],[],none,[0,2,3,4],4,[],[],[]⟩]) (.cond (.sl 20) (.reg [⟨[],[],[],some (some 25,.calle 114 (.cons (.sl 0) .nil)),[0,2,3,4],2,[],[],[]⟩,⟨[],[],[],some (none,.store 1 (.fa 1 (.sl 3)) (.sl 25)),[0,2,3,4],2,[],[],[]⟩]) (.seq (.reg [⟨[],[(27,(.bin .neq (.ld 1 false (.fa 1 (.sl 4))) (.int .i64 0)))],[],none,[0,2,3,4],4,[],[],[]⟩]) (.cond (.sl 27) (.reg [⟨[],[],[],some (some 32,.calle 103 (.cons (.sl 0) .nil)),[0,2,3,4],2,[],[],[]⟩,⟨[],[],[],some (none,.store 1 (.fa 1 (.sl 3)) (.sl 32)),[0,2,3,4],2,[],[],[]⟩]) .skip))))))) (.seq (.seq (.reg [⟨[],[(36,(.bin .neq (.ld 1 false (.fa 2 (.sl 4))) (.int .i64 0)))],[],none,[0,2,3],3,[],[],[]⟩]) (.cond (.sl 36) (.reg [⟨[],[],[],some (some 38,.calle 103 (.cons (.sl 0) .nil)),[2,3],2,[],[],[]⟩,⟨[],[],[],some (none,.store 1 (.fa 2 (.sl 3)) (.sl 38)),[2,3],2,[],[],[]⟩]) .skip)) (.seq (.reg [⟨[],[],[],some (none,.store 3 (.sl 2) (.ld 3 true (.sl 3))),[2],2,[],[],[]⟩]) (.seq (.tidy 1 [2]) .ret))))))), [(.ld 3 true (.sl 2))],false⟩
theorem j2Y:q1s Go.Proofs.Tryz.prog 104 1 1 f104=true:=by kernel_rfl
/- 'strings.Replace' -/
def j2X:C:= (.seq (.reg [⟨[],[(54,(.bin .lss (.sl 53) (.sl 52)))],[],none,[0,1,2,10,11,52,53],1,[],[],[]⟩]) (.seq (.cond (.sl 54) .skip (.seq (.tidy 0 [0,10,11]) (.exit 0))) (.seq (.block 1 (.seq (.reg [⟨[],[(12,(.bin .add (.sl 11) (.call 117 (.cons (.cut true true false false 0 (.sl 0) (.sl 11) .nil .nil) (.cons (.sl 1) .nil)))))],[],none,[0,1,2,10,11,52,53],8,[],[],[]⟩]) (.seq (.reg [⟨[],[],[],some (some 66,.calle 47 (.cons (.sl 10) (.cons (.cut true true true false 0 (.sl 0) (.sl 11) (.sl 12) .nil) .nil))),[0,1,2,10,12,52,53],5,[],[],[]⟩]) (.seq (.reg [⟨[],[],[],some (some 68,.calle 47 (.cons (.sl 10) (.cons (.sl 2) .nil))),[0,1,2,10,12,52,53],2,[],[],[]⟩]) (.reg [⟨[],[(11,(.bin .add (.sl 12) (.len true (.sl 1))))],[],none,[0,1,2,10,52,53],5,[],[],[]⟩]))))) (.reg [⟨[],[(53,(.bin .add (.sl 53) (.int .i64 1)))],[],none,[0,1,2,10,11,52],2,[],[],[]⟩]))))
def j2W:C:= (.seq (.reg [⟨[],[(79,(.bin .lss (.sl 78) (.sl 77)))],[],none,[0,2,10,11,77,78],1,[],[],[]⟩]) (.seq (.cond (.sl 79) .skip (.seq (.tidy 0 [0,10,11]) (.exit 2))) (.seq (.block 3 (.seq (.reg [⟨[],[(14,(.ext 1 (.call 118 (.cons (.cut true true false false 0 (.sl 0) (.sl 11) .nil .nil) .nil))))],[(.ext 0 (.call 118 (.cons (.cut true true false false 0 (.sl 0) (.sl 11) .nil .nil) .nil)))],none,[0,2,10,11,77,78],9,[],[],[]⟩]) (.seq (.reg [⟨[],[(15,(.bin .add (.sl 11) (.sl 14)))],[],none,[0,2,10,11,77,78],4,[],[],[]⟩]) (.seq (.reg [⟨[],[],[],some (some 94,.calle 47 (.cons (.sl 10) (.cons (.cut true true true false 0 (.sl 0) (.sl 11) (.sl 15) .nil) .nil))),[0,2,10,15,77,78],5,[],[],[]⟩]) (.seq (.reg [⟨[],[],[],some (some 96,.calle 47 (.cons (.sl 10) (.cons (.sl 2) .nil))),[0,2,10,15,77,78],2,[],[],[]⟩]) (.reg [⟨[],[(11,(.sl 15))],[],none,[0,2,10,77,78],2,[],[],[]⟩])))))) (.reg [⟨[],[(78,(.bin .add (.sl 78) (.int .i64 1)))],[],none,[0,2,10,11,77],2,[],[],[]⟩]))))
def f106:Fun:=⟨ (.seq (.reg [⟨[],[],[(.str [])],none,[0,1,2,3],1,[],[],[]⟩]) (.seq (.seq (.reg [⟨[],[(22,(.or (.bin .eql (.sl 1) (.sl 2)) (.bin .eql (.sl 3) (.int .i64 0))))],[],none,[0,1,2,3],7,[],[],[]⟩]) (.cond (.sl 22) (.seq (.reg [⟨[],[(8,(.sl 0))],[],none,[],2,[],[],[]⟩]) (.seq (.tidy 0 [8]) .ret)) .skip)) (.seq (.seq (.reg [⟨[],[(9,(.call 115 (.cons (.sl 0) (.cons (.sl 1) .nil))))],[],none,[0,1,2,3],4,[],[],[]⟩]) (.seq (.reg [⟨[],[(28,(.bin .eql (.sl 9) (.int .i64 0)))],[],none,[0,1,2,3,9],2,[],[],[]⟩]) (.cond (.sl 28) (.seq (.reg [⟨[],[(8,(.sl 0))],[],none,[],2,[],[],[]⟩]) (.seq (.tidy 0 [8]) .ret)) (.seq (.reg [⟨[],[(36,(.or (.bin .lss (.sl 3) (.int .i64 0)) (.bin .lss (.sl 9) (.sl 3))))],[],none,[0,1,2,3,9],7,[],[],[]⟩]) (.cond (.sl 36) (.reg [⟨[],[(3,(.sl 9))],[],none,[0,1,2],2,[],[],[]⟩]) .skip))))) (.seq (.reg [⟨[(10,.bld 78 5)],[],[],none,[0,1,2,3,10],1,[],[],[]⟩]) (.seq (.reg [⟨[],[],[(.call 116 (.cons (.sl 10) (.cons (.bin .add (.len true (.sl 0)) (.bin .mul (.sl 3) (.bin .sub (.len true (.sl 2)) (.len true (.sl 1))))) .nil)))],none,[0,1,2,3,10],11,[],[],[]⟩]) (.seq (.reg [⟨[],[(11,(.int .i64 0))],[],none,[0,1,2,3,10],1,[],[],[]⟩]) (.seq (.seq (.reg [⟨[],[(51,(.bin .gtr (.len true (.sl 1)) (.int .i64 0)))],[],none,[0,1,2,3,10,11],3,[],[],[]⟩]) (.cond (.sl 51) (.seq (.reg [⟨[],[(52,(.sl 3)),(53,(.int .i64 0))],[],none,[0,1,2,10,11],2,[],[],[]⟩]) (.block 0 (.seq (.tidy 0 [0,1,2,10,11,52,53]) (.loop (.seq (.tidy 0 [0,1,2,10,11,52,53]) j2X))))) (.seq (.reg [⟨[],[],[],some (some 75,.calle 47 (.cons (.sl 10) (.cons (.sl 2) .nil))),[0,2,3,10,11],2,[],[],[]⟩]) (.seq (.reg [⟨[],[(77,(.bin .sub (.sl 3) (.int .i64 1))),(78,(.int .i64 0))],[],none,[0,2,10,11],3,[],[],[]⟩]) (.block 2 (.seq (.tidy 0 [0,2,10,11,77,78]) (.loop (.seq (.tidy 0 [0,2,10,11,77,78]) j2W)))))))) (.seq (.reg [⟨[],[],[],some (some 102,.calle 47 (.cons (.sl 10) (.cons (.cut true true false false 0 (.sl 0) (.sl 11) .nil .nil) .nil))),[10],4,[],[],[]⟩]) (.seq (.reg [⟨[],[],[],some (some 103,.calle 52 (.cons (.sl 10) .nil)),[],1,[],[],[]⟩,⟨[],[(8,(.sl 103))],[],none,[],1,[],[],[]⟩]) (.seq (.tidy 0 [8]) .ret)))))))))), [(.sl 8)],false⟩
/- 'sloth/code.operators' -/
def f108:Fun:=⟨ (.seq (.reg [⟨[],[],[(.nilsl 1)],none,[],1,[],[],[]⟩]) (.seq (.reg [⟨[(1,.lits 1 (.cons (.str []) (.cons (.str [43]) (.cons (.str [45]) (.cons (.str [42]) (.cons (.str [47]) (.cons (.str [37]) (.cons (.str [61,61]) (.cons (.str [47,61]) (.cons (.str [60]) (.cons (.str [60,61]) (.cons (.str [62]) (.cons (.str [62,61]) .nil)))))))))))))],[(0,(.sl 1))],[],none,[],2,[],[],[]⟩]) (.seq (.tidy 0 [0]) .ret))), [(.sl 0)],false⟩
/- '(*sloth/code.reader).blanks' -/
def j2V:C:= (.seq (.seq (.reg [⟨[],[(24,(.and (.bin .lss (.ld 1 false (.fa 1 (.fa 0 (.sl 0)))) (.len true (.ld 1 false (.fa 0 (.fa 0 (.sl 0)))))) (.bin .geq (.call 123 (.cons (.str [32,9,10,13]) (.cons (.ix (.ld 1 false (.fa 0 (.fa 0 (.sl 0)))) (.ld 1 false (.fa 1 (.fa 0 (.sl 0))))) .nil))) (.int .i64 0))))],[],none,[0],23,[[],[0],[0,1],[1,0,2],[],[4],[4,5],[5,4,6],[6,4,5,7],[7,5,4,6,8,2,0,1,3],[3,1,0,2,8,6,4,5,7,9],[9,7,5,4,6,8,2,0,1,3,10],[10,3,1,0,2,8,6,4,5,7,9,11],[11,9,7,5,4,6,8,2,0,1,3,10,12],[12,10,3,1,0,2,8,6,4,5,7,9,11,13],[9,7,5,4,6,8,2,0,1,3,10],[10,3,1,0,2,8,6,4,5,7,9,15],[15,9,7,5,4,6,8,2,0,1,3,10,16],[16,10,3,1,0,2,8,6,4,5,7,9,15,17],[17,15,16,18,13,11,9,7,5,4,6,8,2,0,1,3,10,12,14],[14,12,10,3,1,0,2,8,6,4,5,7,9,11,13,18,16,15,17,19],[19,17,15,16,18,13,11,9,7,5,4,6,8,2,0,1,3,10,12,14,20],[20,14,12,11,13,18,16,15,17,19,21,9,7,5,4,6,8,2,0,1,3,10]],[],[]⟩]) (.cond (.sl 24) .skip (.seq (.keep []) (.exit 0)))) (.block 1 (.reg [⟨[],[],[],some (none,.store 1 (.fa 1 (.fa 0 (.sl 0))) (.bin .add (.ld 1 false (.fa 1 (.fa 0 (.sl 0)))) (.int .i64 1))),[0],8,[],[],[]⟩])))
def f109:Fun:=⟨ (.block 0 (.seq (.keep [0]) (.loop (.seq (.keep [0]) j2V)))), [],false⟩
/- '(*sloth/code.reader).piece' -/
def j2U:C:= (.seq (.reg [⟨[],[(37,(.bin .lss (.sl 36) (.sl 35)))],[],none,[0,9,34,35,36],1,[],[],[]⟩]) (.seq (.cond (.sl 37) .skip (.seq (.keep [0]) (.exit 1))) (.seq (.block 2 (.seq (.reg [⟨[],[(10,(.sl 36)),(11,(.ld 1 false (.ia 1 (.sl 34) (.sl 36))))],[],none,[0,9,34,35,36],5,[],[],[]⟩]) (.seq (.reg [⟨[],[(47,(.and (.bin .eql (.sl 11) (.sl 9)) (.bin .gtr (.sl 10) (.int .i64 0))))],[],none,[0,9,10,34,35,36],7,[],[],[]⟩]) (.cond (.sl 47) (.seq (.reg [⟨[],[(8,(.sl 10))],[],none,[],2,[],[],[]⟩]) (.seq (.keep [8]) .ret)) .skip)))) (.reg [⟨[],[(36,(.bin .add (.sl 36) (.int .i64 1)))],[],none,[0,9,34,35],2,[],[],[]⟩]))))
def f112:Fun:=⟨ (.seq (.reg [⟨[],[],[(.int .i64 0)],none,[0,1,2,3],1,[],[],[]⟩]) (.seq (.seq (.reg [⟨[],[(12,(.sl 1))],[],none,[0,2,3],1,[],[],[]⟩]) (.block 0 (.seq (.seq (.reg [⟨[],[(13,(.bin .eql (.sl 12) (.int .i64 4)))],[],none,[0,2,3,12],2,[],[],[]⟩]) (.cond (.sl 13) .skip (.reg [⟨[],[(13,(.bin .eql (.sl 12) (.int .i64 5)))],[],none,[0,2,3,12],2,[],[],[]⟩]))) (.cond (.sl 13) (.seq (.regl [⟨[],[],[(.sl 3),(.sl 2),(.ld 1 false (.fa 2 (.fa 0 (.sl 0))))],some (some 24,.calle 97 (.cons (.sl 0) .nil)),[0,2,3],9,[[],[],[1],[1,2],[2,1,3],[],[],[],[7],[7,8,6,5],[5,6,8,7,9],[9,7,8,6,5,10,3,1,2,4],[11,10,9,8,7,6,5,4,3,2,1,0],[0,1,2,3,4,5,6,7,8,9,10,11,12],[12,11,10,9,8,7,6,5,4,3,2,1,0,13]],[],[(.sl 0),(.fa 0 (.sl 0)),(.fa 2 (.fa 0 (.sl 0))),(.ld 1 false (.fa 2 (.fa 0 (.sl 0)))),(.sl 2),(.sl 3)]⟩,⟨[(26,.lits 3 (.cons (.set 2 1 (.sl 24) (.set 1 1 (.sl 3) (.set 0 1 (.sl 2) (.agg (.cons (.int .i64 0) (.cons (.int .i64 0) (.cons (.str []) .nil))))))) .nil))],[],[],some (some 27,.app 3 (.ld 1 false (.fa 2 (.fa 0 (.sl 0)))) (.sl 26)),[0],3,[],[],[(.sl 0)]⟩,⟨[],[],[],some (none,.store 1 (.fa 2 (.fa 0 (.sl 0))) (.sl 27)),[],3,[],[],[]⟩]) (.seq (.reg [⟨[],[(8,(.int .i64 0))],[],none,[],1,[],[],[]⟩]) (.seq (.keep [8]) .ret))) (.seq (.reg [⟨[],[(30,(.bin .eql (.sl 12) (.int .i64 6)))],[],none,[0],2,[],[],[]⟩]) (.cond (.sl 30) (.seq (.reg [⟨[],[],[],some (some 33,.calle 96 (.cons (.sl 0) .nil)),[0],2,[],[],[]⟩,⟨[],[(9,(.sl 33))],[],none,[0],1,[],[],[]⟩]) (.seq (.seq (.reg [⟨[],[(34,(.call 108 .nil)),(35,(.len false (.call 108 .nil))),(36,(.int .i64 0))],[],none,[0,9],3,[],[],[]⟩]) (.block 1 (.seq (.keep [0,9,34,35,36]) (.loop (.seq (.keep [0,9,34,35,36]) j2U))))) (.reg [⟨[],[],[],some (none,.panic (.mki 95 (.agg .nil))),[0],3,[],[],[]⟩]))) .skip)))))) (.seq (.reg [⟨[],[],[],some (some 53,.calle 98 (.cons (.sl 0) .nil)),[],2,[],[],[]⟩,⟨[],[(8,(.sl 53))],[],none,[],1,[],[],[]⟩]) (.seq (.keep [8]) .ret)))), [(.sl 8)],false⟩
/- '(*sloth/code.loader).folded' -/
def f113_L0:C:= (.seq (.seq (.reg [⟨[],[(7,(.bin .lss (.sl 4) (.int .i64 64)))],[],none,[0,2,3,4],2,[],[],[]⟩]) (.cond (.sl 7) .skip (.seq (.tidy 1 [2]) (.exit 0)))) (.seq (.block 1 (.seq (.reg [⟨[],[],[],some (some 11,.calle 126 (.cons (.sl 0) .nil)),[0,2,3,4],2,[],[],[]⟩,⟨[],[(5,(.sl 11))],[],none,[0,2,3,4],1,[],[],[]⟩]) (.seq (.seq (.reg [⟨[],[(25,(.or (.and (.bin .eql (.sl 4) (.int .i64 63)) (.bin .gtr (.sl 5) (.int .u8 1))) (.and (.bin .gtr (.sl 4) (.int .i64 0)) (.bin .eql (.sl 5) (.int .u8 0)))))],[],none,[0,2,3,4,5],14,[],[],[]⟩]) (.cond (.sl 25) (.reg [⟨[],[],[],some (none,.panic (.mki 95 (.agg .nil))),[0,2,3,4,5],3,[],[],[]⟩]) .skip)) (.seq (.reg [⟨[],[(3,(.bin .or (.sl 3) (.sh true (.conv .u64 (.bin .and (.sl 5) (.int .u8 127))) (.sl 4))))],[],none,[0,2,4,5],8,[],[],[]⟩]) (.seq (.reg [⟨[],[(36,(.bin .lss (.sl 5) (.int .u8 128)))],[],none,[0,2,3,4],2,[],[],[]⟩]) (.cond (.sl 36) (.seq (.reg [⟨[],[(2,(.sl 3))],[],none,[],2,[],[],[]⟩]) (.seq (.tidy 1 [2]) .ret)) .skip)))))) (.reg [⟨[],[(4,(.bin .add (.sl 4) (.int .i64 7)))],[],none,[0,2,3],3,[],[],[]⟩])))
def f113:Fun:=⟨ (.seq (.reg [⟨[],[(2,(.int .u64 0))],[],none,[0],1,[],[],[]⟩]) (.seq (.reg [⟨[],[(3,(.int .u64 0))],[],none,[0,2],1,[],[],[]⟩]) (.seq (.seq (.reg [⟨[],[(4,(.int .i64 0))],[],none,[0,2,3],1,[],[],[]⟩]) (.block 0 (.seq (.tidy 1 [0,2,3,4]) (.loop (.seq (.tidy 1 [0,2,3,4]) f113_L0))))) (.reg [⟨[],[],[],some (none,.panic (.mki 95 (.agg .nil))),[2],3,[],[],[]⟩])))), [(.sl 2)],false⟩
theorem j2T:q1s Go.Proofs.Tryz.prog 113 1 1 f113=true:=by kernel_rfl
/- '(*sloth/code.loader).signed' -/
def f114:Fun:=⟨ (.seq (.reg [⟨[],[],[(.int .i64 0)],none,[0],1,[],[],[]⟩]) (.seq (.reg [⟨[],[],[],some (some 5,.calle 113 (.cons (.sl 0) .nil)),[],2,[],[],[]⟩,⟨[],[(3,(.sl 5))],[],none,[],1,[],[],[]⟩]) (.seq (.seq (.reg [⟨[],[(8,(.bin .eql (.bin .and (.sl 3) (.int .u64 1)) (.int .u64 1)))],[],none,[3],3,[],[],[]⟩]) (.cond (.sl 8) (.seq (.reg [⟨[],[(2,(.bin .sub (.un .neg (.conv .i64 (.sh false (.sl 3) (.int .u64 1)))) (.int .i64 1)))],[],none,[],6,[],[],[]⟩]) (.seq (.tidy 1 [2]) .ret)) .skip)) (.seq (.reg [⟨[],[(2,(.conv .i64 (.sh false (.sl 3) (.int .u64 1))))],[],none,[],4,[],[],[]⟩]) (.seq (.tidy 1 [2]) .ret))))), [(.sl 2)],false⟩
theorem j2S:q1s Go.Proofs.Tryz.prog 114 1 1 f114=true:=by kernel_rfl
/- '(*sloth/code.loader).take' -/
def f126:Fun:=⟨ (.seq (.reg [⟨[],[],[(.int .u8 0)],none,[0],1,[],[],[]⟩]) (.seq (.seq (.reg [⟨[],[(9,(.bin .eql (.len false (.ld 1 false (.fa 0 (.fa 0 (.sl 0))))) (.int .i64 0)))],[],none,[0],6,[],[],[]⟩]) (.cond (.sl 9) (.reg [⟨[],[],[],some (none,.panic (.mki 95 (.agg .nil))),[0],3,[],[],[]⟩]) .skip)) (.seq (.reg [⟨[],[(3,(.ld 1 false (.ia 1 (.ld 1 false (.fa 0 (.fa 0 (.sl 0)))) (.int .i64 0))))],[],none,[0],7,[],[],[]⟩]) (.seq (.reg [⟨[],[],[],some (none,.store 1 (.fa 0 (.fa 0 (.sl 0))) (.cut false true false false 1 (.ld 1 false (.fa 0 (.fa 0 (.sl 0)))) (.int .i64 1) .nil .nil)),[3],9,[],[],[]⟩]) (.seq (.reg [⟨[],[(2,(.sl 3))],[],none,[],2,[],[],[]⟩]) (.seq (.tidy 1 [2]) .ret)))))), [(.sl 2)],false⟩
theorem j2Q:q1s Go.Proofs.Tryz.prog 126 1 1 f126=true:=by kernel_rfl
def eB8:List Blk→Option (List UInt8)
  |[.map [(.nils 78,.bsl 1 0 n)],.map [(.emps 5,.d false .nilp),(.str bytes,.d false .nilp)]]=>if n=bytes.length∧n≤1000000 then some bytes else none
  |_=>none
theorem z4u{bs:List Blk}{bytes:List UInt8}(h:eB8 bs=some bytes):bs=[bldB 78 1 bytes.length,bufB 5 bytes]∧bytes.length≤1000000:=by
  unfold eB8 at h
  split at h
  · split at h
    · rename_i hc
      obtain⟨h1,h2⟩:=hc
      simp only[Option.some.injEq] at h
      subst h
      subst h1
      exact⟨rfl,h2⟩
    · cases h
  · cases h
def j42:FuncId→List V→List Blk→Option (V×List Blk×List Nat)
  |110,[.ptr 0 0 0,.d false (.int .u8 c)],bs=>match eB8 bs with
    |some bytes=>if 0≤c∧c<256 then some (.d false .nilif,[bldB 78 1 (bytes++[UInt8.ofNat c.toNat]).length,bufB 5 (bytes++[UInt8.ofNat c.toNat])],[1]) else none
    |none=>none
  |47,[.ptr 0 0 0,.d false (.str s)],bs=>match eB8 bs with
    |some bytes=>if s.length≤1000000 then some (.tup [.d false (.int .i64 s.length),.d false .nilif],[bldB 78 1 (bytes++s).length,bufB 5 (bytes++s)],[1]) else none
    |none=>none
  |51,[.ptr 0 0 0],bs=>match eB8 bs with
    |some bytes=>some (.d false (.int .i64 bytes.length),[bldB 78 1 bytes.length,bufB 5 bytes],[])
    |none=>none
  |52,[.ptr 0 0 0],bs=>match eB8 bs with
    |some bytes=>some (.d false (.str bytes),[bldB 78 1 bytes.length,bufB 5 bytes],[1])
    |none=>none
  |_,_,_=>none
theorem z5B:∀ n:Nat,n<10→Lib.itoa n=[UInt8.ofNat (48+n)]:=by
  intro n h
  unfold Lib.itoa
  rw[if_neg (by omega),Int.toNat_natCast,Lib.decDigits]
  simp [h]
theorem z55:∀ n:Nat,n<10→Lib.atoi [UInt8.ofNat (48+n)]=some (n:Int):=by decide
def j1B:FuncId→List V→Option (V×List Blk)
  |49,[.d _ (.int .i64 n)]=>if 0≤n∧n<10 then some (.d false (.str [UInt8.ofNat (48+n.toNat)]),[]) else none
  |111,[.d _ (.str [c])]=>if 48≤c.toNat∧c.toNat<58 then some (.tup [.d false (.int .i64 (c.toNat - 48:Nat)),.d false .nilif],[]) else none
  |123,[.d _ (.str s),.d _ (.int .u8 c)]=>if 0≤c∧c<256 then some (.d false (.int .i64 (Lib.indexByte s (UInt8.ofNat c.toNat))),[]) else none
  |115,[.d _ (.str s),.d _ (.str [c])]=>some (.d false (.int .i64 (s.count c)),[])
  |_,_=>none
def KS8:Cx:=⟨j1B,j42,GT,fun _=>false,[],fun _ _ _=>none⟩
theorem z9q:KS8.Sound Tryz.prog:=by
  refine⟨fun f args r news h=>?_,fun f args r news h=>(by cases h),fun f args blks r blks' mv h=>?_,fun f args blks v h=>(by cases h)⟩
  · simp only[KS8] at h ⊢
    unfold j1B at h
    split at h
    · refine⟨by kernel_rfl,?_⟩
      split at h
      · rename_i a n hc
        simp only[Option.some.injEq,Prod.mk.injEq] at h
        obtain⟨rfl,rfl⟩:=h
        have e:=z5B n.toNat (by omega)
        have e2:((n.toNat:Nat):Int)=n:=by omega
        rw[e2] at e
        rw[←e]
        exact z7m n a (by omega) (by omega)
      · cases h
    · refine⟨by kernel_rfl,?_⟩
      split at h
      · rename_i a c hc
        simp only[Option.some.injEq,Prod.mk.injEq] at h
        obtain⟨rfl,rfl⟩:=h
        have e:=z55 (c.toNat - 48) (by omega)
        have e2:UInt8.ofNat (48+(c.toNat - 48))=c:=by
          rw[show 48+(c.toNat - 48)=c.toNat by omega];simp
        rw[e2] at e
        exact z7n [c] a _ (by simp) e
      · cases h
    · refine⟨by kernel_rfl,?_⟩
      split at h
      · rename_i a s b c hc
        simp only[Option.some.injEq,Prod.mk.injEq] at h
        obtain⟨rfl,rfl⟩:=h
        have:=z5k s (UInt8.ofNat c.toNat) a b
        have e:((UInt8.ofNat c.toNat).toNat:Int)=c:=by
          rw[UInt8.toNat_ofNat'];omega
        rw[e] at this
        exact this
      · cases h
    · refine⟨by kernel_rfl,?_⟩
      simp only[Option.some.injEq,Prod.mk.injEq] at h
      obtain⟨rfl,rfl⟩:=h
      exact z5l _ _ _ _
    · cases h
  · simp only[KS8] at h ⊢
    unfold j42 at h
    split at h
    · refine⟨by kernel_rfl,?_⟩
      split at h
      · rename_i bytes hb
        obtain⟨rfl,hl⟩:=z4u hb
        split at h
        · rename_i c _ hc
          simp only[Option.some.injEq,Prod.mk.injEq] at h
          obtain⟨rfl,rfl,rfl⟩:=h
          have:=z0L (G:=GT) tB_wb bytes (UInt8.ofNat c.toNat) (by omega)
          have e:((UInt8.ofNat c.toNat).toNat:Int)=c:=by
            rw[UInt8.toNat_ofNat'];omega
          rw[e] at this
          exact this
        · cases h
      · cases h
    · refine⟨by kernel_rfl,?_⟩
      split at h
      · rename_i bytes hb
        obtain⟨rfl,hl⟩:=z4u hb
        split at h
        · simp only[Option.some.injEq,Prod.mk.injEq] at h
          obtain⟨rfl,rfl,rfl⟩:=h
          exact q9b tB_ws bytes _ (by omega)
        · cases h
      · cases h
    · refine⟨by kernel_rfl,?_⟩
      split at h
      · rename_i bytes hb
        obtain⟨rfl,hl⟩:=z4u hb
        simp only[Option.some.injEq,Prod.mk.injEq] at h
        obtain⟨rfl,rfl,rfl⟩:=h
        exact j29 Tryz.lays170 bytes
      · cases h
    · refine⟨by kernel_rfl,?_⟩
      split at h
      · rename_i bytes hb
        obtain⟨rfl,hl⟩:=z4u hb
        simp only[Option.some.injEq,Prod.mk.injEq] at h
        obtain⟨rfl,rfl,rfl⟩:=h
        exact z5S Tryz.lays169 Tryz.Builder_Extra_169 bytes
      · cases h
    · cases h
end Go.Vm
end

section
namespace Go.Vm
set_option maxRecDepth 20000
open Go.Proofs
/- 'sloth/slothref17.number' -/
def f63_L0:C:= (.seq (.seq (.reg [⟨[],[(6,(.bin .geq (.sl 1) (.int .u64 128)))],[],none,[0,1],2,[],[],[]⟩]) (.cond (.sl 6) .skip (.seq (.tidy 1 [0,1]) (.exit 0)))) (.block 1 (.seq (.reg [⟨[(12,.lits 1 (.cons (.bin .add (.conv .u8 (.bin .rem (.sl 1) (.int .u64 128))) (.int .u8 128)) .nil))],[],[],some (some 13,.app 1 (.sl 0) (.sl 12)),[1],7,[],[],[]⟩,⟨[],[(0,(.sl 13))],[],none,[1],1,[],[],[]⟩]) (.reg [⟨[],[(1,(.bin .quo (.sl 1) (.int .u64 128)))],[],none,[0],3,[],[],[]⟩]))))
def f63:Fun:=⟨ (.seq (.reg [⟨[],[],[(.nilsl 1)],none,[0,1],1,[],[],[]⟩]) (.seq (.block 0 (.seq (.tidy 1 [0,1]) (.loop (.seq (.tidy 1 [0,1]) f63_L0)))) (.seq (.reg [⟨[(19,.lits 1 (.cons (.conv .u8 (.sl 1)) .nil))],[],[],some (some 20,.app 1 (.sl 0) (.sl 19)),[],5,[],[],[]⟩,⟨[],[(4,(.sl 20))],[],none,[],1,[],[],[]⟩]) (.seq (.tidy 1 [4]) .ret)))), [(.sl 4)],false⟩
/- 'sloth/slothref17.signed' -/
def f66:Fun:=⟨ (.seq (.reg [⟨[],[],[(.int .u64 0)],none,[0],1,[],[],[]⟩]) (.seq (.seq (.reg [⟨[],[(4,(.bin .lss (.sl 0) (.int .i64 0)))],[],none,[0],2,[],[],[]⟩]) (.cond (.sl 4) (.seq (.reg [⟨[],[(2,(.bin .add (.bin .mul (.conv .u64 (.un .neg (.bin .add (.sl 0) (.int .i64 1)))) (.int .u64 2)) (.int .u64 1)))],[],none,[],7,[],[],[]⟩]) (.seq (.tidy 0 [2]) .ret)) .skip)) (.seq (.reg [⟨[],[(2,(.bin .mul (.conv .u64 (.sl 0)) (.int .u64 2)))],[],none,[],4,[],[],[]⟩]) (.seq (.tidy 0 [2]) .ret)))), [(.sl 2)],false⟩
def leb(n:Nat):Bs:=if n<128 then [UInt8.ofNat n] else UInt8.ofNat (n % 128+128) :: leb (n / 128)
decreasing_by omega
theorem q4w{n:Nat}(h:n<128):leb n=[UInt8.ofNat n]:=by rw[leb,if_pos h]
theorem z74{n:Nat}(h:¬ n<128):leb n=UInt8.ofNat (n % 128+128) :: leb (n / 128):=by rw[leb,if_neg h]
theorem z73:∀(k n:Nat),n<128 ^ (k+1)→(leb n).length≤k+1
  |0,n,h=>by rw[q4w (by simpa using h)];simp
  |k+1,n,h=>by
    rw[leb]
    split
    · simp
    · have:=z73 k (n / 128) (by rw[Nat.pow_succ] at h;omega)
      simp only[List.length_cons];omega
theorem z88{n:Nat}(h:n<256):eU (UInt8.ofNat n)=[.int .u8 (n:Int)]:=by
  have:(UInt8.ofNat n).toNat=n:=by simp;omega
  rw[eU,this]
theorem z03(x:Int):IntKind.u8.wrap x=x % 256:=by simp [IntKind.wrap,IntKind.signed,IntKind.bits]
theorem w8r(n:Nat):IntKind.u8.wrap (IntKind.u8.wrap ((n % 128:Nat):Int)+128)=((n % 128+128:Nat):Int):=by
  rw[z03,z03];omega
theorem w8m{n:Nat}(h:n<128):IntKind.u8.wrap (n:Int)=(n:Int):=by
  rw[z03];omega
theorem fUN{n:Nat}(h:n<256)(l:Bs):l.map eU++[[D.int .u8 (n:Int)]]=(l++[UInt8.ofNat n]).map eU:=by rw[List.map_append,List.map_singleton,z88 h]
theorem w64u{n:Nat}(h:n≤18446744073709551615):IntKind.u64.wrap (n:Int)=(n:Int):=by
  have:IntKind.u64.wrap (n:Int)=(n:Int) % 18446744073709551616:=by simp [IntKind.wrap,IntKind.signed,IntKind.bits]
  omega
theorem z3d(K:Cx)(c:Bool):∀(k n:Nat)(a:Bool)(l:Bs)(mv:List Nat),n<128 ^ (k+1)→n≤18446744073709551615→l.length+k≤1000000000000→(mv=[]∨mv=[0])→
    ∃ m a' l' mv',(mv'=[]∨mv'=[0])∧m<128∧l'.length≤1000000000000∧l++leb n=l'++[UInt8.ofNat m]∧
    lp K 1 [0,1] f63_L0 ⟨[(0,.bsl 0 0 l.length),(1,.d a (.int .u64 n))],[(0,.dat c 1 (l.map eU))],1,mv⟩ =
      some (.exit 0,⟨[(0,.bsl 0 0 l'.length),(1,.d a' (.int .u64 m))],[(0,.dat c 1 (l'.map eU))],1,mv'⟩):=by
  intro k
  induction k with
  |zero=>
    intro n a l mv hk h64 hl hm
    have hn:n<128:=by simpa using hk
    refine⟨n,a,l,mv,hm,hn,by omega,by rw[q4w hn],?_⟩
    rw[q1O f63_L0.eq_1]
    rcases hm with rfl|rfl
    · simp(disch:=first|decide|omega|(simp only[LN];first|done|omega)) only[SV,SW,Nat.reduceBEq,q0C]
    · simp(disch:=first|decide|omega|(simp only[LN];first|done|omega)) only[SV,SW,Nat.reduceBEq,q0C]
  |succ k ih=>
    intro n a l mv hk h64 hl hm
    by_cases hn:n<128
    · refine⟨n,a,l,mv,hm,hn,by omega,by rw[q4w hn],?_⟩
      rw[q1O f63_L0.eq_1]
      rcases hm with rfl|rfl
      · simp(disch:=first|decide|omega|(simp only[LN];first|done|omega)) only[SV,SW,Nat.reduceBEq,q0C]
      · simp(disch:=first|decide|omega|(simp only[LN];first|done|omega)) only[SV,SW,Nat.reduceBEq,q0C]
    · obtain⟨m,a',l',mv',h1,h2,h3,h4,h5⟩:=ih (n / 128) false (l++[UInt8.ofNat (n % 128+128)]) [0] (by rw[Nat.pow_succ] at hk;omega) (by omega) (by simp;omega) (.inr rfl)
      refine⟨m,a',l',mv',h1,h2,h3,by rw[z74 hn,←h4];simp,?_⟩
      rw[←h5]
      clear ih h5 h4 hk h1
      have a1:(n:Int).tdiv 128=((n / 128:Nat):Int):=rfl
      have a2:(n:Int).tmod 128=((n % 128:Nat):Int):=rfl
      have hm2:n % 128<128:=by omega
      have d1:=w8r n
      have d2:=fUN (n:=n % 128+128) (by omega) l
      have a3:=w64u (n:=n / 128) (by omega)
      rw[q1O f63_L0.eq_1]
      rcases hm with rfl|rfl
      · simp(disch:=first|decide|omega|(simp only[LN];first|done|omega)) only[SV,SW,Nat.reduceBEq,Int.reduceEq,a2,q0D,d1,Nat.reduceAdd,d2,lose,V.forget,V.drop1,V.ref0,a1,a3,q0C]
      · simp(disch:=first|decide|omega|(simp only[LN];first|done|omega)) only[SV,SW,Nat.reduceBEq,Int.reduceEq,a2,q0D,d1,Nat.reduceAdd,d2,lose,V.forget,V.drop1,V.ref0,a1,a3,q0C]
theorem ev_lebR(K:Cx)(a c:Bool)(l:Bs)(n:Nat)(hl:l.length≤999999999000)(hn:n≤18446744073709551615) :
    q0U K f63 [.bsl 0 0 l.length,.d a (.int .u64 n)] [.dat c 1 (l.map eU)]=some (.bsl 0 0 (l++leb n).length,[.dat c 1 ((l++leb n).map eU)],[0]):=by
  obtain⟨m,a',l',mv',h1,h2,h3,h4,h5⟩:=z3d K c 9 n a l [] (Nat.lt_of_le_of_lt hn (by decide)) hn (by omega) (.inl rfl)
  rw[h4]
  have d1:=w8m h2
  have d2:=fUN (n:=m) (by omega) l'
  clear h4
  rcases h1 with rfl|rfl
  · simp(disch:=first|decide|omega|(simp only[LN];first|done|omega)) only[SV,SW,f63,Nat.reduceAdd,Nat.reduceBEq,q0C,h5,q0D,d1,d2,lose,V.forget,V.drop1,V.ref0,q0d,hNew,V.newR,q0b,q5L]
  · simp(disch:=first|decide|omega|(simp only[LN];first|done|omega)) only[SV,SW,f63,Nat.reduceAdd,Nat.reduceBEq,q0C,h5,q0D,d1,d2,lose,V.forget,V.drop1,V.ref0,q0d,hNew,V.newR,q0b,q5L]
theorem or128:∀ x:BitVec 8,(x ||| 128#8).toNat=x.toNat % 128+128:=by decide
theorem w8o(n:Nat):bits .or .u8 (IntKind.u8.wrap (n:Int)) 128=((n % 128+128:Nat):Int):=by
  have h:=or128 (BitVec.ofInt 8 (IntKind.u8.wrap (n:Int)))
  show IntKind.u8.wrap (((BitVec.ofInt 8 (IntKind.u8.wrap (n:Int)) ||| 128#8).toNat:Nat):Int)=_
  rw[h,z03,z03,BitVec.toNat_ofInt]
  omega
theorem sh7(c c':Bool){k':IntKind}(n:Nat):evSh false (.d c (.int .u64 (n:Int))) (.d c' (.int k' 7))=some (.int .u64 ((n / 128:Nat):Int)):=rfl
theorem z7k(K:Cx)(c:Bool):∀(k n:Nat)(a:Bool)(l:Bs)(mv:List Nat),n<128 ^ (k+1)→n≤18446744073709551615→l.length+k≤1000000000000→(mv=[]∨mv=[0])→
    ∃ m a' l' mv',(mv'=[]∨mv'=[0])∧m<128∧l'.length≤1000000000000∧l++leb n=l'++[UInt8.ofNat m]∧
    lp K 1 [0,1] f68_L0 ⟨[(0,.bsl 0 0 l.length),(1,.d a (.int .u64 n))],[(0,.dat c 1 (l.map eU))],1,mv⟩ =
      some (.exit 0,⟨[(0,.bsl 0 0 l'.length),(1,.d a' (.int .u64 m))],[(0,.dat c 1 (l'.map eU))],1,mv'⟩):=by
  intro k
  induction k with
  |zero=>
    intro n a l mv hk h64 hl hm
    have hn:n<128:=by simpa using hk
    refine⟨n,a,l,mv,hm,hn,by omega,by rw[q4w hn],?_⟩
    rw[q1O f68_L0.eq_1]
    rcases hm with rfl|rfl
    · simp(disch:=first|decide|omega|(simp only[LN];first|done|omega)) only[SV,SW,Nat.reduceBEq,q0C]
    · simp(disch:=first|decide|omega|(simp only[LN];first|done|omega)) only[SV,SW,Nat.reduceBEq,q0C]
  |succ k ih=>
    intro n a l mv hk h64 hl hm
    by_cases hn:n<128
    · refine⟨n,a,l,mv,hm,hn,by omega,by rw[q4w hn],?_⟩
      rw[q1O f68_L0.eq_1]
      rcases hm with rfl|rfl
      · simp(disch:=first|decide|omega|(simp only[LN];first|done|omega)) only[SV,SW,Nat.reduceBEq,q0C]
      · simp(disch:=first|decide|omega|(simp only[LN];first|done|omega)) only[SV,SW,Nat.reduceBEq,q0C]
    · obtain⟨m,a',l',mv',h1,h2,h3,h4,h5⟩:=ih (n / 128) false (l++[UInt8.ofNat (n % 128+128)]) [0] (by rw[Nat.pow_succ] at hk;omega) (by omega) (by simp;omega) (.inr rfl)
      refine⟨m,a',l',mv',h1,h2,h3,by rw[z74 hn,←h4];simp,?_⟩
      rw[←h5]
      clear ih h5 h4 hk h1
      have d1:=w8o n
      have d2:=fUN (n:=n % 128+128) (by omega) l
      rw[q1O f68_L0.eq_1]
      rcases hm with rfl|rfl
      · simp(disch:=first|decide|omega|(simp only[LN];first|done|omega)) only[SV,SW,Nat.reduceBEq,q0D,d1,Nat.reduceAdd,d2,lose,V.forget,V.drop1,V.ref0,e_sh,sh7,q0C]
        trace_state
      · simp(disch:=first|decide|omega|(simp only[LN];first|done|omega)) only[SV,SW,Nat.reduceBEq,q0D,d1,Nat.reduceAdd,d2,lose,V.forget,V.drop1,V.ref0,e_sh,sh7,q0C]
theorem j24(K:Cx)(a c:Bool)(l:Bs)(n:Nat)(hl:l.length≤999999999000)(hn:n≤18446744073709551615) :
    q0U K f68 [.bsl 0 0 l.length,.d a (.int .u64 n)] [.dat c 1 (l.map eU)]=some (.bsl 0 0 (l++leb n).length,[.dat c 1 ((l++leb n).map eU)],[0]):=by
  obtain⟨m,a',l',mv',h1,h2,h3,h4,h5⟩:=z7k K c 9 n a l [] (Nat.lt_of_le_of_lt hn (by decide)) hn (by omega) (.inl rfl)
  rw[h4]
  have d1:=w8m h2
  have d2:=fUN (n:=m) (by omega) l'
  clear h4
  rcases h1 with rfl|rfl
  · simp(disch:=first|decide|omega|(simp only[LN];first|done|omega)) only[SV,SW,f68,Nat.reduceAdd,Nat.reduceBEq,q0C,h5,q0D,d1,d2,lose,V.forget,V.drop1,V.ref0,q0d,hNew,V.newR,q0b,q5L]
  · simp(disch:=first|decide|omega|(simp only[LN];first|done|omega)) only[SV,SW,f68,Nat.reduceAdd,Nat.reduceBEq,q0C,h5,q0D,d1,d2,lose,V.forget,V.drop1,V.ref0,q0d,hNew,V.newR,q0b,q5L]
def q2z(a:Int):Nat:=if a<0 then((-(a+1))*2+1).toNat else(a*2).toNat
theorem q57(x:Int):IntKind.u64.wrap x=x % 18446744073709551616:=by simp [IntKind.wrap,IntKind.signed,IntKind.bits]
theorem j4Q(K:Cx)(c:Bool)(a:Int)(h0 : -9223372036854775808≤a)(h1:a≤9223372036854775807):q0U K f66 [.d c (.int .i64 a)] []=some (.d false (.int .u64 (q2z a)),[],[]):=by
  by_cases h:a<0
  · have e:((q2z a:Nat):Int)=-(a+1)*2+1:=by unfold q2z;rw[if_pos h];omega
    have w:IntKind.u64.wrap (IntKind.u64.wrap (IntKind.u64.wrap (0 - (a+1))*2)+1)=((q2z a:Nat):Int):=by rw[e,q57,q57,q57];omega
    simp(disch:=first|decide|omega|(simp only[LN];first|done|omega)) only[SV,SW,f66,Nat.reduceBEq,evUn,q0D,w,q0d]
  · have e:((q2z a:Nat):Int)=a*2:=by unfold q2z;rw[if_neg h];omega
    have w:IntKind.u64.wrap (IntKind.u64.wrap a*2)=((q2z a:Nat):Int):=by rw[e,q57,q57];omega
    simp(disch:=first|decide|omega|(simp only[LN];first|done|omega)) only[SV,SW,f66,Nat.reduceBEq,q0D,w,q0d]
theorem z8S(K:Cx)(c:Bool)(a:Int)(h0 : -9223372036854775808≤a)(h1:a≤9223372036854775807):q0U K f100 [.d c (.int .i64 a)] []=some (.d false (.int .u64 (q2z a)),[],[]):=by
  by_cases h:a<0
  · have e:((q2z a:Nat):Int)=-(a+1)*2+1:=by unfold q2z;rw[if_pos h];omega
    have w:IntKind.u64.wrap (IntKind.u64.wrap (2*IntKind.u64.wrap (0 - (a+1)))+1)=((q2z a:Nat):Int):=by rw[e,q57,q57,q57];omega
    simp(disch:=first|decide|omega|(simp only[LN];first|done|omega)) only[SV,SW,f100,Nat.reduceBEq,evUn,q0D,w,q0d]
  · have e:((q2z a:Nat):Int)=a*2:=by unfold q2z;rw[if_neg h];omega
    have w:IntKind.u64.wrap (2*IntKind.u64.wrap a)=((q2z a:Nat):Int):=by rw[e,q57,q57];omega
    simp(disch:=first|decide|omega|(simp only[LN];first|done|omega)) only[SV,SW,f100,Nat.reduceBEq,q0D,w,q0d]
theorem q75{a:Int}(h0 : -9223372036854775808≤a)(h1:a≤9223372036854775807):q2z a≤18446744073709551615:=by
  unfold q2z
  split <;> omega
end Go.Vm
end

section
namespace Go.Vm
set_option maxRecDepth 20000
open Go.Proofs
/- 'sloth/slothref17.Sum' -/
def f67_L0:C:= (.seq (.seq (.reg [⟨[],[(20,(.bin .lss (.sl 5) (.int .i64 8)))],[],none,[0,3,4,5],2,[],[],[]⟩]) (.cond (.sl 20) .skip (.seq (.tidy 0 [0,3,4]) (.exit 2)))) (.seq (.block 3 (.seq (.reg [⟨[],[(25,(.bin .eql (.bin .and (.sl 3) (.int .u32 1)) (.int .u32 1)))],[],none,[0,3,4,5],3,[],[],[]⟩]) (.cond (.sl 25) (.reg [⟨[],[(3,(.bin .xor (.sh false (.sl 3) (.int .u64 1)) (.int .u32 3988292384)))],[],none,[0,4,5],4,[],[],[]⟩]) (.reg [⟨[],[(3,(.sh false (.sl 3) (.int .u64 1)))],[],none,[0,4,5],3,[],[],[]⟩])))) (.reg [⟨[],[(5,(.bin .add (.sl 5) (.int .i64 1)))],[],none,[0,3,4],3,[],[],[]⟩])))
def f67_L1:C:= (.seq (.seq (.reg [⟨[],[(9,(.bin .lss (.sl 4) (.len false (.sl 0))))],[],none,[0,3,4],4,[],[],[]⟩]) (.cond (.sl 9) .skip (.seq (.tidy 0 [3]) (.exit 0)))) (.seq (.block 1 (.seq (.reg [⟨[],[(3,(.bin .xor (.sl 3) (.conv .u32 (.ld 1 false (.ia 1 (.sl 0) (.sl 4))))))],[],none,[0,4],8,[],[],[]⟩]) (.seq (.reg [⟨[],[(5,(.int .i64 0))],[],none,[0,3,4],1,[],[],[]⟩]) (.block 2 (.seq (.tidy 0 [0,3,4,5]) (.loop (.seq (.tidy 0 [0,3,4,5]) f67_L0))))))) (.reg [⟨[],[(4,(.bin .add (.sl 4) (.int .i64 1)))],[],none,[0,3],3,[],[],[]⟩])))
def f67:Fun:=⟨ (.seq (.reg [⟨[],[],[(.int .u32 0)],none,[0],1,[],[],[]⟩]) (.seq (.reg [⟨[],[(3,(.int .u32 4294967295))],[],none,[0],1,[],[],[]⟩]) (.seq (.seq (.reg [⟨[],[(4,(.int .i64 0))],[],none,[0,3],1,[],[],[]⟩]) (.block 0 (.seq (.tidy 0 [0,3,4]) (.loop (.seq (.tidy 0 [0,3,4]) f67_L1))))) (.seq (.reg [⟨[],[(2,(.un .xor (.sl 3)))],[],none,[],3,[],[],[]⟩]) (.seq (.tidy 0 [2]) .ret))))), [(.sl 2)],false⟩
def bitR(r:Int):Int:=if bits .and .u32 r 1==1 then bits .xor .u32 (r / 2) 3988292384 else r / 2
def q7U:Nat→Int→Int
  |0,r=>r
  |k+1,r=>q7U k (bitR r)
def q7v(r:Int)(x:UInt8):Int:=q7U 8 (bits .xor .u32 r (IntKind.u32.wrap (x.toNat:Int)))
def sumS(l:Bs):Int:=bits .xor .u32 (if IntKind.u32.signed then -1 else IntKind.u32.max) (l.foldl q7v 4294967295)
theorem sh1(c c':Bool){k':IntKind}(r:Int):evSh false (.d c (.int .u32 r)) (.d c' (.int k' 1))=some (.int .u32 (r / 2)):=rfl
theorem j11(K:Cx)(l:Bs)(n:Nat)(a1 a2:Bool):∀(k i:Nat)(r:Int),i+k=8→
    lp K 0 [0,3,4,5] f67_L0 ⟨[(0,.d a1 (.sl 1 (l.map eU))),(3,.d false (.int .u32 r)),(4,.d a2 (.int .i64 n)),(5,.d false (.int .i64 i))],[],0,[]⟩ =
      some (.exit 2,⟨[(0,.d a1 (.sl 1 (l.map eU))),(3,.d false (.int .u32 (q7U k r))),(4,.d a2 (.int .i64 n))],[],0,[]⟩):=by
  intro k
  induction k with
  |zero=>
    intro i r hi
    obtain rfl:i=8:=by omega
    rw[q1O f67_L0.eq_1]
    simp(disch:=first|decide|omega|(simp only[LN];first|done|omega)) only[SV,SW,Nat.reduceBEq,q7U]
  |succ k ih=>
    intro i r hi
    have ih:=ih (i+1) (bitR r) (by omega)
    have hi8:i<8:=by omega
    rw[q7U,←ih]
    clear ih hi
    rw[q1O f67_L0.eq_1]
    unfold bitR
    cases hb:bits .and .u32 r 1==1
    · simp(disch:=first|decide|omega|(simp only[LN];first|done|omega)) only[SV,SW,Nat.reduceBEq,hb,e_sh,sh1]
      rfl
    · simp(disch:=first|decide|omega|(simp only[LN];first|done|omega)) only[SV,SW,Nat.reduceBEq,hb,e_sh,sh1]
      rfl
theorem j10(K:Cx)(l:Bs)(a1:Bool)(hl:l.length≤9000000000000000000):∀(k i:Nat)(r:Int),i+k=l.length→
    lp K 0 [0,3,4] f67_L1 ⟨[(0,.d a1 (.sl 1 (l.map eU))),(3,.d false (.int .u32 r)),(4,.d false (.int .i64 i))],[],0,[]⟩ =
      some (.exit 0,⟨[(3,.d false (.int .u32 ((l.drop i).foldl q7v r)))],[],0,[]⟩):=by
  intro k
  induction k with
  |zero=>
    intro i r hi
    obtain rfl:i=l.length:=by omega
    rw[q1O f67_L1.eq_1,List.drop_length]
    simp(disch:=first|decide|omega|(simp only[LN];first|done|omega)) only[SV,SW,Nat.reduceBEq,List.foldl_nil]
  |succ k ih=>
    intro i r hi
    have hd:l.drop i=nth l i :: l.drop (i+1):=q3d (by omega)
    generalize hx:nth l (i:Int)=x at *
    have ih:=ih (i+1) (q7v r x) (by omega)
    have e0:=j11 K l i a1 false 8 0 (bits .xor .u32 r (IntKind.u32.wrap (x.toNat:Int))) (by omega)
    rw[show q7U 8 (bits .xor .u32 r (IntKind.u32.wrap (x.toNat:Int)))=q7v r x from rfl] at e0
    rw[hd,List.foldl_cons,←ih]
    clear ih hd
    rw[q1O f67_L1.eq_1]
    simp only[Int.natCast_zero] at e0
    simp(disch:=first|decide|omega|(simp only[LN];first|done|omega)) only[SV,SW,Nat.reduceBEq,hx,j3c,q0D,e0]
    rfl
theorem ev_sumR(K:Cx)(l:Bs)(a1:Bool)(hl:l.length≤9000000000000000000):q0U K f67 [.d a1 (.sl 1 (l.map eU))] []=some (.d false (.int .u32 (sumS l)),[],[]):=by
  have e0:=j10 K l a1 hl l.length 0 4294967295 (by omega)
  simp only[List.drop_zero,Int.natCast_zero] at e0
  unfold sumS
  generalize l.foldl q7v 4294967295=q at *
  simp(disch:=first|decide|omega|(simp only[LN];first|done|omega)) only[SV,SW,f67,Nat.reduceBEq,e0,evUn,Int.reduceNeg,q0d]
theorem j13(K:Cx)(l:Bs)(n m:Int)(a1 a2 a3:Bool):∀(k i:Nat)(r:Int),i+k=8→
    lp K 0 [3,7,8,9,17] f72_L0 ⟨[(3,.d false (.int .u32 r)),(7,.d a1 (.sl 1 (l.map eU))),(8,.d a2 (.int .i64 n)),(9,.d a3 (.int .i64 m)),(17,.d false (.int .i64 i))],[],0,[]⟩ =
      some (.exit 2,⟨[(3,.d false (.int .u32 (q7U k r))),(7,.d a1 (.sl 1 (l.map eU))),(8,.d a2 (.int .i64 n)),(9,.d a3 (.int .i64 m))],[],0,[]⟩):=by
  intro k
  induction k with
  |zero=>
    intro i r hi
    obtain rfl:i=8:=by omega
    rw[q1O f72_L0.eq_1]
    simp(disch:=first|decide|omega|(simp only[LN];first|done|omega)) only[SV,SW,Nat.reduceBEq,q7U]
  |succ k ih=>
    intro i r hi
    have ih:=ih (i+1) (bitR r) (by omega)
    have hi8:i<8:=by omega
    rw[q7U,←ih]
    clear ih hi
    rw[q1O f72_L0.eq_1]
    unfold bitR
    cases hb:bits .and .u32 r 1==1
    · simp(disch:=first|decide|omega|(simp only[LN];first|done|omega)) only[SV,SW,Nat.reduceBEq,e_sh,sh1,hb]
      rfl
    · simp(disch:=first|decide|omega|(simp only[LN];first|done|omega)) only[SV,SW,Nat.reduceBEq,e_sh,sh1,hb]
      rfl
theorem j12(K:Cx)(l:Bs)(a1 a2:Bool)(hl:l.length≤9000000000000000000):∀(k i:Nat)(r:Int),i+k=l.length→
    lp K 0 [3,7,8,9] f72_L1 ⟨[(3,.d false (.int .u32 r)),(7,.d a1 (.sl 1 (l.map eU))),(8,.d a2 (.int .i64 l.length)),(9,.d false (.int .i64 i))],[],0,[]⟩ =
      some (.exit 0,⟨[(3,.d false (.int .u32 ((l.drop i).foldl q7v r)))],[],0,[]⟩):=by
  intro k
  induction k with
  |zero=>
    intro i r hi
    obtain rfl:i=l.length:=by omega
    rw[q1O f72_L1.eq_1,List.drop_length]
    simp(disch:=first|decide|omega|(simp only[LN];first|done|omega)) only[SV,SW,Nat.reduceBEq,List.foldl_nil]
  |succ k ih=>
    intro i r hi
    have hd:l.drop i=nth l i :: l.drop (i+1):=q3d (by omega)
    generalize hx:nth l (i:Int)=x at *
    have ih:=ih (i+1) (q7v r x) (by omega)
    have e0:=j13 K l l.length i a1 a2 false 8 0 (bits .xor .u32 r (IntKind.u32.wrap (x.toNat:Int))) (by omega)
    rw[show q7U 8 (bits .xor .u32 r (IntKind.u32.wrap (x.toNat:Int)))=q7v r x from rfl] at e0
    rw[hd,List.foldl_cons,←ih]
    clear ih hd
    rw[q1O f72_L1.eq_1]
    simp only[Int.natCast_zero] at e0
    simp(disch:=first|decide|omega|(simp only[LN];first|done|omega)) only[SV,SW,Nat.reduceBEq,hx,j3c,q0D,e0]
    rfl
theorem j23(K:Cx)(l:Bs)(a1:Bool)(hl:l.length≤9000000000000000000):q0U K f72 [.d a1 (.sl 1 (l.map eU))] []=some (.d false (.int .u32 (sumS l)),[],[]):=by
  have e0:=fun a2=>j12 K l a1 a2 hl l.length 0 4294967295 (by omega)
  simp only[List.drop_zero,Int.natCast_zero] at e0
  unfold sumS
  generalize l.foldl q7v 4294967295=q at *
  simp(disch:=first|decide|omega|(simp only[LN];first|done|omega)) only[SV,SW,f72,Nat.reduceBEq,e0,evUn,Int.reduceNeg,q0d]
def q28(s:Int):Bs:=[UInt8.ofNat (s % 256).toNat,UInt8.ofNat (s / 256 % 256).toNat,UInt8.ofNat (s / 65536 % 256).toNat,UInt8.ofNat (s / 16777216 % 256).toNat]
theorem j4W(x:Int):eU (UInt8.ofNat (x % 256).toNat)=[.int .u8 (IntKind.u8.wrap x)]:=by
  rw[z88 (by omega),z03]
  congr 2;omega
theorem sh8(c c':Bool){k':IntKind}(r:Int):evSh false (.d c (.int .u32 r)) (.d c' (.int k' 8))=some (.int .u32 (r / 256)):=rfl
theorem sh16(c c':Bool){k':IntKind}(r:Int):evSh false (.d c (.int .u32 r)) (.d c' (.int k' 16))=some (.int .u32 (r / 65536)):=rfl
theorem sh24(c c':Bool){k':IntKind}(r:Int):evSh false (.d c (.int .u32 r)) (.d c' (.int k' 24))=some (.int .u32 (r / 16777216)):=rfl
theorem z8w(s:Int):(q28 s).map eU=[[.int .u8 (IntKind.u8.wrap s)],[.int .u8 (IntKind.u8.wrap (s / 256))],[.int .u8 (IntKind.u8.wrap (s / 65536))],[.int .u8 (IntKind.u8.wrap (s / 16777216))]]:=by
  simp only[q28,List.map_cons,List.map_nil,j4W]
theorem j26(K:Cx)(c:Bool)(s:Int):q0U K f71 [.d c (.int .u32 s)] []=some (.d true (.sl 1 ((q28 s).map eU)),[],[]):=by
  rw[z8w]
  simp(disch:=first|decide|omega|(simp only[LN];first|done|omega)) only[SV,SW,f71,q0D,e_sh,sh8,sh16,sh24,Nat.reduceAdd,Nat.reduceBEq,q0d,hNew,V.forget,V.drop1,V.ref0,V.newR,q0b]
end Go.Vm
end

section
namespace Go.Vm
set_option maxHeartbeats 8000000 in
theorem j0N(K:Cx)(op:Int):q0U K f79 [.d false (.int .i64 op)] []=some (z49 (q0S op) (decide (1≤op∧op<18)),[],[]):=by
 unfold q0S
 by_cases h:1≤op∧op<18
 ·rw[if_pos h]
  have hd:decide (1≤op∧op<18)=true:=by simpa using h
  rw[hd]
  obtain⟨h1,h2⟩:=h
  have:op=1∨op=2∨op=3∨op=4∨op=5∨op=6∨op=7∨op=8∨op=9∨op=10∨op=11∨op=12∨op=13∨op=14∨op=15∨op=16∨op=17:=by omega
  simp(disch:=first|decide|omega|(simp only[LN];first|done|omega)) only[SV,SW,f79,Nat.reduceAdd,Nat.reduceBEq,lose,e_aa,evAa]
  clear hd h1 h2
  rcases this with rfl|rfl|rfl|rfl|rfl|rfl|rfl|rfl|rfl|rfl|rfl|rfl|rfl|rfl|rfl|rfl|rfl
  all_goals(simp(disch:=first|decide|omega|(simp only[LN];first|done|omega)) only[SV,SW,Int.reduceToNat,Nat.reduceMul,Nat.reduceSub,Nat.min_def,lose,Nat.reduceBEq,Nat.reduceAdd,q0d];rfl)
 ·rw[if_neg h]
  have hd:decide (1≤op∧op<18)=false:=by simpa using h
  rw[hd]
  clear hd
  by_cases h1:op<1
  ·simp(disch:=first|decide|omega|(simp only[LN];first|done|omega)) only[SV,SW,f79,Nat.reduceAdd,Nat.reduceBEq,lose,q0d]
   rfl
  ·simp(disch:=first|decide|omega|(simp only[LN];first|done|omega)) only[SV,SW,f79,Nat.reduceAdd,Nat.reduceBEq,lose,q0d]
   rfl
end Go.Vm
end

section
namespace Go.Vm
set_option maxRecDepth 20000
open Go.Proofs
/- 'sloth/slothlaw17.lent' -/
def behN:List UInt8:=[98,101,104,105,110,100]
def behS:Shape:=⟨behN,0⟩
def mkI:Instr:=⟨-77,0,0⟩
structure Sm(t:Table):Prop where
 sh:t.shapes.length≤1048576
 gl:t.globals.length≤1048576
 cd:∀ g∈t.globals,g.code.length≤1048576
def tabV(t:Table):List V:=[.d false (.sl 2 (t.shapes.map q0k)),.d false (.sl 3 (t.globals.map q00))]
def finS(t:Table):List Shape:=t.shapes++[behS,behS]
def finI(l:List Instr):List Instr:=l++[mkI,mkI]
end Go.Vm
end

section
namespace Go.Vm
set_option maxRecDepth 20000
open Go.Proofs
abbrev Gl:=List (Nat×Glob)
def rowG(q:Nat×Glob):List V:=[.d false (.str q.2.name),.d false (.int .i64 q.2.arity),.bsx q.1 0 q.2.code.length]
def behG(z:Bool):List V:=[.d false (.str behN),.d false (.int .i64 0),.fs z 3 []]
def behD:List D:=[.str behN,.int .i64 0,.sl 3 []]
def numG(p:Nat):List Glob→Gl
 |[]=>[]
 |g :: r=>(p,g) :: numG (p+1) r
theorem q71(gs:List Glob):∀ p,(numG p gs).length=gs.length:=by
 induction gs with
 |nil=>intro p;rfl
 |cons g r ih=>intro p;simp [numG,ih]
theorem q72:∀(gs:List Glob)(p i:Nat),(numG p gs)[i]? = gs[i]?.map fun g=>(p+i,g)
 |[],p,i=>by simp [numG]
 |g :: r,p,0=>by simp [numG]
 |g :: r,p,i+1=>by
  simp only[numG,List.getElem?_cons_succ]
  rw[q72 r (p+1) i]
  congr 1
  funext x
  rw[show p+1+i=p+(i+1) by omega]
end Go.Vm
end

section
namespace Go.Vm
set_option maxRecDepth 20000
open Go.Proofs
def gB(z:Bool)(p:Nat)(gs:List Glob):Blk:=if gs=[] then .dat z 3 [behD,behD] else .mix 3 ((numG p gs).map rowG++[behG z,behG z])
def cB(z:Bool)(g:Glob):Blk:=.dat z 3 ((finI g.code).map q0J)
def tblk(z:Bool)(p:Nat)(t:Table):List Blk:=.dat z 2 ((finS t).map q0k) :: gB z p t.globals :: t.globals.map (cB z)
structure TB(H:List (Nat×Blk))(p:Nat)(z:Bool)(t:Table):Prop where
 s:look H p=some (.dat z 2 ((finS t).map q0k))
 g:look H (p+1)=some (gB z (p+2) t.globals)
 c:∀ j,j<t.globals.length→look H (p+2+j)=some (cB z (nth t.globals j))
theorem z3L(z p t):(tblk z p t).length=t.globals.length+2:=by simp [tblk]
theorem q4b{α:Type} [Inhabited α]{l:List α}{j:Nat}(h:j<l.length):l[j]? = some (nth l (j:Int)):=by
 rw[z3e,List.getD_eq_getElem?_getD,List.getElem?_eq_getElem h];rfl
theorem TB.all{H:List (Nat×Blk)}{p:Nat}{z:Bool}{t:Table}(h:TB H p z t):∀ j,j<t.globals.length+2→look H (p+j)=(tblk z (p+2) t)[j]?:=by
 intro j hj
 match j,hj with
 |0,_=>rw[Nat.add_zero,h.s];rfl
 |1,_=>rw[h.g];rfl
 |j+2,hj=>
  rw[show p+(j+2)=p+2+j by omega,h.c j (by omega)]
  simp only[tblk,List.getElem?_cons_succ,List.getElem?_map,q4b (show j<t.globals.length by omega),Option.map_some]
theorem z7g(q:Nat×Glob):refsL (rowG q)=[q.1]:=rfl
theorem z9j(z):refsL (behG z)=[]:=rfl
theorem z1H:∀(gs:List Glob)(p:Nat),((numG p gs).map rowG).flatMap refsL=List.range' p gs.length
 |[],_=>rfl
 |g :: r,p=>by
  simp only[numG,List.map_cons,List.flatMap_cons,z7g,z1H r (p+1),List.length_cons,List.range'_succ]
  rfl
theorem z8u(z p gs):(gB z p gs).refs=List.range' p gs.length:=by
 unfold gB
 split
 ·rename_i h;subst h;rfl
 ·simp only[Blk.refs,List.flatMap_append,z1H,List.flatMap_cons,z9j,List.flatMap_nil,List.append_nil]
theorem z24{H:List (Nat×Blk)}{b:Nat}{k:Blk}(h:look H b=some k):k.refs.length≤refN H:=by
 induction H with
 |nil=>simp [look] at h
 |cons q H ih=>
  obtain⟨c,x⟩:=q
  simp only[refN,List.map_cons,List.sum_cons]
  simp only[look] at h
  split at h
  ·obtain rfl:=Option.some.inj h;omega
  ·have:=ih h
   simp only[refN] at this
   omega
theorem q39(H:List (Nat×Blk)):∀(todo:List Nat)(fuel:Nat)(done:List Nat),todo.Nodup→(∀ b∈todo,b∉done∧j0a (look H b)=[])→todo.length≤fuel→q03 H fuel done todo=done++todo
 |[],fuel,done,_,_,_=>by rw[q1u,List.append_nil]
 |b :: r,0,done,_,_,h=>by simp at h
 |b :: r,fuel+1,done,hn,hd,hf=>by
  rw[List.nodup_cons] at hn
  have hb:=hd b (by simp)
  rw[q0x,show done.contains b=false by simpa using hb.1,q0s,hb.2,List.append_nil]
  rw[q39 H r fuel (done++[b]) hn.2 (fun c hc=>⟨by
   simp only[List.mem_append,List.mem_singleton,not_or]
   exact⟨(hd c (by simp [hc])).1,fun e=>hn.1 (e ▸ hc)⟩,(hd c (by simp [hc])).2⟩) (by simpa using hf)]
  simp
theorem TB.reach{H:List (Nat×Blk)}{p:Nat}{z:Bool}{t:Table}(h:TB H p z t):q03 H (refN H+64) [] [p,p+1]=List.range' p (t.globals.length+2):=by
 have hr:=z24 h.g
 rw[z8u,List.length_range'] at hr
 rw[show refN H+64=(refN H+62)+1+1 by omega,q0x]
 simp only[List.contains_nil,q0s,h.s,q0O,Blk.refs,List.append_nil,List.nil_append]
 rw[q0x,show [p].contains (p+1)=false by simp,q0s,h.g,q0O,z8u,List.nil_append]
 rw[q39 _ _ _ _ (List.nodup_range' (step:=1)) (fun b hb=>?_) (by simp;omega)]
 ·rw[show t.globals.length+2=(t.globals.length+1)+1 by omega,List.range'_succ,List.range'_succ]
  rfl
 ·rw[List.mem_range'_1] at hb
  refine⟨by simp;omega,?_⟩
  obtain⟨j,rfl⟩:∃ j,b=p+2+j:=⟨b - (p+2),by omega⟩
  rw[h.c j (by omega)];rfl
end Go.Vm
end

section
namespace Go.Vm
set_option maxRecDepth 20000
open Go.Proofs
/- 'sloth/slothref17.instr' -/
/- 'sloth/slothref17.form' -/
/- 'sloth/slothref17.words' -/
/- 'sloth/slothref17.operators' -/
def q7T(op:Int):Bs:=if op=6∨op=11∨op=17 then [] else if op=2 then [103] else if op=9∨op=10 then [99] else if op=12 then [111] else if op=14 then [99,110] else if op=15 then [110,110] else [110]
def j3k(t:Table)(l:UInt8)(n:Int):Prop:=(l=110∧-9223372036854775807≤n∧n≤9223372036854775807)∨(l=103∧0≤n∧n<t.globals.length)∨(l=99∧0≤n∧n<t.shapes.length)∨(l=111∧1≤n∧n≤11)
structure Nm(t:Table):Prop where
 sn:∀ s∈t.shapes,s.name.length≤4096
 gn:∀ g∈t.globals,g.name.length≤4096
structure InsOk(t:Table)(x:Instr):Prop where
 op:1≤x.op∧x.op<18
 a:0<(q7T x.op).length→j3k t (nth (q7T x.op) 0) x.a
 b:1<(q7T x.op).length→j3k t (nth (q7T x.op) 1) x.b
end Go.Vm
end

section
namespace Go.Vm
set_option maxRecDepth 20000
open Go.Proofs
theorem q8M{α β:Type}{f:α→Option β}:∀ {l:List α}{r:List β},r.length=l.length→(∀(j:Nat)(x:α),l[j]? = some x→f x=r[j]?)→mapO f l=some r
 |[],[],_,_=>rfl
 |[],_ :: _,h,_=>by simp at h
 |_ :: _,[],h,_=>by simp at h
 |a :: l,b :: r,h,hf=>by
  have h0:=hf 0 a rfl
  have ih:=q8M (f:=f) (l:=l) (r:=r) (by simpa using h) (fun j x hx=>hf (j+1) x hx)
  simp only[List.getElem?_cons_zero] at h0
  simp only[mapO,h0,ih]
theorem q5y(p m b:Nat):(List.range' p m).contains b=decide (p≤b∧b<p+m):=by
 rw[Bool.eq_iff_iff]
 simp only[List.contains_eq_mem,decide_eq_true_eq,List.mem_range'_1]
theorem j0d{p m j:Nat}(h:j<m):(List.range' p m).idxOf (p+j)=j:=by
 have h1:(List.range' p m)[j]? = some (p+j):=by simp [h]
 exact q6j (List.nodup_range' (step:=1)) h1
theorem j3K(p m j b:Nat)(h:(List.range' p m)[j]? = some b):j<m∧b=p+j:=by
 obtain⟨h1,h2⟩:=List.getElem?_eq_some_iff.1 h
 simp only[List.length_range'] at h1
 refine⟨h1,?_⟩
 rw[←h2]
 simp
theorem z1P{α β:Type}{f:α→Option β}{t t':List α}{t2:List β}(h:mapO f t=some t2):∀ {l:List α}{l2:List β},mapO f l=some l2→mapO f (l++t)=some (l2++t2)
 |[],l2,h1=>by cases h1;simpa using h
 |a :: l,l2,h1=>by
  simp only[mapO] at h1
  cases ha:f a with
  |none=>simp [ha] at h1
  |some b=>
   cases hl:mapO f l with
   |none=>simp [ha,hl] at h1
   |some bs=>
    simp only[ha,hl,Option.some.injEq] at h1
    subst h1
    have:=z1P (t':=t) h hl
    simp only[List.cons_append,mapO,ha,this]
theorem j2C{zz:Bool}{bs:List Nat}{H:List (Nat×Blk)}{q q':Nat}{g:Glob}(h1:bs.contains q=true)(h2:bs.idxOf q=q'):mapO (finC zz bs H) (rowG (q,g))=some (rowG (q',g)):=by
 have e:finC zz bs H (.bsx q 0 g.code.length)=some (.bsx q' 0 g.code.length):=by simp only[finC,h1,h2,if_true]
 simp only[rowG,mapO,finC,h1,h2,if_true]
theorem z4p{zz:Bool}{bs:List Nat}{H:List (Nat×Blk)}:∀(gs:List Glob)(q q':Nat),(∀ i,i<gs.length→bs.contains (q+i)=true∧bs.idxOf (q+i)=q'+i)→mapO (mapO (finC zz bs H)) ((numG q gs).map rowG)=some ((numG q' gs).map rowG)
 |[],_,_,_=>rfl
 |g :: r,q,q',h=>by
  have h0:=h 0 (by simp)
  have ih:=z4p (zz:=zz) (bs:=bs) (H:=H) r (q+1) (q'+1) fun i hi=>by
   have:=h (i+1) (by simp;omega)
   rw[show q+1+i=q+(i+1) by omega,show q'+1+i=q'+(i+1) by omega];exact this
  simp only[Nat.add_zero] at h0
  simp only[numG,List.map_cons,mapO,j2C h0.1 h0.2,ih]
theorem TB.fin{H:List (Nat×Blk)}{p:Nat}{z zz:Bool}{t:Table}(h:TB H p z t)(hz:z=true∨zz=false):mapO (finB zz (List.range' p (t.globals.length+2)) H) (List.range' p (t.globals.length+2))=some (tblk z 2 t):=by
 have ez:∀ b,(z||(zz&&b))=z:=fun b=>by rcases hz with rfl|rfl <;> simp
 refine q8M (by simp [z3L]) fun j b hb=>?_
 obtain⟨hj,rfl⟩:=j3K _ _ _ _ hb
 match j,hj with
 |0,_=>simp only[finB,Nat.add_zero,h.s,ez];rfl
 |1,_=>
  show finB _ _ _ _=some (gB z 2 t.globals)
  simp only[finB,h.g]
  by_cases hg:t.globals=[]
  ·simp only[gB,if_pos hg,ez]
  ·simp only[gB,if_neg hg]
   rw[z1P (t':=[]) (t2:=[behG z,behG z]) rfl (z4p t.globals (p+2) 2 fun i hi=>⟨by rw[q5y,decide_eq_true_eq];omega,by rw[show p+2+i=p+(2+i) by omega];exact j0d (by omega)⟩)]
   rfl
 |j+2,hj=>
  rw[show p+(j+2)=p+2+j by omega]
  simp only[finB,h.c j (by omega),cB,ez]
  simp only[tblk,List.getElem?_cons_succ,List.getElem?_map,q4b (show j<t.globals.length by omega),Option.map_some,cB]
end Go.Vm
end

section
namespace Go.Vm
set_option maxRecDepth 20000
open Go.Proofs
/- 'sloth/slothlaw17.kept' -/
theorem TB.mono{H H':List (Nat×Blk)}{p:Nat}{z:Bool}{t:Table}(h:TB H p z t)(hH:∀ b,p≤b→b<p+(t.globals.length+2)→look H' b=look H b):TB H' p z t:=
 ⟨by rw[hH _ (by omega) (by omega)];exact h.s,by rw[hH _ (by omega) (by omega)];exact h.g,fun j hj=>by rw[hH _ (by omega) (by omega)];exact h.c j hj⟩
end Go.Vm
end

section
namespace Go.Vm
set_option maxRecDepth 20000
open Go.Proofs
/- 'sloth/slothlaw17.turn' -/
def lastA (t:Table):Int:=(nth t.globals ((t.globals.length:Int) - 1)).arity
def i0 (t:Table):Nat:=t.globals.findIdx fun g=>g.arity == lastA t
end Go.Vm
end

section
namespace Go.Vm
set_option maxRecDepth 20000
open Go.Proofs
def h2(a b:Table):List (Nat×Blk):=[(0,.mix 2 [tabV a]),(1,.mix 2 [tabV b])]
def noV:Ex×S:=(.ret,⟨[(4,.d false (.bool false))],[],0,[]⟩)
def h4(a b:Table)(g h:Glob):List (Nat×Blk):=[(0,.mix 2 [tabV a]),(1,.mix 2 [tabV b]),(2,.mix 3 [[.d false (.str g.name),.d false (.int .i64 g.arity),.d false (.sl 3 (g.code.map q0J))]]),(3,.mix 3 [[.d false (.str h.name),.d false (.int .i64 h.arity),.d false (.sl 3 (h.code.map q0J))]])]
def y1(a b:Table)(j:Nat)(r:Bool):Ex×S:=if r then(.exit 4,⟨[(2,.ptr 0 0 0),(3,.ptr 1 0 0),(6,.d false (.int .i64 j))],h2 a b,2,[]⟩) else noV
end Go.Vm
end

section
namespace Go.Vm
set_option maxRecDepth 20000
open Go.Proofs
def gL(z:Bool)(L:Gl):Blk:=if L=[] then .dat z 3 [behD,behD] else .mix 3 (L.map rowG++[behG z,behG z])
theorem j0i{p:Nat}{gs:List Glob}:numG p gs=[]↔gs=[]:=by
 cases gs <;> simp [numG]
theorem gB_L(z p gs):gB z p gs=gL z (numG p gs):=by
 unfold gB gL;simp only[j0i]
theorem z32:∀(gs:List Glob)(p:Nat),(numG p gs).map (·.2)=gs
 |[],_=>rfl
 |g :: r,p=>by simp only[numG,List.map_cons,z32 r]
theorem z9X{H:List (Nat×Blk)}{z:Bool}{q:Nat×Glob}(h:look H q.1=some (cB z q.2)):mapO (q0b 5 H) (rowG q)=some (q00 q.2):=by
 have e:q0b 5 H (.bsx q.1 0 q.2.code.length)=some (.sl 3 (q.2.code.map q0J)):=by
  simp only[q0b,h,cB]
  rw[if_pos (by simp [finI])]
  congr 2
  rw[List.drop_zero,←List.map_take]
  unfold finI
  rw[List.take_append_of_le_length (Nat.le_refl _),List.take_length]
 simp only[rowG,mapO,e]
 rfl
theorem z06{H:List (Nat×Blk)}{z:Bool}:∀(L:Gl),(∀ q∈L,look H q.1=some (cB z q.2))→mapO (fun r:List V=>mapO (q0b 5 H) r) (L.map rowG)=some (L.map fun q=>q00 q.2)
 |[],_=>rfl
 |q :: L,h=>by
  simp only[List.map_cons,mapO,z9X (h q (by simp)),z06 L fun q hq=>h q (by simp [hq])]
theorem j3p{H:List (Nat×Blk)}{b:Nat}{z:Bool}{L:Gl}(hg:look H b=some (gL z L))(hL:∀ q∈L,look H q.1=some (cB z q.2)):q0b 6 H (.bsx b 0 L.length)=some (.sl 3 (L.map fun q=>q00 q.2)):=by
 unfold gL at hg
 by_cases h:L=[]
 ·subst h
  rw[if_pos rfl] at hg
  simp only[q0b,hg];rfl
 ·rw[if_neg h] at hg
  simp only[q0b,hg]
  rw[if_pos (by simp),List.drop_zero,List.take_append_of_le_length (by simp),List.take_of_length_le (by simp),z06 L hL]
  rfl
theorem j3o{H:List (Nat×Blk)}{b:Nat}{z:Bool}{t:Table}(h:look H b=some (.dat z 2 ((finS t).map q0k))):q0b 6 H (.bsx b 0 t.shapes.length)=some (.sl 2 (t.shapes.map q0k)):=by
 simp only[q0b,h]
 rw[if_pos (by simp [finS])]
 congr 2
 rw[List.drop_zero,←List.map_take]
 unfold finS
 rw[List.take_append_of_le_length (Nat.le_refl _),List.take_length]
theorem j30{H:List (Nat×Blk)}{z:Bool}{p:Nat}{gs:List Glob}(h:∀ j,j<gs.length→look H (p+j)=some (cB z (nth gs j))):∀ q∈numG p gs,look H q.1=some (cB z q.2):=by
 intro q hq
 obtain⟨j,hj⟩:=List.getElem?_of_mem hq
 rw[q72] at hj
 have hl:j<gs.length:=by
  rcases Nat.lt_or_ge j gs.length with h|h
  ·exact h
  ·rw[List.getElem?_eq_none h] at hj;cases hj
 rw[q4b hl] at hj
 obtain rfl:=Option.some.inj hj
 exact h j hl
theorem TB.view{H:List (Nat×Blk)}{p:Nat}{z:Bool}{t:Table}(h:TB H p z t):q0b 6 H (.bsx p 0 t.shapes.length)=some (.sl 2 (t.shapes.map q0k))∧q0b 6 H (.bsx (p+1) 0 t.globals.length)=some (.sl 3 (t.globals.map q00)):=by
 refine⟨j3o h.s,?_⟩
 have hg:=h.g
 rw[gB_L] at hg
 have:=j3p hg (j30 h.c)
 rw[q71] at this
 rw[this]
 congr 2
 conv=>rhs;rw[←z32 t.globals (p+2)]
 rw[List.map_map];rfl
theorem q3W(g:Nat→Nat)(b:Nat):∀(l:List Blk)(k:Nat)(H:List (Nat×Blk)),(∀ j,j<l.length→g (k+j)≠b)→look (putAll H g k l) b=look H b
 |[],_,_,_=>rfl
 |x :: l,k,H,h=>by
  simp only[putAll]
  rw[q3W g b l (k+1) _ fun j hj=>by have:=h (j+1) (by simp;omega);rwa [show k+(j+1)=k+1+j by omega] at this]
  exact q0c _ _ (by have:=h 0 (by simp);simpa using this)
theorem q5J(g:Nat→Nat):∀(l:List Blk)(k:Nat)(H:List (Nat×Blk)),(∀ i j,i<l.length→j<l.length→g (k+i)=g (k+j)→i=j)→∀ j x,l[j]? = some x→look (putAll H g k l) (g (k+j))=some (x.ren g)
 |[],_,_,_,j,x,hx=>by simp at hx
 |y :: l,k,H,h,0,x,hx=>by
  obtain rfl:y=x:=by simpa using hx
  simp only[putAll]
  rw[q3W g _ l (k+1) _ fun j hj e=>by have:=h (j+1) 0 (by simp;omega) (by simp) (by rw[show k+(j+1)=k+1+j by omega];exact e);omega]
  exact q0G _ _ _
 |y :: l,k,H,h,j+1,x,hx=>by
  simp only[putAll]
  rw[show k+(j+1)=k+1+j by omega]
  exact q5J g l (k+1) _ (fun i j hi hj e=>by have:=h (i+1) (j+1) (by simp;omega) (by simp;omega) (by rw[show k+(i+1)=k+1+i by omega,show k+(j+1)=k+1+j by omega];exact e);omega) j x (by simpa using hx)
end Go.Vm
end

section
namespace Go.Vm
end Go.Vm
end

section
namespace Go.Vm
def q1Q(ng:Nat)(sh:List Shape)(g:Glob):Int:=
 if q5G ng sh.length g.code.length g.code g.code.length 0=0 then
  if g.code.length=0 then 174 else depL sh g.code g.code.length 0 ((List.replicate g.code.length 0).set 0 (g.arity+1))
 else q5G ng sh.length g.code.length g.code g.code.length 0
def q26(most:Int):List (List UInt8×Int)→List (List UInt8)→Bool
 |[],_=>true
 |(n,k) :: r,seen=>if q2s n&&!seen.contains n&&decide (0≤k)&&decide (k≤most) then q26 most r (seen++[n]) else false
def z5D(sh:List Shape):Nat→Nat→Bool
 |0,_=>true
 |k+1,i=>if i<sh.length∧nth sh i=nth givenS i then z5D sh k (i+1) else false
def z8o(sh:List Shape):Bool:=z5D sh 7 0
def q7L(ng:Nat)(sh:List Shape):List Glob→Int
 |[]=>0
 |g :: r=>if q1Q ng sh g=0 then q7L ng sh r else q1Q ng sh g
def q1P(t:Table):Int:=
 if q7G t then 4 else
 if q26 8 (t.shapes.map fun s=>(s.name,s.fields)) []=false then 172 else
 if z8o t.shapes=false then 172 else
 if q26 24 (t.globals.map fun g=>(g.name,g.arity)) []=false then 172 else
 q7L t.globals.length t.shapes t.globals
theorem q2h(most:Int):∀(l:List (List UInt8×Int))(seen:List (List UInt8)),q26 most l seen=true→∀ p∈l,q2s p.1=true∧0≤p.2∧p.2≤most:=by
 intro l
 induction l with
 |nil=>intro seen _ p hp;simp at hp
 |cons q l ih=>
  obtain⟨n,k⟩:=q
  intro seen h p hp
  simp only[q26] at h
  split at h
  ·rename_i hc
   simp only[Bool.and_eq_true,decide_eq_true_eq] at hc
   rcases List.mem_cons.1 hp with rfl|hp
   ·exact⟨hc.1.1.1,hc.1.2,hc.2⟩
   ·exact ih _ h p hp
  ·cases h
theorem z5F:∀(l:List Glob)(n m:Int),q4U l n=some m→∀ g∈l,(g.code.length:Int)≤8000:=by
 intro l
 induction l with
 |nil=>intro n m _ g hg;simp at hg
 |cons q l ih=>
  intro n m h g hg
  simp only[q4U] at h
  split at h
  ·cases h
  ·rcases List.mem_cons.1 hg with rfl|hg
   ·omega
   ·exact ih _ _ h g hg
theorem z4k{t:Table}(h:q7G t=false):t.shapes.length≤2000∧t.globals.length≤2000∧∀ g∈t.globals,g.code.length≤8000:=by
 unfold q7G at h
 cases hg:q4U t.globals 0 with
 |none=>rw[hg] at h;cases h
 |some n=>
  rw[hg] at h
  simp only[Bool.or_eq_false_iff,decide_eq_false_iff_not] at h
  exact⟨by omega,by omega,fun g hm=>by have:=z5F _ _ _ hg g hm;omega⟩
end Go.Vm
end

section
namespace Go.Vm
def K21(K:Cx):Prop:=∀ s:List UInt8,(s.length:Int)≤9223372036854775807→K.call 35 [.d false (.str s)]=some (.d false (.bool (q2s s)),[])
def q8v(t:Table)(r:Bool×List (List UInt8)):Ex×S:=if r.1 then(.exit 0,⟨[(1,.ptr 0 0 0),(3,.map 1)],[(0,.mix 2 [[.d false (.sl 2 (t.shapes.map q0k)),.d false (.sl 3 (t.globals.map q00))]]),(1,.map (q3S r.2))],2,[]⟩) else(.ret,⟨[(2,.d false (.int .i64 172))],[],0,[]⟩)
theorem q24(t m):q8v t (false,m)=(.ret,⟨[(2,.d false (.int .i64 172))],[],0,[]⟩):=rfl
theorem q8u(t m):q8v t (true,m)=(.exit 0,⟨[(1,.ptr 0 0 0),(3,.map 1)],[(0,.mix 2 [[.d false (.sl 2 (t.shapes.map q0k)),.d false (.sl 3 (t.globals.map q00))]]),(1,.map (q3S m))],2,[]⟩):=rfl
theorem z2Y(K:Cx)(h21:K21 K)(t:Table)(hl:t.shapes.length≤2000)(hn:∀ s∈t.shapes,(s.name.length:Int)≤9223372036854775807):∀(k i:Nat)(seen:List (List UInt8)),i+k=t.shapes.length→
  lp K 0 [1,3,17,18,19] f13_L0 ⟨[(1,.ptr 0 0 0),(3,.map 1),(17,.d false (.sl 2 (t.shapes.map q0k))),(18,.d false (.int .i64 t.shapes.length)),(19,.d false (.int .i64 i))],[(0,.mix 2 [[.d false (.sl 2 (t.shapes.map q0k)),.d false (.sl 3 (t.globals.map q00))]]),(1,.map (q3S seen))],2,[]⟩ =
  some (q8v t (q26 8 ((t.shapes.drop i).map fun s=>(s.name,s.fields)) seen,seen++(t.shapes.drop i).map (·.name))):=by
 intro k
 induction k with
 |zero=>
  intro i seen hi
  rw[q1O f13_L0.eq_1,List.drop_of_length_le (by omega)]
  simp only[List.map_nil,q26,List.append_nil]
  simp(disch:=first|decide|omega|(simp only[LN];first|done|omega)) only[SV,SW,Nat.reduceBEq,reduceCtorEq,Nat.reduceAdd,q8u]
 |succ k ih=>
  intro i seen hi
  have hcast:((i+1:Nat):Int)=(i:Int)+1:=by omega
  have hlt:i<t.shapes.length:=by omega
  rw[q1O f13_L0.eq_1,q3d hlt]
  have hnm:=hn _ (q44 (l:=t.shapes) (i:=(i:Int)) (by omega) (by omega))
  have hc:=h21 _ hnm
  have ih:=fun seen=>ih (i+1) seen (by omega)
  rw[hcast] at ih
  simp only[List.map_cons,q26]
  generalize hs:nth t.shapes (i:Int)=s at hc hnm
  generalize q2s s.name=b1 at hc
  clear hnm hn
  cases hse:seen.contains s.name with
  |true=>
   cases b1 with
   |false=>
    simp only[Bool.false_and]
    simp(disch:=first|decide|omega|(simp only[LN];first|done|omega)) only[SV,SW,Nat.reduceBEq,Nat.reduceAdd,hs,q1a,lose,q0b,hc,evUn,hse,q24]
   |true=>
    simp only[Bool.not_true,Bool.and_false,Bool.false_and]
    simp(disch:=first|decide|omega|(simp only[LN];first|done|omega)) only[SV,SW,Nat.reduceBEq,Nat.reduceAdd,hs,q1a,lose,q0b,hc,evUn,hse,q24]
  |false=>
   cases b1 with
   |false=>
    simp only[Bool.false_and]
    simp(disch:=first|decide|omega|(simp only[LN];first|done|omega)) only[SV,SW,Nat.reduceBEq,Nat.reduceAdd,hs,q1a,lose,q0b,hc,evUn,hse,q24]
   |true=>
    by_cases g1:0≤s.fields
    ·by_cases g2:s.fields≤8
     ·have ih:=ih (seen++[s.name])
      have e1:decide (0≤s.fields)=true:=by simpa using g1
      have e2:decide (s.fields≤8)=true:=by simpa using g2
      have hset:=z1r s.name seen hse
      simp only[e1,e2,Bool.not_false,Bool.and_self,if_true]
      rw[List.append_assoc] at ih
      simp(disch:=first|decide|omega|(simp only[LN];first|done|omega)) only[SV,SW,Nat.reduceBEq,Nat.reduceAdd,hs,q1a,lose,q0b,hc,evUn,hse,z2l,q9F,z7I,hset,z3P,reduceCtorEq]
      exact ih
     ·have e2:decide (s.fields≤8)=false:=by simpa using g2
      simp only[e2,Bool.and_false]
      simp(disch:=first|decide|omega|(simp only[LN];first|done|omega)) only[SV,SW,Nat.reduceBEq,Nat.reduceAdd,hs,q1a,lose,q0b,hc,evUn,hse,q24]
    ·have e2:decide (0≤s.fields)=false:=by simpa using g1
     simp only[e2,Bool.and_false,Bool.false_and]
     simp(disch:=first|decide|omega|(simp only[LN];first|done|omega)) only[SV,SW,Nat.reduceBEq,Nat.reduceAdd,hs,q1a,lose,q0b,hc,evUn,hse,q24]
def z0E(t:Table)(r:Bool):Ex×S:=if r then(.exit 4,⟨[(1,.ptr 0 0 0)],[(0,.mix 2 [[.d false (.sl 2 (t.shapes.map q0k)),.d false (.sl 3 (t.globals.map q00))]])],1,[]⟩) else(.ret,⟨[(2,.d false (.int .i64 172))],[],0,[]⟩)
theorem q3G(t):z0E t false=(.ret,⟨[(2,.d false (.int .i64 172))],[],0,[]⟩):=rfl
theorem q95(t):z0E t true=(.exit 4,⟨[(1,.ptr 0 0 0)],[(0,.mix 2 [[.d false (.sl 2 (t.shapes.map q0k)),.d false (.sl 3 (t.globals.map q00))]])],1,[]⟩):=rfl
theorem z5G(K:Cx)(h21:K21 K)(t:Table)(hl:t.globals.length≤2000)(hn:∀ s∈t.globals,(s.name.length:Int)≤9223372036854775807):∀(k i:Nat)(seen:List (List UInt8)),i+k=t.globals.length→
  lp K 0 [1,3,72,73,74] f13_L2 ⟨[(1,.ptr 0 0 0),(3,.map 1),(72,.d false (.sl 3 (t.globals.map q00))),(73,.d false (.int .i64 t.globals.length)),(74,.d false (.int .i64 i))],[(0,.mix 2 [[.d false (.sl 2 (t.shapes.map q0k)),.d false (.sl 3 (t.globals.map q00))]]),(1,.map (q3S seen))],2,[]⟩ =
  some (z0E t (q26 24 ((t.globals.drop i).map fun s=>(s.name,s.arity)) seen)):=by
 intro k
 induction k with
 |zero=>
  intro i seen hi
  rw[q1O f13_L2.eq_1,List.drop_of_length_le (by omega)]
  simp only[List.map_nil,q26]
  simp(disch:=first|decide|omega|(simp only[LN];first|done|omega)) only[SV,SW,Nat.reduceBEq,q95]
 |succ k ih=>
  intro i seen hi
  have hcast:((i+1:Nat):Int)=(i:Int)+1:=by omega
  have hlt:i<t.globals.length:=by omega
  rw[q1O f13_L2.eq_1,q3d hlt]
  have hnm:=hn _ (q44 (l:=t.globals) (i:=(i:Int)) (by omega) (by omega))
  have hc:=h21 _ hnm
  have ih:=fun seen=>ih (i+1) seen (by omega)
  rw[hcast] at ih
  simp only[List.map_cons,q26]
  generalize hs:nth t.globals (i:Int)=s at hc hnm
  generalize q2s s.name=b1 at hc
  clear hnm hn
  cases hse:seen.contains s.name with
  |true=>
   cases b1 with
   |false=>
    simp only[Bool.false_and]
    simp(disch:=first|decide|omega|(simp only[LN];first|done|omega)) only[SV,SW,Nat.reduceBEq,Nat.reduceAdd,hs,q2W,lose,q0b,hc,evUn,hse,q3G]
   |true=>
    simp only[Bool.not_true,Bool.and_false,Bool.false_and]
    simp(disch:=first|decide|omega|(simp only[LN];first|done|omega)) only[SV,SW,Nat.reduceBEq,Nat.reduceAdd,hs,q2W,lose,q0b,hc,evUn,hse,q3G]
  |false=>
   cases b1 with
   |false=>
    simp only[Bool.false_and]
    simp(disch:=first|decide|omega|(simp only[LN];first|done|omega)) only[SV,SW,Nat.reduceBEq,Nat.reduceAdd,hs,q2W,lose,q0b,hc,evUn,hse,q3G]
   |true=>
    by_cases g1:0≤s.arity
    ·by_cases g2:s.arity≤24
     ·have ih:=ih (seen++[s.name])
      have e1:decide (0≤s.arity)=true:=by simpa using g1
      have e2:decide (s.arity≤24)=true:=by simpa using g2
      have hset:=z1r s.name seen hse
      simp only[e1,e2,Bool.not_false,Bool.and_self,if_true]
      simp(disch:=first|decide|omega|(simp only[LN];first|done|omega)) only[SV,SW,Nat.reduceBEq,Nat.reduceAdd,hs,q2W,lose,q0b,hc,evUn,hse,z2l,q9F,z7I,hset,z3P,reduceCtorEq]
      exact ih
     ·have e2:decide (s.arity≤24)=false:=by simpa using g2
      simp only[e2,Bool.and_false]
      simp(disch:=first|decide|omega|(simp only[LN];first|done|omega)) only[SV,SW,Nat.reduceBEq,Nat.reduceAdd,hs,q2W,lose,q0b,hc,evUn,hse,q3G]
    ·have e2:decide (0≤s.arity)=false:=by simpa using g1
     simp only[e2,Bool.and_false,Bool.false_and]
     simp(disch:=first|decide|omega|(simp only[LN];first|done|omega)) only[SV,SW,Nat.reduceBEq,Nat.reduceAdd,hs,q2W,lose,q0b,hc,evUn,hse,q3G]
def z3m(t:Table)(seen:List (List UInt8))(r:Bool):Ex×S:=if r then(.exit 2,⟨[(1,.ptr 0 0 0),(3,.map 1)],[(0,.mix 2 [[.d false (.sl 2 (t.shapes.map q0k)),.d false (.sl 3 (t.globals.map q00))]]),(1,.map (q3S seen))],2,[]⟩) else(.ret,⟨[(2,.d false (.int .i64 172))],[],0,[]⟩)
theorem q6u(t m):z3m t m false=(.ret,⟨[(2,.d false (.int .i64 172))],[],0,[]⟩):=rfl
theorem z17(t m):z3m t m true=(.exit 2,⟨[(1,.ptr 0 0 0),(3,.map 1)],[(0,.mix 2 [[.d false (.sl 2 (t.shapes.map q0k)),.d false (.sl 3 (t.globals.map q00))]]),(1,.map (q3S m))],2,[]⟩):=rfl
theorem z8p(K:Cx)(t:Table)(hl:t.shapes.length≤2000)(seen:List (List UInt8)):∀(k i:Nat),i+k=7→
  lp K 0 [1,3,48,49,50] f13_L1 ⟨[(1,.ptr 0 0 0),(3,.map 1),(48,.bsl 2 0 7),(49,.d false (.int .i64 7)),(50,.d false (.int .i64 i))],[(0,.mix 2 [[.d false (.sl 2 (t.shapes.map q0k)),.d false (.sl 3 (t.globals.map q00))]]),(1,.map (q3S seen)),(2,.dat true 2 (givenS.map q0k))],3,[]⟩ =
  some (z3m t seen (z5D t.shapes k i)):=by
 have h7:givenS.length=7:=rfl
 intro k
 induction k with
 |zero=>
  intro i hi
  rw[q1O f13_L1.eq_1]
  simp only[z5D]
  simp(disch:=first|decide|omega|(simp only[LN];first|done|omega)) only[SV,SW,Nat.reduceBEq,reduceCtorEq,Nat.reduceAdd,z17]
 |succ k ih=>
  intro i hi
  have hcast:((i+1:Nat):Int)=(i:Int)+1:=by omega
  have ih:=ih (i+1) (by omega)
  rw[hcast] at ih
  rw[q1O f13_L1.eq_1]
  simp only[z5D]
  by_cases g:i<t.shapes.length
  ·generalize hs:nth t.shapes (i:Int)=s
   generalize hg:nth givenS (i:Int)=s'
   by_cases e1:s.name=s'.name
   ·by_cases e2:s.fields=s'.fields
    ·have e:s=s':=by cases s;cases s';simp at e1 e2;subst e1;subst e2;rfl
     rw[if_pos ⟨g,e⟩]
     subst e
     simp(disch:=first|decide|omega|(simp only[LN];first|done|omega)) only[SV,SW,Nat.reduceBEq,Nat.reduceAdd,hg,q1a,lose,hs,q4M,q1R,q2l,reduceCtorEq,Nat.reduceEqDiff]
     exact ih
    ·rw[if_neg (fun h=>e2 (by rw[h.2]))]
     have d2:(s.fields==s'.fields)=false:=by simpa using e2
     clear e2
     simp(disch:=first|decide|omega|(simp only[LN];first|done|omega)) only[SV,SW,Nat.reduceBEq,Nat.reduceAdd,hg,q1a,lose,hs,e1,q4M,q1R,q2l,d2,q6u]
   ·rw[if_neg (fun h=>e1 (by rw[h.2]))]
    have d1:decide (s.name=s'.name)=false:=by simpa using e1
    simp(disch:=first|decide|omega|(simp only[LN];first|done|omega)) only[SV,SW,Nat.reduceBEq,Nat.reduceAdd,hg,q1a,lose,hs,q4M,q1R,q2l,d1,q6u]
  ·rw[if_neg (fun h=>g h.1)]
   simp(disch:=first|decide|omega|(simp only[LN];first|done|omega)) only[SV,SW,Nat.reduceBEq,Nat.reduceAdd,q1a,lose,q6u]
end Go.Vm
end

section
namespace Go.Vm
theorem z3h(K:Cx)(s:List UInt8)(hs:(s.length:Int)≤9223372036854775807):∀(k i:Nat),i+k=s.length→
    lp K 0 [0,5,6] f35_L0 ⟨[(0,.d false (.str s)),(5,.d false (.int .i64 s.length)),(6,.d false (.int .i64 i))],[],0,[]⟩ =
    some (if(s.drop i).all z0D then(.exit 0,⟨[(0,.d false (.str s))],[],0,[]⟩) else(.ret,⟨[(2,.d false (.bool false))],[],0,[]⟩)):=by
  intro k
  induction k with
  |zero=>
    intro i hi
    rw[q1O f35_L0.eq_1,List.drop_of_length_le (by omega)]
    simp(disch:=first|decide|omega|(simp only[LN];first|done|omega)) only[SV,SW,Nat.reduceBEq]
  |succ k ih=>
    intro i hi
    have ih:=ih (i+1) (by omega)
    have hcast:((i+1:Nat):Int)=(i:Int)+1:=by omega
    rw[hcast] at ih
    rw[q1O f35_L0.eq_1,q3d (by omega:i<s.length),List.all_cons]
    generalize hb:nth s (i:Int)=b
    have h0:0≤(b.toNat:Int):=by omega
    by_cases g1:(b.toNat:Int)<32
    · have:z0D b=false:=by simp [z0D];omega
      rw[this]
      simp(disch:=first|decide|omega|(simp only[LN];first|done|omega)) only[SV,SW,Nat.reduceBEq,hb]
    · by_cases g2:126<(b.toNat:Int)
      · have:z0D b=false:=by simp [z0D];omega
        rw[this]
        simp(disch:=first|decide|omega|(simp only[LN];first|done|omega)) only[SV,SW,Nat.reduceBEq,hb]
      · have:z0D b=true:=by simp [z0D];omega
        rw[this]
        simp(disch:=first|decide|omega|(simp only[LN];first|done|omega)) only[SV,SW,Nat.reduceBEq,hb]
        exact ih
theorem z8R(K:Cx)(s:List UInt8)(hs:(s.length:Int)≤9223372036854775807):q0U K f35 [.d false (.str s)] []=some (.d false (.bool (q2s s)),[],[]):=by
  have hlp:=z3h K s hs s.length 0 (by omega)
  simp only[Int.natCast_zero,List.drop_zero] at hlp
  unfold q2s
  by_cases h:s.all z0D=true
  · rw[if_pos h] at hlp
    rw[h]
    simp(disch:=first|decide|omega|(simp only[LN];first|done|omega)) only[SV,SW,f35,Nat.reduceBEq,hlp,q0d]
  · rw[if_neg h] at hlp
    rw[Bool.not_eq_true] at h
    rw[h]
    simp(disch:=first|decide|omega|(simp only[LN];first|done|omega)) only[SV,SW,f35,Nat.reduceBEq,hlp,q0d]
theorem j0M(K:Cx):q0U K f36 [] []=some (.bsl 0 0 7,[.dat true 2 (givenS.map q0k)],[]):=by
  simp(disch:=first|decide|omega|(simp only[LN];first|done|omega)) only[SV,SW,f36,Nat.reduceAdd,q0d,hNew,V.forget,V.drop1,V.ref0,V.newR,q0b,givenS,q1a]
theorem j1Q{x y:Int}(h:x % 18446744073709551616=y % 18446744073709551616):IntKind.i64.wrap x=IntKind.i64.wrap y:=by
  unfold IntKind.wrap
  have e1:(2:Int) ^ IntKind.i64.bits=18446744073709551616:=by decide
  simp only[e1,h]
theorem z9T(x:Int):IntKind.i64.wrap x % 18446744073709551616=x % 18446744073709551616:=by
  unfold IntKind.wrap
  have e1:(2:Int) ^ IntKind.i64.bits=18446744073709551616:=by decide
  simp only[e1]
  split <;> omega
theorem z9U(n c:Int):IntKind.i64.wrap (IntKind.i64.wrap n+c)=IntKind.i64.wrap (n+c):=by
  refine j1Q ?_
  rw[Int.add_emod,z9T,←Int.add_emod]
theorem z5E(K:Cx)(t:Table)(hl:(t.globals.length:Int)≤9223372036854775807)(hb:∀ g∈t.globals,(g.code.length:Int)≤9223372036854775807):∀(k i:Nat)(n v:Int),i+k=t.globals.length→v=IntKind.i64.wrap n→
    lp K 0 [1,3,7,8,9] f34_L0 ⟨[(1,.ptr 0 0 0),(3,.d false (.int .i64 v)),(7,.d false (.sl 3 (t.globals.map q00))),(8,.d false (.int .i64 t.globals.length)),(9,.d false (.int .i64 i))],[(0,.mix 2 [[.d false (.sl 2 (t.shapes.map q0k)),.d false (.sl 3 (t.globals.map q00))]])],1,[]⟩ =
    some (match q4U (t.globals.drop i) n with
     |none=>(.ret,⟨[(2,.d false (.bool true))],[],0,[]⟩)
     |some m=>(.exit 0,⟨[(1,.ptr 0 0 0),(3,.d false (.int .i64 (IntKind.i64.wrap m)))],[(0,.mix 2 [[.d false (.sl 2 (t.shapes.map q0k)),.d false (.sl 3 (t.globals.map q00))]])],1,[]⟩)):=by
  intro k
  induction k with
  |zero=>
    intro i n v hi hv
    rw[q1O f34_L0.eq_1,List.drop_of_length_le (by omega)]
    simp(disch:=first|decide|omega|(simp only[LN];first|done|omega)) only[SV,SW,hv,Nat.reduceBEq,q4U]
  |succ k ih=>
    intro i n v hi hv
    have hlt:i<t.globals.length:=by omega
    have hcast:((i+1:Nat):Int)=(i:Int)+1:=by omega
    rw[q1O f34_L0.eq_1,q3d hlt,q4U]
    have hbg:=hb _ (q44 (l:=t.globals) (i:=(i:Int)) (by omega) (by omega))
    by_cases g1:8000<((nth t.globals i).code.length:Int)
    · rw[if_pos g1]
      clear hv
      simp(disch:=first|decide|omega|(simp only[LN];first|done|omega)) only[SV,SW,Nat.reduceBEq,Nat.reduceAdd,q2W,lose]
    · rw[if_neg g1]
      have ih:=ih (i+1) (n+(nth t.globals i).code.length) (IntKind.i64.wrap (v+(nth t.globals i).code.length)) (by omega) (by rw[hv,z9U])
      rw[hcast] at ih
      clear hv
      simp(disch:=first|decide|omega|(simp only[LN];first|done|omega)) only[SV,SW,Nat.reduceBEq,Nat.reduceAdd,q2W,lose]
      exact ih
theorem j0L(K:Cx)(t:Table)(hl:(t.globals.length:Int)≤9223372036854775807)(hs:(t.shapes.length:Int)≤9223372036854775807)(hb:∀ g∈t.globals,(g.code.length:Int)≤9223372036854775807) :
    q0U K f34 [.agg [.d false (.sl 2 (t.shapes.map q0k)),.d false (.sl 3 (t.globals.map q00))]] []=some (.d false (.bool (q7G t)),[],[]):=by
  have hlp:=z5E K t hl hb t.globals.length 0 0 0 (by omega) (by decide)
  simp only[Int.natCast_zero,List.drop_zero] at hlp
  unfold q7G
  cases h:q4U t.globals 0 with
  |none=>
    rw[h] at hlp
    simp only at hlp
    simp(disch:=first|decide|omega|(simp only[LN];first|done|omega)) only[SV,SW,f34,Nat.reduceAdd,Nat.reduceBEq,hlp,q0d]
  |some n=>
    have hle:=z8q _ _ _ h
    rw[h] at hlp
    simp only at hlp
    simp only
    by_cases hg:2000<(t.globals.length:Int)
    · clear hle
      simp(disch:=first|decide|omega|(simp only[LN];first|done|omega)) only[SV,SW,f34,Nat.reduceAdd,Nat.reduceBEq,hlp,q0d]
    · rw[q4S (by omega) (by omega)] at hlp
      clear hg
      simp(disch:=first|decide|omega|(simp only[LN];first|done|omega)) only[SV,SW,f34,Nat.reduceAdd,Nat.reduceBEq,hlp,q0d]
end Go.Vm
end

section
namespace Go.Vm
/- 'sloth/slothref17.big' -/
/- 'sloth/slothref17.shapes' -/
/- 'sloth/slothref17.heads' -/
/- 'sloth/slothref17.Name' -/
end Go.Vm
end

section
namespace Go.Vm
def K40(K:Cx):Prop:=∀ op:Int,K.call 79 [.d false (.int .i64 op)]=some (z49 (q0S op) (decide (1≤op∧op<18)),[])
def K41(K:Cx):Prop:=∀(sh:List Shape)(gl:List Glob)(nm:List UInt8)(ar:Int)(cd:List Instr)(at_ n kind:Int),0≤kind∧kind≤8→
 K.call 80 [.agg [.d false (.sl 2 (sh.map q0k)),.d false (.sl 3 (gl.map q00))],.agg [.d false (.str nm),.d false (.int .i64 ar),.d false (.sl 3 (cd.map q0J))],.d false (.int .i64 at_),.d false (.int .i64 n),.d false (.int .i64 kind)]
  = some (.d false (.int .i64 (q1U gl.length sh.length cd.length at_ n kind)),[])
def K42(K:Cx):Prop:=∀(sh:List Shape)(gl:List Glob)(op a b d:Int),1≤d∧d≤8000→(0≤a∧a≤9223372036854775807∨(op≠1∧op≠4∧op≠5∧op≠7∧op≠8))→(op=9∨op=10→0≤a∧a<sh.length∧0≤(nth sh a).fields∧(nth sh a).fields≤8)→
 K.call 81 [.agg [.d false (.sl 2 (sh.map q0k)),.d false (.sl 3 (gl.map q00))],.agg [.d false (.int .i64 op),.d false (.int .i64 a),.d false (.int .i64 b)],.d false (.int .i64 d)]
  = some (.tup [.d false (.int .i64 (q06 sh ⟨op,a,b⟩ d).1),.d false (.bool (q06 sh ⟨op,a,b⟩ d).2)],[])
def K43(K:Cx):Prop:=∀(c:Bool)(Dp:List Int)(at_ d:Int)(n:Nat),0≤at_∧at_<Dp.length→n=Dp.length→
 K.eff 82 [.bsl 0 0 n,.d false (.int .i64 at_),.d false (.int .i64 d)] [.dat c 1 (Dp.map eInt)]=some (.d false (.bool (q4i Dp at_ d)),[.dat c 1 ((q2G Dp at_ d).map eInt)],[])
def z0s(sh:List Shape)(gl:List Glob)(nm:List UInt8)(ar:Int)(cd:List Instr)(r:Int):Ex×S:=if r=0 then(.exit 0,⟨[(2,.ptr 0 0 0),(3,.ptr 1 0 0)],[(0,.mix 2 [[.d false (.sl 2 (sh.map q0k)),.d false (.sl 3 (gl.map q00))]]),(1,.mix 3 [[.d false (.str nm),.d false (.int .i64 ar),.d false (.sl 3 (cd.map q0J))]])],2,[]⟩)
   else(.ret,⟨[(4,.d false (.int .i64 r))],[],0,[]⟩)
theorem z1G(sh gl nm ar cd):z0s sh gl nm ar cd 0=(.exit 0,⟨[(2,.ptr 0 0 0),(3,.ptr 1 0 0)],[(0,.mix 2 [[.d false (.sl 2 (sh.map q0k)),.d false (.sl 3 (gl.map q00))]]),(1,.mix 3 [[.d false (.str nm),.d false (.int .i64 ar),.d false (.sl 3 (cd.map q0J))]])],2,[]⟩):=rfl
theorem q5Q(sh gl nm ar cd):z0s sh gl nm ar cd 172=(.ret,⟨[(4,.d false (.int .i64 172))],[],0,[]⟩):=rfl
theorem q8I(sh gl nm ar cd):z0s sh gl nm ar cd 174=(.ret,⟨[(4,.d false (.int .i64 174))],[],0,[]⟩):=rfl
theorem z7w(K:Cx)(h40:K40 K)(h41:K41 K)(sh:List Shape)(gl:List Glob)(nm:List UInt8)(ar:Int)(cd:List Instr)(hl:cd.length≤8000):∀(k i:Nat),i+k=cd.length→
  lp K 0 [2,3,20,21,22] f37_L0 ⟨[(2,.ptr 0 0 0),(3,.ptr 1 0 0),(20,.d false (.sl 3 (cd.map q0J))),(21,.d false (.int .i64 cd.length)),(22,.d false (.int .i64 i))],
   [(0,.mix 2 [[.d false (.sl 2 (sh.map q0k)),.d false (.sl 3 (gl.map q00))]]),(1,.mix 3 [[.d false (.str nm),.d false (.int .i64 ar),.d false (.sl 3 (cd.map q0J))]])],2,[]⟩ =
  some (z0s sh gl nm ar cd (q5G gl.length sh.length cd.length cd k i)):=by
 intro k
 induction k with
 |zero=>
  intro i hi
  rw[q1O f37_L0.eq_1]
  simp(disch:=first|decide|omega|(simp only[LN];first|done|omega)) only[SV,SW,Nat.reduceBEq,reduceCtorEq,Nat.reduceAdd,q5G,z1G]
 |succ k ih=>
  intro i hi
  have hcast:((i+1:Nat):Int)=(i:Int)+1:=by omega
  have ih:=ih (i+1) (by omega)
  rw[hcast] at ih
  have hlt:i<cd.length:=by omega
  rw[q1O f37_L0.eq_1]
  simp only[q5G]
  generalize hx:nth cd (i:Int)=x
  have hc:=h40 x.op
  have hk:=z5I x.op
  unfold z49 at hc
  by_cases g:1≤x.op∧x.op<18
  ·have hd:decide (1≤x.op∧x.op<18)=true:=by simpa using g
   rw[hd] at hc
   have ha:=h41 sh gl nm ar cd i x.a (q0S x.op).2.1 hk.1
   have hb:=h41 sh gl nm ar cd i x.b (q0S x.op).2.2 hk.2
   have hs:q6i gl.length sh.length cd.length i x=(if q1U gl.length sh.length cd.length i x.a (q0S x.op).2.1=172∨q1U gl.length sh.length cd.length i x.b (q0S x.op).2.2=172 then 172 else if q1U gl.length sh.length cd.length i x.a (q0S x.op).2.1≠0∨q1U gl.length sh.length cd.length i x.b (q0S x.op).2.2≠0 then 174 else 0):=by
    simp only[q6i,if_pos g]
   rw[hs]
   have va:=q8J gl.length sh.length cd.length i x.a (q0S x.op).2.1
   have vb:=q8J gl.length sh.length cd.length i x.b (q0S x.op).2.2
   generalize q1U gl.length sh.length cd.length i x.a (q0S x.op).2.1=a at ha va
   generalize q1U gl.length sh.length cd.length i x.b (q0S x.op).2.2=b at hb vb
   clear hs hk
   rcases va with rfl|rfl|rfl <;> rcases vb with rfl|rfl|rfl
   ·simp(disch:=first|decide|omega|(simp only[LN];first|done|omega)) only[SV,SW,Nat.reduceBEq,Nat.reduceAdd,hx,q1b,lose,q0b,hc,evUn,ha,hb,reduceCtorEq,Int.reduceEq,ne_eq,not_true_eq_false]
    exact ih
   all_goals simp(disch:=first|decide|omega|(simp only[LN];first|done|omega)) only[SV,SW,Nat.reduceBEq,Nat.reduceAdd,hx,q1b,lose,q0b,hc,evUn,ha,hb,Int.reduceEq,ne_eq,not_true_eq_false,q5Q,q8I]
  ·have hd:decide (1≤x.op∧x.op<18)=false:=by simpa using g
   rw[hd] at hc
   have hs:q6i gl.length sh.length cd.length i x=172:=by simp only[q6i,if_neg g]
   rw[hs]
   simp(disch:=first|decide|omega|(simp only[LN];first|done|omega)) only[SV,SW,Nat.reduceBEq,Nat.reduceAdd,hx,q1b,lose,q0b,hc,evUn,Int.reduceEq,q5Q]
end Go.Vm
end

section
namespace Go.Vm
def z4w(r:Int):Ex×S:=if r=0 then(.exit 2,⟨[],[],0,[]⟩) else(.ret,⟨[(4,.d false (.int .i64 r))],[],0,[]⟩)
theorem z4v:z4w 0=(.exit 2,⟨[],[],0,[]⟩):=rfl
theorem q3J:z4w 173=(.ret,⟨[(4,.d false (.int .i64 173))],[],0,[]⟩):=rfl
theorem q7q:z4w 174=(.ret,⟨[(4,.d false (.int .i64 174))],[],0,[]⟩):=rfl
set_option maxHeartbeats 4000000 in
theorem j02(K:Cx)(h42:K42 K)(h43:K43 K)(sh:List Shape)(gl:List Glob)(nm:List UInt8)(ar:Int)(cd:List Instr)(hl:cd.length≤8000)(hs:ShOk sh)(hn:∀ i:Nat,i<cd.length→NumOk sh.length cd.length i (nth cd i))(hw:∀ x∈cd,x.a≤9223372036854775807) :
   ∀(k i:Nat) (c:Bool) (Dp:List Int),i+k=cd.length→Dp.length=cd.length→DpOk Dp→
    lp K 0 [2,3,11,78,79,80] f37_L1 ⟨[(2,.ptr 0 0 0),(3,.ptr 1 0 0),(11,.bsl 2 0 cd.length),(78,.d false (.sl 3 (cd.map q0J))),(79,.d false (.int .i64 cd.length)),(80,.d false (.int .i64 i))],
      [(0,.mix 2 [[.d false (.sl 2 (sh.map q0k)),.d false (.sl 3 (gl.map q00))]]),(1,.mix 3 [[.d false (.str nm),.d false (.int .i64 ar),.d false (.sl 3 (cd.map q0J))]]),(2,.dat c 1 (Dp.map eInt))],3,[]⟩ =
    some (z4w (depL sh cd k i Dp)):=by
  intro k
  induction k with
  |zero=>
    intro i c Dp hi hD hok
    rw[q1O f37_L1.eq_1]
    simp(disch:=first|decide|omega|(simp only[LN];first|done|omega)) only[SV,SW,Nat.reduceBEq,depL,z4v]
  |succ k ih=>
    intro i c Dp hi hD hok
    have hcast:((i+1:Nat):Int)=(i:Int)+1:=by omega
    have hlt:i<cd.length:=by omega
    have hx0:=hn i hlt
    have hw0:=hw (nth cd i) (q44 (by omega) (by omega))
    have hdr:=hok (nth Dp i) (q44 (by omega) (by omega))
    rw[q1O f37_L1.eq_1]
    simp only[depL]
    generalize hx:nth cd (i:Int)=x at hx0 hw0
    generalize hd:nth Dp (i:Int)=d at hdr
    by_cases g0:d=0
    · subst g0
      rw[if_pos rfl]
      (try clear hj);(try clear ht);(try clear hok1);(try clear hok2);(try clear hn);(try clear hs);(try clear hok);(try clear hx0);(try clear hst);(try clear hxe);(try clear gt);(try clear n13);(try clear n16);(try clear n17);(try clear g0);(try clear hop);(try clear hw0);(try clear gg)
      simp(disch:=first|decide|omega|(simp only[LN];first|done|omega)) only[SV,SW,Nat.reduceBEq,Nat.reduceAdd,hx,q1b,lose,hd,q11,q7q]
    rw[if_neg g0]
    have b0:(d==0)=false:=by simpa using g0
    have hrg0:=fun h=>z0i (d:=d) hs hx0 (by omega) h
    have hc:=h42 sh gl x.op x.a x.b d (by omega) (by have h1:=hx0.cnt;have h2:=hx0.upd;omega) (fun ho=>⟨(hx0.con ho).1,(hx0.con ho).2,hs _ (q44 (hx0.con ho).1 (hx0.con ho).2)⟩)
    have hxe:(⟨x.op,x.a,x.b⟩:Instr)=x:=rfl
    rw[hxe] at hc
    generalize hst:q06 sh x d=r at hc hrg0
    obtain⟨bh,okb⟩:=r
    simp only at hc hrg0 ⊢
    cases okb with
    |false=>
      rw[if_pos rfl]
      (try clear hj);(try clear ht);(try clear hok1);(try clear hok2);(try clear hn);(try clear hs);(try clear hok);(try clear hx0);(try clear hst);(try clear hxe);(try clear gt);(try clear n13);(try clear n16);(try clear n17);(try clear g0);(try clear hop);(try clear hw0);(try clear gg)
      simp(disch:=first|decide|omega|(simp only[LN];first|done|omega)) only[SV,SW,Nat.reduceBEq,Nat.reduceAdd,hx,q1b,lose,hd,q11,b0,q0b,hc,evUn,q3J]
    |true=>
      rw[if_neg (by simp)]
      have hrg:=hrg0 rfl
      clear hrg0
      have hj:=hx0.jmp
      have ht:=hx0.tst
      have ih:=fun c Dp=>ih (i+1) c Dp (by omega)
      rw[hcast] at ih
      by_cases gg:z4l x=true
      · rw[if_pos gg]
        have⟨n13,n16,n17⟩:x.op≠13∧x.op≠16∧x.op≠17:=by
          simp [z4l] at gg;omega
        have b13:(x.op != 13)=true:=by simpa using n13
        have b16:(x.op != 16)=true:=by simpa using n16
        have b17:(x.op != 17)=true:=by simpa using n17
        have c13:(x.op==13)=false:=by simpa using n13
        by_cases gl1:(i:Int)+1=cd.length
        · rw[if_pos gl1]
          have bl1:((i:Int)+1==(cd.length:Int))=true:=by simpa using gl1
          (try clear hj);(try clear ht);(try clear hok1);(try clear hok2);(try clear hn);(try clear hs);(try clear hok);(try clear hx0);(try clear hst);(try clear hxe);(try clear gt);(try clear n13);(try clear n16);(try clear n17);(try clear g0);(try clear hop);(try clear hw0);(try clear gg)
          simp(disch:=first|decide|omega|(simp only[LN];first|done|omega)) only[SV,SW,Nat.reduceBEq,Nat.reduceAdd,hx,q1b,lose,hd,q11,b0,q0b,hc,evUn,b13,b16,b17,bl1,q7q]
        · rw[if_neg gl1]
          have bl1:((i:Int)+1==(cd.length:Int))=false:=by simpa using gl1
          have gl2:(i:Int)+1<cd.length:=by omega
          clear gl1
          have he:=h43 false Dp (i+1) bh cd.length (by omega) hD.symm
          have hlen1:=q64 Dp (i+1) bh
          have hok1:DpOk (q2G Dp (i+1) bh):=q8z hok (by omega)
          generalize hrb:q4i Dp (i+1) bh=rb at he
          generalize q2G Dp (i+1) bh=D1 at he hlen1 hok1
          cases rb with
          |false=>
            rw[if_pos rfl]
            (try clear hj);(try clear ht);(try clear hok1);(try clear hok2);(try clear hn);(try clear hs);(try clear hok);(try clear hx0);(try clear hst);(try clear hxe);(try clear gt);(try clear n13);(try clear n16);(try clear n17);(try clear g0);(try clear hop);(try clear hw0);(try clear gg)
            simp(disch:=first|decide|omega|(simp only[LN];first|done|omega)) only[SV,SW,Nat.reduceBEq,Nat.reduceAdd,hx,q1b,lose,hd,q11,b0,q0b,hc,evUn,b13,b16,b17,bl1,q4W,he,q0q,Nat.reduceSub,q3J]
          |true=>
            rw[if_neg (by simp)]
            by_cases gt:x.op=14∨x.op=15
            · have ht:=ht gt
              have hti:q59 x=x.b:=by simp only[q59];rw[if_neg n13,if_pos gt]
              rw[hti,if_pos (by omega)]
              have he2:=h43 false D1 x.b bh cd.length (by omega) (by omega)
              have hlen2:=q64 D1 x.b bh
              have hok2:DpOk (q2G D1 x.b bh):=q8z hok1 (by omega)
              generalize hrb2:q4i D1 x.b bh=rb2 at he2
              generalize q2G D1 x.b bh=D2 at he2 hlen2 hok2
              have hpos:0<x.b:=by omega
              have ih:=ih false D2 (by omega) hok2
              (try clear hj);(try clear ht);(try clear hok1);(try clear hok2);(try clear hn);(try clear hs);(try clear hok);(try clear hx0);(try clear hst);(try clear hxe);(try clear n13);(try clear n16);(try clear n17);(try clear g0);(try clear hop);(try clear hw0);(try clear gg)
              by_cases g14:x.op=14
              · have c14:(x.op==14)=true:=by simpa using g14
                clear g14 gt
                cases rb2 with
                |false=>
                  rw[if_pos rfl]
                  simp(disch:=first|decide|omega|(simp only[LN];first|done|omega)) only[SV,SW,Nat.reduceBEq,Nat.reduceAdd,hx,q1b,lose,hd,q11,b0,q0b,hc,evUn,b13,b16,b17,bl1,q4W,he,q0q,Nat.reduceSub,c13,c14,he2,q3J]
                |true=>
                  rw[if_neg (by simp)]
                  simp(disch:=first|decide|omega|(simp only[LN];first|done|omega)) only[SV,SW,Nat.reduceBEq,Nat.reduceAdd,hx,q1b,lose,hd,q11,b0,q0b,hc,evUn,b13,b16,b17,bl1,q4W,he,q0q,Nat.reduceSub,c13,c14,he2,reduceCtorEq,Nat.reduceEqDiff]
                  exact ih
              · have c14:(x.op==14)=false:=by simpa using g14
                have c15:(x.op==15)=true:=by simpa using gt.resolve_left g14
                clear g14 gt
                cases rb2 with
                |false=>
                  rw[if_pos rfl]
                  simp(disch:=first|decide|omega|(simp only[LN];first|done|omega)) only[SV,SW,Nat.reduceBEq,Nat.reduceAdd,hx,q1b,lose,hd,q11,b0,q0b,hc,evUn,b13,b16,b17,bl1,q4W,he,q0q,Nat.reduceSub,c13,c14,c15,he2,q3J]
                |true=>
                  rw[if_neg (by simp)]
                  simp(disch:=first|decide|omega|(simp only[LN];first|done|omega)) only[SV,SW,Nat.reduceBEq,Nat.reduceAdd,hx,q1b,lose,hd,q11,b0,q0b,hc,evUn,b13,b16,b17,bl1,q4W,he,q0q,Nat.reduceSub,c13,c14,c15,he2,reduceCtorEq,Nat.reduceEqDiff]
                  exact ih
            · have hti:q59 x=0:=by simp only[q59];rw[if_neg n13,if_neg gt]
              rw[hti,if_neg (by omega)]
              have ih:=ih false D1 (by omega) hok1
              have c14:(x.op==14)=false:=by simp;omega
              have c15:(x.op==15)=false:=by simp;omega
              clear gt
              (try clear hj);(try clear ht);(try clear hok1);(try clear hok2);(try clear hn);(try clear hs);(try clear hok);(try clear hx0);(try clear hst);(try clear hxe);(try clear n13);(try clear n16);(try clear n17);(try clear g0);(try clear hop);(try clear hw0);(try clear gg)
              simp(disch:=first|decide|omega|(simp only[LN];first|done|omega)) only[q2w,q19,q0N,q2b,q1E,q10,q2F,q12,q1F,q0X,q9f,e_sl,q1n,Nat.reduceBEq,q0W,beq_self_eq_true,q1d,q2L,evBin,intBin,z3j,decide_true,if_true,q1g,q2P,q1x,q0y,q1z,q0H,List.cons_append,List.nil_append,addBlks,q15,q4G,q3P,q2S,q4h,q2R,q3H,q1f,q2c,q6I,q4e,q9d,q6G,q1H,q2d,mkBox,V.laid,V.cells,List.length_cons,List.length_nil,Nat.zero_add,Nat.reduceAdd,q2N,q17,q1c,q2H,q2M,List.append_nil,q1w,q1e,e_ld,e_ia,q7p,hx,q1b,z0b,List.map_cons,mkd,D.flat,List.map_nil,q2J,Nat.le_refl,q3u,q0T,Bool.and_self,q38,q14,splice,List.take_zero,List.drop_succ_cons,List.drop_zero,q13,q4p,q1y,lose,loseH,Lost.ids,q5B,q7k,Int.toNat_natCast,q3B,q6s,q5w,hd,q11,q6r,q3x,b0,q2Y,q9e,q6H,q4E,List.getElem?_cons_zero,q2X,q2V,List.any_cons,V.own,V.own1,List.any_nil,Bool.or_self,q2I,List.all_cons,V.new,V.new1,List.all_nil,Bool.and_true,Bool.or_true,V.flatV,V.flat1,Bool.not_false,Bool.false_and,q1B,view,viewDepth,q0b,q18,q2O,Option.map_some,q3C,hc,q2n,Bool.not_true,Bool.false_eq_true,if_false,evExt,List.getElem?_cons_succ,e_un,evUn,z2q,e_fa,evFa,Nat.add_zero,b13,b16,q3m,b17,q4S,q9c,evLen,List.length_map,bl1,Bool.and_false,q5p,z05,q3a,q3N,refsL,V.refs,q0x,List.contains_nil,q0s,q0O,Blk.refs,q1u,q4N,List.nodup_cons,List.not_mem_nil,not_false_eq_true,List.nodup_nil,and_self,V.within,List.contains_cons,Bool.or_false,closedB,Blk.within,handed,Blk.ren,Blk.dim,List.idxOf_cons,q51,V.dim,V.ren,cond_true,he,q50,putAll,q0q,q8b,Nat.reduceSub,Option.getD_some,q3R,q1v,c13,c14,c15,q7w,z3k,decide_false,q5u,q5A,q3M,q8O,q60,q5t,q9O,List.flatMap_cons,List.flatMap_nil,q5s,List.mem_cons,reduceCtorEq,or_self,Nat.reduceEqDiff,withinL,cond_false,List.zipIdx_cons,List.zipIdx_nil,List.filterMap_cons,renL,List.filterMap_nil,List.filter_nil,q0E]
              exact ih
      · rw[if_neg gg]
        have hop:x.op=13∨x.op=16∨x.op=17:=by
          simp [z4l] at gg;omega
        by_cases g13:x.op=13
        · have hj:=hj g13
          have hti:q59 x=x.a:=by simp only[q59];rw[if_pos g13]
          rw[hti,if_pos (by omega)]
          have he2:=h43 false Dp x.a bh cd.length (by omega) (by omega)
          have hlen2:=q64 Dp x.a bh
          have hok2:DpOk (q2G Dp x.a bh):=q8z hok (by omega)
          generalize hrb2:q4i Dp x.a bh=rb2 at he2
          generalize q2G Dp x.a bh=D2 at he2 hlen2 hok2
          rw[g13] at hc
          cases rb2 with
          |false=>
            rw[if_pos rfl]
            (try clear hj);(try clear ht);(try clear hok1);(try clear hok2);(try clear hn);(try clear hs);(try clear hok);(try clear hx0);(try clear hst);(try clear hxe);(try clear gt);(try clear n13);(try clear n16);(try clear n17);(try clear g0);(try clear hop);(try clear hw0);(try clear gg)
            simp(disch:=first|decide|omega|(simp only[LN];first|done|omega)) only[q2w,q19,q0N,q2b,q1E,q10,q2F,q12,q1F,q0X,q9f,e_sl,q1n,Nat.reduceBEq,q0W,beq_self_eq_true,q1d,q2L,evBin,intBin,z3j,decide_true,if_true,q1g,q2P,q1x,q0y,q1z,q0H,List.cons_append,List.nil_append,addBlks,q15,q4G,q3P,q2S,q4h,q2R,q3H,q1f,q2c,q6I,q4e,q9d,q6G,q1H,q2d,mkBox,V.laid,V.cells,List.length_cons,List.length_nil,Nat.zero_add,Nat.reduceAdd,q2N,q17,q1c,q2H,q2M,List.append_nil,q1w,q1e,e_ld,e_ia,q7p,hx,q1b,g13,z0b,List.map_cons,mkd,D.flat,List.map_nil,q2J,Nat.le_refl,q3u,q0T,Bool.and_self,q38,q14,splice,List.take_zero,List.drop_succ_cons,List.drop_zero,q13,q4p,q1y,lose,loseH,Lost.ids,q5B,q7k,Int.toNat_natCast,q3B,q6s,q5w,hd,q11,q6r,q3x,b0,q2Y,q9e,q6H,q4E,List.getElem?_cons_zero,q2X,q2V,List.any_cons,V.own,V.own1,List.any_nil,Bool.or_self,q2I,List.all_cons,V.new,V.new1,List.all_nil,Bool.and_true,Bool.or_true,V.flatV,V.flat1,Bool.not_false,Bool.false_and,q1B,view,viewDepth,q0b,q18,q2O,Option.map_some,q3C,hc,q2n,Bool.not_true,Bool.false_eq_true,if_false,evExt,List.getElem?_cons_succ,e_un,evUn,z2q,e_fa,evFa,Nat.add_zero,bne_self_eq_false,ne_t,q3m,q4S,q9c,evLen,List.length_map,eq_f,q5p,z05,q5u,q1v,q5A,q3M,q7w,q3a,q3N,refsL,V.refs,q0x,List.contains_nil,q0s,q0O,Blk.refs,q1u,q4N,List.nodup_cons,List.not_mem_nil,not_false_eq_true,List.nodup_nil,and_self,V.within,List.contains_cons,Bool.or_false,closedB,Blk.within,handed,Blk.ren,Blk.dim,List.idxOf_cons,q51,V.dim,V.ren,cond_true,he2,q50,putAll,q0q,q8b,Nat.reduceSub,Option.getD_some,q3R,q84,q60,q5t,q9O,q5s,List.zipIdx_nil,List.filterMap_nil,List.filter_nil,q6B,z9g,z0h,z7U,q3J,q0E]
          |true=>
            rw[if_neg (by simp)]
            have ih:=ih false D2 (by omega) hok2
            (try clear hj);(try clear ht);(try clear hok1);(try clear hok2);(try clear hn);(try clear hs);(try clear hok);(try clear hx0);(try clear hst);(try clear hxe);(try clear gt);(try clear n13);(try clear n16);(try clear n17);(try clear g0);(try clear hop);(try clear hw0);(try clear gg)
            simp(disch:=first|decide|omega|(simp only[LN];first|done|omega)) only[q2w,q19,q0N,q2b,q1E,q10,q2F,q12,q1F,q0X,q9f,e_sl,q1n,Nat.reduceBEq,q0W,beq_self_eq_true,q1d,q2L,evBin,intBin,z3j,decide_true,if_true,q1g,q2P,q1x,q0y,q1z,q0H,List.cons_append,List.nil_append,addBlks,q15,q4G,q3P,q2S,q4h,q2R,q3H,q1f,q2c,q6I,q4e,q9d,q6G,q1H,q2d,mkBox,V.laid,V.cells,List.length_cons,List.length_nil,Nat.zero_add,Nat.reduceAdd,q2N,q17,q1c,q2H,q2M,List.append_nil,q1w,q1e,e_ld,e_ia,q7p,hx,q1b,g13,z0b,List.map_cons,mkd,D.flat,List.map_nil,q2J,Nat.le_refl,q3u,q0T,Bool.and_self,q38,q14,splice,List.take_zero,List.drop_succ_cons,List.drop_zero,q13,q4p,q1y,lose,loseH,Lost.ids,q5B,q7k,Int.toNat_natCast,q3B,q6s,q5w,hd,q11,q6r,q3x,b0,q2Y,q9e,q6H,q4E,List.getElem?_cons_zero,q2X,q2V,List.any_cons,V.own,V.own1,List.any_nil,Bool.or_self,q2I,List.all_cons,V.new,V.new1,List.all_nil,Bool.and_true,Bool.or_true,V.flatV,V.flat1,Bool.not_false,Bool.false_and,q1B,view,viewDepth,q0b,q18,q2O,Option.map_some,q3C,hc,q2n,Bool.not_true,Bool.false_eq_true,if_false,evExt,List.getElem?_cons_succ,e_un,evUn,z2q,e_fa,evFa,Nat.add_zero,bne_self_eq_false,ne_t,q3m,q4S,q9c,evLen,List.length_map,eq_f,q5p,z05,q5u,q1v,q5A,q3M,q7w,q3a,q3N,refsL,V.refs,q0x,List.contains_nil,q0s,q0O,Blk.refs,q1u,q4N,List.nodup_cons,List.not_mem_nil,not_false_eq_true,List.nodup_nil,and_self,V.within,List.contains_cons,Bool.or_false,closedB,Blk.within,handed,Blk.ren,Blk.dim,List.idxOf_cons,q51,V.dim,V.ren,cond_true,he2,q50,putAll,q0q,q8b,Nat.reduceSub,Option.getD_some,q3R,Bool.and_false,q8O,q60,q5t,q9O,List.flatMap_cons,List.flatMap_nil,q5s,List.mem_cons,reduceCtorEq,or_self,Nat.reduceEqDiff,withinL,cond_false,List.zipIdx_cons,List.zipIdx_nil,List.filterMap_cons,renL,List.filterMap_nil,List.filter_nil,q0E]
            exact ih
        · have hti:q59 x=0:=by simp only[q59];rw[if_neg g13,if_neg (by omega)]
          rw[hti,if_neg (by omega)]
          have ih:=ih c Dp hD hok
          by_cases g16:x.op=16
          · rw[g16] at hc
            (try clear hj);(try clear ht);(try clear hok1);(try clear hok2);(try clear hn);(try clear hs);(try clear hok);(try clear hx0);(try clear hst);(try clear hxe);(try clear gt);(try clear n13);(try clear n16);(try clear n17);(try clear g0);(try clear hop);(try clear hw0);(try clear gg)
            simp(disch:=first|decide|omega|(simp only[LN];first|done|omega)) only[q2w,q19,q0N,q2b,q1E,q10,q2F,q12,q1F,q0X,q9f,e_sl,q1n,Nat.reduceBEq,q0W,beq_self_eq_true,q1d,q2L,evBin,intBin,z3j,decide_true,if_true,q1g,q2P,q1x,q0y,q1z,q0H,List.cons_append,List.nil_append,addBlks,q15,q4G,q3P,q2S,q4h,q2R,q3H,q1f,q2c,q6I,q4e,q9d,q6G,q1H,q2d,mkBox,V.laid,V.cells,List.length_cons,List.length_nil,Nat.zero_add,Nat.reduceAdd,q2N,q17,q1c,q2H,q2M,List.append_nil,q1w,q1e,e_ld,e_ia,q7p,hx,q1b,g16,z0b,List.map_cons,mkd,D.flat,List.map_nil,q2J,Nat.le_refl,q3u,q0T,Bool.and_self,q38,q14,splice,List.take_zero,List.drop_succ_cons,List.drop_zero,q13,q4p,q1y,lose,loseH,Lost.ids,q5B,q7k,Int.toNat_natCast,q3B,q6s,q5w,hd,q11,q6r,q3x,b0,q2Y,q9e,q6H,q4E,List.getElem?_cons_zero,q2X,q2V,List.any_cons,V.own,V.own1,List.any_nil,Bool.or_self,q2I,List.all_cons,V.new,V.new1,List.all_nil,Bool.and_true,Bool.or_true,V.flatV,V.flat1,Bool.not_false,Bool.false_and,q1B,view,viewDepth,q0b,q18,q2O,Option.map_some,q3C,hc,q2n,Bool.not_true,Bool.false_eq_true,if_false,evExt,List.getElem?_cons_succ,e_un,evUn,z2q,e_fa,evFa,Nat.add_zero,ne_t,bne_self_eq_false,q3m,Bool.and_false,q4S,q9c,evLen,List.length_map,q5p,z05,q5u,q1v,q5A,q3M,eq_f,q7w,z3k,decide_false,q8O,q60,q5t,q9O,refsL,V.refs,q0x,List.contains_nil,q0s,q0O,Blk.refs,List.flatMap_cons,List.flatMap_nil,List.contains_cons,q1u,q5s,List.nodup_cons,List.mem_cons,reduceCtorEq,List.not_mem_nil,or_self,not_false_eq_true,Nat.reduceEqDiff,List.nodup_nil,and_self,V.within,Bool.or_false,closedB,Blk.within,withinL,List.idxOf_cons,V.ren,cond_false,cond_true,Blk.ren,List.zipIdx_cons,List.zipIdx_nil,List.filterMap_cons,renL,List.filterMap_nil,List.filter_nil,q0E]
            exact ih
          · have g17:x.op=17:=by omega
            rw[g17] at hc
            (try clear hj);(try clear ht);(try clear hok1);(try clear hok2);(try clear hn);(try clear hs);(try clear hok);(try clear hx0);(try clear hst);(try clear hxe);(try clear gt);(try clear n13);(try clear n16);(try clear n17);(try clear g0);(try clear hop);(try clear hw0);(try clear gg)
            simp(disch:=first|decide|omega|(simp only[LN];first|done|omega)) only[q2w,q19,q0N,q2b,q1E,q10,q2F,q12,q1F,q0X,q9f,e_sl,q1n,Nat.reduceBEq,q0W,beq_self_eq_true,q1d,q2L,evBin,intBin,z3j,decide_true,if_true,q1g,q2P,q1x,q0y,q1z,q0H,List.cons_append,List.nil_append,addBlks,q15,q4G,q3P,q2S,q4h,q2R,q3H,q1f,q2c,q6I,q4e,q9d,q6G,q1H,q2d,mkBox,V.laid,V.cells,List.length_cons,List.length_nil,Nat.zero_add,Nat.reduceAdd,q2N,q17,q1c,q2H,q2M,List.append_nil,q1w,q1e,e_ld,e_ia,q7p,hx,q1b,g17,z0b,List.map_cons,mkd,D.flat,List.map_nil,q2J,Nat.le_refl,q3u,q0T,Bool.and_self,q38,q14,splice,List.take_zero,List.drop_succ_cons,List.drop_zero,q13,q4p,q1y,lose,loseH,Lost.ids,q5B,q7k,Int.toNat_natCast,q3B,q6s,q5w,hd,q11,q6r,q3x,b0,q2Y,q9e,q6H,q4E,List.getElem?_cons_zero,q2X,q2V,List.any_cons,V.own,V.own1,List.any_nil,Bool.or_self,q2I,List.all_cons,V.new,V.new1,List.all_nil,Bool.and_true,Bool.or_true,V.flatV,V.flat1,Bool.not_false,Bool.false_and,q1B,view,viewDepth,q0b,q18,q2O,Option.map_some,q3C,hc,q2n,Bool.not_true,Bool.false_eq_true,if_false,evExt,List.getElem?_cons_succ,e_un,evUn,z2q,e_fa,evFa,Nat.add_zero,ne_t,q3m,bne_self_eq_false,Bool.and_false,q4S,q9c,evLen,List.length_map,q5p,z05,q5u,q1v,q5A,q3M,eq_f,q7w,z3k,decide_false,q8O,q60,q5t,q9O,refsL,V.refs,q0x,List.contains_nil,q0s,q0O,Blk.refs,List.flatMap_cons,List.flatMap_nil,List.contains_cons,q1u,q5s,List.nodup_cons,List.mem_cons,reduceCtorEq,List.not_mem_nil,or_self,not_false_eq_true,Nat.reduceEqDiff,List.nodup_nil,and_self,V.within,Bool.or_false,closedB,Blk.within,withinL,List.idxOf_cons,V.ren,cond_false,cond_true,Blk.ren,List.zipIdx_cons,List.zipIdx_nil,List.filterMap_cons,renL,List.filterMap_nil,List.filter_nil,q0E]
            exact ih
theorem z0t{ng ns nc:Int}{cd:List Instr}:∀(k i:Nat),q5G ng ns nc cd k i=0→∀ j:Nat,i≤j→j<i+k→q6i ng ns nc j (nth cd j)=0:=by
  intro k
  induction k with
  |zero=>intro i _ j h1 h2;omega
  |succ k ih=>
    intro i h j h1 h2
    simp only[q5G] at h
    split at h
    · rename_i h0
      by_cases hj:j=i
      · subst hj;exact h0
      · exact ih (i+1) h j (by omega) (by omega)
    · rename_i h0
      exact absurd h h0
theorem j03(sh:List Shape)(cd:List Instr):∀(k i:Nat)(Dp:List Int),depL sh cd k i Dp=0∨depL sh cd k i Dp=173∨depL sh cd k i Dp=174:=by
  intro k
  induction k with
  |zero=>intro i Dp;exact .inl rfl
  |succ k ih=>
    intro i Dp
    simp only[depL]
    repeat' split
    all_goals first|exact ih _ _|simp
theorem z7x(ng ns nc:Int)(cd:List Instr):∀(k i:Nat),q5G ng ns nc cd k i=0∨q5G ng ns nc cd k i=172∨q5G ng ns nc cd k i=174:=by
  intro k
  induction k with
  |zero=>intro i;exact .inl rfl
  |succ k ih=>
    intro i
    simp only[q5G]
    split
    · exact ih _
    · unfold q6i
      split
      · simp only
        split
        · simp
        · split <;> simp
      · simp
set_option maxHeartbeats 4000000 in
theorem z2k(K:Cx)(h40:K40 K)(h41:K41 K)(h42:K42 K)(h43:K43 K)(sh:List Shape)(gl:List Glob)(g:Glob)(hs:ShOk sh)(hl:g.code.length≤8000)(ha:0≤g.arity∧g.arity≤24)(hw:∀ x∈g.code,x.a≤9223372036854775807) :
    q0U K f37 [.agg [.d false (.sl 2 (sh.map q0k)),.d false (.sl 3 (gl.map q00))],.agg [.d false (.str g.name),.d false (.int .i64 g.arity),.d false (.sl 3 (g.code.map q0J))]] []=some (.d false (.int .i64 (q1Q gl.length sh g)),[],[]):=by
  obtain⟨nm,ar,cd⟩:=g
  simp only at hl ha hw ⊢
  have l0:=z7w K h40 h41 sh gl nm ar cd hl cd.length 0 (by omega)
  simp only[Int.natCast_zero] at l0
  unfold q1Q
  simp only
  have nv:=z7x gl.length sh.length cd.length cd cd.length 0
  cases hz:decide (q5G gl.length sh.length cd.length cd cd.length 0=0) with
  |false=>
    have hz:¬ q5G gl.length sh.length cd.length cd cd.length 0=0:=by simpa using hz
    rw[if_neg hz]
    generalize q5G gl.length sh.length cd.length cd cd.length 0=r at l0 hz nv
    rcases nv with rfl|rfl|rfl
    · exact absurd rfl hz
    · rw[q5Q] at l0
      simp(disch:=first|decide|omega|(simp only[LN];first|done|omega)) only[SV,SW,f37,Nat.reduceAdd,Nat.reduceBEq,reduceCtorEq,l0,q0d]
    · rw[q8I] at l0
      simp(disch:=first|decide|omega|(simp only[LN];first|done|omega)) only[SV,SW,f37,Nat.reduceAdd,Nat.reduceBEq,reduceCtorEq,l0,q0d]
  |true=>
    have hz:q5G gl.length sh.length cd.length cd cd.length 0=0:=by simpa using hz
    rw[if_pos hz]
    rw[hz,z1G] at l0
    by_cases hc:cd.length=0
    · rw[if_pos hc]
      have hc0:((cd.length:Int)==0)=true:=by simpa using hc
      clear hz nv hw hc
      simp(disch:=first|decide|omega|(simp only[LN];first|done|omega)) only[SV,SW,f37,Nat.reduceAdd,Nat.reduceBEq,reduceCtorEq,l0,hc0,q0d]
    · rw[if_neg hc]
      have hok:=fun(i:Nat) (hi:i<cd.length)=>j0h (z0t cd.length 0 hz i (by omega) (by omega))
      have l1:=j02 K h42 h43 sh gl nm ar cd hl hs hok hw cd.length 0 true ((List.replicate cd.length 0).set 0 (ar+1)) (by omega) (by simp) (by
        intro v hv
        rcases List.mem_or_eq_of_mem_set hv with h|h
        · have:=List.eq_of_mem_replicate h;omega
        · omega)
      simp only[Int.natCast_zero] at l1
      have dv:=j03 sh cd cd.length 0 ((List.replicate cd.length 0).set 0 (ar+1))
      generalize hr:depL sh cd cd.length 0 ((List.replicate cd.length 0).set 0 (ar+1))=r at l1 dv
      have hc0:((cd.length:Int)==0)=false:=by simpa using hc
      have hpos:0<cd.length:=by omega
      clear hok hw nv hz hr hc
      rcases dv with rfl|rfl|rfl
      · rw[z4v] at l1
        simp(disch:=first|decide|omega|(simp only[LN];first|done|omega)) only[SV,SW,f37,Nat.reduceAdd,Nat.reduceBEq,reduceCtorEq,l0,hc0,j0m,j2G,Int.toNat_zero,q11,j0H,lose,Nat.reduceEqDiff,l1,q0d]
      · rw[q3J] at l1
        simp(disch:=first|decide|omega|(simp only[LN];first|done|omega)) only[SV,SW,f37,Nat.reduceAdd,Nat.reduceBEq,reduceCtorEq,l0,hc0,j0m,j2G,Int.toNat_zero,q11,j0H,lose,Nat.reduceEqDiff,l1,q0d]
      · rw[q7q] at l1
        simp(disch:=first|decide|omega|(simp only[LN];first|done|omega)) only[SV,SW,f37,Nat.reduceAdd,Nat.reduceBEq,reduceCtorEq,l0,hc0,j0m,j2G,Int.toNat_zero,q11,j0H,lose,Nat.reduceEqDiff,l1,q0d]
end Go.Vm
end

section
namespace Go.Vm
/- 'sloth/slothref17.numbers' -/
/- 'sloth/slothref17.Depths' -/
end Go.Vm
end

section
namespace Go.Vm
structure TabOk(t:Table):Prop where
 sh:(t.shapes.length:Int)≤9223372036854775807
 gl:(t.globals.length:Int)≤9223372036854775807
 cd:∀ g∈t.globals,(g.code.length:Int)≤9223372036854775807
 sn:∀ s∈t.shapes,(s.name.length:Int)≤9223372036854775807
 gn:∀ g∈t.globals,(g.name.length:Int)≤9223372036854775807
 wd:∀ g∈t.globals,∀ x∈g.code,x.a≤9223372036854775807
def K20(K:Cx):Prop:=∀(t:Table),TabOk t→K.call 34 [.agg [.d false (.sl 2 (t.shapes.map q0k)),.d false (.sl 3 (t.globals.map q00))]]=some (.d false (.bool (q7G t)),[])
def K22(K:Cx):Prop:=K.call 36 []=some (.bsl 0 0 7,[.dat true 2 (givenS.map q0k)])
def K23(K:Cx):Prop:=∀(sh:List Shape)(gl:List Glob)(nm:List UInt8)(ar:Int)(cd:List Instr),ShOk sh→cd.length≤8000→0≤ar∧ar≤24→(∀ x∈cd,x.a≤9223372036854775807)→
 K.call 37 [.agg [.d false (.sl 2 (sh.map q0k)),.d false (.sl 3 (gl.map q00))],.agg [.d false (.str nm),.d false (.int .i64 ar),.d false (.sl 3 (cd.map q0J))]]=some (.d false (.int .i64 (q1Q gl.length sh ⟨nm,ar,cd⟩)),[])
def q4P(r:Int):Ex×S:=if r=0 then(.exit 6,⟨[],[],0,[]⟩) else(.ret,⟨[(2,.d false (.int .i64 r))],[],0,[]⟩)
theorem z5Y(K:Cx)(h23:K23 K)(t:Table)(hl:t.globals.length≤2000)(hs:ShOk t.shapes)(hg:∀ g∈t.globals,g.code.length≤8000∧(0≤g.arity∧g.arity≤24)∧∀ x∈g.code,x.a≤9223372036854775807):∀(k i:Nat),i+k=t.globals.length→
  lp K 0 [1,104,105,106] f13_L3 ⟨[(1,.ptr 0 0 0),(104,.d false (.sl 3 (t.globals.map q00))),(105,.d false (.int .i64 t.globals.length)),(106,.d false (.int .i64 i))],[(0,.mix 2 [[.d false (.sl 2 (t.shapes.map q0k)),.d false (.sl 3 (t.globals.map q00))]])],1,[]⟩ =
  some (q4P (q7L t.globals.length t.shapes (t.globals.drop i))):=by
 intro k
 induction k with
 |zero=>
  intro i hi
  rw[q1O f13_L3.eq_1,List.drop_of_length_le (by omega)]
  simp only[q7L]
  rw[show q4P 0=(.exit 6,⟨[],[],0,[]⟩) from rfl]
  simp(disch:=first|decide|omega|(simp only[LN];first|done|omega)) only[SV,SW,Nat.reduceBEq]
 |succ k ih=>
  intro i hi
  have hcast:((i+1:Nat):Int)=(i:Int)+1:=by omega
  have hlt:i<t.globals.length:=by omega
  rw[q1O f13_L3.eq_1,q3d hlt]
  obtain⟨g1,g2,g3⟩:=hg _ (q44 (l:=t.globals) (i:=(i:Int)) (by omega) (by omega))
  have ih:=ih (i+1) (by omega)
  rw[hcast] at ih
  simp only[q7L]
  generalize hgg:nth t.globals (i:Int)=g at g1 g2 g3
  have hc:=h23 t.shapes t.globals g.name g.arity g.code hs g1 g2 g3
  rw[show(⟨g.name,g.arity,g.code⟩:Glob)=g from rfl] at hc
  generalize q1Q t.globals.length t.shapes g=r at hc
  clear g1 g2 g3 hg
  by_cases g0:r=0
  ·subst g0
   rw[if_pos rfl]
   simp(disch:=first|decide|omega|(simp only[LN];first|done|omega)) only[SV,SW,Nat.reduceBEq,Nat.reduceAdd,hgg,q2W,lose,q0b,hc]
   exact ih
  ·rw[if_neg g0]
   have d0:(r != 0)=true:=by simpa using g0
   have ho:q4P r=(.ret,⟨[(2,.d false (.int .i64 r))],[],0,[]⟩):=by unfold q4P;rw[if_neg g0]
   clear g0
   simp(disch:=first|decide|omega|(simp only[LN];first|done|omega)) only[SV,SW,Nat.reduceBEq,Nat.reduceAdd,hgg,q2W,lose,q0b,hc,d0,ho]
theorem z2S:∀ l,q2p (q3S l)=false
 |[]=>rfl
 |_ :: _=>rfl
theorem z0w(H nx b l):mcB H nx b (.map (q3S l))=some (put H b (.map []),.junk,.none,nx):=z7P H nx b _ (z2S l)
theorem j0O(K:Cx)(h20:K20 K)(h21:K21 K)(h22:K22 K)(h23:K23 K)(t:Table)(ht:TabOk t) :
  q0U K f13 [.agg [.d false (.sl 2 (t.shapes.map q0k)),.d false (.sl 3 (t.globals.map q00))]] []=some (.d false (.int .i64 (q1P t)),[],[]):=by
 have hc:=h20 t ht
 unfold q1P
 cases hgr:q7G t with
 |true=>
  rw[hgr] at hc
  rw[if_pos rfl]
  simp(disch:=first|decide|omega|(simp only[LN];first|done|omega)) only[SV,SW,f13,Nat.reduceAdd,Nat.reduceBEq,q0b,hc,q0d]
 |false=>
  rw[hgr] at hc
  rw[if_neg (by simp)]
  obtain⟨q1,q2,q3⟩:=z4k hgr
  have l0:=z2Y K h21 t q1 ht.sn t.shapes.length 0 [] (by omega)
  simp only[Int.natCast_zero,List.drop_zero,z1t,List.nil_append] at l0
  cases hn1:q26 8 (t.shapes.map fun s=>(s.name,s.fields)) [] with
  |false=>
   rw[if_pos rfl]
   rw[hn1,q24] at l0
   clear hgr
   simp(disch:=first|decide|omega|(simp only[LN];first|done|omega)) only[SV,SW,f13,Nat.reduceAdd,Nat.reduceBEq,q0b,hc,reduceCtorEq,l0,q0d]
  |true=>
   rw[if_neg (by simp)]
   rw[hn1,q8u] at l0
   have l1:=z8p K t q1 (t.shapes.map (·.name)) 7 0 rfl
   simp only[Int.natCast_zero] at l1
   unfold z8o
   cases hh:z5D t.shapes 7 0 with
   |false=>
    rw[if_pos rfl]
    rw[hh,q6u] at l1
    unfold K22 at h22
    simp(disch:=first|decide|omega|(simp only[LN];first|done|omega)) only[SV,SW,f13,Nat.reduceAdd,Nat.reduceBEq,q0b,hc,reduceCtorEq,l0,h22,V.new2,V.newR,V.shift,Nat.reduceEqDiff,l1,q0d]
   |true=>
    rw[if_neg (by simp)]
    rw[hh,z17] at l1
    unfold K22 at h22
    have l2:=z5G K h21 t q2 ht.gn t.globals.length 0 [] (by omega)
    simp only[Int.natCast_zero,List.drop_zero,z1t] at l2
    cases hn2:q26 24 (t.globals.map fun g=>(g.name,g.arity)) [] with
    |false=>
     rw[if_pos rfl]
     rw[hn2,q3G] at l2
     simp(disch:=first|decide|omega|(simp only[LN];first|done|omega)) only[SV,SW,f13,Nat.reduceAdd,Nat.reduceBEq,q0b,hc,reduceCtorEq,l0,h22,V.new2,V.newR,V.shift,Nat.reduceEqDiff,l1,z0w,lose,l2,q0d]
    |true=>
     rw[if_neg (by simp)]
     rw[hn2,q95] at l2
     have m1:=q2h _ _ _ hn1
     have m2:=q2h _ _ _ hn2
     have l3:=z5Y K h23 t q2 (fun s hs=>(m1 (s.name,s.fields) (List.mem_map.2 ⟨s,hs,rfl⟩)).2) (fun g hg=>⟨q3 g hg,(m2 (g.name,g.arity) (List.mem_map.2 ⟨g,hg,rfl⟩)).2,ht.wd g hg⟩) t.globals.length 0 (by omega)
     simp only[Int.natCast_zero,List.drop_zero] at l3
     generalize q7L t.globals.length t.shapes t.globals=r at l3
     by_cases g0:r=0
     ·subst g0
      rw[show q4P 0=(.exit 6,⟨[],[],0,[]⟩) from rfl] at l3
      clear m1 m2 q3
      simp(disch:=first|decide|omega|(simp only[LN];first|done|omega)) only[SV,SW,f13,Nat.reduceAdd,Nat.reduceBEq,q0b,hc,reduceCtorEq,l0,h22,V.new2,V.newR,V.shift,Nat.reduceEqDiff,l1,z0w,lose,l2,l3,q0d]
     ·rw[show q4P r=(.ret,⟨[(2,.d false (.int .i64 r))],[],0,[]⟩) by unfold q4P;rw[if_neg g0]] at l3
      clear m1 m2 q3 g0
      simp(disch:=first|decide|omega|(simp only[LN];first|done|omega)) only[SV,SW,f13,Nat.reduceAdd,Nat.reduceBEq,q0b,hc,reduceCtorEq,l0,h22,V.new2,V.newR,V.shift,Nat.reduceEqDiff,l1,z0w,lose,l2,l3,q0d]
end Go.Vm
end

section
namespace Go.Vm
/- 'sloth/slothref17.Check' -/
end Go.Vm
end

section
namespace Go.Vm
end Go.Vm
end

section
namespace Go.Vm
/- 'sloth/slothlaw17.CodeEnds' -/
end Go.Vm
end

section
namespace Go.Vm
def K13(K:Cx):Prop:=∀ t:Table,TabOk t→K.call 13 [.agg [.d false (.sl 2 (t.shapes.map q0k)),.d false (.sl 3 (t.globals.map q00))]]=some (.d false (.int .i64 (q1P t)),[])
theorem z5Z{ng:Nat}{sh:List Shape}:∀(l:List Glob),q7L ng sh l=0→∀ g∈l,q1Q ng sh g=0:=by
 intro l
 induction l with
 |nil=>intro _ g hg;simp at hg
 |cons a l ih=>
  intro h g hg
  simp only[q7L] at h
  split at h
  ·rename_i c
   rcases List.mem_cons.1 hg with rfl|hg
   ·exact c
   ·exact ih h g hg
  ·rename_i c;exact absurd h c
theorem z4z{t:Table}(h:q1P t=0):ShOk t.shapes∧t.globals.length≤2000∧∀ g∈t.globals,g.code.length≤8000∧(0≤g.arity∧g.arity≤24)∧q1Q t.globals.length t.shapes g=0:=by
 unfold q1P at h
 split at h
 ·cases h
 ·split at h
  ·cases h
  ·split at h
   ·cases h
   ·split at h
    ·cases h
    ·rename_i h1 h2 h3 h4
     obtain⟨q1,q2,q3⟩:=z4k (by simpa using h1)
     have m1:=q2h _ _ _ (by simpa using h2)
     have m2:=q2h _ _ _ (by simpa using h4)
     exact⟨fun s hs=>(m1 (s.name,s.fields) (List.mem_map.2 ⟨s,hs,rfl⟩)).2,q2,fun g hg=>⟨q3 g hg,(m2 (g.name,g.arity) (List.mem_map.2 ⟨g,hg,rfl⟩)).2,z5Z _ h g hg⟩⟩
end Go.Vm
end

section
namespace Go.Vm
set_option maxRecDepth 20000
open Go.Proofs
/- 'sloth/slothlaw17.CodeChecks' -/
def f3_T0:C:= (.seq (.reg [⟨[],[(7,(.call 13 (.cons (.ld 2 true (.sl 6)) .nil)))],[],none,[2,3,5,6],3,[],[],[]⟩]) (.seq (.reg [⟨[],[(8,(.call 13 (.cons (.ld 2 true (.sl 3)) .nil)))],[],none,[2,3,5,6,7],3,[],[],[]⟩]) (.seq (.reg [⟨[],[(9,(.call 13 (.cons (.ld 2 true (.sl 6)) .nil)))],[],none,[2,3,5,6,7,8],3,[],[],[]⟩]) (.seq (.reg [⟨[],[(10,(.call 14 (.cons (.ld 2 true (.sl 2)) .nil)))],[],none,[2,3,5,6,7,8,9],3,[],[],[]⟩]) (.seq (.reg [⟨[],[(11,(.call 14 (.cons (.ld 2 true (.sl 3)) .nil)))],[],none,[2,5,6,7,8,9,10],3,[],[],[]⟩]) (.seq (.reg [⟨[],[(12,(.call 15 (.cons (.ld 2 true (.sl 6)) (.cons (.ld 2 true (.sl 2)) .nil))))],[],none,[5,6,7,8,9,10,11],4,[],[],[]⟩]) (.seq (.reg [⟨[],[],[],some (some 33,.calle 16 (.cons (.ld 2 true (.sl 6)) .nil)),[5,6,7,8,9,10,11,12],2,[],[],[]⟩,⟨[],[(13,(.sl 33))],[],none,[5,6,7,8,9,10,11,12],1,[],[],[]⟩]) (.seq (.seq (.reg [⟨[],[(58,(.or (.or (.or (.or (.or (.un .not (.sl 5)) (.bin .neq (.sl 7) (.sl 10))) (.bin .neq (.sl 8) (.sl 11))) (.bin .neq (.sl 9) (.sl 10))) (.un .not (.sl 12))) (.un .not (.sl 13))))],[],none,[6],25,[],[],[]⟩]) (.cond (.sl 58) (.seq (.reg [⟨[],[(4,(.bool false))],[],none,[],1,[],[],[]⟩]) (.seq (.keep [4]) .ret)) .skip)) (.seq (.reg [⟨[],[],[],some (some 60,.calle 17 (.cons (.ld 2 true (.sl 6)) .nil)),[6],2,[],[],[]⟩]) (.seq (.reg [⟨[],[(14,(.call 14 (.cons (.ld 2 true (.sl 6)) .nil)))],[],none,[6],3,[],[],[]⟩]) (.seq (.reg [⟨[],[(15,(.call 13 (.cons (.ld 2 true (.sl 6)) .nil)))],[],none,[14],3,[],[],[]⟩]) (.seq (.reg [⟨[],[(4,(.bin .eql (.sl 15) (.sl 14)))],[],none,[],4,[],[],[]⟩]) (.seq (.keep [4]) .ret)))))))))))))
def f3:Fun:=⟨ (.seq (.reg [⟨[(2,.box (.sl 0)),(3,.box (.sl 1))],[],[(.bool false)],none,[2,3],3,[],[],[]⟩]) (.seq (.reg [⟨[],[(5,(.call 11 .nil))],[],none,[2,3],2,[],[],[]⟩]) (.seq (.reg [⟨[(18,.callo 12 (.cons (.ld 2 true (.sl 2)) .nil)),(6,.box (.agg (.cons (.nilsl 2) (.cons (.nilsl 3) .nil))))],[],[],some (none,.store 2 (.sl 6) (.sl 18)),[2,3,5,6],4,[],[],[]⟩]) (.seq (.keep [2,3,5,6]) f3_T0)))), [(.sl 4)],false⟩
theorem TB.add{H:List (Nat×Blk)}{p:Nat}{z:Bool}{t:Table}{more:List Blk}:TB (addBlks H p (tblk z (p+2) t++more)) p z t:=by
  have hl:=z3L z (p+2) t
  have key:∀ j,j<t.globals.length+2→look (addBlks H p (tblk z (p+2) t++more)) (p+j)=(tblk z (p+2) t)[j]?:=fun j hj=>by
    rw[q1S,if_pos (by rw[List.length_append,hl];omega),Nat.add_sub_cancel_left,List.getElem?_append_left (by omega)]
  refine⟨key 0 (by omega),key 1 (by omega),fun j hj=>?_⟩
  have:=key (j+2) (by omega)
  rw[show p+2+j=p+(j+2) by omega,this]
  simp only[tblk,List.getElem?_cons_succ,List.getElem?_map,q4b hj,Option.map_some]
end Go.Vm
end

section
namespace Go.Vm
set_option maxRecDepth 20000
open Go.Proofs
/- 'sloth/slothref17.Print' -/
structure PrOk(t:Table):Prop where
 nm:Nm t
 sl:t.shapes.length≤1048576
 gl:t.globals.length≤2000
 fd:∀ s∈t.shapes,0≤s.fields∧s.fields≤8
 ar:∀ g∈t.globals,0≤g.arity∧g.arity≤24
 cd:∀ g∈t.globals,g.code.length≤8000∧∀ x∈g.code,InsOk t x
theorem j2E(l s:Bs):l.map eU++s.map eU=(l++s).map eU:=by simp
theorem q6x{α:Type}{f:α→Bs}{n:Nat}:∀(l:List α),(∀ x∈l,(f x).length≤n)→(l.flatMap f).length≤l.length*n
 |[],_=>by simp
 |a :: l,h=>by
  have h1:=h a (by simp)
  have h2:=q6x l fun x hx=>h x (by simp [hx])
  simp only[List.flatMap_cons,List.length_append,List.length_cons,Nat.add_mul,Nat.one_mul];omega
theorem z3i{t:Table}{nc i:Int}{x:Instr}(h:q6i t.globals.length t.shapes.length nc i x=0)(h0:0≤i)(hw:x.a≤9223372036854775807)(hnc:nc≤8000):InsOk t x:=by
 unfold q6i at h
 by_cases g:1≤x.op∧x.op<18
 ·rw[if_pos g] at h
  have key:∀ a b:Int,(if a=172∨b=172 then(172:Int) else if a≠0∨b≠0 then 174 else 0)=0→a=0∧b=0:=by
   intro a b h
   split at h
   ·omega
   ·split at h <;> omega
  obtain⟨ha,hb⟩:=key _ _ h
  clear h
  have:x.op=1∨x.op=2∨x.op=3∨x.op=4∨x.op=5∨x.op=6∨x.op=7∨x.op=8∨x.op=9∨x.op=10∨x.op=11∨x.op=12∨x.op=13∨x.op=14∨x.op=15∨x.op=16∨x.op=17:=by omega
  obtain⟨op,a,b⟩:=x
  simp only at this ha hb g hw
  rcases this with rfl|rfl|rfl|rfl|rfl|rfl|rfl|rfl|rfl|rfl|rfl|rfl|rfl|rfl|rfl|rfl|rfl <;>
   simp [q0S,z5H,nth,q1U] at ha hb <;> refine⟨by simp,fun hl=>?_,fun hl=>?_⟩ <;> simp [q7T,j3k,nth] at hl⊢<;> omega
 ·rw[if_neg g] at h;cases h
theorem z39{s:List UInt8}(h:q2s s=true):s.length≤4096:=by
 unfold q2s at h
 simp only[Bool.and_eq_true,decide_eq_true_eq] at h
 omega
theorem j3M{t:Table}(h:q1P t=0)(hs:t.shapes.length≤1048576)(hw:∀ g∈t.globals,∀ x∈g.code,x.a≤9223372036854775807):PrOk t:=by
 obtain⟨c1,c2,c3⟩:=z4z h
 have names:(∀ s∈t.shapes,q2s s.name=true)∧∀ g∈t.globals,q2s g.name=true:=by
  unfold q1P at h
  split at h
  ·cases h
  ·split at h
   ·cases h
   ·split at h
    ·cases h
    ·split at h
     ·cases h
     ·rename_i h1 h2 h3 h4
      have m1:=q2h _ _ _ (by simpa using h2)
      have m2:=q2h _ _ _ (by simpa using h4)
      exact⟨fun s hs=>(m1 (s.name,s.fields) (List.mem_map.2 ⟨s,hs,rfl⟩)).1,fun g hg=>(m2 (g.name,g.arity) (List.mem_map.2 ⟨g,hg,rfl⟩)).1⟩
 refine⟨⟨fun s hs=>z39 (names.1 s hs),fun g hg=>z39 (names.2 g hg)⟩,hs,c2,fun s hs=>c1 s hs,fun g hg=>(c3 g hg).2.1,fun g hg=>⟨(c3 g hg).1,fun x hx=>?_⟩⟩
 obtain⟨a1,a2,a3⟩:=c3 g hg
 unfold q1Q at a3
 split at a3
 ·rename_i z
  obtain⟨i,hi⟩:=List.getElem?_of_mem hx
  have hil:i<g.code.length:=by
   rcases Nat.lt_or_ge i g.code.length with h|h
   ·exact h
   ·rw[List.getElem?_eq_none h] at hi;cases hi
  have hn:=z0t g.code.length 0 z i (by omega) (by omega)
  have e:=q4b hil
  rw[hi] at e
  rw[←Option.some.inj e] at hn
  exact z3i hn (by omega) (hw g hg x hx) (by omega)
 ·rename_i z;exact absurd a3 z
end Go.Vm
end

section
namespace Go.Vm
set_option maxRecDepth 20000
open Go.Proofs
/- 'sloth/slothref17.Bytes' -/
/- 'sloth/slothref17.named' -/
def w64n(a:Int):Nat:=(a % 18446744073709551616).toNat
theorem z6V(a:Int):IntKind.u64.wrap a=(w64n a:Int):=by rw[q57];unfold w64n;omega
theorem q2E(a:Int):w64n a≤18446744073709551615:=by unfold w64n;omega
theorem q1o{n:Nat}(h:n≤18446744073709551615):(leb n).length≤10:=z73 9 n (Nat.lt_of_le_of_lt h (by decide))
theorem j1r(n:Nat):leb n≠[]:=by rw[leb];split <;> simp
def q3y(s:Bs):Bs:=leb s.length++s
def opB(x:Instr):Bs:=(if x.op==3||x.op==15 then leb (q2z x.a) else if 0<(q7T x.op).length then leb (w64n x.a) else [])++(if 1<(q7T x.op).length then leb (w64n x.b) else [])
def q2i(x:Instr):Bs:=UInt8.ofNat (x.op % 256).toNat :: opB x
def shB(s:Shape):Bs:=q3y s.name++leb (w64n s.fields)
def glB(g:Glob):Bs:=q3y g.name++leb (w64n g.arity)++leb g.code.length++g.code.flatMap q2i
def q1K(t:Table):Bs:=[83,76,84,72]++leb t.shapes.length++t.shapes.flatMap shB++leb t.globals.length++t.globals.flatMap glB
def q0t(t:Table):Bs:=q1K t++q28 (sumS (q1K t))
def q4y(t:Table):Bs×Int:=if q1P t=0 then(if 8388608<(q0t t).length then([],4) else(q0t t,0)) else([],q1P t)
def NumR(x:Instr):Prop:=(x.op==3||x.op==15)=true→-9223372036854775808≤x.a∧x.a≤9223372036854775807
structure ByOk(t:Table):Prop where
 nm:Nm t
 ns:∀ s∈t.shapes,s.name≠[]
 ng:∀ g∈t.globals,g.name≠[]
 sl:t.shapes.length≤1048576
 gl:t.globals.length≤2000
 cd:∀ g∈t.globals,g.code.length≤8000∧∀ x∈g.code,(1≤x.op∧x.op<18)∧NumR x
theorem q6k{s:Bs}(h:s.length≤4096):(q3y s).length≤4200:=by
 have:=q1o (n:=s.length) (by omega)
 simp only[q3y,List.length_append];omega
theorem z68{s:Shape}(h:s.name.length≤4096):(shB s).length≤4300:=by
 have:=q6k h
 have:=q1o (q2E s.fields)
 simp only[shB,List.length_append];omega
theorem j2j{x:Instr}(h:NumR x):(opB x).length≤20:=by
 have:=q1o (q2E x.a)
 have:=q1o (q2E x.b)
 have key:∀ b:Bool,(x.op==3||x.op==15)=b→(if b then leb (q2z x.a) else if 0<(q7T x.op).length then leb (w64n x.a) else []).length≤10:=by
  intro b hb
  cases b
  ·simp only[Bool.false_eq_true,if_false];split
   ·omega
   ·simp
  ·have:=h hb
   have:=q1o (q75 this.1 this.2)
   rw[if_pos rfl];omega
 have:=key _ rfl
 unfold opB
 rw[List.length_append]
 generalize (if(x.op==3||x.op==15)=true then leb (q2z x.a) else if 0<(q7T x.op).length then leb (w64n x.a) else [])=q at *
 split
 ·omega
 ·simp only[List.length_nil];omega
theorem q7j{x:Instr}(h:NumR x):(q2i x).length≤21:=by
 have:=j2j h
 simp only[q2i,List.length_cons];omega
end Go.Vm
end

section
namespace Go.Vm
theorem q5Z{K s g s'}(h:q5h K s g=some s')(hl:z1W K s (q1V s s') s'.heap g=true):q04 K s g=some s':=by
 unfold q04
 rw[h]
 exact if_pos (z4g hl)
theorem q2T(K s mks lets chk wr keep cnt aux wg late):q5h K s ⟨mks,lets,chk,wr,keep,cnt,aux,wg,late⟩=o1 (segL K s ⟨[],lets,chk,wr,keep,cnt,[],wg,[]⟩) (q2A K s mks):=by
 simp only[q5h,o1,segL];cases q2A K s mks <;> rfl
end Go.Vm
end

section
namespace Go.Vm
theorem q5e(K l s):exec K (.regl l) s=nrmP (q1T K s l) (q09 K s l):=by
 simp only[exec,nrmP];cases q09 K s l <;> rfl
theorem z8L(K π l s):exec K (.regp π l) s=nrmP (q1T K s l) (q09 K s l):=by
 simp only[exec,nrmP];cases q09 K s l <;> rfl
theorem q5X(K s g):q09 K s [g]=q04 K s g:=by
 simp only[q09]
 cases q04 K s g with
 |none=>rfl
 |some s'=>simp
theorem q1D{K s s' g g' r}(h:q04 K s g=some s')(hs:q5O K s s' g=true):q09 K s (g :: g' :: r)=q09 K s' (g' :: r):=by
 rw[q09,h]
 exact if_pos (.inr (z0k hs))
end Go.Vm
end

section
namespace Go.Vm
def pan1(y:Option (Ex×S))(f:S→Option (Ex×S))(x:Option S):Option (Ex×S):=match x with
 |some s=>f s
 |none=>y
theorem q0l(y f s):pan1 y f (some s)=f s:=rfl
theorem q0v(y f):pan1 y f none=y:=rfl
noncomputable def panR(K:Cx)(r:List Seg)(s:S):Option (Ex×S):=q3n K s r
theorem q0a(K s g r):q3n K s (g :: r)=pan1 (q4T K s g) (panR K r) (q04 K s g):=by
 simp only[q3n,pan1,panR];cases q04 K s g <;> rfl
theorem q07(K s g r):panR K (g :: r) s=pan1 (q4T K s g) (panR K r) (q04 K s g):=q0a K s g r
def panL(K:Cx)(s:S)(g:Seg)(keep:List Nat)(p:S×List Blk):Option (Ex×S):=match q2U K p.1 g.lets with
 |some _=>if q6E K p.1 g.chk then match g.wr with
   |some (_,wr)=>match wonB K p.1 g.wg with
    |some true=>q4j K s p.1 (addBlks s.heap s.nx p.2) keep wr
    |_=>none
   |none=>none
  else none
 |none=>none
def panW(K:Cx)(s s1:S)(H:List (Nat×Blk))(keep:List Nat)(wr:Option (Option Nat×Wr))(won:Option Bool)(chk:Bool)(l:Option (List (Nat×V))):Option (Ex×S):=match l with
 |some _=>if chk then match wr with
   |some (_,wr)=>match won with
    |some true=>q4j K s s1 H keep wr
    |_=>none
   |none=>none
  else none
 |none=>none
theorem q0i(K s mks lets chk wr keep cnt aux wg late):q4T K s ⟨mks,lets,chk,wr,keep,cnt,aux,wg,late⟩=o1 (panL K s ⟨[],lets,chk,wr,[],cnt,[],wg,[]⟩ (q1l ⟨mks,[],[],none,keep,0,[],[],[]⟩)) (q2A K s mks):=by
 simp only[q4T,o1,panL,q1l];cases q2A K s mks <;> rfl
theorem q0B(K s mks lets chk wr keep0 cnt aux wg late keep s1 news):panL K s ⟨mks,lets,chk,wr,keep0,cnt,aux,wg,late⟩ keep (s1,news)=panW K s s1 (addBlks s.heap s.nx news) keep wr (wonB K s1 wg) (q6E K s1 chk) (q2U K s1 lets):=by
 simp only[panL,panW]
theorem q0m(K s s1 H keep d wr l):panW K s s1 H keep (some (d,wr)) (some true) true (some l)=q4j K s s1 H keep wr:=rfl
def panP(s:S)(nx:Nat)(keep:List Nat):Option V→Option (Ex×S)
 |some v=>if v.flatP&&v.isIf then some (.pan v,panS s nx keep []) else none
 |none=>none
theorem q43(s nx keep t v)(h:(V.iface t v).flatP=true):panP s nx keep (some (.iface t v))=some (.pan (.iface t v),panS s nx keep []):=by simp [panP,h,V.isIf]
theorem q2f(K s s1 H keep e):q4j K s s1 H keep (.panic e)=panP s s1.nx keep (ev K s1 e):=by
 simp only[q4j,panP];cases ev K s1 e <;> rfl
def panA(K:Cx)(s:S)(nx:Nat)(H:List (Nat×Blk))(keep:List Nat)(f:FuncId):V→Option (Ex×S)
 |.tup vs=>match q1I f vs with
  |some (g,ws)=>q8C K s nx H keep g ws (q03 H (refN H+64) [] (refsL ws))
  |none=>none
 |_=>none
theorem q0g(K s s1 H keep f e):q4j K s s1 H keep (.calle f e)=o1 (panA K s s1.nx H keep f) (ev K s1 e):=by
 simp only[q4j,o1];cases ev K s1 e with
 |none=>rfl
 |some v=>cases v <;> rfl
theorem q0z{K s nx H keep f vs}(h:(f==4294967295)=false):panA K s nx H keep f (.tup vs)=q8C K s nx H keep f vs (q03 H (refN H+64) [] (refsL vs)):=by
 simp only[panA,q1I,dynF,h,Bool.false_eq_true,if_false]
def panC(K:Cx)(s:S)(nx:Nat)(keep:List Nat)(f:FuncId)(vs:List V)(bs:List Nat)(blks:List Blk):Option (Ex×S):=(K.pan f (vs.map fun v=>v.dim.ren bs.idxOf) blks).map fun v=>(.pan v,panS s nx keep bs)
theorem q0V(K s nx keep f vs bs blks):panC K s nx keep f vs bs blks=(K.pan f (vs.map fun v=>v.dim.ren bs.idxOf) blks).map fun v=>(.pan v,panS s nx keep bs):=rfl
theorem q0o(K s nx H keep f vs bs):q8C K s nx H keep f vs bs=if decide bs.Nodup&&vs.all (V.within bs.contains)&&closedB H bs then o1 (panC K s nx keep f vs bs) (handed H bs) else none:=by
 unfold q8C
 split
 ·cases handed H bs with
  |none=>rfl
  |some blks=>
   simp only[q10,panC]
   cases K.pan f (vs.map fun v=>v.dim.ren bs.idxOf) blks <;> rfl
 ·rfl
theorem q4F(K s g r)(h:q04 K s g=none):q1T K s (g :: r)=q4T K s g:=by simp only[q1T,h]
theorem z0o{K s s' g r}(h:q04 K s g=some s')(hs:q5O K s s' g=true):q1T K s (g :: r)=q1T K s' r:=by
 rw[q1T,h]
 exact if_pos (z0k hs)
theorem q5g(K s g r)(h:q04 K s g=none):q09 K s (g :: r)=none:=by simp only[q09,h]
theorem q7o{K s g}(h:q5h K s g=none):q04 K s g=none:=by
 unfold q04;rw[h]
theorem q02{α β:Type}(f:α→Option β):o1 f none=none:=rfl
theorem q01(s d ρ):segO s d ρ none=none:=rfl
theorem q2D(K s H e):evWr K s H (.panic e)=none:=rfl
theorem q0M(ρ H n mv nx keep bs):panS ⟨ρ,H,n,mv⟩ nx keep bs=⟨lose (.many bs) (q0e ρ keep),(q0q bs H).filter fun p=>!bs.contains p.1,nx,bs++mv⟩:=rfl
def q4a:Option (Ex×S)→Option V
 |some (.pan v,_)=>some v
 |_=>none
theorem q0f(v s):q4a (some (.pan v,s))=some v:=rfl
theorem q2K{x:Option (Ex×S)}{v:V}(h:q4a x=some v):∃ s,x=some (.pan v,s):=by
 cases x with
 |none=>cases h
 |some p=>
  obtain⟨e,s⟩:=p
  cases e with
  |pan u=>exact⟨s,by rw[Option.some.inj h]⟩
  |_=>cases h
end Go.Vm
end
