/-
  DERIVED: THE SHELF's CONTRACTS AT THIS DUMP, IN PLAIN WORDS (tools/lay-plain.mjs out of 'TryzShelf.lean', which tools/lay-shelf.mjs wrote): THE SAME DECLARATIONS UNDER THE SAME NAMES: 'import', 'namespace', 'open', 'def', 'theorem' AND NOTHING ELSE: no command of the shelf's: FOR A HAND-IN. Each laying: the table of numbers ('.._ren') and one theorem, a field a fact of the dump's own or the kernel's comparison; each contract: ONE APPLICATION.
-/
import Derived.Shelf.Strings.Builder1
import Derived.Shelf.Strings.Builder2
import Derived.Shelf.Strings.OnBuilder
import Derived.Shelf.Small.Strs
import Derived.Shelf.Strconv.Itoa0
import Derived.Shelf.Strconv.Itoa1
import Derived.Shelf.LaysM
import Derived.Shelf.Strconv.Itoa2
import Derived.Shelf.Strconv.Itoa3
import Derived.Shelf.Strings.Search1
import Derived.Shelf.Strings.Search2
import Derived.Shelf.Strings.Search3
import Derived.Shelf.Strings.Cut
import Derived.Shelf.Strings.Count
import Derived.Shelf.Strings.Shaped
import Derived.Shelf.Strings.Prefix
import Derived.Shelf.Strings.Split
import Derived.Shelf.Strings.SplitShaped
import Derived.Shelf.Bits.Mul64
import Derived.Shelf.Unicode.DecodeSlow
import Derived.Test.YtddpkhjinlbaoaaGreatDoorProg
set_option linter.unusedVariables false
set_option linter.unusedSimpArgs false
namespace Go.Proofs
open Go.Shelf
open Go.RowKit in
def ApG : Go.Shelf.Ren:=⟨fun|156=>252|165=>326|166=>327|169=>328|240=>392|241=>393|276=>444|277=>445|n=>n,fun|31=>43|9=>9|3=>3|4=>4|0=>0|20=>20|72=>329|76=>333|70=>327|37=>287|75=>332|127=>390|164=>429|5=>5|80=>144|n=>n,fun|n=>n⟩
theorem ApT : Go.Proofs.Lays.n156 Tryz.prog ApG := {
 mixed:=by kernel_rfl
 f156:=Tryz.func252.trans (congrArg some (by kernel_rfl))
 f165:=Tryz.func326.trans (congrArg some (by kernel_rfl))
 f166:=Tryz.func327.trans (congrArg some (by kernel_rfl))
 f169:=Tryz.func328.trans (congrArg some (by kernel_rfl))
 f240:=Tryz.func392.trans (congrArg some (by kernel_rfl))
 f241:=Tryz.func393.trans (congrArg some (by kernel_rfl))
 f276:=Tryz.func444.trans (congrArg some (by kernel_rfl))
 f277:=Tryz.func445.trans (congrArg some (by kernel_rfl))
 t0:=Tryz.underlying0
 a0:=Tryz.isAgg0
 z0:=Tryz.sizeOf0
 v0:=Tryz.zeroValue0
 t3:=Tryz.underlying3
 a3:=Tryz.isAgg3
 z3:=Tryz.sizeOf3
 v3:=Tryz.zeroValue3
 t4:=Tryz.underlying4
 a4:=Tryz.isAgg4
 z4:=Tryz.sizeOf4
 v4:=Tryz.zeroValue4
 t9:=Tryz.underlying9
 a9:=Tryz.isAgg9
 z9:=Tryz.sizeOf9
 v9:=Tryz.zeroValue9
 t20:=Tryz.underlying20
 a20:=Tryz.isAgg20
 z20:=Tryz.sizeOf20
 v20:=Tryz.zeroValue20
 t31:=Tryz.underlying43
 a31:=Tryz.isAgg43
 z31:=Tryz.sizeOf43
 v31:=Tryz.zeroValue43
 t37:=Tryz.underlying287
 a37:=Tryz.isAgg287
 z37:=Tryz.sizeOf287
 v37:=Tryz.zeroValue287
 t70:=Tryz.underlying327
 a70:=Tryz.isAgg327
 z70:=Tryz.sizeOf327
 v70:=Tryz.zeroValue327
 t72:=Tryz.underlying329
 a72:=Tryz.isAgg329
 z72:=Tryz.sizeOf329
 v72:=Tryz.zeroValue329
 t75:=Tryz.underlying332
 a75:=Tryz.isAgg332
 z75:=Tryz.sizeOf332
 v75:=Tryz.zeroValue332
 t76:=Tryz.underlying333
 a76:=Tryz.isAgg333
 z76:=Tryz.sizeOf333
 v76:=Tryz.zeroValue333
 t127:=Tryz.underlying390
 a127:=Tryz.isAgg390
 z127:=Tryz.sizeOf390
 v127:=Tryz.zeroValue390
 t164:=Tryz.underlying429
 a164:=Tryz.isAgg429
 z164:=Tryz.sizeOf429
 v164:=Tryz.zeroValue429 }
theorem ApC : Builder.Extra Tryz.prog ApG := {
 sizeBuilder:=by kernel_rfl
 liesBuilder:=by kernel_rfl
 t5:=Tryz.underlying5
 a5:=Tryz.isAgg5
 z5:=Tryz.sizeOf5
 v5:=Tryz.zeroValue5
 infoByte:=by kernel_rfl
 cellsByte:=by kernel_rfl
 sizeByte:=by kernel_rfl
 neB5:=by decide }
open Go.RowKit in
theorem Tryz.strings_Join_none (a:Option Addr) (c:Nat) (sep:ByteArray) (w:World) :
  Calls Tryz.prog 252 #[.slice a 0 c,.string sep] w fun e w'=>e = .returned (.string ⟨#[]⟩)∧w'=w:=Any.strings_Join_none ApT ApC a c sep w
open Go.RowKit in
theorem Tryz.strings_Join (bk o c:Nat) (xs:List ByteArray) (sep:ByteArray) (w:World) (hcells:∀ (j:Nat) x,xs[j]? = some x→w.cell? ⟨bk,o+j,none⟩=some (.string x)) (hbk:bk<w.heap.size) (hN:xs.length≤140737488355328) (hcap:xs.length≤c) (hlen:(Lib.join (xs.map (·.data.toList)) sep.data.toList).length≤140737488355328) :
  Calls Tryz.prog 252 #[.slice (some ⟨bk,o,none⟩) xs.length c,.string sep] w fun e w'=>e = .returned (.string ⟨(Lib.join (xs.map (·.data.toList)) sep.data.toList).toArray⟩)∧Below w.heap.size w w':=Any.strings_Join ApT ApC bk o c xs sep w hcells hbk hN hcap hlen
def ApJ : Go.Shelf.Ren:=⟨fun|137=>247|217=>321|266=>387|n=>n,fun|9=>9|5=>5|3=>3|n=>n,fun|n=>n⟩
theorem ApV : Go.Proofs.Lays.n137 Tryz.prog ApJ := {
 mixed:=by kernel_rfl
 f137:=Tryz.func247.trans (congrArg some (by kernel_rfl))
 f217:=Tryz.func321.trans (congrArg some (by kernel_rfl))
 f266:=Tryz.func387.trans (congrArg some (by kernel_rfl))
 t3:=Tryz.underlying3
 a3:=Tryz.isAgg3
 z3:=Tryz.sizeOf3
 v3:=Tryz.zeroValue3
 t5:=Tryz.underlying5
 a5:=Tryz.isAgg5
 z5:=Tryz.sizeOf5
 v5:=Tryz.zeroValue5
 t9:=Tryz.underlying9
 a9:=Tryz.isAgg9
 z9:=Tryz.sizeOf9
 v9:=Tryz.zeroValue9 }
open Go.RowKit in
theorem Tryz.strings_IndexByte (s:ByteArray) (c:Int) (w:World) :
  Calls Tryz.prog 247 #[.string s,.int .u8 c] w fun e w'=>e = .returned (.int .i64 (Lib.indexByte s.data.toList c.toNat.toUInt8))∧w'=w:=Any.strings_IndexByte ApV s c w
open Go.RowKit Go.Sort Go.Lib in
def ApF : Go.Shelf.Ren:=⟨fun|246=>386|283=>436|284=>437|285=>438|286=>439|129=>373|317=>459|318=>460|319=>461|320=>462|337=>470|338=>471|n=>n,fun|2=>2|3=>3|9=>9|4=>4|171=>425|0=>0|53=>374|37=>287|5=>5|173=>427|212=>443|51=>372|20=>20|213=>444|46=>318|232=>454|233=>455|n=>n,fun|17=>1|18=>4|19=>5|n=>n⟩
open Go.RowKit Go.Sort Go.Lib in
def ApD : Go.Shelf.Ren:=⟨fun|243=>320|246=>386|283=>436|284=>437|285=>438|286=>439|129=>373|317=>459|318=>460|319=>461|320=>462|337=>470|338=>471|n=>n,fun|3=>3|9=>9|2=>2|4=>4|171=>425|0=>0|53=>374|37=>287|5=>5|173=>427|212=>443|51=>372|20=>20|213=>444|46=>318|232=>454|233=>455|n=>n,fun|17=>1|18=>4|19=>5|n=>n⟩
open Go.RowKit Go.Sort Go.Lib in
def ApE : Go.Shelf.Ren:=⟨fun|171=>246|243=>320|246=>386|283=>436|284=>437|285=>438|286=>439|129=>373|317=>459|318=>460|319=>461|320=>462|337=>470|338=>471|n=>n,fun|3=>3|9=>9|2=>2|4=>4|171=>425|0=>0|53=>374|37=>287|5=>5|173=>427|212=>443|51=>372|20=>20|213=>444|46=>318|232=>454|233=>455|n=>n,fun|17=>1|18=>4|19=>5|n=>n⟩
theorem ApQ : Go.Proofs.LaysM.n171 Tryz.prog ApE := {
 mixed:=by kernel_rfl
 f129:=Tryz.func373.trans (congrArg some (by kernel_rfl))
 f171:=Tryz.func246.trans (congrArg some (by kernel_rfl))
 f243:=Tryz.func320.trans (congrArg some (by kernel_rfl))
 f246:=Tryz.func386.trans (congrArg some (by kernel_rfl))
 f283:=Tryz.func436.trans (congrArg some (by kernel_rfl))
 f284:=Tryz.func437.trans (congrArg some (by kernel_rfl))
 f285:=Tryz.func438.trans (congrArg some (by kernel_rfl))
 f286:=Tryz.func439.trans (congrArg some (by kernel_rfl))
 f317:=Tryz.func459.trans (congrArg some (by kernel_rfl))
 f318:=Tryz.func460.trans (congrArg some (by kernel_rfl))
 f319:=Tryz.func461.trans (congrArg some (by kernel_rfl))
 f320:=Tryz.func462.trans (congrArg some (by kernel_rfl))
 f337:=Tryz.func470.trans (congrArg some (by kernel_rfl))
 f338:=Tryz.func471.trans (congrArg some (by kernel_rfl))
 t0:=Tryz.underlying0
 a0:=Tryz.isAgg0
 z0:=Tryz.sizeOf0
 v0:=Tryz.zeroValue0
 t2:=Tryz.underlying2
 a2:=Tryz.isAgg2
 z2:=Tryz.sizeOf2
 v2:=Tryz.zeroValue2
 t3:=Tryz.underlying3
 a3:=Tryz.isAgg3
 z3:=Tryz.sizeOf3
 v3:=Tryz.zeroValue3
 t4:=Tryz.underlying4
 a4:=Tryz.isAgg4
 z4:=Tryz.sizeOf4
 v4:=Tryz.zeroValue4
 t5:=Tryz.underlying5
 a5:=Tryz.isAgg5
 z5:=Tryz.sizeOf5
 v5:=Tryz.zeroValue5
 t9:=Tryz.underlying9
 a9:=Tryz.isAgg9
 z9:=Tryz.sizeOf9
 v9:=Tryz.zeroValue9
 t20:=Tryz.underlying20
 a20:=Tryz.isAgg20
 z20:=Tryz.sizeOf20
 v20:=Tryz.zeroValue20
 t37:=Tryz.underlying287
 a37:=Tryz.isAgg287
 z37:=Tryz.sizeOf287
 v37:=Tryz.zeroValue287
 t46:=Tryz.underlying318
 a46:=Tryz.isAgg318
 z46:=Tryz.sizeOf318
 v46:=Tryz.zeroValue318
 t51:=Tryz.underlying372
 a51:=Tryz.isAgg372
 z51:=Tryz.sizeOf372
 v51:=Tryz.zeroValue372
 t53:=Tryz.underlying374
 a53:=Tryz.isAgg374
 z53:=Tryz.sizeOf374
 v53:=Tryz.zeroValue374
 t171:=Tryz.underlying425
 a171:=Tryz.isAgg425
 z171:=Tryz.sizeOf425
 v171:=Tryz.zeroValue425
 t173:=Tryz.underlying427
 a173:=Tryz.isAgg427
 z173:=Tryz.sizeOf427
 v173:=Tryz.zeroValue427
 t212:=Tryz.underlying443
 a212:=Tryz.isAgg443
 z212:=Tryz.sizeOf443
 v212:=Tryz.zeroValue443
 t213:=Tryz.underlying444
 a213:=Tryz.isAgg444
 z213:=Tryz.sizeOf444
 t232:=Tryz.underlying454
 a232:=Tryz.isAgg454
 z232:=Tryz.sizeOf454
 v232:=Tryz.zeroValue454
 t233:=Tryz.underlying455
 a233:=Tryz.isAgg455
 z233:=Tryz.sizeOf455
 v233:=Tryz.zeroValue455
 g17:=by kernel_rfl
 g18:=by kernel_rfl
 g19:=by kernel_rfl
 i0:=by kernel_rfl
 i2:=by kernel_rfl
 i3:=by kernel_rfl
 i4:=by kernel_rfl
 i5:=by kernel_rfl
 i9:=by kernel_rfl
 i20:=by kernel_rfl
 i37:=by kernel_rfl
 i46:=by kernel_rfl
 i51:=by kernel_rfl
 i53:=by kernel_rfl
 i171:=by kernel_rfl
 i173:=by kernel_rfl
 i212:=by kernel_rfl
 i232:=by kernel_rfl
 i233:=by kernel_rfl
 m17:=by kernel_rfl
 m18:=by kernel_rfl
 m19:=by kernel_rfl }
open Go.RowKit Go.Sort Go.Lib in
theorem Tryz.strconv_Itoa (n:Int) (h0 : -9223372036854775808≤n) (h1:n≤9223372036854775807) (w:World) (htab:Lib.TabIs Tryz.prog w "internal/strconv.uint64pow10" .u64 Lib.pow10Tab) :
  Calls Tryz.prog 246 #[.int .i64 n] w fun e w'=>e = .returned (.string ⟨(Lib.itoa n).toArray⟩)∧∃ k os,w'=grow (w.drewN k) os:=Any.strconv_Itoa ApQ n h0 h1 w htab
open Go.RowKit Go.Lib in
def ApH : Go.Shelf.Ren:=⟨fun|219=>391|217=>321|225=>441|224=>442|267=>443|266=>387|314=>463|n=>n,fun|9=>9|3=>3|4=>4|5=>5|46=>318|146=>417|51=>372|n=>n,fun|1=>0|n=>n⟩
open Go.RowKit Go.Lib in
def ApL : Go.Shelf.Ren:=⟨fun|145=>251|220=>325|219=>391|217=>321|225=>441|224=>442|267=>443|266=>387|314=>463|n=>n,fun|9=>9|4=>4|59=>272|3=>3|5=>5|46=>318|146=>417|51=>372|n=>n,fun|1=>0|n=>n⟩
theorem ApU : Go.Proofs.Lays.n145 Tryz.prog ApL := {
 mixed:=by kernel_rfl
 f145:=Tryz.func251.trans (congrArg some (by kernel_rfl))
 f217:=Tryz.func321.trans (congrArg some (by kernel_rfl))
 f219:=Tryz.func391.trans (congrArg some (by kernel_rfl))
 f220:=Tryz.func325.trans (congrArg some (by kernel_rfl))
 f224:=Tryz.func442.trans (congrArg some (by kernel_rfl))
 f225:=Tryz.func441.trans (congrArg some (by kernel_rfl))
 f266:=Tryz.func387.trans (congrArg some (by kernel_rfl))
 f267:=Tryz.func443.trans (congrArg some (by kernel_rfl))
 f314:=Tryz.func463.trans (congrArg some (by kernel_rfl))
 t3:=Tryz.underlying3
 a3:=Tryz.isAgg3
 z3:=Tryz.sizeOf3
 v3:=Tryz.zeroValue3
 t4:=Tryz.underlying4
 a4:=Tryz.isAgg4
 z4:=Tryz.sizeOf4
 v4:=Tryz.zeroValue4
 t5:=Tryz.underlying5
 a5:=Tryz.isAgg5
 z5:=Tryz.sizeOf5
 v5:=Tryz.zeroValue5
 t9:=Tryz.underlying9
 a9:=Tryz.isAgg9
 z9:=Tryz.sizeOf9
 v9:=Tryz.zeroValue9
 t46:=Tryz.underlying318
 a46:=Tryz.isAgg318
 z46:=Tryz.sizeOf318
 v46:=Tryz.zeroValue318
 t51:=Tryz.underlying372
 a51:=Tryz.isAgg372
 z51:=Tryz.sizeOf372
 v51:=Tryz.zeroValue372
 t59:=Tryz.underlying272
 a59:=Tryz.isAgg272
 z59:=Tryz.sizeOf272
 v59:=Tryz.zeroValue272
 t146:=Tryz.underlying417
 a146:=Tryz.isAgg417
 z146:=Tryz.sizeOf417
 v146:=Tryz.zeroValue417
 g1:=by kernel_rfl }
open Go.RowKit Go.Lib in
theorem Tryz.strings_Cut (s sep:ByteArray) (m:Int) (w:World) (hs:s.size<4294967281) (hm:w.cell? ⟨0,0,none⟩=some (.int .i64 m)) :
  Calls Tryz.prog 251 #[.string s,.string sep] w fun e w'=>e = .returned (.tuple #[.string ⟨(Lib.cut s.data.toList sep.data.toList).1.toArray⟩,.string ⟨(Lib.cut s.data.toList sep.data.toList).2.1.toArray⟩,.bool (Lib.cut s.data.toList sep.data.toList).2.2])∧∃ n,w'=w.drewN n:=Any.strings_Cut ApU s sep m w hs hm
open Go.RowKit Go.Lib in
def ApK : Go.Shelf.Ren:=⟨fun|207=>258|n=>n,fun|9=>9|4=>4|3=>3|n=>n,fun|n=>n⟩
open Go.RowKit Go.Lib in
def ApM : Go.Shelf.Ren:=⟨fun|102=>119|209=>182|207=>258|n=>n,fun|9=>9|4=>4|3=>3|n=>n,fun|n=>n⟩
theorem ApR : Go.Proofs.Lays.n102 Tryz.prog ApM := {
 mixed:=by kernel_rfl
 f102:=Tryz.func119.trans (congrArg some (by kernel_rfl))
 f207:=Tryz.func258.trans (congrArg some (by kernel_rfl))
 f209:=Tryz.func182.trans (congrArg some (by kernel_rfl))
 t3:=Tryz.underlying3
 a3:=Tryz.isAgg3
 z3:=Tryz.sizeOf3
 v3:=Tryz.zeroValue3
 t4:=Tryz.underlying4
 a4:=Tryz.isAgg4
 z4:=Tryz.sizeOf4
 v4:=Tryz.zeroValue4
 t9:=Tryz.underlying9
 a9:=Tryz.isAgg9
 z9:=Tryz.sizeOf9
 v9:=Tryz.zeroValue9 }
open Go.RowKit Go.Lib in
theorem Tryz.strings_TrimSuffix (s p:ByteArray) (w:World) (hs:s.size≤9223372036854775807) :
  Calls Tryz.prog 119 #[.string s,.string p] w fun e w'=>e = .returned (.string ⟨(Lib.trimSuffix s.data.toList p.data.toList).toArray⟩)∧w'=w:=Any.strings_TrimSuffix ApR s p w hs
open Go.RowKit Go.Lib in
def ApN : Go.Shelf.Ren:=⟨fun|221=>250|268=>322|138=>323|143=>324|195=>388|197=>389|218=>390|219=>391|260=>440|217=>321|225=>441|224=>442|267=>443|266=>387|314=>463|n=>n,fun|9=>9|3=>3|31=>43|4=>4|0=>0|105=>388|21=>21|5=>5|46=>318|119=>445|139=>448|138=>447|146=>417|51=>372|n=>n,fun|1=>0|3=>2|4=>3|n=>n⟩
open Go.RowKit Go.Lib in
def ApI : Go.Shelf.Ren:=⟨fun|146=>172|221=>250|268=>322|138=>323|143=>324|195=>388|197=>389|218=>390|219=>391|260=>440|217=>321|225=>441|224=>442|267=>443|266=>387|314=>463|n=>n,fun|9=>9|31=>43|3=>3|4=>4|0=>0|105=>388|21=>21|5=>5|46=>318|119=>445|139=>448|138=>447|146=>417|51=>372|n=>n,fun|1=>0|3=>2|4=>3|n=>n⟩
theorem ApW : Go.Proofs.Lays.n146 Tryz.prog ApI := {
 mixed:=by kernel_rfl
 f138:=Tryz.func323.trans (congrArg some (by kernel_rfl))
 f143:=Tryz.func324.trans (congrArg some (by kernel_rfl))
 f146:=Tryz.func172.trans (congrArg some (by kernel_rfl))
 f195:=Tryz.func388.trans (congrArg some (by kernel_rfl))
 f197:=Tryz.func389.trans (congrArg some (by kernel_rfl))
 f217:=Tryz.func321.trans (congrArg some (by kernel_rfl))
 f218:=Tryz.func390.trans (congrArg some (by kernel_rfl))
 f219:=Tryz.func391.trans (congrArg some (by kernel_rfl))
 f221:=Tryz.func250.trans (congrArg some (by kernel_rfl))
 f224:=Tryz.func442.trans (congrArg some (by kernel_rfl))
 f225:=Tryz.func441.trans (congrArg some (by kernel_rfl))
 f260:=Tryz.func440.trans (congrArg some (by kernel_rfl))
 f266:=Tryz.func387.trans (congrArg some (by kernel_rfl))
 f267:=Tryz.func443.trans (congrArg some (by kernel_rfl))
 f268:=Tryz.func322.trans (congrArg some (by kernel_rfl))
 f314:=Tryz.func463.trans (congrArg some (by kernel_rfl))
 t0:=Tryz.underlying0
 a0:=Tryz.isAgg0
 z0:=Tryz.sizeOf0
 v0:=Tryz.zeroValue0
 t3:=Tryz.underlying3
 a3:=Tryz.isAgg3
 z3:=Tryz.sizeOf3
 v3:=Tryz.zeroValue3
 t4:=Tryz.underlying4
 a4:=Tryz.isAgg4
 z4:=Tryz.sizeOf4
 v4:=Tryz.zeroValue4
 t5:=Tryz.underlying5
 a5:=Tryz.isAgg5
 z5:=Tryz.sizeOf5
 v5:=Tryz.zeroValue5
 t9:=Tryz.underlying9
 a9:=Tryz.isAgg9
 z9:=Tryz.sizeOf9
 v9:=Tryz.zeroValue9
 t21:=Tryz.underlying21
 a21:=Tryz.isAgg21
 z21:=Tryz.sizeOf21
 v21:=Tryz.zeroValue21
 t31:=Tryz.underlying43
 a31:=Tryz.isAgg43
 z31:=Tryz.sizeOf43
 v31:=Tryz.zeroValue43
 t46:=Tryz.underlying318
 a46:=Tryz.isAgg318
 z46:=Tryz.sizeOf318
 v46:=Tryz.zeroValue318
 t51:=Tryz.underlying372
 a51:=Tryz.isAgg372
 z51:=Tryz.sizeOf372
 v51:=Tryz.zeroValue372
 t105:=Tryz.underlying388
 a105:=Tryz.isAgg388
 z105:=Tryz.sizeOf388
 v105:=Tryz.zeroValue388
 t119:=Tryz.underlying445
 a119:=Tryz.isAgg445
 z119:=Tryz.sizeOf445
 t138:=Tryz.underlying447
 a138:=Tryz.isAgg447
 z138:=Tryz.sizeOf447
 v138:=Tryz.zeroValue447
 t139:=Tryz.underlying448
 a139:=Tryz.isAgg448
 z139:=Tryz.sizeOf448
 v139:=Tryz.zeroValue448
 t146:=Tryz.underlying417
 a146:=Tryz.isAgg417
 z146:=Tryz.sizeOf417
 v146:=Tryz.zeroValue417
 g1:=by kernel_rfl
 g3:=by kernel_rfl
 g4:=by kernel_rfl }
open Go.RowKit Go.Lib in
theorem Tryz.strings_Split (s sep:ByteArray) (m:Int) (w:World) (hs:s.size<4294967281) (hm:w.cell? ⟨0,0,none⟩=some (.int .i64 m)) (h1:1≤sep.size) :
  Calls Tryz.prog 172 #[.string s,.string sep] w fun e w' =>
   e = .returned (.slice (some ⟨w.heap.size,0,none⟩) (Lib.countB s sep+1) (Lib.countB s sep+1))∧w'=w.alloc (.cells ((Lib.splitB sep 0 (Lib.countB s sep) s).map Value.string).toArray 9):=Any.strings_Split ApW (by kernel_rfl) s sep m w hs hm h1
end Go.Proofs
