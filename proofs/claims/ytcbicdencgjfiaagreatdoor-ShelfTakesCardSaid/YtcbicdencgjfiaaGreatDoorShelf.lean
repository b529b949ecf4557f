/-
 DERIVED: THE SHELF's CONTRACTS AT THIS DUMP,IN PLAIN WORDS (tools/lay-plain.mjs out of 'TryzShelf.lean',which tools/lay-shelf.mjs wrote): THE SAME DECLARATIONS UNDER THE SAME NAMES: 'import','namespace','open','def','theorem' AND NOTHING ELSE: no command of the shelf's: FOR A HAND-IN. Each laying: the table of numbers ('.._ren') and one theorem,a field a fact of the dump's own or the kernel's comparison;each contract: ONE APPLICATION.
-/
import Derived.Shelf.Strings.Builder1
import Derived.Shelf.Small.Strs
import Derived.Shelf.Small.Wraps
import Derived.Shelf.Strings.BuilderF
import Derived.Shelf.Strings.BuilderK
import Derived.Shelf.Strconv.Itoa0
import Derived.Shelf.Strconv.Itoa1
import Derived.Shelf.LaysM
import Derived.Shelf.Strconv.Itoa2
import Derived.Shelf.Strconv.Itoa3
import Derived.Shelf.Strconv.Itoa4
import Derived.Shelf.Strings.Search1
import Derived.Shelf.Strings.Search2
import Derived.Shelf.Strings.Search3
import Derived.Shelf.Strings.Cut
import Derived.Shelf.Strings.Shaped
import Derived.Shelf.Strings.Prefix
import Derived.Shelf.Strings.BuilderCap
import Derived.Shelf.Slices.Equal
import Derived.Shelf.Slices.Empties2
import Derived.Test.YtcbicdencgjfiaaGreatDoorProg
namespace Go.Proofs
open Go.Shelf
def Tryz.lays169_ren:Go.Shelf.Ren:=⟨fun | 169=>33 | n=>n,fun | 70=>76 | 9=>9 | 0=>0 | 72=>79 | 37=>77 | 127=>146 | 3=>3 | 5=>5 | n=>n,fun | n=>n⟩
theorem Tryz.lays169:Go.Proofs.Lays.n169 Tryz.prog Tryz.lays169_ren:={
 mixed:=by kernel_rfl
 f169:=Tryz.func33.trans (congrArg some (by kernel_rfl))
 t0:=Tryz.underlying0
 a0:=Tryz.isAgg0
 z0:=Tryz.sizeOf0
 v0:=Tryz.zeroValue0
 t3:=Tryz.underlying3
 a3:=Tryz.isAgg3
 z3:=Tryz.sizeOf3
 v3:=Tryz.zeroValue3
 t9:=Tryz.underlying9
 a9:=Tryz.isAgg9
 z9:=Tryz.sizeOf9
 v9:=Tryz.zeroValue9
 t37:=Tryz.underlying77
 a37:=Tryz.isAgg77
 z37:=Tryz.sizeOf77
 v37:=Tryz.zeroValue77
 t70:=Tryz.underlying76
 a70:=Tryz.isAgg76
 z70:=Tryz.sizeOf76
 v70:=Tryz.zeroValue76
 t72:=Tryz.underlying79
 a72:=Tryz.isAgg79
 z72:=Tryz.sizeOf79
 v72:=Tryz.zeroValue79
 t127:=Tryz.underlying146
 a127:=Tryz.isAgg146
 z127:=Tryz.sizeOf146
 v127:=Tryz.zeroValue146 }
theorem Tryz.Builder_Extra_169:Builder.Extra Tryz.prog Tryz.lays169_ren:={
 sizeBuilder:=by kernel_rfl
 liesBuilder:=by kernel_rfl
 t5:=Tryz.underlying5
 a5:=Tryz.isAgg5
 z5:=Tryz.sizeOf5
 v5:=Tryz.zeroValue5
 infoByte:=by kernel_rfl
 cellsByte:=by kernel_rfl
 sizeByte:=by kernel_rfl
 neB5:=by decide }
open Go.RowKit in
theorem Tryz.Builder_String_any (B b:Nat) (l:List UInt8) (w:World) (h:Lib.IsBuilder 79 5 B b (Lib.byteCells l) w) (hBw:B≤w.heap.size) :
  Calls Tryz.prog 33 #[.pointer (some ⟨b,0,none⟩)] w fun e w'=>e=.returned (.string ⟨l.toArray⟩)∧Below B w w':=Any.Builder_String_any Tryz.lays169 Tryz.Builder_Extra_169 B b l w h hBw
def Tryz.lays106_ren:Go.Shelf.Ren:=⟨fun | 106=>239 | 213=>251 | 265=>263 | n=>n,fun | 9=>9 | 3=>3 | n=>n,fun | n=>n⟩
theorem Tryz.lays106:Go.Proofs.Lays.n106 Tryz.prog Tryz.lays106_ren:={
 mixed:=by kernel_rfl
 f106:=Tryz.func239.trans (congrArg some (by kernel_rfl))
 f213:=Tryz.func251.trans (congrArg some (by kernel_rfl))
 f265:=Tryz.func263.trans (congrArg some (by kernel_rfl))
 t3:=Tryz.underlying3
 a3:=Tryz.isAgg3
 z3:=Tryz.sizeOf3
 v3:=Tryz.zeroValue3
 t9:=Tryz.underlying9
 a9:=Tryz.isAgg9
 z9:=Tryz.sizeOf9
 v9:=Tryz.zeroValue9 }
open Go.RowKit in
theorem Tryz.strings_Compare (a b:ByteArray) (w:World) :
  Calls Tryz.prog 239 #[.string a,.string b] w fun e w'=>e=.returned (.int .i64 (Lib.compareBytes a.data.toList b.data.toList))∧w'=w:=Any.strings_Compare Tryz.lays106 a b w
def Tryz.lays103_ren:Go.Shelf.Ren:=⟨fun | 103=>245 | 210=>260 | 206=>261 | n=>n,fun | 9=>9 | 4=>4 | 24=>311 | 3=>3 | n=>n,fun | n=>n⟩
theorem Tryz.lays103:Go.Proofs.Lays.n103 Tryz.prog Tryz.lays103_ren:={
 mixed:=by kernel_rfl
 f103:=Tryz.func245.trans (congrArg some (by kernel_rfl))
 f206:=Tryz.func261.trans (congrArg some (by kernel_rfl))
 f210:=Tryz.func260.trans (congrArg some (by kernel_rfl))
 t3:=Tryz.underlying3
 a3:=Tryz.isAgg3
 z3:=Tryz.sizeOf3
 v3:=Tryz.zeroValue3
 t4:=Tryz.underlying4
 a4:=Tryz.isAgg4
 z4:=Tryz.sizeOf4
 v4:=Tryz.zeroValue4
 t9:=Tryz.underlying9
 a9:=Tryz.isAgg9
 z9:=Tryz.sizeOf9
 v9:=Tryz.zeroValue9
 t24:=Tryz.underlying311
 a24:=Tryz.isAgg311
 z24:=Tryz.sizeOf311
 v24:=Tryz.zeroValue311 }
open Go.RowKit in
theorem Tryz.strings_CutPrefix (s p:ByteArray) (w:World) :
  Calls Tryz.prog 245 #[.string s,.string p] w fun e w'=>e=.returned (.tuple #[.string ⟨(Lib.trimPrefix s.data.toList p.data.toList).toArray⟩,.bool (Lib.hasPrefix s.data.toList p.data.toList)])∧w'=w:=Any.strings_CutPrefix Tryz.lays103 s p w
def Tryz.laysM173_ren:Go.Shelf.Ren:=⟨fun | 173=>244 | 246=>259 | 283=>265 | 284=>266 | 285=>267 | 286=>268 | 129=>272 | 317=>271 | 318=>273 | 319=>274 | 320=>275 | 337=>277 | 338=>278 | n=>n,fun | 2=>2 | 3=>3 | 9=>9 | 4=>4 | 171=>326 | 0=>0 | 53=>46 | 37=>77 | 5=>5 | 173=>329 | 212=>336 | 51=>314 | 20=>20 | 213=>337 | 46=>261 | 232=>340 | 233=>341 | n=>n,fun | 17=>1 | 18=>2 | 19=>3 | n=>n⟩
theorem Tryz.laysM173:Go.Proofs.LaysM.n173 Tryz.prog Tryz.laysM173_ren:={
 mixed:=by kernel_rfl
 f129:=Tryz.func272.trans (congrArg some (by kernel_rfl))
 f173:=Tryz.func244.trans (congrArg some (by kernel_rfl))
 f246:=Tryz.func259.trans (congrArg some (by kernel_rfl))
 f283:=Tryz.func265.trans (congrArg some (by kernel_rfl))
 f284:=Tryz.func266.trans (congrArg some (by kernel_rfl))
 f285:=Tryz.func267.trans (congrArg some (by kernel_rfl))
 f286:=Tryz.func268.trans (congrArg some (by kernel_rfl))
 f317:=Tryz.func271.trans (congrArg some (by kernel_rfl))
 f318:=Tryz.func273.trans (congrArg some (by kernel_rfl))
 f319:=Tryz.func274.trans (congrArg some (by kernel_rfl))
 f320:=Tryz.func275.trans (congrArg some (by kernel_rfl))
 f337:=Tryz.func277.trans (congrArg some (by kernel_rfl))
 f338:=Tryz.func278.trans (congrArg some (by kernel_rfl))
 t0:=Tryz.underlying0
 a0:=Tryz.isAgg0
 z0:=Tryz.sizeOf0
 v0:=Tryz.zeroValue0
 t2:=Tryz.underlying2
 a2:=Tryz.isAgg2
 z2:=Tryz.sizeOf2
 v2:=Tryz.zeroValue2
 t3:=Tryz.underlying3
 a3:=Tryz.isAgg3
 z3:=Tryz.sizeOf3
 v3:=Tryz.zeroValue3
 t4:=Tryz.underlying4
 a4:=Tryz.isAgg4
 z4:=Tryz.sizeOf4
 v4:=Tryz.zeroValue4
 t5:=Tryz.underlying5
 a5:=Tryz.isAgg5
 z5:=Tryz.sizeOf5
 v5:=Tryz.zeroValue5
 t9:=Tryz.underlying9
 a9:=Tryz.isAgg9
 z9:=Tryz.sizeOf9
 v9:=Tryz.zeroValue9
 t20:=Tryz.underlying20
 a20:=Tryz.isAgg20
 z20:=Tryz.sizeOf20
 v20:=Tryz.zeroValue20
 t37:=Tryz.underlying77
 a37:=Tryz.isAgg77
 z37:=Tryz.sizeOf77
 v37:=Tryz.zeroValue77
 t46:=Tryz.underlying261
 a46:=Tryz.isAgg261
 z46:=Tryz.sizeOf261
 v46:=Tryz.zeroValue261
 t51:=Tryz.underlying314
 a51:=Tryz.isAgg314
 z51:=Tryz.sizeOf314
 v51:=Tryz.zeroValue314
 t53:=Tryz.underlying46
 a53:=Tryz.isAgg46
 z53:=Tryz.sizeOf46
 v53:=Tryz.zeroValue46
 t171:=Tryz.underlying326
 a171:=Tryz.isAgg326
 z171:=Tryz.sizeOf326
 v171:=Tryz.zeroValue326
 t173:=Tryz.underlying329
 a173:=Tryz.isAgg329
 z173:=Tryz.sizeOf329
 v173:=Tryz.zeroValue329
 t212:=Tryz.underlying336
 a212:=Tryz.isAgg336
 z212:=Tryz.sizeOf336
 v212:=Tryz.zeroValue336
 t213:=Tryz.underlying337
 a213:=Tryz.isAgg337
 z213:=Tryz.sizeOf337
 t232:=Tryz.underlying340
 a232:=Tryz.isAgg340
 z232:=Tryz.sizeOf340
 v232:=Tryz.zeroValue340
 t233:=Tryz.underlying341
 a233:=Tryz.isAgg341
 z233:=Tryz.sizeOf341
 v233:=Tryz.zeroValue341
 g17:=by kernel_rfl
 g18:=by kernel_rfl
 g19:=by kernel_rfl
 i0:=by kernel_rfl
 i2:=by kernel_rfl
 i3:=by kernel_rfl
 i4:=by kernel_rfl
 i5:=by kernel_rfl
 i9:=by kernel_rfl
 i20:=by kernel_rfl
 i37:=by kernel_rfl
 i46:=by kernel_rfl
 i51:=by kernel_rfl
 i53:=by kernel_rfl
 i171:=by kernel_rfl
 i173:=by kernel_rfl
 i212:=by kernel_rfl
 i232:=by kernel_rfl
 i233:=by kernel_rfl
 m17:=by kernel_rfl
 m18:=by kernel_rfl
 m19:=by kernel_rfl }
open Go.RowKit Go.Sort Go.Lib in
theorem Tryz.strconv_FormatInt_10 (n : Int) (h0 : -9223372036854775808 ≤ n) (h1 : n ≤ 9223372036854775807) (w : World) (htab : Lib.TabIs Tryz.prog w "internal/strconv.uint64pow10" .u64 Lib.pow10Tab) :
  Calls Tryz.prog 244 #[.int .i64 n,.int .i64 10] w fun e w'=>e=.returned (.string ⟨(Lib.itoa n).toArray⟩)∧∃ k os,w'=grow (w.drewN k) os:=Any.strconv_FormatInt_10 Tryz.laysM173 n h0 h1 w htab
def Tryz.lays144_ren:Go.Shelf.Ren:=⟨fun | 144=>174 | 143=>205 | 219=>221 | 217=>234 | 225=>235 | 224=>236 | 267=>237 | 266=>248 | 314=>249 | n=>n,fun | 9=>9 | 4=>4 | 3=>3 | 5=>5 | 46=>261 | 146=>315 | 51=>314 | n=>n,fun | 1=>0 | n=>n⟩
theorem Tryz.lays144:Go.Proofs.Lays.n144 Tryz.prog Tryz.lays144_ren:={
 mixed:=by kernel_rfl
 f143:=Tryz.func205.trans (congrArg some (by kernel_rfl))
 f144:=Tryz.func174.trans (congrArg some (by kernel_rfl))
 f217:=Tryz.func234.trans (congrArg some (by kernel_rfl))
 f219:=Tryz.func221.trans (congrArg some (by kernel_rfl))
 f224:=Tryz.func236.trans (congrArg some (by kernel_rfl))
 f225:=Tryz.func235.trans (congrArg some (by kernel_rfl))
 f266:=Tryz.func248.trans (congrArg some (by kernel_rfl))
 f267:=Tryz.func237.trans (congrArg some (by kernel_rfl))
 f314:=Tryz.func249.trans (congrArg some (by kernel_rfl))
 t3:=Tryz.underlying3
 a3:=Tryz.isAgg3
 z3:=Tryz.sizeOf3
 v3:=Tryz.zeroValue3
 t4:=Tryz.underlying4
 a4:=Tryz.isAgg4
 z4:=Tryz.sizeOf4
 v4:=Tryz.zeroValue4
 t5:=Tryz.underlying5
 a5:=Tryz.isAgg5
 z5:=Tryz.sizeOf5
 v5:=Tryz.zeroValue5
 t9:=Tryz.underlying9
 a9:=Tryz.isAgg9
 z9:=Tryz.sizeOf9
 v9:=Tryz.zeroValue9
 t46:=Tryz.underlying261
 a46:=Tryz.isAgg261
 z46:=Tryz.sizeOf261
 v46:=Tryz.zeroValue261
 t51:=Tryz.underlying314
 a51:=Tryz.isAgg314
 z51:=Tryz.sizeOf314
 v51:=Tryz.zeroValue314
 t146:=Tryz.underlying315
 a146:=Tryz.isAgg315
 z146:=Tryz.sizeOf315
 v146:=Tryz.zeroValue315
 g1:=by kernel_rfl }
open Go.RowKit Go.Lib in
theorem Tryz.strings_Contains_one (s:ByteArray) (c:UInt8) (w:World) :
  Calls Tryz.prog 174 #[.string s,.string ⟨#[c]⟩] w fun e w'=>e=.returned (.bool (decide (0≤Lib.indexByte s.data.toList c)))∧w'=w:=Any.strings_Contains_one Tryz.lays144 s c w
def Tryz.lays145_ren:Go.Shelf.Ren:=⟨fun | 145=>206 | 220=>222 | 219=>221 | 217=>234 | 225=>235 | 224=>236 | 267=>237 | 266=>248 | 314=>249 | n=>n,fun | 9=>9 | 4=>4 | 59=>276 | 3=>3 | 5=>5 | 46=>261 | 146=>315 | 51=>314 | n=>n,fun | 1=>0 | n=>n⟩
theorem Tryz.lays145:Go.Proofs.Lays.n145 Tryz.prog Tryz.lays145_ren:={
 mixed:=by kernel_rfl
 f145:=Tryz.func206.trans (congrArg some (by kernel_rfl))
 f217:=Tryz.func234.trans (congrArg some (by kernel_rfl))
 f219:=Tryz.func221.trans (congrArg some (by kernel_rfl))
 f220:=Tryz.func222.trans (congrArg some (by kernel_rfl))
 f224:=Tryz.func236.trans (congrArg some (by kernel_rfl))
 f225:=Tryz.func235.trans (congrArg some (by kernel_rfl))
 f266:=Tryz.func248.trans (congrArg some (by kernel_rfl))
 f267:=Tryz.func237.trans (congrArg some (by kernel_rfl))
 f314:=Tryz.func249.trans (congrArg some (by kernel_rfl))
 t3:=Tryz.underlying3
 a3:=Tryz.isAgg3
 z3:=Tryz.sizeOf3
 v3:=Tryz.zeroValue3
 t4:=Tryz.underlying4
 a4:=Tryz.isAgg4
 z4:=Tryz.sizeOf4
 v4:=Tryz.zeroValue4
 t5:=Tryz.underlying5
 a5:=Tryz.isAgg5
 z5:=Tryz.sizeOf5
 v5:=Tryz.zeroValue5
 t9:=Tryz.underlying9
 a9:=Tryz.isAgg9
 z9:=Tryz.sizeOf9
 v9:=Tryz.zeroValue9
 t46:=Tryz.underlying261
 a46:=Tryz.isAgg261
 z46:=Tryz.sizeOf261
 v46:=Tryz.zeroValue261
 t51:=Tryz.underlying314
 a51:=Tryz.isAgg314
 z51:=Tryz.sizeOf314
 v51:=Tryz.zeroValue314
 t59:=Tryz.underlying276
 a59:=Tryz.isAgg276
 z59:=Tryz.sizeOf276
 v59:=Tryz.zeroValue276
 t146:=Tryz.underlying315
 a146:=Tryz.isAgg315
 z146:=Tryz.sizeOf315
 v146:=Tryz.zeroValue315
 g1:=by kernel_rfl }
open Go.RowKit Go.Lib in
theorem Tryz.strings_Cut (s sep:ByteArray) (m:Int) (w:World) (hs:s.size < 4294967281) (hm:w.cell? ⟨0,0,none⟩=some (.int .i64 m)) :
  Calls Tryz.prog 206 #[.string s,.string sep] w fun e w'=>e=.returned (.tuple #[.string ⟨(Lib.cut s.data.toList sep.data.toList).1.toArray⟩,.string ⟨(Lib.cut s.data.toList sep.data.toList).2.1.toArray⟩,.bool (Lib.cut s.data.toList sep.data.toList).2.2])∧∃ n,w'=w.drewN n:=Any.strings_Cut Tryz.lays145 s sep m w hs hm
def Tryz.lays99_ren:Go.Shelf.Ren:=⟨fun | 99=>246 | 206=>261 | n=>n,fun | 9=>9 | 4=>4 | 3=>3 | n=>n,fun | n=>n⟩
theorem Tryz.lays99:Go.Proofs.Lays.n99 Tryz.prog Tryz.lays99_ren:={
 mixed:=by kernel_rfl
 f99:=Tryz.func246.trans (congrArg some (by kernel_rfl))
 f206:=Tryz.func261.trans (congrArg some (by kernel_rfl))
 t3:=Tryz.underlying3
 a3:=Tryz.isAgg3
 z3:=Tryz.sizeOf3
 v3:=Tryz.zeroValue3
 t4:=Tryz.underlying4
 a4:=Tryz.isAgg4
 z4:=Tryz.sizeOf4
 v4:=Tryz.zeroValue4
 t9:=Tryz.underlying9
 a9:=Tryz.isAgg9
 z9:=Tryz.sizeOf9
 v9:=Tryz.zeroValue9 }
open Go.RowKit Go.Lib in
theorem Tryz.strings_HasPrefix (s p:ByteArray) (w:World) :
  Calls Tryz.prog 246 #[.string s,.string p] w fun e w'=>e=.returned (.bool (Lib.hasPrefix s.data.toList p.data.toList))∧w'=w:=Any.strings_HasPrefix Tryz.lays99 s p w
end Go.Proofs
