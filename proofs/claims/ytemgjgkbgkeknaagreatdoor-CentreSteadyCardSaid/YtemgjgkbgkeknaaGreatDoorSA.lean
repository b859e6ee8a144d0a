/- SH: contracts of the library's functions at this program, in the words of the shelf's tool (lay-plain.mjs;shelf.py picks them).
SH2: contracts of the library's functions on strings at this program (strings.Cut, Split, Repeat), in the words of the shelf's tool (lay-plain).
SH3: layings and contracts out of the shelf (lay-shelf, lay-plain): slices.Insert, Delete, BinarySearch of strings, strings.ContainsFunc. -/
import Derived.Shelf.Strings.Builder1
import Derived.Shelf.Strings.OnBuilder
import Derived.Shelf.LaysM
import Derived.Shelf.Strconv.Itoa3
import Derived.Test.YtemgjgkbgkeknaaGreatDoorProg
import Derived.Shelf.Strings.Split
import Derived.Shelf.Strings.Cut
import Derived.Shelf.Strings.Repeat
import Derived.Shelf.Spec.SlicesInsert
import Derived.Shelf.Spec.SlicesInsertGrow
import Derived.Shelf.Spec.SearchS
import Derived.Shelf.Slices.Delete
import Derived.Shelf.Slices.Cells
import Derived.Shelf.Slices.Empties
import Derived.Shelf.GgClosure.StringsRunes
import Derived.Shelf.Strings.FuncGrows

section
set_option linter.all false
namespace Go.Proofs
open Go.Shelf
def Tryz.lays240_ren:Go.Shelf.Ren:=⟨λ|240=>198|276=>223|n=>n, λ|70=>216|0=>0|4=>4|9=>9|20=>20|72=>218|37=>108|164=>268|n=>n, λ|n=>n⟩
theorem Tryz.lays240:Go.Proofs.Lays.n240 Tryz.prog Tryz.lays240_ren:={
 mixed:=by kernel_rfl
 f240:=Tryz.func198.trans (congrArg some (by kernel_rfl))
 f276:=Tryz.func223.trans (congrArg some (by kernel_rfl))
 t0:=Tryz.underlying0
 a0:=Tryz.isAgg0
 z0:=Tryz.sizeOf0
 v0:=Tryz.zeroValue0
 t4:=Tryz.underlying4
 a4:=Tryz.isAgg4
 z4:=Tryz.sizeOf4
 v4:=Tryz.zeroValue4
 t9:=Tryz.underlying9
 a9:=Tryz.isAgg9
 z9:=Tryz.sizeOf9
 v9:=Tryz.zeroValue9
 t20:=Tryz.underlying20
 a20:=Tryz.isAgg20
 z20:=Tryz.sizeOf20
 v20:=Tryz.zeroValue20
 t70:=Tryz.underlying216
 a70:=Tryz.isAgg216
 z70:=Tryz.sizeOf216
 v70:=Tryz.zeroValue216
 t72:=Tryz.underlying218
 a72:=Tryz.isAgg218
 z72:=Tryz.sizeOf218
 v72:=Tryz.zeroValue218
 t164:=Tryz.underlying268
 a164:=Tryz.isAgg268
 z164:=Tryz.sizeOf268
 v164:=Tryz.zeroValue268 }
theorem Tryz.x72_240:Builder.X72 Tryz.prog Tryz.lays240_ren:={
 sizeBuilder:=by kernel_rfl
 liesBuilder:=by kernel_rfl }
def Tryz.lays156_ren:Go.Shelf.Ren:=⟨λ|156=>98|165=>167|166=>168|169=>169|240=>198|241=>199|276=>223|277=>224|n=>n, λ|31=>38|9=>9|3=>3|4=>4|0=>0|20=>20|72=>218|76=>222|70=>216|37=>108|75=>221|127=>248|164=>268|5=>5|80=>90|n=>n, λ|n=>n⟩
theorem Tryz.lays156:Go.Proofs.Lays.n156 Tryz.prog Tryz.lays156_ren:={
 mixed:=by kernel_rfl
 f156:=Tryz.func98.trans (congrArg some (by kernel_rfl))
 f165:=Tryz.func167.trans (congrArg some (by kernel_rfl))
 f166:=Tryz.func168.trans (congrArg some (by kernel_rfl))
 f169:=Tryz.func169.trans (congrArg some (by kernel_rfl))
 f240:=Tryz.func198.trans (congrArg some (by kernel_rfl))
 f241:=Tryz.func199.trans (congrArg some (by kernel_rfl))
 f276:=Tryz.func223.trans (congrArg some (by kernel_rfl))
 f277:=Tryz.func224.trans (congrArg some (by kernel_rfl))
 t0:=Tryz.underlying0
 a0:=Tryz.isAgg0
 z0:=Tryz.sizeOf0
 v0:=Tryz.zeroValue0
 t3:=Tryz.underlying3
 a3:=Tryz.isAgg3
 z3:=Tryz.sizeOf3
 v3:=Tryz.zeroValue3
 t4:=Tryz.underlying4
 a4:=Tryz.isAgg4
 z4:=Tryz.sizeOf4
 v4:=Tryz.zeroValue4
 t9:=Tryz.underlying9
 a9:=Tryz.isAgg9
 z9:=Tryz.sizeOf9
 v9:=Tryz.zeroValue9
 t20:=Tryz.underlying20
 a20:=Tryz.isAgg20
 z20:=Tryz.sizeOf20
 v20:=Tryz.zeroValue20
 t31:=Tryz.underlying38
 a31:=Tryz.isAgg38
 z31:=Tryz.sizeOf38
 v31:=Tryz.zeroValue38
 t37:=Tryz.underlying108
 a37:=Tryz.isAgg108
 z37:=Tryz.sizeOf108
 v37:=Tryz.zeroValue108
 t70:=Tryz.underlying216
 a70:=Tryz.isAgg216
 z70:=Tryz.sizeOf216
 v70:=Tryz.zeroValue216
 t72:=Tryz.underlying218
 a72:=Tryz.isAgg218
 z72:=Tryz.sizeOf218
 v72:=Tryz.zeroValue218
 t75:=Tryz.underlying221
 a75:=Tryz.isAgg221
 z75:=Tryz.sizeOf221
 v75:=Tryz.zeroValue221
 t76:=Tryz.underlying222
 a76:=Tryz.isAgg222
 z76:=Tryz.sizeOf222
 v76:=Tryz.zeroValue222
 t127:=Tryz.underlying248
 a127:=Tryz.isAgg248
 z127:=Tryz.sizeOf248
 v127:=Tryz.zeroValue248
 t164:=Tryz.underlying268
 a164:=Tryz.isAgg268
 z164:=Tryz.sizeOf268
 v164:=Tryz.zeroValue268 }
theorem Tryz.Builder_Extra_156:Builder.Extra Tryz.prog Tryz.lays156_ren:={
 sizeBuilder:=by kernel_rfl
 liesBuilder:=by kernel_rfl
 t5:=Tryz.underlying5
 a5:=Tryz.isAgg5
 z5:=Tryz.sizeOf5
 v5:=Tryz.zeroValue5
 infoByte:=by kernel_rfl
 cellsByte:=by kernel_rfl
 sizeByte:=by kernel_rfl
 neB5:=by decide }
open Go.RowKit in
/-- No element: the empty string;the world is as it was. (Whatever the slice's address and capacity: a nil slice too.) (LAID: no walk: one application.) -/
theorem Tryz.strings_Join_none(a:Option Addr)(c:Nat)(sep:ByteArray)(w:World) :
  Calls Tryz.prog 98 #[.slice a 0 c, .string sep] w λ e w'=>e=.returned (.string ⟨#[]⟩)/\w'=w:=Any.strings_Join_none Tryz.lays156 Tryz.Builder_Extra_156 a c sep w
open Go.RowKit in
/-- strings.Join: "Join concatenates the elements of its first argument to create a single string. The separator string sep is placed between elements in the resulting string.": HOWEVER MANY ELEMENTS. Below the heap's end the world is as it was. (LAID: no walk: one application.) -/
theorem Tryz.strings_Join(bk o c:Nat)(xs:List ByteArray)(sep:ByteArray)(w:World)(hcells:∀ (j:Nat) x, xs[j]?=some x->w.cell? ⟨bk, o+j, none⟩=some (.string x))(hbk:bk < w.heap.size)(hN:xs.length<=140737488355328)(hcap:xs.length<=c)(hlen:(Lib.join (xs.map (·.data.toList)) sep.data.toList).length<=140737488355328) :
  Calls Tryz.prog 98 #[.slice (some ⟨bk, o, none⟩) xs.length c, .string sep] w λ e w'=>e=.returned (.string ⟨(Lib.join (xs.map (·.data.toList)) sep.data.toList).toArray⟩)/\Below w.heap.size w w':=Any.strings_Join Tryz.lays156 Tryz.Builder_Extra_156 bk o c xs sep w hcells hbk hN hcap hlen
def Tryz.laysM171_ren:Go.Shelf.Ren:=⟨λ|171=>95|243=>165|246=>197|283=>219|284=>220|285=>221|286=>222|129=>234|317=>233|318=>235|319=>236|320=>237|337=>239|338=>240|n=>n, λ|3=>3|9=>9|2=>2|4=>4|171=>262|0=>0|53=>263|37=>108|5=>5|173=>266|212=>278|51=>271|20=>20|213=>279|46=>252|232=>287|233=>288|n=>n, λ|17=>1|18=>4|19=>5|n=>n⟩
theorem Tryz.laysM171:Go.Proofs.LaysM.n171 Tryz.prog Tryz.laysM171_ren:={
 mixed:=by kernel_rfl
 f129:=Tryz.func234.trans (congrArg some (by kernel_rfl))
 f171:=Tryz.func95.trans (congrArg some (by kernel_rfl))
 f243:=Tryz.func165.trans (congrArg some (by kernel_rfl))
 f246:=Tryz.func197.trans (congrArg some (by kernel_rfl))
 f283:=Tryz.func219.trans (congrArg some (by kernel_rfl))
 f284:=Tryz.func220.trans (congrArg some (by kernel_rfl))
 f285:=Tryz.func221.trans (congrArg some (by kernel_rfl))
 f286:=Tryz.func222.trans (congrArg some (by kernel_rfl))
 f317:=Tryz.func233.trans (congrArg some (by kernel_rfl))
 f318:=Tryz.func235.trans (congrArg some (by kernel_rfl))
 f319:=Tryz.func236.trans (congrArg some (by kernel_rfl))
 f320:=Tryz.func237.trans (congrArg some (by kernel_rfl))
 f337:=Tryz.func239.trans (congrArg some (by kernel_rfl))
 f338:=Tryz.func240.trans (congrArg some (by kernel_rfl))
 t0:=Tryz.underlying0
 a0:=Tryz.isAgg0
 z0:=Tryz.sizeOf0
 v0:=Tryz.zeroValue0
 t2:=Tryz.underlying2
 a2:=Tryz.isAgg2
 z2:=Tryz.sizeOf2
 v2:=Tryz.zeroValue2
 t3:=Tryz.underlying3
 a3:=Tryz.isAgg3
 z3:=Tryz.sizeOf3
 v3:=Tryz.zeroValue3
 t4:=Tryz.underlying4
 a4:=Tryz.isAgg4
 z4:=Tryz.sizeOf4
 v4:=Tryz.zeroValue4
 t5:=Tryz.underlying5
 a5:=Tryz.isAgg5
 z5:=Tryz.sizeOf5
 v5:=Tryz.zeroValue5
 t9:=Tryz.underlying9
 a9:=Tryz.isAgg9
 z9:=Tryz.sizeOf9
 v9:=Tryz.zeroValue9
 t20:=Tryz.underlying20
 a20:=Tryz.isAgg20
 z20:=Tryz.sizeOf20
 v20:=Tryz.zeroValue20
 t37:=Tryz.underlying108
 a37:=Tryz.isAgg108
 z37:=Tryz.sizeOf108
 v37:=Tryz.zeroValue108
 t46:=Tryz.underlying252
 a46:=Tryz.isAgg252
 z46:=Tryz.sizeOf252
 v46:=Tryz.zeroValue252
 t51:=Tryz.underlying271
 a51:=Tryz.isAgg271
 z51:=Tryz.sizeOf271
 v51:=Tryz.zeroValue271
 t53:=Tryz.underlying263
 a53:=Tryz.isAgg263
 z53:=Tryz.sizeOf263
 v53:=Tryz.zeroValue263
 t171:=Tryz.underlying262
 a171:=Tryz.isAgg262
 z171:=Tryz.sizeOf262
 v171:=Tryz.zeroValue262
 t173:=Tryz.underlying266
 a173:=Tryz.isAgg266
 z173:=Tryz.sizeOf266
 v173:=Tryz.zeroValue266
 t212:=Tryz.underlying278
 a212:=Tryz.isAgg278
 z212:=Tryz.sizeOf278
 v212:=Tryz.zeroValue278
 t213:=Tryz.underlying279
 a213:=Tryz.isAgg279
 z213:=Tryz.sizeOf279
 t232:=Tryz.underlying287
 a232:=Tryz.isAgg287
 z232:=Tryz.sizeOf287
 v232:=Tryz.zeroValue287
 t233:=Tryz.underlying288
 a233:=Tryz.isAgg288
 z233:=Tryz.sizeOf288
 v233:=Tryz.zeroValue288
 g17:=by kernel_rfl
 g18:=by kernel_rfl
 g19:=by kernel_rfl
 i0:=by kernel_rfl
 i2:=by kernel_rfl
 i3:=by kernel_rfl
 i4:=by kernel_rfl
 i5:=by kernel_rfl
 i9:=by kernel_rfl
 i20:=by kernel_rfl
 i37:=by kernel_rfl
 i46:=by kernel_rfl
 i51:=by kernel_rfl
 i53:=by kernel_rfl
 i171:=by kernel_rfl
 i173:=by kernel_rfl
 i212:=by kernel_rfl
 i232:=by kernel_rfl
 i233:=by kernel_rfl
 m17:=by kernel_rfl
 m18:=by kernel_rfl
 m19:=by kernel_rfl }
open Go.RowKit Go.Sort Go.Lib in
/-- strconv.Itoa: "Itoa is equivalent to FormatInt(int64(i), 10).": i's DECIMAL NUMERAL ('Lib.itoa': a '-' where i is negative, then the digits), FOR EVERY int. The world behind the call: the world before it, new blocks behind the heap (the library's 'var a [24]byte'), draws. (LAID: no walk: one application.) -/
theorem Tryz.strconv_Itoa(n:Int)(h0:-9223372036854775808<=n)(h1:n<=9223372036854775807)(w:World)(htab:Lib.TabIs Tryz.prog w "internal/strconv.uint64pow10" .u64 Lib.pow10Tab) :
  Calls Tryz.prog 95 #[.int .i64 n] w λ e w'=>e=.returned (.string ⟨(Lib.itoa n).toArray⟩)/\∃ k os, w'=grow (w.drewN k) os:=Any.strconv_Itoa Tryz.laysM171 n h0 h1 w htab
end Go.Proofs
end

section
set_option linter.all false
namespace Go.Proofs
open Go.Shelf
def Tryz.lays145_ren:Go.Shelf.Ren:=⟨λ|145=>80|220=>124|219=>180|217=>207|225=>208|224=>209|267=>210|266=>229|314=>230|n=>n, λ|9=>9|4=>4|59=>150|3=>3|5=>5|46=>252|146=>272|51=>271|n=>n, λ|1=>0|n=>n⟩
theorem Tryz.lays145:Go.Proofs.Lays.n145 Tryz.prog Tryz.lays145_ren:={
 mixed:=by kernel_rfl
 f145:=Tryz.func80.trans (congrArg some (by kernel_rfl))
 f217:=Tryz.func207.trans (congrArg some (by kernel_rfl))
 f219:=Tryz.func180.trans (congrArg some (by kernel_rfl))
 f220:=Tryz.func124.trans (congrArg some (by kernel_rfl))
 f224:=Tryz.func209.trans (congrArg some (by kernel_rfl))
 f225:=Tryz.func208.trans (congrArg some (by kernel_rfl))
 f266:=Tryz.func229.trans (congrArg some (by kernel_rfl))
 f267:=Tryz.func210.trans (congrArg some (by kernel_rfl))
 f314:=Tryz.func230.trans (congrArg some (by kernel_rfl))
 t3:=Tryz.underlying3
 a3:=Tryz.isAgg3
 z3:=Tryz.sizeOf3
 v3:=Tryz.zeroValue3
 t4:=Tryz.underlying4
 a4:=Tryz.isAgg4
 z4:=Tryz.sizeOf4
 v4:=Tryz.zeroValue4
 t5:=Tryz.underlying5
 a5:=Tryz.isAgg5
 z5:=Tryz.sizeOf5
 v5:=Tryz.zeroValue5
 t9:=Tryz.underlying9
 a9:=Tryz.isAgg9
 z9:=Tryz.sizeOf9
 v9:=Tryz.zeroValue9
 t46:=Tryz.underlying252
 a46:=Tryz.isAgg252
 z46:=Tryz.sizeOf252
 v46:=Tryz.zeroValue252
 t51:=Tryz.underlying271
 a51:=Tryz.isAgg271
 z51:=Tryz.sizeOf271
 v51:=Tryz.zeroValue271
 t59:=Tryz.underlying150
 a59:=Tryz.isAgg150
 z59:=Tryz.sizeOf150
 v59:=Tryz.zeroValue150
 t146:=Tryz.underlying272
 a146:=Tryz.isAgg272
 z146:=Tryz.sizeOf272
 v146:=Tryz.zeroValue272
 g1:=by kernel_rfl }
open Go.RowKit Go.Lib in
/-- strings.Cut: "Cut slices s around the first instance of sep, returning the text before and after sep. The found result reports whether sep appears in s. If sep does not appear in s, cut returns s, "", false.": IT RETURNS 'Lib.cut s sep';the world is as it was but for the count of draws. (LAID: no walk: one application.) -/
theorem Tryz.strings_Cut(s sep:ByteArray)(m:Int)(w:World)(hs:s.size < 4294967281)(hm:w.cell? ⟨0, 0, none⟩=some (.int .i64 m)) :
  Calls Tryz.prog 80 #[.string s, .string sep] w λ e w'=>e=.returned (.tuple #[.string ⟨(Lib.cut s.data.toList sep.data.toList).1.toArray⟩, .string ⟨(Lib.cut s.data.toList sep.data.toList).2.1.toArray⟩, .bool (Lib.cut s.data.toList sep.data.toList).2.2])/\∃ n, w'=w.drewN n:=Any.strings_Cut Tryz.lays145 s sep m w hs hm
def Tryz.lays146_ren:Go.Shelf.Ren:=⟨λ|146=>52|221=>105|268=>170|138=>171|143=>172|195=>200|197=>201|218=>202|219=>180|260=>225|217=>207|225=>208|224=>209|267=>210|266=>229|314=>230|n=>n, λ|9=>9|31=>38|3=>3|4=>4|0=>0|105=>249|21=>21|5=>5|46=>252|119=>281|139=>284|138=>283|146=>272|51=>271|n=>n, λ|1=>0|3=>2|4=>3|n=>n⟩
theorem Tryz.lays146:Go.Proofs.Lays.n146 Tryz.prog Tryz.lays146_ren:={
 mixed:=by kernel_rfl
 f138:=Tryz.func171.trans (congrArg some (by kernel_rfl))
 f143:=Tryz.func172.trans (congrArg some (by kernel_rfl))
 f146:=Tryz.func52.trans (congrArg some (by kernel_rfl))
 f195:=Tryz.func200.trans (congrArg some (by kernel_rfl))
 f197:=Tryz.func201.trans (congrArg some (by kernel_rfl))
 f217:=Tryz.func207.trans (congrArg some (by kernel_rfl))
 f218:=Tryz.func202.trans (congrArg some (by kernel_rfl))
 f219:=Tryz.func180.trans (congrArg some (by kernel_rfl))
 f221:=Tryz.func105.trans (congrArg some (by kernel_rfl))
 f224:=Tryz.func209.trans (congrArg some (by kernel_rfl))
 f225:=Tryz.func208.trans (congrArg some (by kernel_rfl))
 f260:=Tryz.func225.trans (congrArg some (by kernel_rfl))
 f266:=Tryz.func229.trans (congrArg some (by kernel_rfl))
 f267:=Tryz.func210.trans (congrArg some (by kernel_rfl))
 f268:=Tryz.func170.trans (congrArg some (by kernel_rfl))
 f314:=Tryz.func230.trans (congrArg some (by kernel_rfl))
 t0:=Tryz.underlying0
 a0:=Tryz.isAgg0
 z0:=Tryz.sizeOf0
 v0:=Tryz.zeroValue0
 t3:=Tryz.underlying3
 a3:=Tryz.isAgg3
 z3:=Tryz.sizeOf3
 v3:=Tryz.zeroValue3
 t4:=Tryz.underlying4
 a4:=Tryz.isAgg4
 z4:=Tryz.sizeOf4
 v4:=Tryz.zeroValue4
 t5:=Tryz.underlying5
 a5:=Tryz.isAgg5
 z5:=Tryz.sizeOf5
 v5:=Tryz.zeroValue5
 t9:=Tryz.underlying9
 a9:=Tryz.isAgg9
 z9:=Tryz.sizeOf9
 v9:=Tryz.zeroValue9
 t21:=Tryz.underlying21
 a21:=Tryz.isAgg21
 z21:=Tryz.sizeOf21
 v21:=Tryz.zeroValue21
 t31:=Tryz.underlying38
 a31:=Tryz.isAgg38
 z31:=Tryz.sizeOf38
 v31:=Tryz.zeroValue38
 t46:=Tryz.underlying252
 a46:=Tryz.isAgg252
 z46:=Tryz.sizeOf252
 v46:=Tryz.zeroValue252
 t51:=Tryz.underlying271
 a51:=Tryz.isAgg271
 z51:=Tryz.sizeOf271
 v51:=Tryz.zeroValue271
 t105:=Tryz.underlying249
 a105:=Tryz.isAgg249
 z105:=Tryz.sizeOf249
 v105:=Tryz.zeroValue249
 t119:=Tryz.underlying281
 a119:=Tryz.isAgg281
 z119:=Tryz.sizeOf281
 t138:=Tryz.underlying283
 a138:=Tryz.isAgg283
 z138:=Tryz.sizeOf283
 v138:=Tryz.zeroValue283
 t139:=Tryz.underlying284
 a139:=Tryz.isAgg284
 z139:=Tryz.sizeOf284
 v139:=Tryz.zeroValue284
 t146:=Tryz.underlying272
 a146:=Tryz.isAgg272
 z146:=Tryz.sizeOf272
 v146:=Tryz.zeroValue272
 g1:=by kernel_rfl
 g3:=by kernel_rfl
 g4:=by kernel_rfl }
open Go.RowKit Go.Lib in
/-- strings.Split. (LAID: no walk: one application.) -/
theorem Tryz.strings_Split(s sep:ByteArray)(m:Int)(w:World)(hs:s.size < 4294967281)(hm:w.cell? ⟨0, 0, none⟩=some (.int .i64 m))(h1:1<=sep.size) :
  Calls Tryz.prog 52 #[.string s, .string sep] w λ e w' =>
   e=.returned (.slice (some ⟨w.heap.size, 0, none⟩) (Lib.countB s sep+1) (Lib.countB s sep+1))/\w'=w.alloc (.cells ((Lib.splitB sep 0 (Lib.countB s sep) s).map Value.string).toArray 9):=Any.strings_Split Tryz.lays146 (by kernel_rfl) s sep m w hs hm h1
def Tryz.lays105_ren:Go.Shelf.Ren:=⟨λ|105=>179|212=>204|99=>205|165=>167|166=>168|170=>206|169=>169|263=>226|264=>227|206=>228|240=>198|241=>199|276=>223|277=>224|n=>n, λ|9=>9|3=>3|4=>4|20=>20|0=>0|46=>252|109=>253|5=>5|72=>218|76=>222|51=>271|146=>272|53=>263|148=>274|70=>216|37=>108|75=>221|127=>248|164=>268|80=>90|n=>n, λ|n=>n⟩
theorem Tryz.lays105:Go.Proofs.Lays.n105 Tryz.prog Tryz.lays105_ren:={
 mixed:=by kernel_rfl
 f99:=Tryz.func205.trans (congrArg some (by kernel_rfl))
 f105:=Tryz.func179.trans (congrArg some (by kernel_rfl))
 f165:=Tryz.func167.trans (congrArg some (by kernel_rfl))
 f166:=Tryz.func168.trans (congrArg some (by kernel_rfl))
 f169:=Tryz.func169.trans (congrArg some (by kernel_rfl))
 f170:=Tryz.func206.trans (congrArg some (by kernel_rfl))
 f206:=Tryz.func228.trans (congrArg some (by kernel_rfl))
 f212:=Tryz.func204.trans (congrArg some (by kernel_rfl))
 f240:=Tryz.func198.trans (congrArg some (by kernel_rfl))
 f241:=Tryz.func199.trans (congrArg some (by kernel_rfl))
 f263:=Tryz.func226.trans (congrArg some (by kernel_rfl))
 f264:=Tryz.func227.trans (congrArg some (by kernel_rfl))
 f276:=Tryz.func223.trans (congrArg some (by kernel_rfl))
 f277:=Tryz.func224.trans (congrArg some (by kernel_rfl))
 t0:=Tryz.underlying0
 a0:=Tryz.isAgg0
 z0:=Tryz.sizeOf0
 v0:=Tryz.zeroValue0
 t3:=Tryz.underlying3
 a3:=Tryz.isAgg3
 z3:=Tryz.sizeOf3
 v3:=Tryz.zeroValue3
 t4:=Tryz.underlying4
 a4:=Tryz.isAgg4
 z4:=Tryz.sizeOf4
 v4:=Tryz.zeroValue4
 t5:=Tryz.underlying5
 a5:=Tryz.isAgg5
 z5:=Tryz.sizeOf5
 v5:=Tryz.zeroValue5
 t9:=Tryz.underlying9
 a9:=Tryz.isAgg9
 z9:=Tryz.sizeOf9
 v9:=Tryz.zeroValue9
 t20:=Tryz.underlying20
 a20:=Tryz.isAgg20
 z20:=Tryz.sizeOf20
 v20:=Tryz.zeroValue20
 t37:=Tryz.underlying108
 a37:=Tryz.isAgg108
 z37:=Tryz.sizeOf108
 v37:=Tryz.zeroValue108
 t46:=Tryz.underlying252
 a46:=Tryz.isAgg252
 z46:=Tryz.sizeOf252
 v46:=Tryz.zeroValue252
 t51:=Tryz.underlying271
 a51:=Tryz.isAgg271
 z51:=Tryz.sizeOf271
 v51:=Tryz.zeroValue271
 t53:=Tryz.underlying263
 a53:=Tryz.isAgg263
 z53:=Tryz.sizeOf263
 v53:=Tryz.zeroValue263
 t70:=Tryz.underlying216
 a70:=Tryz.isAgg216
 z70:=Tryz.sizeOf216
 v70:=Tryz.zeroValue216
 t72:=Tryz.underlying218
 a72:=Tryz.isAgg218
 z72:=Tryz.sizeOf218
 v72:=Tryz.zeroValue218
 t75:=Tryz.underlying221
 a75:=Tryz.isAgg221
 z75:=Tryz.sizeOf221
 v75:=Tryz.zeroValue221
 t76:=Tryz.underlying222
 a76:=Tryz.isAgg222
 z76:=Tryz.sizeOf222
 v76:=Tryz.zeroValue222
 t109:=Tryz.underlying253
 a109:=Tryz.isAgg253
 z109:=Tryz.sizeOf253
 v109:=Tryz.zeroValue253
 t127:=Tryz.underlying248
 a127:=Tryz.isAgg248
 z127:=Tryz.sizeOf248
 v127:=Tryz.zeroValue248
 t146:=Tryz.underlying272
 a146:=Tryz.isAgg272
 z146:=Tryz.sizeOf272
 v146:=Tryz.zeroValue272
 t148:=Tryz.underlying274
 a148:=Tryz.isAgg274
 z148:=Tryz.sizeOf274
 v148:=Tryz.zeroValue274
 t164:=Tryz.underlying268
 a164:=Tryz.isAgg268
 z164:=Tryz.sizeOf268
 v164:=Tryz.zeroValue268 }
theorem Tryz.Builder_Extra_105:Builder.Extra Tryz.prog Tryz.lays105_ren:={
 sizeBuilder:=by kernel_rfl
 liesBuilder:=by kernel_rfl
 t5:=Tryz.underlying5
 a5:=Tryz.isAgg5
 z5:=Tryz.sizeOf5
 v5:=Tryz.zeroValue5
 infoByte:=by kernel_rfl
 cellsByte:=by kernel_rfl
 sizeByte:=by kernel_rfl
 neB5:=by decide }
open Go.RowKit Go.Lib in
/-- **strings.Repeat: count >= 0, the result within one allocation: count copies of s.** (LAID: no walk: one application.) -/
theorem Tryz.strings_Repeat(s:ByteArray)(c:Nat)(w:World)(hc:c<=9223372036854775807)(hlen:s.size * c<=140737488355328) :
  Calls Tryz.prog 179 #[.string s, .int .i64 c] w λ e w'=>e=.returned (.string ⟨(Lib.repeatL s.data.toList c).toArray⟩)/\Below w.heap.size w w':=Any.strings_Repeat Tryz.lays105 Tryz.Builder_Extra_105 s c w hc hlen
end Go.Proofs
end

section
set_option linter.all false
set_option maxRecDepth 1000000
namespace Go.Proofs
open Go.Shelf
def Tryz.laysNm222_ren:Go.Shelf.Ren:=⟨λ|22=>192|29=>216|30=>217|36=>232|17=>238|n=>n, λ|24=>38|9=>9|3=>3|4=>4|0=>0|n=>n, λ|n=>n⟩
theorem Tryz.laysNm222:Go.Proofs.Lays2.n22 Tryz.prog Tryz.laysNm222_ren:={
 mixed:=by kernel_rfl
 f17:=Tryz.func238.trans (congrArg some (by kernel_rfl))
 f22:=Tryz.func192.trans (congrArg some (by kernel_rfl))
 f29:=Tryz.func216.trans (congrArg some (by kernel_rfl))
 f30:=Tryz.func217.trans (congrArg some (by kernel_rfl))
 f36:=Tryz.func232.trans (congrArg some (by kernel_rfl))
 t0:=Tryz.underlying0
 a0:=Tryz.isAgg0
 z0:=Tryz.sizeOf0
 v0:=Tryz.zeroValue0
 t3:=Tryz.underlying3
 a3:=Tryz.isAgg3
 z3:=Tryz.sizeOf3
 v3:=Tryz.zeroValue3
 t4:=Tryz.underlying4
 a4:=Tryz.isAgg4
 z4:=Tryz.sizeOf4
 v4:=Tryz.zeroValue4
 t9:=Tryz.underlying9
 a9:=Tryz.isAgg9
 z9:=Tryz.sizeOf9
 v9:=Tryz.zeroValue9
 t24:=Tryz.underlying38
 a24:=Tryz.isAgg38
 z24:=Tryz.sizeOf38
 v24:=Tryz.zeroValue38
 i9:=by kernel_rfl }
def Tryz.laysNm226_ren:Go.Shelf.Ren:=⟨λ|26=>191|33=>214|34=>215|38=>231|n=>n, λ|24=>38|9=>9|3=>3|4=>4|40=>252|0=>0|n=>n, λ|n=>n⟩
theorem Tryz.laysNm226:Go.Proofs.Lays2.n26 Tryz.prog Tryz.laysNm226_ren:={
 mixed:=by kernel_rfl
 f26:=Tryz.func191.trans (congrArg some (by kernel_rfl))
 f33:=Tryz.func214.trans (congrArg some (by kernel_rfl))
 f34:=Tryz.func215.trans (congrArg some (by kernel_rfl))
 f38:=Tryz.func231.trans (congrArg some (by kernel_rfl))
 t0:=Tryz.underlying0
 a0:=Tryz.isAgg0
 z0:=Tryz.sizeOf0
 v0:=Tryz.zeroValue0
 t3:=Tryz.underlying3
 a3:=Tryz.isAgg3
 z3:=Tryz.sizeOf3
 v3:=Tryz.zeroValue3
 t4:=Tryz.underlying4
 a4:=Tryz.isAgg4
 z4:=Tryz.sizeOf4
 v4:=Tryz.zeroValue4
 t9:=Tryz.underlying9
 a9:=Tryz.isAgg9
 z9:=Tryz.sizeOf9
 v9:=Tryz.zeroValue9
 t24:=Tryz.underlying38
 a24:=Tryz.isAgg38
 z24:=Tryz.sizeOf38
 v24:=Tryz.zeroValue38
 t40:=Tryz.underlying252
 a40:=Tryz.isAgg252
 z40:=Tryz.sizeOf252
 v40:=Tryz.zeroValue252 }
def Tryz.laysGw17_ren:Go.Shelf.Ren:=⟨λ|17=>125|15=>181|20=>211|n=>n, λ|9=>9|23=>201|4=>4|3=>3|0=>0|21=>21|n=>n, λ|n=>n⟩
theorem Tryz.laysGw17:Go.Proofs.LaysGw.n17 Tryz.prog Tryz.laysGw17_ren:={
 mixed:=by kernel_rfl
 f15:=Tryz.func181.trans (congrArg some (by kernel_rfl))
 f17:=Tryz.func125.trans (congrArg some (by kernel_rfl))
 f20:=Tryz.func211.trans (congrArg some (by kernel_rfl))
 t0:=Tryz.underlying0
 a0:=Tryz.isAgg0
 z0:=Tryz.sizeOf0
 v0:=Tryz.zeroValue0
 i0:=by kernel_rfl
 t3:=Tryz.underlying3
 a3:=Tryz.isAgg3
 z3:=Tryz.sizeOf3
 v3:=Tryz.zeroValue3
 i3:=by kernel_rfl
 t4:=Tryz.underlying4
 a4:=Tryz.isAgg4
 z4:=Tryz.sizeOf4
 v4:=Tryz.zeroValue4
 i4:=by kernel_rfl
 t9:=Tryz.underlying9
 a9:=Tryz.isAgg9
 z9:=Tryz.sizeOf9
 v9:=Tryz.zeroValue9
 i9:=by kernel_rfl
 t21:=Tryz.underlying21
 a21:=Tryz.isAgg21
 z21:=Tryz.sizeOf21
 v21:=Tryz.zeroValue21
 i21:=by kernel_rfl
 t23:=Tryz.underlying201
 a23:=Tryz.isAgg201
 z23:=Tryz.sizeOf201
 v23:=Tryz.zeroValue201
 i23:=by kernel_rfl }
open Go.RowKit Go.Lib in
theorem Tryz.strings_ContainsFunc_runes(g:Nat)(lb:Array Value)(eg:∀ args w, (callFunc g args).run Tryz.prog w=.ok (.enter g args) w)(p:Nat->Bool)(s:ByteArray)(w:World)(hp:PredAtRunes Tryz.prog g lb p w) :
  Calls Tryz.prog 125 #[.string s, .func (.func g) #[] lb] w λ e w'=>e=.returned (.bool (decide (0<=Lib.idxFunc p true s)))/\Below w.heap.size w w':=Any.strings_ContainsFunc_runes Tryz.laysGw17 g lb eg p s w hp
open Go.RowKit Go.Lib in
theorem Tryz.strings_ContainsFunc_grows(g:Nat)(lb:Array Value)(eg:∀ args w, (callFunc g args).run Tryz.prog w=.ok (.enter g args) w)(p:Nat->Bool)(s:ByteArray)(w:World)(hp:PredGrows Tryz.prog g lb p w) :
  Calls Tryz.prog 125 #[.string s, .func (.func g) #[] lb] w λ e w'=>e=.returned (.bool (decide (0<=Lib.idxFunc p true s)))/\Below w.heap.size w w':=Any.strings_ContainsFunc_grows Tryz.laysGw17 g lb eg p s w hp
def Tryz.laysNm224_ren:Go.Shelf.Ren:=⟨λ|24=>193|n=>n, λ|24=>38|9=>9|3=>3|4=>4|0=>0|n=>n, λ|n=>n⟩
theorem Tryz.laysNm224:Go.Proofs.Lays2.n24 Tryz.prog Tryz.laysNm224_ren:={
 mixed:=by kernel_rfl
 f24:=Tryz.func193.trans (congrArg some (by kernel_rfl))
 t0:=Tryz.underlying0
 a0:=Tryz.isAgg0
 z0:=Tryz.sizeOf0
 v0:=Tryz.zeroValue0
 t3:=Tryz.underlying3
 a3:=Tryz.isAgg3
 z3:=Tryz.sizeOf3
 v3:=Tryz.zeroValue3
 t4:=Tryz.underlying4
 a4:=Tryz.isAgg4
 z4:=Tryz.sizeOf4
 v4:=Tryz.zeroValue4
 t9:=Tryz.underlying9
 a9:=Tryz.isAgg9
 z9:=Tryz.sizeOf9
 v9:=Tryz.zeroValue9
 t24:=Tryz.underlying38
 a24:=Tryz.isAgg38
 z24:=Tryz.sizeOf38
 v24:=Tryz.zeroValue38
 i9:=by kernel_rfl }
open Go.RowKit Go.Lib Go.Sort in
/-- slices.Delete at []string: "Delete modifies s in place by removing the elements s[i:j], and returns the modified slice. Delete panics if j > len(s) or s[i:j] is not a valid slice of s. Delete is O(len(s)-i), so if many items must be deleted, it is better to make a single call deleting them all together than to delete one at a time. Delete zeroes the elements s[len(s)-(j-i):len(s)]. If the result is empty, it has the same nilness as s.": FOR i<=j<=len(s) IT RETURNS THE SLICE CUT TO len(s) - (j - i) ELEMENTS;ITS CELLS HOLD what stood ahead of i, what stood from j on, then j - i zero values;all else is as it was, but for the count of draws. IN THE WORDS OF slices.Sort's CONTRACT ('Holds', 'putRow'). It asks 'zs.length<=cap<=2^63 - 1' (every slice's). (Outside i<=j<=len(s) it panics: no contract here.) (LAID: no walk: one application.) -/
theorem Tryz.slices_Delete_string(blk off cap i j:Nat)(zs:List (List UInt8))(w:World)(hH:Holds encStr w blk off zs.toArray)(hcap:zs.length<=cap)(hm:cap<=9223372036854775807)(hij:i<=j)(hj:j<=zs.length) :
  Calls Tryz.prog 193 #[.slice (some ⟨blk, off, none⟩) zs.length cap, .int .i64 i, .int .i64 j] w λ e w'=>e=.returned (.slice (some ⟨blk, off, none⟩) (zs.length - (j - i)) cap)/\∃ q, w'=putRow encStr (Sort.ahead w q) blk off (zs.take i++zs.drop j++List.replicate (j - i) []).toArray:=Any.slices_Delete_string Tryz.laysNm224 blk off cap i j zs w hH hcap hm hij hj
open Go.RowKit Go.Lib Go.Sort in
/-- slices.Delete at []string, of an argument, for i<=j<=n. (LAID: no walk: one application.) -/
theorem Tryz.slices_Delete_string_cells(b off n c i j:Nat)(Sx:Nat->ByteArray)(w:World)(hcap:n<=c)(hm:c<=9223372036854775807)(hij:i<=j)(hj:j<=n)(hc:∀ i, i < n->w.cell? ⟨b, off+i, none⟩=some (.string (Sx i)))(hf:∀ j, j < n->w.frozen? ⟨b, off+j, none⟩=false) :
  Calls Tryz.prog 193 #[.slice (some ⟨b, off, none⟩) n c, .int .i64 i, .int .i64 j] w λ e w'=>e=.returned (.slice (some ⟨b, off, none⟩) (n - (j - i)) c)/\∃ q, w'=(w.drewN q).setCells b off (((Lib.strsOf Sx n).take i++(Lib.strsOf Sx n).drop j++List.replicate (j - i) []).map encStr):=Any.slices_Delete_string_cells Tryz.laysNm224 b off n c i j Sx w hcap hm hij hj hc hf
open Go.RowKit Go.Lib in
/-- slices.Delete at []string of no element ('Delete(s, 0, 0)'): s comes back;the world is as it was. (LAID: no walk: one application.) -/
theorem Tryz.slices_Delete_string_empty(a:Option Addr)(c:Nat)(w:World) :
  Calls Tryz.prog 193 #[.slice a 0 c, .int .i64 0, .int .i64 0] w λ e w'=>e=.returned (.slice a 0 c)/\w'=w:=Any.slices_Delete_string_empty Tryz.laysNm224 a c w
end Go.Proofs
end
