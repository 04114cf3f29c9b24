/- . -/
import Derived.Shelf.Strings.Trim
import Derived.Shelf.Small.Utf8
import Derived.Shelf.Small.Strs
import Derived.Shelf.Strconv.Atoi
import Derived.Shelf.Strconv.Itoa0
import Derived.Shelf.Strconv.Itoa1
import Derived.Shelf.LaysM
import Derived.Shelf.Strconv.Itoa2
import Derived.Shelf.Strconv.Itoa3
import Derived.Shelf.Strconv.AtoiErrFast
import Derived.Shelf.Strconv.ParseIntEmpty
import Derived.Shelf.Strconv.AtoiFail
import Derived.Shelf.Strconv.Clone
import Derived.Shelf.Strconv.SyntaxError
import Derived.Shelf.LaysC
import Derived.Shelf.Strconv.ToError
import Derived.Shelf.Strconv.AtoiErr
import Derived.Shelf.Strconv.ErrVar
import Derived.Shelf.Strconv.Lower
import Derived.Shelf.Strconv.ParseUint10
import Derived.Shelf.Strconv.ParseUint10Empty
import Derived.Shelf.Strconv.ParseUint10Any
import Derived.Shelf.Strconv.ParseInt10
import Derived.Shelf.Strconv.AtoiLong
import Derived.Shelf.Strconv.AtoiInnerAll
import Derived.Shelf.Strconv.RangeError
import Derived.Shelf.Strconv.ToErrorRange
import Derived.Shelf.Strconv.AtoiAll
import Derived.Shelf.Strconv.ErrVarAll
import Derived.Shelf.Strconv.ParseUintEmpty
import Derived.Shelf.Strconv.ParseUint10b64
import Derived.Shelf.Strconv.ParseUint10b32
import Derived.Shelf.Strconv.ParseUint10b16
import Derived.Shelf.Strconv.ParseUint10b8
import Derived.Shelf.Strconv.ParseUint10At
import Derived.Shelf.Strconv.ParseInt10At64
import Derived.Shelf.Strconv.ParseInt10At32
import Derived.Shelf.Strconv.ParseInt10At16
import Derived.Shelf.Strconv.ParseInt10At8
import Derived.Shelf.Strconv.ParseInt10All
import Derived.Shelf.Strings.Search1
import Derived.Shelf.Strings.Search2
import Derived.Shelf.Strings.Search3
import Derived.Shelf.Strings.Cut
import Derived.Shelf.Strings.Shaped
import Derived.Shelf.Strings.Prefix
import Derived.Shelf.Unicode.Decode
import Derived.Shelf.Strings.Runes
import Derived.Shelf.Strings.AsciiSet
import Derived.Shelf.Unicode.DecodeSlow
import Derived.Shelf.Unicode.DecodeAny
import Derived.Test.YtdlkenpilhakfaaGreatDoorProg
open Go.Lib renaming atoiAll->qG,cut->kQ,indexByte->kR
open Go.Shelf renaming Ren->wy
open Go.Proofs.Tryz
namespace Go.Proofs
open Go.Shelf
def Tryz.ZM:wy:=⟨fun|161=>162|231=>212|227=>213|233=>214|235=>215|228=>249|197=>250|151=>251|260=>273|152=>274|137=>169|119=>284|224=>266|225=>265|217=>220|266=>257|n=>n,fun|9=>9|4=>4|3=>3|5=>5|117=>263|116=>262|0=>0|124=>266|105=>286|21=>21|119=>317|46=>300|139=>320|138=>319|n=>n,fun|3=>3|4=>4|n=>n⟩
theorem Tryz.YF:Go.Proofs.Lays.n161 prog Tryz.ZM:={
 mixed:=by kernel_rfl
 f119:=func284.trans (congrArg some (by kernel_rfl))
 f137:=func169.trans (congrArg some (by kernel_rfl))
 f151:=func251.trans (congrArg some (by kernel_rfl))
 f152:=func274.trans (congrArg some (by kernel_rfl))
 f161:=func162.trans (congrArg some (by kernel_rfl))
 f197:=func250.trans (congrArg some (by kernel_rfl))
 f217:=func220.trans (congrArg some (by kernel_rfl))
 f224:=func266.trans (congrArg some (by kernel_rfl))
 f225:=func265.trans (congrArg some (by kernel_rfl))
 f227:=func213.trans (congrArg some (by kernel_rfl))
 f228:=func249.trans (congrArg some (by kernel_rfl))
 f231:=func212.trans (congrArg some (by kernel_rfl))
 f233:=func214.trans (congrArg some (by kernel_rfl))
 f235:=func215.trans (congrArg some (by kernel_rfl))
 f260:=func273.trans (congrArg some (by kernel_rfl))
 f266:=func257.trans (congrArg some (by kernel_rfl))
 t0:=underlying0
 a0:=isAgg0
 z0:=sizeOf0
 v0:=zeroValue0
 t3:=underlying3
 a3:=isAgg3
 z3:=sizeOf3
 v3:=zeroValue3
 t4:=underlying4
 a4:=isAgg4
 z4:=sizeOf4
 v4:=zeroValue4
 t5:=underlying5
 a5:=isAgg5
 z5:=sizeOf5
 v5:=zeroValue5
 t9:=underlying9
 a9:=isAgg9
 z9:=sizeOf9
 v9:=zeroValue9
 t21:=underlying21
 a21:=isAgg21
 z21:=sizeOf21
 v21:=zeroValue21
 t46:=underlying300
 a46:=isAgg300
 z46:=sizeOf300
 v46:=zeroValue300
 t105:=underlying286
 a105:=isAgg286
 z105:=sizeOf286
 v105:=zeroValue286
 t116:=underlying262
 a116:=isAgg262
 z116:=sizeOf262
 t117:=underlying263
 a117:=isAgg263
 z117:=sizeOf263
 v117:=zeroValue263
 t119:=underlying317
 a119:=isAgg317
 z119:=sizeOf317
 t124:=underlying266
 a124:=isAgg266
 z124:=sizeOf266
 v124:=zeroValue266
 t138:=underlying319
 a138:=isAgg319
 z138:=sizeOf319
 v138:=zeroValue319
 t139:=underlying320
 a139:=isAgg320
 z139:=sizeOf320
 v139:=zeroValue320
 g3:=by kernel_rfl
 g4:=by kernel_rfl}
def Tryz.ZN:wy:=⟨fun|137=>169|217=>220|266=>257|n=>n,fun|9=>9|5=>5|3=>3|n=>n,fun|n=>n⟩
theorem Tryz.ZO:Go.Proofs.Lays.n137 prog Tryz.ZN:={
 mixed:=by kernel_rfl
 f137:=func169.trans (congrArg some (by kernel_rfl))
 f217:=func220.trans (congrArg some (by kernel_rfl))
 f266:=func257.trans (congrArg some (by kernel_rfl))
 t3:=underlying3
 a3:=isAgg3
 z3:=sizeOf3
 v3:=zeroValue3
 t5:=underlying5
 a5:=isAgg5
 z5:=sizeOf5
 v5:=zeroValue5
 t9:=underlying9
 a9:=isAgg9
 z9:=sizeOf9
 v9:=zeroValue9}
open Go.RowKit in
theorem Tryz.strings_IndexByte(s:ByteArray)(c:Int)(w:World):
 Calls prog 169 #[.string s,.int .u8 c] w fun e w'=>e= .returned (.int .i64 (kR s.data.toList c.toNat.toUInt8))/\w'=w:=Any.strings_IndexByte Tryz.ZO s c w
def Tryz.ZP:wy:=⟨fun|172=>167|244=>218|245=>219|247=>252|279=>253|280=>254|281=>255|282=>256|287=>275|316=>276|171=>278|205=>277|321=>285|322=>286|243=>287|246=>289|283=>290|284=>291|285=>292|286=>293|129=>295|317=>294|318=>296|319=>297|320=>298|337=>299|338=>300|n=>n,fun|9=>9|3=>3|75=>215|76=>216|4=>4|5=>5|167=>289|37=>98|0=>0|85=>290|2=>2|168=>292|53=>304|175=>305|46=>300|210=>309|127=>323|145=>326|143=>324|21=>21|171=>328|173=>331|212=>334|51=>314|20=>20|213=>335|232=>339|233=>340|80=>341|n=>n,fun|15=>1|16=>2|17=>5|18=>6|19=>7|n=>n⟩
theorem Tryz.N1:Go.Proofs.LaysC.n172 prog Tryz.ZP:={
 mixed:=by kernel_rfl
 f129:=func295.trans (congrArg some (by kernel_rfl))
 f171:=func278.trans (congrArg some (by kernel_rfl))
 f172:=func167.trans (congrArg some (by kernel_rfl))
 f205:=func277.trans (congrArg some (by kernel_rfl))
 f243:=func287.trans (congrArg some (by kernel_rfl))
 f244:=func218.trans (congrArg some (by kernel_rfl))
 f245:=func219.trans (congrArg some (by kernel_rfl))
 f246:=func289.trans (congrArg some (by kernel_rfl))
 f247:=func252.trans (congrArg some (by kernel_rfl))
 f279:=func253.trans (congrArg some (by kernel_rfl))
 f280:=func254.trans (congrArg some (by kernel_rfl))
 f281:=func255.trans (congrArg some (by kernel_rfl))
 f282:=func256.trans (congrArg some (by kernel_rfl))
 f283:=func290.trans (congrArg some (by kernel_rfl))
 f284:=func291.trans (congrArg some (by kernel_rfl))
 f285:=func292.trans (congrArg some (by kernel_rfl))
 f286:=func293.trans (congrArg some (by kernel_rfl))
 f287:=func275.trans (congrArg some (by kernel_rfl))
 f316:=func276.trans (congrArg some (by kernel_rfl))
 f317:=func294.trans (congrArg some (by kernel_rfl))
 f318:=func296.trans (congrArg some (by kernel_rfl))
 f319:=func297.trans (congrArg some (by kernel_rfl))
 f320:=func298.trans (congrArg some (by kernel_rfl))
 f321:=func285.trans (congrArg some (by kernel_rfl))
 f322:=func286.trans (congrArg some (by kernel_rfl))
 f337:=func299.trans (congrArg some (by kernel_rfl))
 f338:=func300.trans (congrArg some (by kernel_rfl))
 t0:=underlying0
 a0:=isAgg0
 z0:=sizeOf0
 v0:=zeroValue0
 t2:=underlying2
 a2:=isAgg2
 z2:=sizeOf2
 v2:=zeroValue2
 t3:=underlying3
 a3:=isAgg3
 z3:=sizeOf3
 v3:=zeroValue3
 t4:=underlying4
 a4:=isAgg4
 z4:=sizeOf4
 v4:=zeroValue4
 t5:=underlying5
 a5:=isAgg5
 z5:=sizeOf5
 v5:=zeroValue5
 t9:=underlying9
 a9:=isAgg9
 z9:=sizeOf9
 v9:=zeroValue9
 t20:=underlying20
 a20:=isAgg20
 z20:=sizeOf20
 v20:=zeroValue20
 t21:=underlying21
 a21:=isAgg21
 z21:=sizeOf21
 v21:=zeroValue21
 t37:=underlying98
 a37:=isAgg98
 z37:=sizeOf98
 v37:=zeroValue98
 t46:=underlying300
 a46:=isAgg300
 z46:=sizeOf300
 v46:=zeroValue300
 t51:=underlying314
 a51:=isAgg314
 z51:=sizeOf314
 v51:=zeroValue314
 t53:=underlying304
 a53:=isAgg304
 z53:=sizeOf304
 v53:=zeroValue304
 t75:=underlying215
 a75:=isAgg215
 z75:=sizeOf215
 v75:=zeroValue215
 t76:=underlying216
 a76:=isAgg216
 z76:=sizeOf216
 v76:=zeroValue216
 t85:=underlying290
 a85:=isAgg290
 z85:=sizeOf290
 v85:=zeroValue290
 t127:=underlying323
 a127:=isAgg323
 z127:=sizeOf323
 v127:=zeroValue323
 t143:=underlying324
 a143:=isAgg324
 z143:=sizeOf324
 v143:=zeroValue324
 t145:=underlying326
 a145:=isAgg326
 z145:=sizeOf326
 v145:=zeroValue326
 t167:=underlying289
 a167:=isAgg289
 z167:=sizeOf289
 v167:=zeroValue289
 t168:=underlying292
 a168:=isAgg292
 z168:=sizeOf292
 v168:=zeroValue292
 t171:=underlying328
 a171:=isAgg328
 z171:=sizeOf328
 v171:=zeroValue328
 t173:=underlying331
 a173:=isAgg331
 z173:=sizeOf331
 v173:=zeroValue331
 t175:=underlying305
 a175:=isAgg305
 z175:=sizeOf305
 v175:=zeroValue305
 t210:=underlying309
 a210:=isAgg309
 z210:=sizeOf309
 v210:=zeroValue309
 t212:=underlying334
 a212:=isAgg334
 z212:=sizeOf334
 v212:=zeroValue334
 t213:=underlying335
 a213:=isAgg335
 z213:=sizeOf335
 t232:=underlying339
 a232:=isAgg339
 z232:=sizeOf339
 v232:=zeroValue339
 t233:=underlying340
 a233:=isAgg340
 z233:=sizeOf340
 v233:=zeroValue340
 g15:=by kernel_rfl
 g16:=by kernel_rfl
 g17:=by kernel_rfl
 g18:=by kernel_rfl
 g19:=by kernel_rfl
 t80:=underlying341
 a80:=isAgg341
 z80:=sizeOf341
 v80:=zeroValue341
 i0:=by kernel_rfl
 i2:=by kernel_rfl
 i3:=by kernel_rfl
 i4:=by kernel_rfl
 i5:=by kernel_rfl
 i9:=by kernel_rfl
 i20:=by kernel_rfl
 i21:=by kernel_rfl
 i37:=by kernel_rfl
 i46:=by kernel_rfl
 i51:=by kernel_rfl
 i53:=by kernel_rfl
 i75:=by kernel_rfl
 i76:=by kernel_rfl
 i80:=by kernel_rfl
 i85:=by kernel_rfl
 i127:=by kernel_rfl
 i143:=by kernel_rfl
 i145:=by kernel_rfl
 i167:=by kernel_rfl
 i168:=by kernel_rfl
 i171:=by kernel_rfl
 i173:=by kernel_rfl
 i175:=by kernel_rfl
 i210:=by kernel_rfl
 i212:=by kernel_rfl
 i232:=by kernel_rfl
 i233:=by kernel_rfl
 m15:=by kernel_rfl
 m16:=by kernel_rfl
 m17:=by kernel_rfl
 m18:=by kernel_rfl
 m19:=by kernel_rfl
 c0:=by kernel_rfl
 c2:=by kernel_rfl
 c3:=by kernel_rfl
 c4:=by kernel_rfl
 c5:=by kernel_rfl
 c9:=by kernel_rfl
 c20:=by kernel_rfl
 c21:=by kernel_rfl
 c37:=by kernel_rfl
 c46:=by kernel_rfl
 c51:=by kernel_rfl
 c53:=by kernel_rfl
 c75:=by kernel_rfl
 c76:=by kernel_rfl
 c80:=by kernel_rfl
 c85:=by kernel_rfl
 c127:=by kernel_rfl
 c143:=by kernel_rfl
 c145:=by kernel_rfl
 c167:=by kernel_rfl
 c168:=by kernel_rfl
 c171:=by kernel_rfl
 c173:=by kernel_rfl
 c175:=by kernel_rfl
 c210:=by kernel_rfl
 c212:=by kernel_rfl
 c213:=by kernel_rfl
 c232:=by kernel_rfl
 c233:=by kernel_rfl}
open Go.RowKit in
theorem Tryz.strconv_Atoi_ok(s:ByteArray)(hmax:s.size<=9223372036854775806)(v:Int)(h:qG s.data.toList= .ok v)(w:World):
 Calls prog 167 #[.string s] w fun e w'=>e= .returned (.tuple #[.int .i64 v,.nilIface])/\(w'=w\/∃t,w'=Lib.bytesWorld w 5 t):=Any.strconv_Atoi_ok Tryz.N1 s hmax v h w
open Go.RowKit in
theorem Tryz.strconv_Atoi_range_var(s:ByteArray)(hlim:s.size<=281474976710656)(h:qG s.data.toList= .range)(tp:TypeId)(p:Value)(w:World)(hvar:w.var? prog "strconv.ErrRange" =some #[.iface tp p]):
 Calls prog 167 #[.string s] w fun e w'=>∃N,e= .returned (.tuple #[.int .i64 (Lib.atoiSat s.data.toList),.iface 292 (.pointer (some ⟨N,0,none⟩))])/\w.heap.size<=N/\w'.heap[N]?=some (.cells #[.string ⟨#[65,116,111,105]⟩,.string s,.iface tp p] 309 (0,0))/\Below w.heap.size w w':=Any.strconv_Atoi_range_var Tryz.N1 s hlim h tp p w hvar
def Tryz.ZQ:wy:=⟨fun|144=>148|143=>200|219=>244|217=>220|225=>265|224=>266|267=>267|266=>257|314=>281|n=>n,fun|9=>9|4=>4|3=>3|5=>5|46=>300|146=>315|51=>314|n=>n,fun|1=>0|n=>n⟩
theorem Tryz.ZR:Go.Proofs.Lays.n144 prog Tryz.ZQ:={
 mixed:=by kernel_rfl
 f143:=func200.trans (congrArg some (by kernel_rfl))
 f144:=func148.trans (congrArg some (by kernel_rfl))
 f217:=func220.trans (congrArg some (by kernel_rfl))
 f219:=func244.trans (congrArg some (by kernel_rfl))
 f224:=func266.trans (congrArg some (by kernel_rfl))
 f225:=func265.trans (congrArg some (by kernel_rfl))
 f266:=func257.trans (congrArg some (by kernel_rfl))
 f267:=func267.trans (congrArg some (by kernel_rfl))
 f314:=func281.trans (congrArg some (by kernel_rfl))
 t3:=underlying3
 a3:=isAgg3
 z3:=sizeOf3
 v3:=zeroValue3
 t4:=underlying4
 a4:=isAgg4
 z4:=sizeOf4
 v4:=zeroValue4
 t5:=underlying5
 a5:=isAgg5
 z5:=sizeOf5
 v5:=zeroValue5
 t9:=underlying9
 a9:=isAgg9
 z9:=sizeOf9
 v9:=zeroValue9
 t46:=underlying300
 a46:=isAgg300
 z46:=sizeOf300
 v46:=zeroValue300
 t51:=underlying314
 a51:=isAgg314
 z51:=sizeOf314
 v51:=zeroValue314
 t146:=underlying315
 a146:=isAgg315
 z146:=sizeOf315
 v146:=zeroValue315
 g1:=by kernel_rfl}
open Go.RowKit Go.Lib in
theorem Tryz.strings_Contains_one(s:ByteArray)(c:UInt8)(w:World):
 Calls prog 148 #[.string s,.string ⟨#[c]⟩] w fun e w'=>e= .returned (.bool (decide (0<=kR s.data.toList c)))/\w'=w:=Any.strings_Contains_one Tryz.ZR s c w
def Tryz.ZS:wy:=⟨fun|145=>164|220=>217|219=>244|217=>220|225=>265|224=>266|267=>267|266=>257|314=>281|n=>n,fun|9=>9|4=>4|59=>211|3=>3|5=>5|46=>300|146=>315|51=>314|n=>n,fun|1=>0|n=>n⟩
theorem Tryz.ZT:Go.Proofs.Lays.n145 prog Tryz.ZS:={
 mixed:=by kernel_rfl
 f145:=func164.trans (congrArg some (by kernel_rfl))
 f217:=func220.trans (congrArg some (by kernel_rfl))
 f219:=func244.trans (congrArg some (by kernel_rfl))
 f220:=func217.trans (congrArg some (by kernel_rfl))
 f224:=func266.trans (congrArg some (by kernel_rfl))
 f225:=func265.trans (congrArg some (by kernel_rfl))
 f266:=func257.trans (congrArg some (by kernel_rfl))
 f267:=func267.trans (congrArg some (by kernel_rfl))
 f314:=func281.trans (congrArg some (by kernel_rfl))
 t3:=underlying3
 a3:=isAgg3
 z3:=sizeOf3
 v3:=zeroValue3
 t4:=underlying4
 a4:=isAgg4
 z4:=sizeOf4
 v4:=zeroValue4
 t5:=underlying5
 a5:=isAgg5
 z5:=sizeOf5
 v5:=zeroValue5
 t9:=underlying9
 a9:=isAgg9
 z9:=sizeOf9
 v9:=zeroValue9
 t46:=underlying300
 a46:=isAgg300
 z46:=sizeOf300
 v46:=zeroValue300
 t51:=underlying314
 a51:=isAgg314
 z51:=sizeOf314
 v51:=zeroValue314
 t59:=underlying211
 a59:=isAgg211
 z59:=sizeOf211
 v59:=zeroValue211
 t146:=underlying315
 a146:=isAgg315
 z146:=sizeOf315
 v146:=zeroValue315
 g1:=by kernel_rfl}
open Go.RowKit Go.Lib in
theorem Tryz.strings_Cut(s sep:ByteArray)(m:Int)(w:World)(hs:s.size<4294967281)(hm:w.cell? ⟨0,0,none⟩=some (.int .i64 m)):
 Calls prog 164 #[.string s,.string sep] w fun e w'=>e= .returned (.tuple #[.string ⟨(kQ s.data.toList sep.data.toList).1.toArray⟩,.string ⟨(kQ s.data.toList sep.data.toList).2.1.toArray⟩,.bool (kQ s.data.toList sep.data.toList).2.2])/\∃n,w'=w.drewN n:=Any.strings_Cut Tryz.ZT s sep m w hs hm
def Tryz.ZU:wy:=⟨fun|99=>163|206=>216|n=>n,fun|9=>9|4=>4|3=>3|n=>n,fun|n=>n⟩
theorem Tryz.ZV:Go.Proofs.Lays.n99 prog Tryz.ZU:={
 mixed:=by kernel_rfl
 f99:=func163.trans (congrArg some (by kernel_rfl))
 f206:=func216.trans (congrArg some (by kernel_rfl))
 t3:=underlying3
 a3:=isAgg3
 z3:=sizeOf3
 v3:=zeroValue3
 t4:=underlying4
 a4:=isAgg4
 z4:=sizeOf4
 v4:=zeroValue4
 t9:=underlying9
 a9:=isAgg9
 z9:=sizeOf9
 v9:=zeroValue9}
open Go.RowKit Go.Lib in
theorem Tryz.strings_HasPrefix(s p:ByteArray)(w:World):
 Calls prog 163 #[.string s,.string p] w fun e w'=>e= .returned (.bool (Lib.hasPrefix s.data.toList p.data.toList))/\w'=w:=Any.strings_HasPrefix Tryz.ZV s p w
end Go.Proofs
