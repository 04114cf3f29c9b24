/- . -/
import Derived.Shelf.Strings.Builder1
import Derived.Shelf.Strings.Trim
import Derived.Shelf.Small.Utf8
import Derived.Shelf.Small.Strs
import Derived.Shelf.Strings.BuilderF
import Derived.Shelf.Strings.BuilderK
import Derived.Shelf.Strconv.Atoi
import Derived.Shelf.Strconv.Itoa0
import Derived.Shelf.Strconv.Itoa1
import Derived.Shelf.LaysM
import Derived.Shelf.Strconv.Itoa2
import Derived.Shelf.Strconv.Itoa3
import Derived.Shelf.Strconv.AtoiErrFast
import Derived.Shelf.Strconv.ParseIntEmpty
import Derived.Shelf.Strconv.AtoiFail
import Derived.Shelf.Strconv.Clone
import Derived.Shelf.Strconv.SyntaxError
import Derived.Shelf.LaysC
import Derived.Shelf.Strconv.ToError
import Derived.Shelf.Strconv.AtoiErr
import Derived.Shelf.Strconv.ErrVar
import Derived.Shelf.Strconv.Lower
import Derived.Shelf.Strconv.ParseUint10
import Derived.Shelf.Strconv.ParseUint10Empty
import Derived.Shelf.Strconv.ParseUint10Any
import Derived.Shelf.Strconv.ParseInt10
import Derived.Shelf.Strconv.AtoiLong
import Derived.Shelf.Strconv.AtoiInnerAll
import Derived.Shelf.Strconv.RangeError
import Derived.Shelf.Strconv.ToErrorRange
import Derived.Shelf.Strconv.AtoiAll
import Derived.Shelf.Strconv.ErrVarAll
import Derived.Shelf.Strconv.ParseUintEmpty
import Derived.Shelf.Strconv.ParseUint10b64
import Derived.Shelf.Strconv.ParseUint10b32
import Derived.Shelf.Strconv.ParseUint10b16
import Derived.Shelf.Strconv.ParseUint10b8
import Derived.Shelf.Strconv.ParseUint10At
import Derived.Shelf.Strconv.ParseInt10At64
import Derived.Shelf.Strconv.ParseInt10At32
import Derived.Shelf.Strconv.ParseInt10At16
import Derived.Shelf.Strconv.ParseInt10At8
import Derived.Shelf.Strconv.ParseInt10All
import Derived.Shelf.Strings.Search1
import Derived.Shelf.Strings.Search2
import Derived.Shelf.Strings.Search3
import Derived.Shelf.Strings.Cut
import Derived.Shelf.Strings.Shaped
import Derived.Shelf.Strings.Prefix
import Derived.Shelf.Unicode.Decode
import Derived.Shelf.Strings.Runes
import Derived.Shelf.Strings.AsciiSet
import Derived.Shelf.Unicode.DecodeSlow
import Derived.Shelf.Unicode.DecodeAny
import Derived.Shelf.Strings.BuilderCap
import Derived.Test.YtpcmcfajfnpjeaaGreatDoorProg

namespace Go.Proofs
open Go.Shelf
def Tryz.lays161_ren:Go.Shelf.Ren:=⟨fun | 161=>304 | 231=>352 | 227=>353 | 233=>354 | 235=>355 | 228=>380 | 197=>381 | 151=>382 | 260=>398 | 152=>399 | 137=>247 | 119=>406 | 224=>350 | 225=>349 | 217=>302 | 266=>348 | n=>n,fun | 9=>9 | 4=>4 | 3=>3 | 5=>5 | 117=>365 | 116=>364 | 0=>0 | 124=>368 | 105=>385 | 21=>21 | 119=>410 | 46=>360 | 139=>413 | 138=>412 | n=>n,fun | 3=>6 | 4=>7 | n=>n⟩
theorem Tryz.lays161:Go.Proofs.Lays.n161 Tryz.prog Tryz.lays161_ren:={
 mixed:=by kernel_rfl
 f119:=Tryz.func406.trans (congrArg some (by kernel_rfl))
 f137:=Tryz.func247.trans (congrArg some (by kernel_rfl))
 f151:=Tryz.func382.trans (congrArg some (by kernel_rfl))
 f152:=Tryz.func399.trans (congrArg some (by kernel_rfl))
 f161:=Tryz.func304.trans (congrArg some (by kernel_rfl))
 f197:=Tryz.func381.trans (congrArg some (by kernel_rfl))
 f217:=Tryz.func302.trans (congrArg some (by kernel_rfl))
 f224:=Tryz.func350.trans (congrArg some (by kernel_rfl))
 f225:=Tryz.func349.trans (congrArg some (by kernel_rfl))
 f227:=Tryz.func353.trans (congrArg some (by kernel_rfl))
 f228:=Tryz.func380.trans (congrArg some (by kernel_rfl))
 f231:=Tryz.func352.trans (congrArg some (by kernel_rfl))
 f233:=Tryz.func354.trans (congrArg some (by kernel_rfl))
 f235:=Tryz.func355.trans (congrArg some (by kernel_rfl))
 f260:=Tryz.func398.trans (congrArg some (by kernel_rfl))
 f266:=Tryz.func348.trans (congrArg some (by kernel_rfl))
 t0:=Tryz.underlying0
 a0:=Tryz.isAgg0
 z0:=Tryz.sizeOf0
 v0:=Tryz.zeroValue0
 t3:=Tryz.underlying3
 a3:=Tryz.isAgg3
 z3:=Tryz.sizeOf3
 v3:=Tryz.zeroValue3
 t4:=Tryz.underlying4
 a4:=Tryz.isAgg4
 z4:=Tryz.sizeOf4
 v4:=Tryz.zeroValue4
 t5:=Tryz.underlying5
 a5:=Tryz.isAgg5
 z5:=Tryz.sizeOf5
 v5:=Tryz.zeroValue5
 t9:=Tryz.underlying9
 a9:=Tryz.isAgg9
 z9:=Tryz.sizeOf9
 v9:=Tryz.zeroValue9
 t21:=Tryz.underlying21
 a21:=Tryz.isAgg21
 z21:=Tryz.sizeOf21
 v21:=Tryz.zeroValue21
 t46:=Tryz.underlying360
 a46:=Tryz.isAgg360
 z46:=Tryz.sizeOf360
 v46:=Tryz.zeroValue360
 t105:=Tryz.underlying385
 a105:=Tryz.isAgg385
 z105:=Tryz.sizeOf385
 v105:=Tryz.zeroValue385
 t116:=Tryz.underlying364
 a116:=Tryz.isAgg364
 z116:=Tryz.sizeOf364
 t117:=Tryz.underlying365
 a117:=Tryz.isAgg365
 z117:=Tryz.sizeOf365
 v117:=Tryz.zeroValue365
 t119:=Tryz.underlying410
 a119:=Tryz.isAgg410
 z119:=Tryz.sizeOf410
 t124:=Tryz.underlying368
 a124:=Tryz.isAgg368
 z124:=Tryz.sizeOf368
 v124:=Tryz.zeroValue368
 t138:=Tryz.underlying412
 a138:=Tryz.isAgg412
 z138:=Tryz.sizeOf412
 v138:=Tryz.zeroValue412
 t139:=Tryz.underlying413
 a139:=Tryz.isAgg413
 z139:=Tryz.sizeOf413
 v139:=Tryz.zeroValue413
 g3:=by kernel_rfl
 g4:=by kernel_rfl }
def Tryz.lays137_ren:Go.Shelf.Ren:=⟨fun | 137=>247 | 217=>302 | 266=>348 | n=>n,fun | 9=>9 | 5=>5 | 3=>3 | n=>n,fun | n=>n⟩
theorem Tryz.lays137:Go.Proofs.Lays.n137 Tryz.prog Tryz.lays137_ren:={
 mixed:=by kernel_rfl
 f137:=Tryz.func247.trans (congrArg some (by kernel_rfl))
 f217:=Tryz.func302.trans (congrArg some (by kernel_rfl))
 f266:=Tryz.func348.trans (congrArg some (by kernel_rfl))
 t3:=Tryz.underlying3
 a3:=Tryz.isAgg3
 z3:=Tryz.sizeOf3
 v3:=Tryz.zeroValue3
 t5:=Tryz.underlying5
 a5:=Tryz.isAgg5
 z5:=Tryz.sizeOf5
 v5:=Tryz.zeroValue5
 t9:=Tryz.underlying9
 a9:=Tryz.isAgg9
 z9:=Tryz.sizeOf9
 v9:=Tryz.zeroValue9 }
open Go.RowKit in
theorem Tryz.strings_IndexByte (s:ByteArray) (c:Int) (w:World) :
 Calls Tryz.prog 247 #[.string s,.int .u8 c] w fun e w'=>e = .returned (.int .i64 (Lib.indexByte s.data.toList c.toNat.toUInt8)) ∧ w' = w:=Any.strings_IndexByte Tryz.lays137 s c w
def Tryz.laysC172_ren:Go.Shelf.Ren:=⟨fun | 172=>308 | 244=>358 | 245=>359 | 247=>383 | 279=>384 | 280=>385 | 281=>386 | 282=>387 | 287=>400 | 316=>401 | 171=>69 | 205=>402 | 321=>407 | 322=>408 | 243=>162 | 246=>244 | 283=>298 | 284=>299 | 285=>300 | 286=>301 | 129=>344 | 317=>343 | 318=>345 | 319=>346 | 320=>347 | 337=>377 | 338=>378 | n=>n,fun | 9=>9 | 3=>3 | 75=>126 | 76=>127 | 4=>4 | 5=>5 | 167=>388 | 37=>121 | 0=>0 | 85=>389 | 2=>2 | 168=>391 | 53=>315 | 175=>403 | 46=>360 | 210=>407 | 127=>212 | 145=>418 | 143=>416 | 21=>21 | 171=>314 | 173=>318 | 212=>356 | 51=>357 | 20=>20 | 213=>358 | 232=>400 | 233=>401 | 80=>129 | n=>n,fun | 15=>4 | 16=>5 | 17=>0 | 18=>2 | 19=>3 | n=>n⟩
theorem Tryz.laysC172:Go.Proofs.LaysC.n172 Tryz.prog Tryz.laysC172_ren:={
 mixed:=by kernel_rfl
 f129:=Tryz.func344.trans (congrArg some (by kernel_rfl))
 f171:=Tryz.func69.trans (congrArg some (by kernel_rfl))
 f172:=Tryz.func308.trans (congrArg some (by kernel_rfl))
 f205:=Tryz.func402.trans (congrArg some (by kernel_rfl))
 f243:=Tryz.func162.trans (congrArg some (by kernel_rfl))
 f244:=Tryz.func358.trans (congrArg some (by kernel_rfl))
 f245:=Tryz.func359.trans (congrArg some (by kernel_rfl))
 f246:=Tryz.func244.trans (congrArg some (by kernel_rfl))
 f247:=Tryz.func383.trans (congrArg some (by kernel_rfl))
 f279:=Tryz.func384.trans (congrArg some (by kernel_rfl))
 f280:=Tryz.func385.trans (congrArg some (by kernel_rfl))
 f281:=Tryz.func386.trans (congrArg some (by kernel_rfl))
 f282:=Tryz.func387.trans (congrArg some (by kernel_rfl))
 f283:=Tryz.func298.trans (congrArg some (by kernel_rfl))
 f284:=Tryz.func299.trans (congrArg some (by kernel_rfl))
 f285:=Tryz.func300.trans (congrArg some (by kernel_rfl))
 f286:=Tryz.func301.trans (congrArg some (by kernel_rfl))
 f287:=Tryz.func400.trans (congrArg some (by kernel_rfl))
 f316:=Tryz.func401.trans (congrArg some (by kernel_rfl))
 f317:=Tryz.func343.trans (congrArg some (by kernel_rfl))
 f318:=Tryz.func345.trans (congrArg some (by kernel_rfl))
 f319:=Tryz.func346.trans (congrArg some (by kernel_rfl))
 f320:=Tryz.func347.trans (congrArg some (by kernel_rfl))
 f321:=Tryz.func407.trans (congrArg some (by kernel_rfl))
 f322:=Tryz.func408.trans (congrArg some (by kernel_rfl))
 f337:=Tryz.func377.trans (congrArg some (by kernel_rfl))
 f338:=Tryz.func378.trans (congrArg some (by kernel_rfl))
 t0:=Tryz.underlying0
 a0:=Tryz.isAgg0
 z0:=Tryz.sizeOf0
 v0:=Tryz.zeroValue0
 t2:=Tryz.underlying2
 a2:=Tryz.isAgg2
 z2:=Tryz.sizeOf2
 v2:=Tryz.zeroValue2
 t3:=Tryz.underlying3
 a3:=Tryz.isAgg3
 z3:=Tryz.sizeOf3
 v3:=Tryz.zeroValue3
 t4:=Tryz.underlying4
 a4:=Tryz.isAgg4
 z4:=Tryz.sizeOf4
 v4:=Tryz.zeroValue4
 t5:=Tryz.underlying5
 a5:=Tryz.isAgg5
 z5:=Tryz.sizeOf5
 v5:=Tryz.zeroValue5
 t9:=Tryz.underlying9
 a9:=Tryz.isAgg9
 z9:=Tryz.sizeOf9
 v9:=Tryz.zeroValue9
 t20:=Tryz.underlying20
 a20:=Tryz.isAgg20
 z20:=Tryz.sizeOf20
 v20:=Tryz.zeroValue20
 t21:=Tryz.underlying21
 a21:=Tryz.isAgg21
 z21:=Tryz.sizeOf21
 v21:=Tryz.zeroValue21
 t37:=Tryz.underlying121
 a37:=Tryz.isAgg121
 z37:=Tryz.sizeOf121
 v37:=Tryz.zeroValue121
 t46:=Tryz.underlying360
 a46:=Tryz.isAgg360
 z46:=Tryz.sizeOf360
 v46:=Tryz.zeroValue360
 t51:=Tryz.underlying357
 a51:=Tryz.isAgg357
 z51:=Tryz.sizeOf357
 v51:=Tryz.zeroValue357
 t53:=Tryz.underlying315
 a53:=Tryz.isAgg315
 z53:=Tryz.sizeOf315
 v53:=Tryz.zeroValue315
 t75:=Tryz.underlying126
 a75:=Tryz.isAgg126
 z75:=Tryz.sizeOf126
 v75:=Tryz.zeroValue126
 t76:=Tryz.underlying127
 a76:=Tryz.isAgg127
 z76:=Tryz.sizeOf127
 v76:=Tryz.zeroValue127
 t85:=Tryz.underlying389
 a85:=Tryz.isAgg389
 z85:=Tryz.sizeOf389
 v85:=Tryz.zeroValue389
 t127:=Tryz.underlying212
 a127:=Tryz.isAgg212
 z127:=Tryz.sizeOf212
 v127:=Tryz.zeroValue212
 t143:=Tryz.underlying416
 a143:=Tryz.isAgg416
 z143:=Tryz.sizeOf416
 v143:=Tryz.zeroValue416
 t145:=Tryz.underlying418
 a145:=Tryz.isAgg418
 z145:=Tryz.sizeOf418
 v145:=Tryz.zeroValue418
 t167:=Tryz.underlying388
 a167:=Tryz.isAgg388
 z167:=Tryz.sizeOf388
 v167:=Tryz.zeroValue388
 t168:=Tryz.underlying391
 a168:=Tryz.isAgg391
 z168:=Tryz.sizeOf391
 v168:=Tryz.zeroValue391
 t171:=Tryz.underlying314
 a171:=Tryz.isAgg314
 z171:=Tryz.sizeOf314
 v171:=Tryz.zeroValue314
 t173:=Tryz.underlying318
 a173:=Tryz.isAgg318
 z173:=Tryz.sizeOf318
 v173:=Tryz.zeroValue318
 t175:=Tryz.underlying403
 a175:=Tryz.isAgg403
 z175:=Tryz.sizeOf403
 v175:=Tryz.zeroValue403
 t210:=Tryz.underlying407
 a210:=Tryz.isAgg407
 z210:=Tryz.sizeOf407
 v210:=Tryz.zeroValue407
 t212:=Tryz.underlying356
 a212:=Tryz.isAgg356
 z212:=Tryz.sizeOf356
 v212:=Tryz.zeroValue356
 t213:=Tryz.underlying358
 a213:=Tryz.isAgg358
 z213:=Tryz.sizeOf358
 t232:=Tryz.underlying400
 a232:=Tryz.isAgg400
 z232:=Tryz.sizeOf400
 v232:=Tryz.zeroValue400
 t233:=Tryz.underlying401
 a233:=Tryz.isAgg401
 z233:=Tryz.sizeOf401
 v233:=Tryz.zeroValue401
 g15:=by kernel_rfl
 g16:=by kernel_rfl
 g17:=by kernel_rfl
 g18:=by kernel_rfl
 g19:=by kernel_rfl
 t80:=Tryz.underlying129
 a80:=Tryz.isAgg129
 z80:=Tryz.sizeOf129
 v80:=Tryz.zeroValue129
 i0:=by kernel_rfl
 i2:=by kernel_rfl
 i3:=by kernel_rfl
 i4:=by kernel_rfl
 i5:=by kernel_rfl
 i9:=by kernel_rfl
 i20:=by kernel_rfl
 i21:=by kernel_rfl
 i37:=by kernel_rfl
 i46:=by kernel_rfl
 i51:=by kernel_rfl
 i53:=by kernel_rfl
 i75:=by kernel_rfl
 i76:=by kernel_rfl
 i80:=by kernel_rfl
 i85:=by kernel_rfl
 i127:=by kernel_rfl
 i143:=by kernel_rfl
 i145:=by kernel_rfl
 i167:=by kernel_rfl
 i168:=by kernel_rfl
 i171:=by kernel_rfl
 i173:=by kernel_rfl
 i175:=by kernel_rfl
 i210:=by kernel_rfl
 i212:=by kernel_rfl
 i232:=by kernel_rfl
 i233:=by kernel_rfl
 m15:=by kernel_rfl
 m16:=by kernel_rfl
 m17:=by kernel_rfl
 m18:=by kernel_rfl
 m19:=by kernel_rfl
 c0:=by kernel_rfl
 c2:=by kernel_rfl
 c3:=by kernel_rfl
 c4:=by kernel_rfl
 c5:=by kernel_rfl
 c9:=by kernel_rfl
 c20:=by kernel_rfl
 c21:=by kernel_rfl
 c37:=by kernel_rfl
 c46:=by kernel_rfl
 c51:=by kernel_rfl
 c53:=by kernel_rfl
 c75:=by kernel_rfl
 c76:=by kernel_rfl
 c80:=by kernel_rfl
 c85:=by kernel_rfl
 c127:=by kernel_rfl
 c143:=by kernel_rfl
 c145:=by kernel_rfl
 c167:=by kernel_rfl
 c168:=by kernel_rfl
 c171:=by kernel_rfl
 c173:=by kernel_rfl
 c175:=by kernel_rfl
 c210:=by kernel_rfl
 c212:=by kernel_rfl
 c213:=by kernel_rfl
 c232:=by kernel_rfl
 c233:=by kernel_rfl }
open Go.RowKit in
theorem Tryz.strconv_Atoi_ok (s:ByteArray) (hmax:s.size ≤ 9223372036854775806) (v:Int) (h:Lib.atoiAll s.data.toList = .ok v) (w:World) :
 Calls Tryz.prog 308 #[.string s] w fun e w'=>e = .returned (.tuple #[.int .i64 v,.nilIface]) ∧ (w' = w ∨ ∃ t,w' = Lib.bytesWorld w 5 t):=Any.strconv_Atoi_ok Tryz.laysC172 s hmax v h w
open Go.RowKit in
theorem Tryz.strconv_Atoi_range_var (s:ByteArray) (hlim:s.size ≤ 281474976710656) (h:Lib.atoiAll s.data.toList = .range) (tp:TypeId) (p:Value) (w:World) (hvar:w.var? Tryz.prog "strconv.ErrRange" = some #[.iface tp p]) :
 Calls Tryz.prog 308 #[.string s] w fun e w'=>∃ N,e = .returned (.tuple #[.int .i64 (Lib.atoiSat s.data.toList),.iface 391 (.pointer (some ⟨N,0,none⟩))]) ∧ w.heap.size ≤ N ∧ w'.heap[N]? = some (.cells #[.string ⟨#[65,116,111,105]⟩,.string s,.iface tp p] 407 (0,0)) ∧ Below w.heap.size w w':=Any.strconv_Atoi_range_var Tryz.laysC172 s hlim h tp p w hvar
def Tryz.lays144_ren:Go.Shelf.Ren:=⟨fun | 144=>168 | 143=>248 | 219=>303 | 217=>302 | 225=>349 | 224=>350 | 267=>351 | 266=>348 | 314=>379 | n=>n,fun | 9=>9 | 4=>4 | 3=>3 | 5=>5 | 46=>360 | 146=>383 | 51=>357 | n=>n,fun | 1=>1 | n=>n⟩
theorem Tryz.lays144:Go.Proofs.Lays.n144 Tryz.prog Tryz.lays144_ren:={
 mixed:=by kernel_rfl
 f143:=Tryz.func248.trans (congrArg some (by kernel_rfl))
 f144:=Tryz.func168.trans (congrArg some (by kernel_rfl))
 f217:=Tryz.func302.trans (congrArg some (by kernel_rfl))
 f219:=Tryz.func303.trans (congrArg some (by kernel_rfl))
 f224:=Tryz.func350.trans (congrArg some (by kernel_rfl))
 f225:=Tryz.func349.trans (congrArg some (by kernel_rfl))
 f266:=Tryz.func348.trans (congrArg some (by kernel_rfl))
 f267:=Tryz.func351.trans (congrArg some (by kernel_rfl))
 f314:=Tryz.func379.trans (congrArg some (by kernel_rfl))
 t3:=Tryz.underlying3
 a3:=Tryz.isAgg3
 z3:=Tryz.sizeOf3
 v3:=Tryz.zeroValue3
 t4:=Tryz.underlying4
 a4:=Tryz.isAgg4
 z4:=Tryz.sizeOf4
 v4:=Tryz.zeroValue4
 t5:=Tryz.underlying5
 a5:=Tryz.isAgg5
 z5:=Tryz.sizeOf5
 v5:=Tryz.zeroValue5
 t9:=Tryz.underlying9
 a9:=Tryz.isAgg9
 z9:=Tryz.sizeOf9
 v9:=Tryz.zeroValue9
 t46:=Tryz.underlying360
 a46:=Tryz.isAgg360
 z46:=Tryz.sizeOf360
 v46:=Tryz.zeroValue360
 t51:=Tryz.underlying357
 a51:=Tryz.isAgg357
 z51:=Tryz.sizeOf357
 v51:=Tryz.zeroValue357
 t146:=Tryz.underlying383
 a146:=Tryz.isAgg383
 z146:=Tryz.sizeOf383
 v146:=Tryz.zeroValue383
 g1:=by kernel_rfl }
open Go.RowKit Go.Lib in
theorem Tryz.strings_Contains_one (s:ByteArray) (c:UInt8) (w:World) :
 Calls Tryz.prog 168 #[.string s,.string ⟨#[c]⟩] w fun e w'=>e = .returned (.bool (decide (0 ≤ Lib.indexByte s.data.toList c))) ∧ w' = w:=Any.strings_Contains_one Tryz.lays144 s c w
def Tryz.lays145_ren:Go.Shelf.Ren:=⟨fun | 145=>306 | 220=>357 | 219=>303 | 217=>302 | 225=>349 | 224=>350 | 267=>351 | 266=>348 | 314=>379 | n=>n,fun | 9=>9 | 4=>4 | 59=>321 | 3=>3 | 5=>5 | 46=>360 | 146=>383 | 51=>357 | n=>n,fun | 1=>1 | n=>n⟩
theorem Tryz.lays145:Go.Proofs.Lays.n145 Tryz.prog Tryz.lays145_ren:={
 mixed:=by kernel_rfl
 f145:=Tryz.func306.trans (congrArg some (by kernel_rfl))
 f217:=Tryz.func302.trans (congrArg some (by kernel_rfl))
 f219:=Tryz.func303.trans (congrArg some (by kernel_rfl))
 f220:=Tryz.func357.trans (congrArg some (by kernel_rfl))
 f224:=Tryz.func350.trans (congrArg some (by kernel_rfl))
 f225:=Tryz.func349.trans (congrArg some (by kernel_rfl))
 f266:=Tryz.func348.trans (congrArg some (by kernel_rfl))
 f267:=Tryz.func351.trans (congrArg some (by kernel_rfl))
 f314:=Tryz.func379.trans (congrArg some (by kernel_rfl))
 t3:=Tryz.underlying3
 a3:=Tryz.isAgg3
 z3:=Tryz.sizeOf3
 v3:=Tryz.zeroValue3
 t4:=Tryz.underlying4
 a4:=Tryz.isAgg4
 z4:=Tryz.sizeOf4
 v4:=Tryz.zeroValue4
 t5:=Tryz.underlying5
 a5:=Tryz.isAgg5
 z5:=Tryz.sizeOf5
 v5:=Tryz.zeroValue5
 t9:=Tryz.underlying9
 a9:=Tryz.isAgg9
 z9:=Tryz.sizeOf9
 v9:=Tryz.zeroValue9
 t46:=Tryz.underlying360
 a46:=Tryz.isAgg360
 z46:=Tryz.sizeOf360
 v46:=Tryz.zeroValue360
 t51:=Tryz.underlying357
 a51:=Tryz.isAgg357
 z51:=Tryz.sizeOf357
 v51:=Tryz.zeroValue357
 t59:=Tryz.underlying321
 a59:=Tryz.isAgg321
 z59:=Tryz.sizeOf321
 v59:=Tryz.zeroValue321
 t146:=Tryz.underlying383
 a146:=Tryz.isAgg383
 z146:=Tryz.sizeOf383
 v146:=Tryz.zeroValue383
 g1:=by kernel_rfl }
open Go.RowKit Go.Lib in
theorem Tryz.strings_Cut (s sep:ByteArray) (m:Int) (w:World) (hs:s.size < 4294967281) (hm:w.cell? ⟨1,0,none⟩ = some (.int .i64 m)) :
 Calls Tryz.prog 306 #[.string s,.string sep] w fun e w'=>e = .returned (.tuple #[.string ⟨(Lib.cut s.data.toList sep.data.toList).1.toArray⟩,.string ⟨(Lib.cut s.data.toList sep.data.toList).2.1.toArray⟩,.bool (Lib.cut s.data.toList sep.data.toList).2.2]) ∧ ∃ n,w' = w.drewN n:=Any.strings_Cut Tryz.lays145 s sep m w hs hm
def Tryz.lays99_ren:Go.Shelf.Ren:=⟨fun | 99=>305 | 206=>356 | n=>n,fun | 9=>9 | 4=>4 | 3=>3 | n=>n,fun | n=>n⟩
theorem Tryz.lays99:Go.Proofs.Lays.n99 Tryz.prog Tryz.lays99_ren:={
 mixed:=by kernel_rfl
 f99:=Tryz.func305.trans (congrArg some (by kernel_rfl))
 f206:=Tryz.func356.trans (congrArg some (by kernel_rfl))
 t3:=Tryz.underlying3
 a3:=Tryz.isAgg3
 z3:=Tryz.sizeOf3
 v3:=Tryz.zeroValue3
 t4:=Tryz.underlying4
 a4:=Tryz.isAgg4
 z4:=Tryz.sizeOf4
 v4:=Tryz.zeroValue4
 t9:=Tryz.underlying9
 a9:=Tryz.isAgg9
 z9:=Tryz.sizeOf9
 v9:=Tryz.zeroValue9 }
open Go.RowKit Go.Lib in
theorem Tryz.strings_HasPrefix (s p:ByteArray) (w:World) :
 Calls Tryz.prog 305 #[.string s,.string p] w fun e w'=>e = .returned (.bool (Lib.hasPrefix s.data.toList p.data.toList)) ∧ w' = w:=Any.strings_HasPrefix Tryz.lays99 s p w
end Go.Proofs
