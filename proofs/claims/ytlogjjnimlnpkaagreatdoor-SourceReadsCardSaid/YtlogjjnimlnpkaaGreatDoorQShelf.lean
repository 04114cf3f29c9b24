/-
  The library's contracts at this translation, in plain words, out of the kit's tool: those that are used.
-/
import Derived.Shelf.Strings.Builder1
import Derived.Shelf.Strings.Trim
import Derived.Shelf.Small.Utf8
import Derived.Shelf.Small.Strs
import Derived.Shelf.Strings.BuilderF
import Derived.Shelf.Strings.BuilderK
import Derived.Shelf.Strconv.Atoi
import Derived.Shelf.Strconv.Itoa0
import Derived.Shelf.Strconv.Itoa1
import Derived.Shelf.LaysM
import Derived.Shelf.Strconv.Itoa2
import Derived.Shelf.Strconv.Itoa3
import Derived.Shelf.Strconv.AtoiErrFast
import Derived.Shelf.Strconv.ParseIntEmpty
import Derived.Shelf.Strconv.AtoiFail
import Derived.Shelf.Strconv.Clone
import Derived.Shelf.Strconv.SyntaxError
import Derived.Shelf.LaysC
import Derived.Shelf.Strconv.ToError
import Derived.Shelf.Strconv.Lower
import Derived.Shelf.Strconv.ParseUint10
import Derived.Shelf.Strconv.ParseUint10Empty
import Derived.Shelf.Strconv.ParseUint10Any
import Derived.Shelf.Strconv.ParseInt10
import Derived.Shelf.Strconv.AtoiLong
import Derived.Shelf.Strconv.AtoiInnerAll
import Derived.Shelf.Strconv.RangeError
import Derived.Shelf.Strconv.ToErrorRange
import Derived.Shelf.Strconv.AtoiAll
import Derived.Shelf.Strconv.ErrVarAll
import Derived.Shelf.Strings.Search1
import Derived.Shelf.Strings.Search2
import Derived.Shelf.Strings.Search3
import Derived.Shelf.Strings.Cut
import Derived.Shelf.Strings.Shaped
import Derived.Shelf.Strings.Prefix
import Derived.Shelf.Strings.Runes
import Derived.Shelf.Strings.AsciiSet
import Derived.Shelf.Unicode.DecodeSlow
import Derived.Shelf.Unicode.DecodeAny
import Derived.Test.YtlogjjnimlnpkaaGreatDoorProg

namespace Go.Proofs
open Go.Shelf
def Tryz.lays161_ren : Go.Shelf.Ren := ⟨fun | 161 => 147 | 231 => 187 | 227 => 188 | 233 => 189 | 235 => 190 | 228 => 233 | 197 => 234 | 151 => 235 | 260 => 256 | 152 => 257 | 137 => 155 | 119 => 277 | 224 => 259 | 225 => 258 | 217 => 195 | 266 => 242 | n => n, fun | 9 => 9 | 4 => 4 | 3 => 3 | 5 => 5 | 117 => 216 | 116 => 215 | 0 => 0 | 124 => 219 | 105 => 248 | 21 => 21 | 119 => 293 | 46 => 277 | 139 => 296 | 138 => 295 | n => n, fun | 3 => 4 | 4 => 5 | n => n⟩
theorem Tryz.lays161 : Go.Proofs.Lays.n161 Tryz.prog Tryz.lays161_ren := {
  mixed := by kernel_rfl
  f119 := Tryz.func277.trans (congrArg some (by kernel_rfl))
  f137 := Tryz.func155.trans (congrArg some (by kernel_rfl))
  f151 := Tryz.func235.trans (congrArg some (by kernel_rfl))
  f152 := Tryz.func257.trans (congrArg some (by kernel_rfl))
  f161 := Tryz.func147.trans (congrArg some (by kernel_rfl))
  f197 := Tryz.func234.trans (congrArg some (by kernel_rfl))
  f217 := Tryz.func195.trans (congrArg some (by kernel_rfl))
  f224 := Tryz.func259.trans (congrArg some (by kernel_rfl))
  f225 := Tryz.func258.trans (congrArg some (by kernel_rfl))
  f227 := Tryz.func188.trans (congrArg some (by kernel_rfl))
  f228 := Tryz.func233.trans (congrArg some (by kernel_rfl))
  f231 := Tryz.func187.trans (congrArg some (by kernel_rfl))
  f233 := Tryz.func189.trans (congrArg some (by kernel_rfl))
  f235 := Tryz.func190.trans (congrArg some (by kernel_rfl))
  f260 := Tryz.func256.trans (congrArg some (by kernel_rfl))
  f266 := Tryz.func242.trans (congrArg some (by kernel_rfl))
  t0 := Tryz.underlying0
  a0 := Tryz.isAgg0
  z0 := Tryz.sizeOf0
  v0 := Tryz.zeroValue0
  t3 := Tryz.underlying3
  a3 := Tryz.isAgg3
  z3 := Tryz.sizeOf3
  v3 := Tryz.zeroValue3
  t4 := Tryz.underlying4
  a4 := Tryz.isAgg4
  z4 := Tryz.sizeOf4
  v4 := Tryz.zeroValue4
  t5 := Tryz.underlying5
  a5 := Tryz.isAgg5
  z5 := Tryz.sizeOf5
  v5 := Tryz.zeroValue5
  t9 := Tryz.underlying9
  a9 := Tryz.isAgg9
  z9 := Tryz.sizeOf9
  v9 := Tryz.zeroValue9
  t21 := Tryz.underlying21
  a21 := Tryz.isAgg21
  z21 := Tryz.sizeOf21
  v21 := Tryz.zeroValue21
  t46 := Tryz.underlying277
  a46 := Tryz.isAgg277
  z46 := Tryz.sizeOf277
  v46 := Tryz.zeroValue277
  t105 := Tryz.underlying248
  a105 := Tryz.isAgg248
  z105 := Tryz.sizeOf248
  v105 := Tryz.zeroValue248
  t116 := Tryz.underlying215
  a116 := Tryz.isAgg215
  z116 := Tryz.sizeOf215
  t117 := Tryz.underlying216
  a117 := Tryz.isAgg216
  z117 := Tryz.sizeOf216
  v117 := Tryz.zeroValue216
  t119 := Tryz.underlying293
  a119 := Tryz.isAgg293
  z119 := Tryz.sizeOf293
  t124 := Tryz.underlying219
  a124 := Tryz.isAgg219
  z124 := Tryz.sizeOf219
  v124 := Tryz.zeroValue219
  t138 := Tryz.underlying295
  a138 := Tryz.isAgg295
  z138 := Tryz.sizeOf295
  v138 := Tryz.zeroValue295
  t139 := Tryz.underlying296
  a139 := Tryz.isAgg296
  z139 := Tryz.sizeOf296
  v139 := Tryz.zeroValue296
  g3 := by kernel_rfl
  g4 := by kernel_rfl }
open Go.RowKit in
def Tryz.lays137_ren : Go.Shelf.Ren := ⟨fun | 137 => 155 | 217 => 195 | 266 => 242 | n => n, fun | 9 => 9 | 5 => 5 | 3 => 3 | n => n, fun | n => n⟩
theorem Tryz.lays137 : Go.Proofs.Lays.n137 Tryz.prog Tryz.lays137_ren := {
  mixed := by kernel_rfl
  f137 := Tryz.func155.trans (congrArg some (by kernel_rfl))
  f217 := Tryz.func195.trans (congrArg some (by kernel_rfl))
  f266 := Tryz.func242.trans (congrArg some (by kernel_rfl))
  t3 := Tryz.underlying3
  a3 := Tryz.isAgg3
  z3 := Tryz.sizeOf3
  v3 := Tryz.zeroValue3
  t5 := Tryz.underlying5
  a5 := Tryz.isAgg5
  z5 := Tryz.sizeOf5
  v5 := Tryz.zeroValue5
  t9 := Tryz.underlying9
  a9 := Tryz.isAgg9
  z9 := Tryz.sizeOf9
  v9 := Tryz.zeroValue9 }
open Go.RowKit in
theorem Tryz.strings_IndexByte (s : ByteArray) (c : Int) (w : World) :
    Calls Tryz.prog 155 #[.string s, .int .u8 c] w fun e w' => e = .returned (.int .i64 (Lib.indexByte s.data.toList c.toNat.toUInt8)) ∧ w' = w := Any.strings_IndexByte Tryz.lays137 s c w
open Go.RowKit Go.Sort Go.Lib in
def Tryz.laysC172_ren : Go.Shelf.Ren := ⟨fun | 172 => 152 | 244 => 193 | 245 => 194 | 247 => 237 | 279 => 238 | 280 => 239 | 281 => 240 | 282 => 241 | 287 => 261 | 316 => 262 | 171 => 95 | 205 => 263 | 321 => 279 | 322 => 280 | 243 => 156 | 246 => 196 | 283 => 243 | 284 => 244 | 285 => 245 | 286 => 246 | 129 => 265 | 317 => 264 | 318 => 266 | 319 => 267 | 320 => 268 | 337 => 281 | 338 => 282 | n => n, fun | 9 => 9 | 3 => 3 | 75 => 177 | 76 => 178 | 4 => 4 | 5 => 5 | 167 => 251 | 37 => 134 | 0 => 0 | 85 => 252 | 2 => 2 | 168 => 254 | 53 => 258 | 175 => 278 | 46 => 277 | 210 => 282 | 127 => 222 | 145 => 303 | 143 => 301 | 21 => 21 | 171 => 257 | 173 => 261 | 212 => 285 | 51 => 286 | 20 => 20 | 213 => 287 | 232 => 307 | 233 => 308 | 80 => 185 | n => n, fun | 15 => 1 | 16 => 2 | 17 => 3 | 18 => 6 | 19 => 7 | n => n⟩
theorem Tryz.laysC172 : Go.Proofs.LaysC.n172 Tryz.prog Tryz.laysC172_ren := {
  mixed := by kernel_rfl
  f129 := Tryz.func265.trans (congrArg some (by kernel_rfl))
  f171 := Tryz.func95.trans (congrArg some (by kernel_rfl))
  f172 := Tryz.func152.trans (congrArg some (by kernel_rfl))
  f205 := Tryz.func263.trans (congrArg some (by kernel_rfl))
  f243 := Tryz.func156.trans (congrArg some (by kernel_rfl))
  f244 := Tryz.func193.trans (congrArg some (by kernel_rfl))
  f245 := Tryz.func194.trans (congrArg some (by kernel_rfl))
  f246 := Tryz.func196.trans (congrArg some (by kernel_rfl))
  f247 := Tryz.func237.trans (congrArg some (by kernel_rfl))
  f279 := Tryz.func238.trans (congrArg some (by kernel_rfl))
  f280 := Tryz.func239.trans (congrArg some (by kernel_rfl))
  f281 := Tryz.func240.trans (congrArg some (by kernel_rfl))
  f282 := Tryz.func241.trans (congrArg some (by kernel_rfl))
  f283 := Tryz.func243.trans (congrArg some (by kernel_rfl))
  f284 := Tryz.func244.trans (congrArg some (by kernel_rfl))
  f285 := Tryz.func245.trans (congrArg some (by kernel_rfl))
  f286 := Tryz.func246.trans (congrArg some (by kernel_rfl))
  f287 := Tryz.func261.trans (congrArg some (by kernel_rfl))
  f316 := Tryz.func262.trans (congrArg some (by kernel_rfl))
  f317 := Tryz.func264.trans (congrArg some (by kernel_rfl))
  f318 := Tryz.func266.trans (congrArg some (by kernel_rfl))
  f319 := Tryz.func267.trans (congrArg some (by kernel_rfl))
  f320 := Tryz.func268.trans (congrArg some (by kernel_rfl))
  f321 := Tryz.func279.trans (congrArg some (by kernel_rfl))
  f322 := Tryz.func280.trans (congrArg some (by kernel_rfl))
  f337 := Tryz.func281.trans (congrArg some (by kernel_rfl))
  f338 := Tryz.func282.trans (congrArg some (by kernel_rfl))
  t0 := Tryz.underlying0
  a0 := Tryz.isAgg0
  z0 := Tryz.sizeOf0
  v0 := Tryz.zeroValue0
  t2 := Tryz.underlying2
  a2 := Tryz.isAgg2
  z2 := Tryz.sizeOf2
  v2 := Tryz.zeroValue2
  t3 := Tryz.underlying3
  a3 := Tryz.isAgg3
  z3 := Tryz.sizeOf3
  v3 := Tryz.zeroValue3
  t4 := Tryz.underlying4
  a4 := Tryz.isAgg4
  z4 := Tryz.sizeOf4
  v4 := Tryz.zeroValue4
  t5 := Tryz.underlying5
  a5 := Tryz.isAgg5
  z5 := Tryz.sizeOf5
  v5 := Tryz.zeroValue5
  t9 := Tryz.underlying9
  a9 := Tryz.isAgg9
  z9 := Tryz.sizeOf9
  v9 := Tryz.zeroValue9
  t20 := Tryz.underlying20
  a20 := Tryz.isAgg20
  z20 := Tryz.sizeOf20
  v20 := Tryz.zeroValue20
  t21 := Tryz.underlying21
  a21 := Tryz.isAgg21
  z21 := Tryz.sizeOf21
  v21 := Tryz.zeroValue21
  t37 := Tryz.underlying134
  a37 := Tryz.isAgg134
  z37 := Tryz.sizeOf134
  v37 := Tryz.zeroValue134
  t46 := Tryz.underlying277
  a46 := Tryz.isAgg277
  z46 := Tryz.sizeOf277
  v46 := Tryz.zeroValue277
  t51 := Tryz.underlying286
  a51 := Tryz.isAgg286
  z51 := Tryz.sizeOf286
  v51 := Tryz.zeroValue286
  t53 := Tryz.underlying258
  a53 := Tryz.isAgg258
  z53 := Tryz.sizeOf258
  v53 := Tryz.zeroValue258
  t75 := Tryz.underlying177
  a75 := Tryz.isAgg177
  z75 := Tryz.sizeOf177
  v75 := Tryz.zeroValue177
  t76 := Tryz.underlying178
  a76 := Tryz.isAgg178
  z76 := Tryz.sizeOf178
  v76 := Tryz.zeroValue178
  t85 := Tryz.underlying252
  a85 := Tryz.isAgg252
  z85 := Tryz.sizeOf252
  v85 := Tryz.zeroValue252
  t127 := Tryz.underlying222
  a127 := Tryz.isAgg222
  z127 := Tryz.sizeOf222
  v127 := Tryz.zeroValue222
  t143 := Tryz.underlying301
  a143 := Tryz.isAgg301
  z143 := Tryz.sizeOf301
  v143 := Tryz.zeroValue301
  t145 := Tryz.underlying303
  a145 := Tryz.isAgg303
  z145 := Tryz.sizeOf303
  v145 := Tryz.zeroValue303
  t167 := Tryz.underlying251
  a167 := Tryz.isAgg251
  z167 := Tryz.sizeOf251
  v167 := Tryz.zeroValue251
  t168 := Tryz.underlying254
  a168 := Tryz.isAgg254
  z168 := Tryz.sizeOf254
  v168 := Tryz.zeroValue254
  t171 := Tryz.underlying257
  a171 := Tryz.isAgg257
  z171 := Tryz.sizeOf257
  v171 := Tryz.zeroValue257
  t173 := Tryz.underlying261
  a173 := Tryz.isAgg261
  z173 := Tryz.sizeOf261
  v173 := Tryz.zeroValue261
  t175 := Tryz.underlying278
  a175 := Tryz.isAgg278
  z175 := Tryz.sizeOf278
  v175 := Tryz.zeroValue278
  t210 := Tryz.underlying282
  a210 := Tryz.isAgg282
  z210 := Tryz.sizeOf282
  v210 := Tryz.zeroValue282
  t212 := Tryz.underlying285
  a212 := Tryz.isAgg285
  z212 := Tryz.sizeOf285
  v212 := Tryz.zeroValue285
  t213 := Tryz.underlying287
  a213 := Tryz.isAgg287
  z213 := Tryz.sizeOf287
  t232 := Tryz.underlying307
  a232 := Tryz.isAgg307
  z232 := Tryz.sizeOf307
  v232 := Tryz.zeroValue307
  t233 := Tryz.underlying308
  a233 := Tryz.isAgg308
  z233 := Tryz.sizeOf308
  v233 := Tryz.zeroValue308
  g15 := by kernel_rfl
  g16 := by kernel_rfl
  g17 := by kernel_rfl
  g18 := by kernel_rfl
  g19 := by kernel_rfl
  t80 := Tryz.underlying185
  a80 := Tryz.isAgg185
  z80 := Tryz.sizeOf185
  v80 := Tryz.zeroValue185
  i0 := by kernel_rfl
  i2 := by kernel_rfl
  i3 := by kernel_rfl
  i4 := by kernel_rfl
  i5 := by kernel_rfl
  i9 := by kernel_rfl
  i20 := by kernel_rfl
  i21 := by kernel_rfl
  i37 := by kernel_rfl
  i46 := by kernel_rfl
  i51 := by kernel_rfl
  i53 := by kernel_rfl
  i75 := by kernel_rfl
  i76 := by kernel_rfl
  i80 := by kernel_rfl
  i85 := by kernel_rfl
  i127 := by kernel_rfl
  i143 := by kernel_rfl
  i145 := by kernel_rfl
  i167 := by kernel_rfl
  i168 := by kernel_rfl
  i171 := by kernel_rfl
  i173 := by kernel_rfl
  i175 := by kernel_rfl
  i210 := by kernel_rfl
  i212 := by kernel_rfl
  i232 := by kernel_rfl
  i233 := by kernel_rfl
  m15 := by kernel_rfl
  m16 := by kernel_rfl
  m17 := by kernel_rfl
  m18 := by kernel_rfl
  m19 := by kernel_rfl
  c0 := by kernel_rfl
  c2 := by kernel_rfl
  c3 := by kernel_rfl
  c4 := by kernel_rfl
  c5 := by kernel_rfl
  c9 := by kernel_rfl
  c20 := by kernel_rfl
  c21 := by kernel_rfl
  c37 := by kernel_rfl
  c46 := by kernel_rfl
  c51 := by kernel_rfl
  c53 := by kernel_rfl
  c75 := by kernel_rfl
  c76 := by kernel_rfl
  c80 := by kernel_rfl
  c85 := by kernel_rfl
  c127 := by kernel_rfl
  c143 := by kernel_rfl
  c145 := by kernel_rfl
  c167 := by kernel_rfl
  c168 := by kernel_rfl
  c171 := by kernel_rfl
  c173 := by kernel_rfl
  c175 := by kernel_rfl
  c210 := by kernel_rfl
  c212 := by kernel_rfl
  c213 := by kernel_rfl
  c232 := by kernel_rfl
  c233 := by kernel_rfl }
open Go.RowKit in
theorem Tryz.strconv_Atoi_ok (s : ByteArray) (hmax : s.size ≤ 9223372036854775806) (v : Int) (h : Lib.atoiAll s.data.toList = .ok v) (w : World) :
    Calls Tryz.prog 152 #[.string s] w fun e w' => e = .returned (.tuple #[.int .i64 v, .nilIface]) ∧ (w' = w ∨ ∃ t, w' = Lib.bytesWorld w 5 t) := Any.strconv_Atoi_ok Tryz.laysC172 s hmax v h w
open Go.RowKit in
theorem Tryz.strconv_Atoi_range_var (s : ByteArray) (hlim : s.size ≤ 281474976710656) (h : Lib.atoiAll s.data.toList = .range) (tp : TypeId) (p : Value) (w : World) (hvar : w.var? Tryz.prog "strconv.ErrRange" = some #[.iface tp p]) :
    Calls Tryz.prog 152 #[.string s] w fun e w' => ∃ N, e = .returned (.tuple #[.int .i64 (Lib.atoiSat s.data.toList), .iface 254 (.pointer (some ⟨N, 0, none⟩))]) ∧ w.heap.size ≤ N ∧ w'.heap[N]? = some (.cells #[.string ⟨#[65, 116, 111, 105]⟩, .string s, .iface tp p] 282 (0, 0)) ∧ Below w.heap.size w w' := Any.strconv_Atoi_range_var Tryz.laysC172 s hlim h tp p w hvar
def Tryz.lays144_ren : Go.Shelf.Ren := ⟨fun | 144 => 180 | 143 => 232 | 219 => 236 | 217 => 195 | 225 => 258 | 224 => 259 | 267 => 260 | 266 => 242 | 314 => 278 | n => n, fun | 9 => 9 | 4 => 4 | 3 => 3 | 5 => 5 | 46 => 277 | 146 => 298 | 51 => 286 | n => n, fun | 1 => 0 | n => n⟩
theorem Tryz.lays144 : Go.Proofs.Lays.n144 Tryz.prog Tryz.lays144_ren := {
  mixed := by kernel_rfl
  f143 := Tryz.func232.trans (congrArg some (by kernel_rfl))
  f144 := Tryz.func180.trans (congrArg some (by kernel_rfl))
  f217 := Tryz.func195.trans (congrArg some (by kernel_rfl))
  f219 := Tryz.func236.trans (congrArg some (by kernel_rfl))
  f224 := Tryz.func259.trans (congrArg some (by kernel_rfl))
  f225 := Tryz.func258.trans (congrArg some (by kernel_rfl))
  f266 := Tryz.func242.trans (congrArg some (by kernel_rfl))
  f267 := Tryz.func260.trans (congrArg some (by kernel_rfl))
  f314 := Tryz.func278.trans (congrArg some (by kernel_rfl))
  t3 := Tryz.underlying3
  a3 := Tryz.isAgg3
  z3 := Tryz.sizeOf3
  v3 := Tryz.zeroValue3
  t4 := Tryz.underlying4
  a4 := Tryz.isAgg4
  z4 := Tryz.sizeOf4
  v4 := Tryz.zeroValue4
  t5 := Tryz.underlying5
  a5 := Tryz.isAgg5
  z5 := Tryz.sizeOf5
  v5 := Tryz.zeroValue5
  t9 := Tryz.underlying9
  a9 := Tryz.isAgg9
  z9 := Tryz.sizeOf9
  v9 := Tryz.zeroValue9
  t46 := Tryz.underlying277
  a46 := Tryz.isAgg277
  z46 := Tryz.sizeOf277
  v46 := Tryz.zeroValue277
  t51 := Tryz.underlying286
  a51 := Tryz.isAgg286
  z51 := Tryz.sizeOf286
  v51 := Tryz.zeroValue286
  t146 := Tryz.underlying298
  a146 := Tryz.isAgg298
  z146 := Tryz.sizeOf298
  v146 := Tryz.zeroValue298
  g1 := by kernel_rfl }
open Go.RowKit Go.Lib in
theorem Tryz.strings_Contains_one (s : ByteArray) (c : UInt8) (w : World) :
    Calls Tryz.prog 180 #[.string s, .string ⟨#[c]⟩] w fun e w' => e = .returned (.bool (decide (0 ≤ Lib.indexByte s.data.toList c))) ∧ w' = w := Any.strings_Contains_one Tryz.lays144 s c w
def Tryz.lays145_ren : Go.Shelf.Ren := ⟨fun | 145 => 149 | 220 => 192 | 219 => 236 | 217 => 195 | 225 => 258 | 224 => 259 | 267 => 260 | 266 => 242 | 314 => 278 | n => n, fun | 9 => 9 | 4 => 4 | 59 => 173 | 3 => 3 | 5 => 5 | 46 => 277 | 146 => 298 | 51 => 286 | n => n, fun | 1 => 0 | n => n⟩
theorem Tryz.lays145 : Go.Proofs.Lays.n145 Tryz.prog Tryz.lays145_ren := {
  mixed := by kernel_rfl
  f145 := Tryz.func149.trans (congrArg some (by kernel_rfl))
  f217 := Tryz.func195.trans (congrArg some (by kernel_rfl))
  f219 := Tryz.func236.trans (congrArg some (by kernel_rfl))
  f220 := Tryz.func192.trans (congrArg some (by kernel_rfl))
  f224 := Tryz.func259.trans (congrArg some (by kernel_rfl))
  f225 := Tryz.func258.trans (congrArg some (by kernel_rfl))
  f266 := Tryz.func242.trans (congrArg some (by kernel_rfl))
  f267 := Tryz.func260.trans (congrArg some (by kernel_rfl))
  f314 := Tryz.func278.trans (congrArg some (by kernel_rfl))
  t3 := Tryz.underlying3
  a3 := Tryz.isAgg3
  z3 := Tryz.sizeOf3
  v3 := Tryz.zeroValue3
  t4 := Tryz.underlying4
  a4 := Tryz.isAgg4
  z4 := Tryz.sizeOf4
  v4 := Tryz.zeroValue4
  t5 := Tryz.underlying5
  a5 := Tryz.isAgg5
  z5 := Tryz.sizeOf5
  v5 := Tryz.zeroValue5
  t9 := Tryz.underlying9
  a9 := Tryz.isAgg9
  z9 := Tryz.sizeOf9
  v9 := Tryz.zeroValue9
  t46 := Tryz.underlying277
  a46 := Tryz.isAgg277
  z46 := Tryz.sizeOf277
  v46 := Tryz.zeroValue277
  t51 := Tryz.underlying286
  a51 := Tryz.isAgg286
  z51 := Tryz.sizeOf286
  v51 := Tryz.zeroValue286
  t59 := Tryz.underlying173
  a59 := Tryz.isAgg173
  z59 := Tryz.sizeOf173
  v59 := Tryz.zeroValue173
  t146 := Tryz.underlying298
  a146 := Tryz.isAgg298
  z146 := Tryz.sizeOf298
  v146 := Tryz.zeroValue298
  g1 := by kernel_rfl }
open Go.RowKit Go.Lib in
theorem Tryz.strings_Cut (s sep : ByteArray) (m : Int) (w : World) (hs : s.size < 4294967281) (hm : w.cell? ⟨0, 0, none⟩ = some (.int .i64 m)) :
    Calls Tryz.prog 149 #[.string s, .string sep] w fun e w' => e = .returned (.tuple #[.string ⟨(Lib.cut s.data.toList sep.data.toList).1.toArray⟩, .string ⟨(Lib.cut s.data.toList sep.data.toList).2.1.toArray⟩, .bool (Lib.cut s.data.toList sep.data.toList).2.2]) ∧ ∃ n, w' = w.drewN n := Any.strings_Cut Tryz.lays145 s sep m w hs hm
def Tryz.lays99_ren : Go.Shelf.Ren := ⟨fun | 99 => 148 | 206 => 191 | n => n, fun | 9 => 9 | 4 => 4 | 3 => 3 | n => n, fun | n => n⟩
theorem Tryz.lays99 : Go.Proofs.Lays.n99 Tryz.prog Tryz.lays99_ren := {
  mixed := by kernel_rfl
  f99 := Tryz.func148.trans (congrArg some (by kernel_rfl))
  f206 := Tryz.func191.trans (congrArg some (by kernel_rfl))
  t3 := Tryz.underlying3
  a3 := Tryz.isAgg3
  z3 := Tryz.sizeOf3
  v3 := Tryz.zeroValue3
  t4 := Tryz.underlying4
  a4 := Tryz.isAgg4
  z4 := Tryz.sizeOf4
  v4 := Tryz.zeroValue4
  t9 := Tryz.underlying9
  a9 := Tryz.isAgg9
  z9 := Tryz.sizeOf9
  v9 := Tryz.zeroValue9 }
open Go.RowKit Go.Lib in
theorem Tryz.strings_HasPrefix (s p : ByteArray) (w : World) :
    Calls Tryz.prog 148 #[.string s, .string p] w fun e w' => e = .returned (.bool (Lib.hasPrefix s.data.toList p.data.toList)) ∧ w' = w := Any.strings_HasPrefix Tryz.lays99 s p w
end Go.Proofs
