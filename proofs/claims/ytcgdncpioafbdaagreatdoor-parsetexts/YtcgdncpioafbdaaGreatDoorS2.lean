/- Lemmas for the law: Lib Cut Leaf Pparse Qeq0 Qref16D Qref16 Pref17D Pref17 Pd Plaw17D. -/
import Derived.Test.YtcgdncpioafbdaaGreatDoorRows
import Derived.Test.YtcgdncpioafbdaaGreatDoorTie
import Derived.Test.YtcgdncpioafbdaaGreatDoorCards
import Derived.Test.YtcgdncpioafbdaaGreatDoorS1
import Derived.Shelf.Strings.OnBuilder
import Derived.Shelf.Strings.SlTrimAscii
import Derived.Shelf.Strings.Prefix
import Derived.Shelf.Strings.Cut
import Derived.Shelf.Strings.Replace
import Derived.Shelf.Small.Strs
import Derived.Shelf.Strconv.Itoa4
import Derived.Shelf.Strconv.ErrVarParseInt
import Derived.Test.YtcgdncpioafbdaaGreatDoorProg
import Derived.WalkKit
import Derived.WalkSpells
import Derived.WalkSmall
import Derived.Lib.OthersKept
import Derived.Laws.RangeAny
import Derived.LoopTactic
import Derived.Outline
import Derived.Lib.Hide
import Derived.Lib.Strings
import Derived.Lib.IndexBytes
import Derived.Lib.ReplaceLaws
import Derived.Lib.SlTrimSet
import Derived.Lib.AppendIntMem
set_option linter.unusedVariables false
set_option linter.unusedSimpArgs false
namespace Go.Proofs
open Go.Shelf
def Tryz.lays170_ren:Go.Shelf.Ren:=⟨fun | 170 => 125 | n => n,fun | 70 => 167 | 3 => 3 | 0 => 0 | 72 => 169 | 37 => 36 | 5 => 5 | n => n,fun | n => n⟩
theorem Tryz.lays170:Go.Proofs.Lays.n170 Tryz.prog Tryz.lays170_ren:={
 mixed:=by kernel_rfl
 f170:=Tryz.func125.trans (congrArg some (by kernel_rfl))
 t0:=Tryz.underlying0
 a0:=Tryz.isAgg0
 z0:=Tryz.sizeOf0
 v0:=Tryz.zeroValue0
 t3:=Tryz.underlying3
 a3:=Tryz.isAgg3
 z3:=Tryz.sizeOf3
 v3:=Tryz.zeroValue3
 t37:=Tryz.underlying36
 a37:=Tryz.isAgg36
 z37:=Tryz.sizeOf36
 v37:=Tryz.zeroValue36
 t70:=Tryz.underlying167
 a70:=Tryz.isAgg167
 z70:=Tryz.sizeOf167
 v70:=Tryz.zeroValue167
 t72:=Tryz.underlying169
 a72:=Tryz.isAgg169
 z72:=Tryz.sizeOf169
 v72:=Tryz.zeroValue169 }
open Go.RowKit in
theorem Tryz.Builder_Len (B b:Nat) (bs:List Value) (w:World) (h:Lib.IsBuilder 169 5 B b bs w) :
  Calls Tryz.prog 125 #[.pointer (some ⟨b,0,none⟩)] w fun e w' => e = .returned (.int .i64 bs.length)∧w'=w:=Any.Builder_Len Tryz.lays170 B b bs w h
def Tryz.lays169_ren:Go.Shelf.Ren:=⟨fun | 169 => 126 | n => n,fun | 70 => 167 | 9 => 9 | 0 => 0 | 72 => 169 | 37 => 36 | 127 => 260 | 3 => 3 | 5 => 5 | n => n,fun | n => n⟩
theorem Tryz.lays169:Go.Proofs.Lays.n169 Tryz.prog Tryz.lays169_ren:={
 mixed:=by kernel_rfl
 f169:=Tryz.func126.trans (congrArg some (by kernel_rfl))
 t0:=Tryz.underlying0
 a0:=Tryz.isAgg0
 z0:=Tryz.sizeOf0
 v0:=Tryz.zeroValue0
 t3:=Tryz.underlying3
 a3:=Tryz.isAgg3
 z3:=Tryz.sizeOf3
 v3:=Tryz.zeroValue3
 t9:=Tryz.underlying9
 a9:=Tryz.isAgg9
 z9:=Tryz.sizeOf9
 v9:=Tryz.zeroValue9
 t37:=Tryz.underlying36
 a37:=Tryz.isAgg36
 z37:=Tryz.sizeOf36
 v37:=Tryz.zeroValue36
 t70:=Tryz.underlying167
 a70:=Tryz.isAgg167
 z70:=Tryz.sizeOf167
 v70:=Tryz.zeroValue167
 t72:=Tryz.underlying169
 a72:=Tryz.isAgg169
 z72:=Tryz.sizeOf169
 v72:=Tryz.zeroValue169
 t127:=Tryz.underlying260
 a127:=Tryz.isAgg260
 z127:=Tryz.sizeOf260
 v127:=Tryz.zeroValue260 }
theorem Tryz.Builder_Extra_169:Builder.Extra Tryz.prog Tryz.lays169_ren:={
 sizeBuilder:=by kernel_rfl
 liesBuilder:=by kernel_rfl
 t5:=Tryz.underlying5
 a5:=Tryz.isAgg5
 z5:=Tryz.sizeOf5
 v5:=Tryz.zeroValue5
 infoByte:=by kernel_rfl
 cellsByte:=by kernel_rfl
 sizeByte:=by kernel_rfl
 neB5:=by decide }
open Go.RowKit in
theorem Tryz.Builder_String_any (B b:Nat) (l:List UInt8) (w:World) (h:Lib.IsBuilder 169 5 B b (Lib.byteCells l) w) (hBw:B ≤ w.heap.size) :
  Calls Tryz.prog 126 #[.pointer (some ⟨b,0,none⟩)] w fun e w' => e = .returned (.string ⟨l.toArray⟩)∧Below B w w':=Any.Builder_String_any Tryz.lays169 Tryz.Builder_Extra_169 B b l w h hBw
def Tryz.lays159_ren:Go.Shelf.Ren:=⟨fun | 159 => 122 | 165 => 130 | 166 => 131 | 167 => 127 | 169 => 126 | 230 => 204 | 204 => 205 | 240 => 210 | 241 => 218 | 197 => 217 | 118 => 280 | 168 => 281 | 270 => 282 | 262 => 283 | 276 => 289 | 277 => 297 | 260 => 296 | 242 => 338 | 313 => 339 | 278 => 362 | 274 => 363 | 275 => 364 | n => n,fun | 9 => 9 | 4 => 4 | 3 => 3 | 5 => 5 | 72 => 169 | 0 => 0 | 76 => 175 | 75 => 163 | 107 => 254 | 70 => 167 | 20 => 20 | 37 => 36 | 127 => 260 | 21 => 21 | 105 => 266 | 164 => 333 | 162 => 371 | 203 => 369 | 119 => 376 | 46 => 276 | 139 => 379 | 138 => 378 | 51 => 338 | 160 => 395 | 208 => 409 | 206 => 407 | 80 => 171 | n => n,fun | 13 => 3 | 3 => 5 | 4 => 6 | n => n⟩
theorem Tryz.lays159:Go.Proofs.Lays.n159 Tryz.prog Tryz.lays159_ren:={
 mixed:=by kernel_rfl
 f118:=Tryz.func280.trans (congrArg some (by kernel_rfl))
 f159:=Tryz.func122.trans (congrArg some (by kernel_rfl))
 f165:=Tryz.func130.trans (congrArg some (by kernel_rfl))
 f166:=Tryz.func131.trans (congrArg some (by kernel_rfl))
 f167:=Tryz.func127.trans (congrArg some (by kernel_rfl))
 f168:=Tryz.func281.trans (congrArg some (by kernel_rfl))
 f169:=Tryz.func126.trans (congrArg some (by kernel_rfl))
 f197:=Tryz.func217.trans (congrArg some (by kernel_rfl))
 f204:=Tryz.func205.trans (congrArg some (by kernel_rfl))
 f230:=Tryz.func204.trans (congrArg some (by kernel_rfl))
 f240:=Tryz.func210.trans (congrArg some (by kernel_rfl))
 f241:=Tryz.func218.trans (congrArg some (by kernel_rfl))
 f242:=Tryz.func338.trans (congrArg some (by kernel_rfl))
 f260:=Tryz.func296.trans (congrArg some (by kernel_rfl))
 f262:=Tryz.func283.trans (congrArg some (by kernel_rfl))
 f270:=Tryz.func282.trans (congrArg some (by kernel_rfl))
 f274:=Tryz.func363.trans (congrArg some (by kernel_rfl))
 f275:=Tryz.func364.trans (congrArg some (by kernel_rfl))
 f276:=Tryz.func289.trans (congrArg some (by kernel_rfl))
 f277:=Tryz.func297.trans (congrArg some (by kernel_rfl))
 f278:=Tryz.func362.trans (congrArg some (by kernel_rfl))
 f313:=Tryz.func339.trans (congrArg some (by kernel_rfl))
 t0:=Tryz.underlying0
 a0:=Tryz.isAgg0
 z0:=Tryz.sizeOf0
 v0:=Tryz.zeroValue0
 t3:=Tryz.underlying3
 a3:=Tryz.isAgg3
 z3:=Tryz.sizeOf3
 v3:=Tryz.zeroValue3
 t4:=Tryz.underlying4
 a4:=Tryz.isAgg4
 z4:=Tryz.sizeOf4
 v4:=Tryz.zeroValue4
 t5:=Tryz.underlying5
 a5:=Tryz.isAgg5
 z5:=Tryz.sizeOf5
 v5:=Tryz.zeroValue5
 t9:=Tryz.underlying9
 a9:=Tryz.isAgg9
 z9:=Tryz.sizeOf9
 v9:=Tryz.zeroValue9
 t20:=Tryz.underlying20
 a20:=Tryz.isAgg20
 z20:=Tryz.sizeOf20
 v20:=Tryz.zeroValue20
 t21:=Tryz.underlying21
 a21:=Tryz.isAgg21
 z21:=Tryz.sizeOf21
 v21:=Tryz.zeroValue21
 t37:=Tryz.underlying36
 a37:=Tryz.isAgg36
 z37:=Tryz.sizeOf36
 v37:=Tryz.zeroValue36
 t46:=Tryz.underlying276
 a46:=Tryz.isAgg276
 z46:=Tryz.sizeOf276
 v46:=Tryz.zeroValue276
 t51:=Tryz.underlying338
 a51:=Tryz.isAgg338
 z51:=Tryz.sizeOf338
 v51:=Tryz.zeroValue338
 t70:=Tryz.underlying167
 a70:=Tryz.isAgg167
 z70:=Tryz.sizeOf167
 v70:=Tryz.zeroValue167
 t72:=Tryz.underlying169
 a72:=Tryz.isAgg169
 z72:=Tryz.sizeOf169
 v72:=Tryz.zeroValue169
 t75:=Tryz.underlying163
 a75:=Tryz.isAgg163
 z75:=Tryz.sizeOf163
 v75:=Tryz.zeroValue163
 t76:=Tryz.underlying175
 a76:=Tryz.isAgg175
 z76:=Tryz.sizeOf175
 v76:=Tryz.zeroValue175
 t105:=Tryz.underlying266
 a105:=Tryz.isAgg266
 z105:=Tryz.sizeOf266
 v105:=Tryz.zeroValue266
 t107:=Tryz.underlying254
 a107:=Tryz.isAgg254
 z107:=Tryz.sizeOf254
 v107:=Tryz.zeroValue254
 t119:=Tryz.underlying376
 a119:=Tryz.isAgg376
 z119:=Tryz.sizeOf376
 t127:=Tryz.underlying260
 a127:=Tryz.isAgg260
 z127:=Tryz.sizeOf260
 v127:=Tryz.zeroValue260
 t138:=Tryz.underlying378
 a138:=Tryz.isAgg378
 z138:=Tryz.sizeOf378
 v138:=Tryz.zeroValue378
 t139:=Tryz.underlying379
 a139:=Tryz.isAgg379
 z139:=Tryz.sizeOf379
 v139:=Tryz.zeroValue379
 t160:=Tryz.underlying395
 a160:=Tryz.isAgg395
 z160:=Tryz.sizeOf395
 v160:=Tryz.zeroValue395
 t162:=Tryz.underlying371
 a162:=Tryz.isAgg371
 z162:=Tryz.sizeOf371
 v162:=Tryz.zeroValue371
 t164:=Tryz.underlying333
 a164:=Tryz.isAgg333
 z164:=Tryz.sizeOf333
 v164:=Tryz.zeroValue333
 t203:=Tryz.underlying369
 a203:=Tryz.isAgg369
 z203:=Tryz.sizeOf369
 v203:=Tryz.zeroValue369
 t206:=Tryz.underlying407
 a206:=Tryz.isAgg407
 z206:=Tryz.sizeOf407
 v206:=Tryz.zeroValue407
 t208:=Tryz.underlying409
 a208:=Tryz.isAgg409
 z208:=Tryz.sizeOf409
 v208:=Tryz.zeroValue409
 g3:=by kernel_rfl
 g4:=by kernel_rfl
 g13:=by kernel_rfl }
theorem Tryz.Builder_Extra_159:Builder.Extra Tryz.prog Tryz.lays159_ren:={
 sizeBuilder:=by kernel_rfl
 liesBuilder:=by kernel_rfl
 t5:=Tryz.underlying5
 a5:=Tryz.isAgg5
 z5:=Tryz.sizeOf5
 v5:=Tryz.zeroValue5
 infoByte:=by kernel_rfl
 cellsByte:=by kernel_rfl
 sizeByte:=by kernel_rfl
 neB5:=by decide }
open Go.RowKit in
theorem Tryz.strings_ToLower_ascii (s:ByteArray) (w:World) (hs:s.size ≤ 140737488355328) (hascii:∀ (j:Nat) (b:UInt8),s.data.toList[j]? = some b → b.toNat < 128) :
  Calls Tryz.prog 122 #[.string s] w fun e w' => e = .returned (.string ⟨(Lib.toLowerA s.data.toList).toArray⟩)∧Below w.heap.size w w':=Any.strings_ToLower_ascii Tryz.lays159 Tryz.Builder_Extra_159 s w hs hascii
def Tryz.lays161_ren:Go.Shelf.Ren:=⟨fun | 161 => 117 | 231 => 196 | 227 => 197 | 233 => 198 | 235 => 199 | 228 => 276 | 197 => 217 | 151 => 277 | 260 => 296 | 152 => 334 | 137 => 120 | 119 => 360 | 224 => 336 | 225 => 335 | 217 => 202 | 266 => 279 | n => n,fun | 9 => 9 | 4 => 4 | 3 => 3 | 5 => 5 | 117 => 249 | 116 => 248 | 0 => 0 | 124 => 252 | 105 => 266 | 21 => 21 | 119 => 376 | 46 => 276 | 139 => 379 | 138 => 378 | n => n,fun | 3 => 5 | 4 => 6 | n => n⟩
theorem Tryz.lays161:Go.Proofs.Lays.n161 Tryz.prog Tryz.lays161_ren:={
 mixed:=by kernel_rfl
 f119:=Tryz.func360.trans (congrArg some (by kernel_rfl))
 f137:=Tryz.func120.trans (congrArg some (by kernel_rfl))
 f151:=Tryz.func277.trans (congrArg some (by kernel_rfl))
 f152:=Tryz.func334.trans (congrArg some (by kernel_rfl))
 f161:=Tryz.func117.trans (congrArg some (by kernel_rfl))
 f197:=Tryz.func217.trans (congrArg some (by kernel_rfl))
 f217:=Tryz.func202.trans (congrArg some (by kernel_rfl))
 f224:=Tryz.func336.trans (congrArg some (by kernel_rfl))
 f225:=Tryz.func335.trans (congrArg some (by kernel_rfl))
 f227:=Tryz.func197.trans (congrArg some (by kernel_rfl))
 f228:=Tryz.func276.trans (congrArg some (by kernel_rfl))
 f231:=Tryz.func196.trans (congrArg some (by kernel_rfl))
 f233:=Tryz.func198.trans (congrArg some (by kernel_rfl))
 f235:=Tryz.func199.trans (congrArg some (by kernel_rfl))
 f260:=Tryz.func296.trans (congrArg some (by kernel_rfl))
 f266:=Tryz.func279.trans (congrArg some (by kernel_rfl))
 t0:=Tryz.underlying0
 a0:=Tryz.isAgg0
 z0:=Tryz.sizeOf0
 v0:=Tryz.zeroValue0
 t3:=Tryz.underlying3
 a3:=Tryz.isAgg3
 z3:=Tryz.sizeOf3
 v3:=Tryz.zeroValue3
 t4:=Tryz.underlying4
 a4:=Tryz.isAgg4
 z4:=Tryz.sizeOf4
 v4:=Tryz.zeroValue4
 t5:=Tryz.underlying5
 a5:=Tryz.isAgg5
 z5:=Tryz.sizeOf5
 v5:=Tryz.zeroValue5
 t9:=Tryz.underlying9
 a9:=Tryz.isAgg9
 z9:=Tryz.sizeOf9
 v9:=Tryz.zeroValue9
 t21:=Tryz.underlying21
 a21:=Tryz.isAgg21
 z21:=Tryz.sizeOf21
 v21:=Tryz.zeroValue21
 t46:=Tryz.underlying276
 a46:=Tryz.isAgg276
 z46:=Tryz.sizeOf276
 v46:=Tryz.zeroValue276
 t105:=Tryz.underlying266
 a105:=Tryz.isAgg266
 z105:=Tryz.sizeOf266
 v105:=Tryz.zeroValue266
 t116:=Tryz.underlying248
 a116:=Tryz.isAgg248
 z116:=Tryz.sizeOf248
 t117:=Tryz.underlying249
 a117:=Tryz.isAgg249
 z117:=Tryz.sizeOf249
 v117:=Tryz.zeroValue249
 t119:=Tryz.underlying376
 a119:=Tryz.isAgg376
 z119:=Tryz.sizeOf376
 t124:=Tryz.underlying252
 a124:=Tryz.isAgg252
 z124:=Tryz.sizeOf252
 v124:=Tryz.zeroValue252
 t138:=Tryz.underlying378
 a138:=Tryz.isAgg378
 z138:=Tryz.sizeOf378
 v138:=Tryz.zeroValue378
 t139:=Tryz.underlying379
 a139:=Tryz.isAgg379
 z139:=Tryz.sizeOf379
 v139:=Tryz.zeroValue379
 g3:=by kernel_rfl
 g4:=by kernel_rfl }
def Tryz.lays137_ren:Go.Shelf.Ren:=⟨fun | 137 => 120 | 217 => 202 | 266 => 279 | n => n,fun | 9 => 9 | 5 => 5 | 3 => 3 | n => n,fun | n => n⟩
theorem Tryz.lays137:Go.Proofs.Lays.n137 Tryz.prog Tryz.lays137_ren:={
 mixed:=by kernel_rfl
 f137:=Tryz.func120.trans (congrArg some (by kernel_rfl))
 f217:=Tryz.func202.trans (congrArg some (by kernel_rfl))
 f266:=Tryz.func279.trans (congrArg some (by kernel_rfl))
 t3:=Tryz.underlying3
 a3:=Tryz.isAgg3
 z3:=Tryz.sizeOf3
 v3:=Tryz.zeroValue3
 t5:=Tryz.underlying5
 a5:=Tryz.isAgg5
 z5:=Tryz.sizeOf5
 v5:=Tryz.zeroValue5
 t9:=Tryz.underlying9
 a9:=Tryz.isAgg9
 z9:=Tryz.sizeOf9
 v9:=Tryz.zeroValue9 }
open Go.RowKit in
theorem Tryz.strings_IndexByte (s:ByteArray) (c:Int) (w:World) :
  Calls Tryz.prog 120 #[.string s,.int .u8 c] w fun e w' => e = .returned (.int .i64 (Lib.indexByte s.data.toList c.toNat.toUInt8))∧w'=w:=Any.strings_IndexByte Tryz.lays137 s c w
def Tryz.laysC174_ren:Go.Shelf.Ren:=⟨fun | 174 => 123 | 247 => 206 | 245 => 207 | 287 => 284 | 279 => 285 | 280 => 286 | 281 => 287 | 282 => 288 | 321 => 340 | 322 => 341 | 316 => 342 | 171 => 344 | 205 => 343 | 243 => 365 | 246 => 128 | 283 => 211 | 284 => 212 | 285 => 213 | 286 => 214 | 129 => 256 | 317 => 290 | 318 => 291 | 319 => 292 | 320 => 293 | 337 => 345 | 338 => 346 | n => n,fun | 9 => 9 | 3 => 3 | 2 => 2 | 75 => 163 | 85 => 164 | 4 => 4 | 167 => 316 | 5 => 5 | 53 => 105 | 175 => 317 | 46 => 276 | 168 => 319 | 37 => 36 | 0 => 0 | 210 => 374 | 21 => 21 | 127 => 260 | 145 => 400 | 143 => 398 | 171 => 261 | 173 => 264 | 212 => 337 | 51 => 338 | 20 => 20 | 213 => 339 | 232 => 401 | 233 => 402 | 80 => 171 | n => n,fun | 15 => 4 | 16 => 0 | 17 => 1 | 18 => 7 | 19 => 8 | n => n⟩
theorem Tryz.laysC174:Go.Proofs.LaysC.n174 Tryz.prog Tryz.laysC174_ren:={
 mixed:=by kernel_rfl
 f129:=Tryz.func256.trans (congrArg some (by kernel_rfl))
 f171:=Tryz.func344.trans (congrArg some (by kernel_rfl))
 f174:=Tryz.func123.trans (congrArg some (by kernel_rfl))
 f205:=Tryz.func343.trans (congrArg some (by kernel_rfl))
 f243:=Tryz.func365.trans (congrArg some (by kernel_rfl))
 f245:=Tryz.func207.trans (congrArg some (by kernel_rfl))
 f246:=Tryz.func128.trans (congrArg some (by kernel_rfl))
 f247:=Tryz.func206.trans (congrArg some (by kernel_rfl))
 f279:=Tryz.func285.trans (congrArg some (by kernel_rfl))
 f280:=Tryz.func286.trans (congrArg some (by kernel_rfl))
 f281:=Tryz.func287.trans (congrArg some (by kernel_rfl))
 f282:=Tryz.func288.trans (congrArg some (by kernel_rfl))
 f283:=Tryz.func211.trans (congrArg some (by kernel_rfl))
 f284:=Tryz.func212.trans (congrArg some (by kernel_rfl))
 f285:=Tryz.func213.trans (congrArg some (by kernel_rfl))
 f286:=Tryz.func214.trans (congrArg some (by kernel_rfl))
 f287:=Tryz.func284.trans (congrArg some (by kernel_rfl))
 f316:=Tryz.func342.trans (congrArg some (by kernel_rfl))
 f317:=Tryz.func290.trans (congrArg some (by kernel_rfl))
 f318:=Tryz.func291.trans (congrArg some (by kernel_rfl))
 f319:=Tryz.func292.trans (congrArg some (by kernel_rfl))
 f320:=Tryz.func293.trans (congrArg some (by kernel_rfl))
 f321:=Tryz.func340.trans (congrArg some (by kernel_rfl))
 f322:=Tryz.func341.trans (congrArg some (by kernel_rfl))
 f337:=Tryz.func345.trans (congrArg some (by kernel_rfl))
 f338:=Tryz.func346.trans (congrArg some (by kernel_rfl))
 t0:=Tryz.underlying0
 a0:=Tryz.isAgg0
 z0:=Tryz.sizeOf0
 v0:=Tryz.zeroValue0
 t2:=Tryz.underlying2
 a2:=Tryz.isAgg2
 z2:=Tryz.sizeOf2
 v2:=Tryz.zeroValue2
 t3:=Tryz.underlying3
 a3:=Tryz.isAgg3
 z3:=Tryz.sizeOf3
 v3:=Tryz.zeroValue3
 t4:=Tryz.underlying4
 a4:=Tryz.isAgg4
 z4:=Tryz.sizeOf4
 v4:=Tryz.zeroValue4
 t5:=Tryz.underlying5
 a5:=Tryz.isAgg5
 z5:=Tryz.sizeOf5
 v5:=Tryz.zeroValue5
 t9:=Tryz.underlying9
 a9:=Tryz.isAgg9
 z9:=Tryz.sizeOf9
 v9:=Tryz.zeroValue9
 t20:=Tryz.underlying20
 a20:=Tryz.isAgg20
 z20:=Tryz.sizeOf20
 v20:=Tryz.zeroValue20
 t21:=Tryz.underlying21
 a21:=Tryz.isAgg21
 z21:=Tryz.sizeOf21
 v21:=Tryz.zeroValue21
 t37:=Tryz.underlying36
 a37:=Tryz.isAgg36
 z37:=Tryz.sizeOf36
 v37:=Tryz.zeroValue36
 t46:=Tryz.underlying276
 a46:=Tryz.isAgg276
 z46:=Tryz.sizeOf276
 v46:=Tryz.zeroValue276
 t51:=Tryz.underlying338
 a51:=Tryz.isAgg338
 z51:=Tryz.sizeOf338
 v51:=Tryz.zeroValue338
 t53:=Tryz.underlying105
 a53:=Tryz.isAgg105
 z53:=Tryz.sizeOf105
 v53:=Tryz.zeroValue105
 t75:=Tryz.underlying163
 a75:=Tryz.isAgg163
 z75:=Tryz.sizeOf163
 v75:=Tryz.zeroValue163
 t85:=Tryz.underlying164
 a85:=Tryz.isAgg164
 z85:=Tryz.sizeOf164
 v85:=Tryz.zeroValue164
 t127:=Tryz.underlying260
 a127:=Tryz.isAgg260
 z127:=Tryz.sizeOf260
 v127:=Tryz.zeroValue260
 t143:=Tryz.underlying398
 a143:=Tryz.isAgg398
 z143:=Tryz.sizeOf398
 v143:=Tryz.zeroValue398
 t145:=Tryz.underlying400
 a145:=Tryz.isAgg400
 z145:=Tryz.sizeOf400
 v145:=Tryz.zeroValue400
 t167:=Tryz.underlying316
 a167:=Tryz.isAgg316
 z167:=Tryz.sizeOf316
 v167:=Tryz.zeroValue316
 t168:=Tryz.underlying319
 a168:=Tryz.isAgg319
 z168:=Tryz.sizeOf319
 v168:=Tryz.zeroValue319
 t171:=Tryz.underlying261
 a171:=Tryz.isAgg261
 z171:=Tryz.sizeOf261
 v171:=Tryz.zeroValue261
 t173:=Tryz.underlying264
 a173:=Tryz.isAgg264
 z173:=Tryz.sizeOf264
 v173:=Tryz.zeroValue264
 t175:=Tryz.underlying317
 a175:=Tryz.isAgg317
 z175:=Tryz.sizeOf317
 v175:=Tryz.zeroValue317
 t210:=Tryz.underlying374
 a210:=Tryz.isAgg374
 z210:=Tryz.sizeOf374
 v210:=Tryz.zeroValue374
 t212:=Tryz.underlying337
 a212:=Tryz.isAgg337
 z212:=Tryz.sizeOf337
 v212:=Tryz.zeroValue337
 t213:=Tryz.underlying339
 a213:=Tryz.isAgg339
 z213:=Tryz.sizeOf339
 t232:=Tryz.underlying401
 a232:=Tryz.isAgg401
 z232:=Tryz.sizeOf401
 v232:=Tryz.zeroValue401
 t233:=Tryz.underlying402
 a233:=Tryz.isAgg402
 z233:=Tryz.sizeOf402
 v233:=Tryz.zeroValue402
 g15:=by kernel_rfl
 g16:=by kernel_rfl
 g17:=by kernel_rfl
 g18:=by kernel_rfl
 g19:=by kernel_rfl
 t80:=Tryz.underlying171
 a80:=Tryz.isAgg171
 z80:=Tryz.sizeOf171
 v80:=Tryz.zeroValue171
 i0:=by kernel_rfl
 i2:=by kernel_rfl
 i3:=by kernel_rfl
 i4:=by kernel_rfl
 i5:=by kernel_rfl
 i9:=by kernel_rfl
 i20:=by kernel_rfl
 i21:=by kernel_rfl
 i37:=by kernel_rfl
 i46:=by kernel_rfl
 i51:=by kernel_rfl
 i53:=by kernel_rfl
 i75:=by kernel_rfl
 i80:=by kernel_rfl
 i85:=by kernel_rfl
 i127:=by kernel_rfl
 i143:=by kernel_rfl
 i145:=by kernel_rfl
 i167:=by kernel_rfl
 i168:=by kernel_rfl
 i171:=by kernel_rfl
 i173:=by kernel_rfl
 i175:=by kernel_rfl
 i210:=by kernel_rfl
 i212:=by kernel_rfl
 i232:=by kernel_rfl
 i233:=by kernel_rfl
 m15:=by kernel_rfl
 m16:=by kernel_rfl
 m17:=by kernel_rfl
 m18:=by kernel_rfl
 m19:=by kernel_rfl
 c0:=by kernel_rfl
 c2:=by kernel_rfl
 c3:=by kernel_rfl
 c4:=by kernel_rfl
 c5:=by kernel_rfl
 c9:=by kernel_rfl
 c20:=by kernel_rfl
 c21:=by kernel_rfl
 c37:=by kernel_rfl
 c46:=by kernel_rfl
 c51:=by kernel_rfl
 c53:=by kernel_rfl
 c75:=by kernel_rfl
 c80:=by kernel_rfl
 c85:=by kernel_rfl
 c127:=by kernel_rfl
 c143:=by kernel_rfl
 c145:=by kernel_rfl
 c167:=by kernel_rfl
 c168:=by kernel_rfl
 c171:=by kernel_rfl
 c173:=by kernel_rfl
 c175:=by kernel_rfl
 c210:=by kernel_rfl
 c212:=by kernel_rfl
 c213:=by kernel_rfl
 c232:=by kernel_rfl
 c233:=by kernel_rfl }
open Go.RowKit in
theorem Tryz.strconv_ParseInt_10_at64_ok (s:ByteArray) (hmax:s.size ≤ 9223372036854775806) (v:Int) (h:Lib.parseIntB 64 s.data.toList = .ok v) (w:World) :
  Calls Tryz.prog 123 #[.string s,.int .i64 10,.int .i64 64] w fun e w' => e = .returned (.tuple #[.int .i64 v,.nilIface])∧(w'=w ∨ ∃ t,w'=Lib.bytesWorld w 5 t):=Any.strconv_ParseInt_10_at64_ok Tryz.laysC174 s hmax v h w
open Go.RowKit in
theorem Tryz.strconv_ParseInt_10_at64_range_var (s : ByteArray) (hlim : s.size ≤ 281474976710656) (h : Lib.parseIntB 64 s.data.toList = .range) (tp : TypeId) (p : Value) (w : World) (hvar : w.var? Tryz.prog "strconv.ErrRange" = some #[.iface tp p]) :
  Calls Tryz.prog 123 #[.string s,.int .i64 10,.int .i64 64] w fun e w' => ∃ N,e = .returned (.tuple #[.int .i64 (Lib.intSat 64 s.data.toList),.iface 319 (.pointer (some ⟨N,0,none⟩))])∧w.heap.size ≤ N∧w'.heap[N]? = some (.cells #[.string ⟨#[80,97,114,115,101,73,110,116]⟩,.string s,.iface tp p] 374 (0,0))∧Below w.heap.size w w':=Any.strconv_ParseInt_10_at64_range_var Tryz.laysC174 s hlim h tp p w hvar
def Tryz.lays145_ren:Go.Shelf.Ren:=⟨fun | 145 => 119 | 220 => 201 | 219 => 278 | 217 => 202 | 225 => 335 | 224 => 336 | 267 => 337 | 266 => 279 | 314 => 361 | n => n,fun | 9 => 9 | 4 => 4 | 59 => 158 | 3 => 3 | 5 => 5 | 46 => 276 | 146 => 393 | 51 => 338 | n => n,fun | 1 => 2 | n => n⟩
theorem Tryz.lays145:Go.Proofs.Lays.n145 Tryz.prog Tryz.lays145_ren:={
 mixed:=by kernel_rfl
 f145:=Tryz.func119.trans (congrArg some (by kernel_rfl))
 f217:=Tryz.func202.trans (congrArg some (by kernel_rfl))
 f219:=Tryz.func278.trans (congrArg some (by kernel_rfl))
 f220:=Tryz.func201.trans (congrArg some (by kernel_rfl))
 f224:=Tryz.func336.trans (congrArg some (by kernel_rfl))
 f225:=Tryz.func335.trans (congrArg some (by kernel_rfl))
 f266:=Tryz.func279.trans (congrArg some (by kernel_rfl))
 f267:=Tryz.func337.trans (congrArg some (by kernel_rfl))
 f314:=Tryz.func361.trans (congrArg some (by kernel_rfl))
 t3:=Tryz.underlying3
 a3:=Tryz.isAgg3
 z3:=Tryz.sizeOf3
 v3:=Tryz.zeroValue3
 t4:=Tryz.underlying4
 a4:=Tryz.isAgg4
 z4:=Tryz.sizeOf4
 v4:=Tryz.zeroValue4
 t5:=Tryz.underlying5
 a5:=Tryz.isAgg5
 z5:=Tryz.sizeOf5
 v5:=Tryz.zeroValue5
 t9:=Tryz.underlying9
 a9:=Tryz.isAgg9
 z9:=Tryz.sizeOf9
 v9:=Tryz.zeroValue9
 t46:=Tryz.underlying276
 a46:=Tryz.isAgg276
 z46:=Tryz.sizeOf276
 v46:=Tryz.zeroValue276
 t51:=Tryz.underlying338
 a51:=Tryz.isAgg338
 z51:=Tryz.sizeOf338
 v51:=Tryz.zeroValue338
 t59:=Tryz.underlying158
 a59:=Tryz.isAgg158
 z59:=Tryz.sizeOf158
 v59:=Tryz.zeroValue158
 t146:=Tryz.underlying393
 a146:=Tryz.isAgg393
 z146:=Tryz.sizeOf393
 v146:=Tryz.zeroValue393
 g1:=by kernel_rfl }
open Go.RowKit Go.Lib in
theorem Tryz.strings_Cut (s sep:ByteArray) (m:Int) (w:World) (hs:s.size < 4294967281) (hm:w.cell? ⟨2,0,none⟩=some (.int .i64 m)) :
  Calls Tryz.prog 119 #[.string s,.string sep] w fun e w' => e = .returned (.tuple #[.string ⟨(Lib.cut s.data.toList sep.data.toList).1.toArray⟩,.string ⟨(Lib.cut s.data.toList sep.data.toList).2.1.toArray⟩,.bool (Lib.cut s.data.toList sep.data.toList).2.2])∧∃ n,w'=w.drewN n:=Any.strings_Cut Tryz.lays145 s sep m w hs hm
def Tryz.lays99_ren:Go.Shelf.Ren:=⟨fun | 99 => 118 | 206 => 200 | n => n,fun | 9 => 9 | 4 => 4 | 3 => 3 | n => n,fun | n => n⟩
theorem Tryz.lays99:Go.Proofs.Lays.n99 Tryz.prog Tryz.lays99_ren:={
 mixed:=by kernel_rfl
 f99:=Tryz.func118.trans (congrArg some (by kernel_rfl))
 f206:=Tryz.func200.trans (congrArg some (by kernel_rfl))
 t3:=Tryz.underlying3
 a3:=Tryz.isAgg3
 z3:=Tryz.sizeOf3
 v3:=Tryz.zeroValue3
 t4:=Tryz.underlying4
 a4:=Tryz.isAgg4
 z4:=Tryz.sizeOf4
 v4:=Tryz.zeroValue4
 t9:=Tryz.underlying9
 a9:=Tryz.isAgg9
 z9:=Tryz.sizeOf9
 v9:=Tryz.zeroValue9 }
open Go.RowKit Go.Lib in
theorem Tryz.strings_HasPrefix (s p:ByteArray) (w:World) :
  Calls Tryz.prog 118 #[.string s,.string p] w fun e w' => e = .returned (.bool (Lib.hasPrefix s.data.toList p.data.toList))∧w'=w:=Any.strings_HasPrefix Tryz.lays99 s p w
def Tryz.lays155_ren:Go.Shelf.Ren:=⟨fun | 155 => 65 | 154 => 129 | 138 => 215 | 165 => 130 | 143 => 216 | 166 => 131 | 197 => 217 | 169 => 126 | 195 => 294 | 218 => 295 | 240 => 210 | 241 => 218 | 219 => 278 | 260 => 296 | 276 => 289 | 277 => 297 | 217 => 202 | 225 => 335 | 224 => 336 | 267 => 337 | 266 => 279 | 314 => 361 | n => n,fun | 9 => 9 | 3 => 3 | 4 => 4 | 72 => 169 | 0 => 0 | 76 => 175 | 105 => 266 | 21 => 21 | 5 => 5 | 70 => 167 | 20 => 20 | 37 => 36 | 75 => 163 | 127 => 260 | 164 => 333 | 46 => 276 | 119 => 376 | 139 => 379 | 138 => 378 | 146 => 393 | 51 => 338 | 80 => 171 | n => n,fun | 1 => 2 | 3 => 5 | 4 => 6 | n => n⟩
theorem Tryz.lays155:Go.Proofs.Lays.n155 Tryz.prog Tryz.lays155_ren:={
 mixed:=by kernel_rfl
 f138:=Tryz.func215.trans (congrArg some (by kernel_rfl))
 f143:=Tryz.func216.trans (congrArg some (by kernel_rfl))
 f154:=Tryz.func129.trans (congrArg some (by kernel_rfl))
 f155:=Tryz.func65.trans (congrArg some (by kernel_rfl))
 f165:=Tryz.func130.trans (congrArg some (by kernel_rfl))
 f166:=Tryz.func131.trans (congrArg some (by kernel_rfl))
 f169:=Tryz.func126.trans (congrArg some (by kernel_rfl))
 f195:=Tryz.func294.trans (congrArg some (by kernel_rfl))
 f197:=Tryz.func217.trans (congrArg some (by kernel_rfl))
 f217:=Tryz.func202.trans (congrArg some (by kernel_rfl))
 f218:=Tryz.func295.trans (congrArg some (by kernel_rfl))
 f219:=Tryz.func278.trans (congrArg some (by kernel_rfl))
 f224:=Tryz.func336.trans (congrArg some (by kernel_rfl))
 f225:=Tryz.func335.trans (congrArg some (by kernel_rfl))
 f240:=Tryz.func210.trans (congrArg some (by kernel_rfl))
 f241:=Tryz.func218.trans (congrArg some (by kernel_rfl))
 f260:=Tryz.func296.trans (congrArg some (by kernel_rfl))
 f266:=Tryz.func279.trans (congrArg some (by kernel_rfl))
 f267:=Tryz.func337.trans (congrArg some (by kernel_rfl))
 f276:=Tryz.func289.trans (congrArg some (by kernel_rfl))
 f277:=Tryz.func297.trans (congrArg some (by kernel_rfl))
 f314:=Tryz.func361.trans (congrArg some (by kernel_rfl))
 t0:=Tryz.underlying0
 a0:=Tryz.isAgg0
 z0:=Tryz.sizeOf0
 v0:=Tryz.zeroValue0
 t3:=Tryz.underlying3
 a3:=Tryz.isAgg3
 z3:=Tryz.sizeOf3
 v3:=Tryz.zeroValue3
 t4:=Tryz.underlying4
 a4:=Tryz.isAgg4
 z4:=Tryz.sizeOf4
 v4:=Tryz.zeroValue4
 t5:=Tryz.underlying5
 a5:=Tryz.isAgg5
 z5:=Tryz.sizeOf5
 v5:=Tryz.zeroValue5
 t9:=Tryz.underlying9
 a9:=Tryz.isAgg9
 z9:=Tryz.sizeOf9
 v9:=Tryz.zeroValue9
 t20:=Tryz.underlying20
 a20:=Tryz.isAgg20
 z20:=Tryz.sizeOf20
 v20:=Tryz.zeroValue20
 t21:=Tryz.underlying21
 a21:=Tryz.isAgg21
 z21:=Tryz.sizeOf21
 v21:=Tryz.zeroValue21
 t37:=Tryz.underlying36
 a37:=Tryz.isAgg36
 z37:=Tryz.sizeOf36
 v37:=Tryz.zeroValue36
 t46:=Tryz.underlying276
 a46:=Tryz.isAgg276
 z46:=Tryz.sizeOf276
 v46:=Tryz.zeroValue276
 t51:=Tryz.underlying338
 a51:=Tryz.isAgg338
 z51:=Tryz.sizeOf338
 v51:=Tryz.zeroValue338
 t70:=Tryz.underlying167
 a70:=Tryz.isAgg167
 z70:=Tryz.sizeOf167
 v70:=Tryz.zeroValue167
 t72:=Tryz.underlying169
 a72:=Tryz.isAgg169
 z72:=Tryz.sizeOf169
 v72:=Tryz.zeroValue169
 t75:=Tryz.underlying163
 a75:=Tryz.isAgg163
 z75:=Tryz.sizeOf163
 v75:=Tryz.zeroValue163
 t76:=Tryz.underlying175
 a76:=Tryz.isAgg175
 z76:=Tryz.sizeOf175
 v76:=Tryz.zeroValue175
 t105:=Tryz.underlying266
 a105:=Tryz.isAgg266
 z105:=Tryz.sizeOf266
 v105:=Tryz.zeroValue266
 t119:=Tryz.underlying376
 a119:=Tryz.isAgg376
 z119:=Tryz.sizeOf376
 t127:=Tryz.underlying260
 a127:=Tryz.isAgg260
 z127:=Tryz.sizeOf260
 v127:=Tryz.zeroValue260
 t138:=Tryz.underlying378
 a138:=Tryz.isAgg378
 z138:=Tryz.sizeOf378
 v138:=Tryz.zeroValue378
 t139:=Tryz.underlying379
 a139:=Tryz.isAgg379
 z139:=Tryz.sizeOf379
 v139:=Tryz.zeroValue379
 t146:=Tryz.underlying393
 a146:=Tryz.isAgg393
 z146:=Tryz.sizeOf393
 v146:=Tryz.zeroValue393
 t164:=Tryz.underlying333
 a164:=Tryz.isAgg333
 z164:=Tryz.sizeOf333
 v164:=Tryz.zeroValue333
 g1:=by kernel_rfl
 g3:=by kernel_rfl
 g4:=by kernel_rfl }
theorem Tryz.Builder_Extra_155:Builder.Extra Tryz.prog Tryz.lays155_ren:={
 sizeBuilder:=by kernel_rfl
 liesBuilder:=by kernel_rfl
 t5:=Tryz.underlying5
 a5:=Tryz.isAgg5
 z5:=Tryz.sizeOf5
 v5:=Tryz.zeroValue5
 infoByte:=by kernel_rfl
 cellsByte:=by kernel_rfl
 sizeByte:=by kernel_rfl
 neB5:=by decide }
open Go.RowKit Go.Lib in
theorem Tryz.strings_ReplaceAll (s old new:ByteArray) (m:Int) (w:World) (hs:s.size < 4294967281) (hm:w.cell? ⟨2,0,none⟩=some (.int .i64 m)) (h1:1 ≤ old.size) (hlen:s.size + Lib.countB s old * new.size ≤ 140737488355328) :
  Calls Tryz.prog 65 #[.string s,.string old,.string new] w fun e w' =>
   e = .returned (.string ⟨(Lib.replaceAll s.data.toList old.data.toList new.data.toList).toArray⟩)∧Below w.heap.size w w':=Any.strings_ReplaceAll Tryz.lays155 Tryz.Builder_Extra_155 s old new m w hs hm h1 hlen
end Go.Proofs
namespace Go.Proofs.YtcgdncpioafbdaaGreatDoor.Q
open Go Go.RowKit
theorem width_pos (s:ByteArray) (pos:Nat) (h:pos < s.size):1 ≤ (Utf8.decode s pos).2:=by
 by_cases ha:(s[pos]'h).toNat < 128
 ·rw [decode_ascii s pos h ha]
  exact Nat.le_refl _
 ·exact (decode_high s pos h (by omega)).2
def anyTo (set:ByteArray) (p:Nat) (c:Int):Bool:=(set.data.toList.take p).any fun x => (x.toNat:Int) == c
theorem anyTo_zero (set:ByteArray) (c:Int):anyTo set 0 c=false:=by simp [anyTo]
theorem anyTo_succ (set:ByteArray) (p:Nat) (c:Int) (h:p < set.size):anyTo set (p + 1) c=(anyTo set p c || (c == ((set[p]'h).toNat:Int))):=by
 unfold anyTo
 rw [List.take_succ_eq_append_getElem (by simpa using h)]
 simp only [List.any_append,List.any_cons,List.any_nil,Bool.or_false]
 congr 1
 rw [Bool.eq_iff_iff]
 simp
 exact eq_comm
theorem anyTo_all (set:ByteArray) (c:Int):anyTo set set.size c=set.data.toList.any fun x => (x.toNat:Int) == c:=by
 unfold anyTo
 rw [List.take_of_length_le (by simp)]
def AsciiSet (set:ByteArray):Prop:=∀ (p:Nat) (h:p < set.size),(set[p]'h).toNat < 128
theorem asciiSet_of {set:ByteArray} (h:set.data.toList.all (fun x => x.toNat < 128)=true):AsciiSet set:=by
 intro p hp
 have:=List.all_eq_true.1 h (set[p]'hp) (by
  rw [List.mem_iff_getElem?]
  exact ⟨p,by simp [List.getElem?_eq_getElem (show p < set.data.toList.length by simpa using hp)];rfl⟩)
 simpa using this
def inTo (s set:ByteArray) (pos:Nat):Prop:=pos ≤ s.size∧∀ x ∈ s.data.toList.take pos,set.data.toList.contains x=true
theorem any_byte {s set:ByteArray} (hset:AsciiSet set) (pos:Nat) (h:pos < s.size) :
  (set.data.toList.any fun x => (x.toNat:Int) == ((Utf8.decode s pos).1:Int))=set.data.toList.contains (s[pos]'h):=by
 by_cases ha:(s[pos]'h).toNat < 128
 ·rw [decode_ascii s pos h ha]
  rw [Bool.eq_iff_iff]
  simp only [List.any_eq_true,List.contains_iff_mem,beq_iff_eq]
  constructor
  ·rintro ⟨x,hx,e⟩
   have:x=s[pos]:=UInt8.toNat_inj.1 (by omega)
   exact this ▸ hx
  ·intro hx
   exact ⟨_,hx,rfl⟩
 ·have hd:=(decode_high s pos h (by omega)).1
  have h1:(set.data.toList.any fun x => (x.toNat:Int) == ((Utf8.decode s pos).1:Int))=false:=by
   rw [List.any_eq_false]
   intro x hx
   obtain ⟨j,hj⟩:=List.mem_iff_getElem?.1 hx
   obtain ⟨hjl,hjx⟩:=List.getElem?_eq_some_iff.1 hj
   have:=hset j (by simpa using hjl)
   have e:set[j]'(by simpa using hjl)=x:=hjx
   rw [e] at this
   simp
   omega
  have h2:set.data.toList.contains (s[pos]'h)=false:=by
   rw [Bool.eq_false_iff]
   intro hx
   rw [List.contains_iff_mem] at hx
   obtain ⟨j,hj⟩:=List.mem_iff_getElem?.1 hx
   obtain ⟨hjl,hjx⟩:=List.getElem?_eq_some_iff.1 hj
   have:=hset j (by simpa using hjl)
   have e:set[j]'(by simpa using hjl)=s[pos]:=hjx
   rw [e] at this
   omega
  rw [h1,h2]
theorem in_ascii {s set:ByteArray} (hset:AsciiSet set) (pos:Nat) (h:pos < s.size) (hc:set.data.toList.contains (s[pos]'h)=true):(Utf8.decode s pos).2=1:=by
 have ha:(s[pos]'h).toNat < 128:=by
  rw [List.contains_iff_mem] at hc
  obtain ⟨j,hj⟩:=List.mem_iff_getElem?.1 hc
  obtain ⟨hjl,hjx⟩:=List.getElem?_eq_some_iff.1 hj
  have:=hset j (by simpa using hjl)
  have e:set[j]'(by simpa using hjl)=s[pos]:=hjx
  rw [e] at this
  exact this
 rw [decode_ascii s pos h ha]
theorem inTo_step {s set:ByteArray} {pos:Nat} (hi:inTo s set pos) (h:pos < s.size) (hc:set.data.toList.contains (s[pos]'h)=true):inTo s set (pos + 1):=by
 refine ⟨by omega,fun x hx => ?_⟩
 rw [List.take_succ_eq_append_getElem (by simpa using h)] at hx
 rcases List.mem_append.1 hx with hx | hx
 ·exact hi.2 x hx
 ·have e:x=s.data.toList[pos]'(by simpa using h):=List.mem_singleton.1 hx
  rw [e];exact hc
theorem dropWhile_at {α} (p:α → Bool) (l:List α) (n:Nat) (h:∀ x ∈ l.take n,p x=true) (h2:∀ (hn:n < l.length),p (l[n]'hn)=false):l.dropWhile p=l.drop n:=by
 induction l generalizing n with
 | nil => simp
 | cons c r ih =>
  cases n with
  | zero =>
   have:=h2 (by simp)
   simp at this
   simp [List.dropWhile,this]
  | succ n =>
   have hc:p c=true:=h c (by simp)
   simp only [List.dropWhile,hc,List.drop_succ_cons]
   exact ih n (fun x hx => h x (by simp [hx])) (fun hn => by have:=h2 (by simp;omega);simpa using this)
def cutSet (s set:ByteArray):ByteArray:=⟨(s.data.toList.dropWhile (set.data.toList.contains ·)).toArray⟩
theorem ba_ext {a b:ByteArray} (h:a.data.toList=b.data.toList):a=b:=by
 cases a;cases b;simp at h;simpa using h
theorem cutSet_at {s set:ByteArray} {pos:Nat} (hi:inTo s set pos) (h:pos < s.size) (hc:set.data.toList.contains (s[pos]'h)=false):cutSet s set=s.extract pos s.size:=by
 apply ba_ext
 rw [Lib.extract_to_end]
 unfold cutSet
 simp only
 rw [dropWhile_at _ _ pos hi.2 (fun hn => hc)]
theorem cutSet_end {s set:ByteArray} {pos:Nat} (hi:inTo s set pos) (h:¬ pos < s.size):cutSet s set=⟨#[]⟩:=by
 apply ba_ext
 unfold cutSet
 simp only
 rw [dropWhile_at _ _ pos hi.2 (fun hn => absurd (by simpa using hn) h)]
 simp
 have:=hi.1
 have e:s.data.size=s.size:=rfl
 omega
def CutRel (s set:ByteArray) (w wr:World):Prop:=∃ pos,wr.heap[w.heap.size]? = some (.stringIter s pos)∧Below w.heap.size w wr∧inTo s set pos
def CutEnd (s set:ByteArray) (w:World) (e:Ending) (w':World):Prop:=e = .returned (.string (cutSet s set))∧Below w.heap.size w w'
set_option maxHeartbeats 4000000 in
set_option maxRecDepth 1000000 in
theorem cut_walk (s set:ByteArray) (hs:s.size ≤ 9223372036854775807) (hset:AsciiSet set) (w:World) :
  Calls Tryz.prog 203 #[.string s,.string set] w (CutEnd s set w):=by
 go_enter Tryz.func203,Tryz.ntmps203
 go_wp2
 go_loopw [7] (fun _ wr => CutRel s set w wr) (fun _ wr => s.size - wr.iterPos w.heap.size)
 case atStart =>
  refine ⟨0,?_,(Below.refl _ w).alloc (Nat.le_refl _) _,Nat.zero_le _,by simp⟩
  exact World.iter_heap w s 0
 case round =>
  obtain ⟨pos,hit,hbw,hin⟩:=hrel
  by_cases hp:pos < s.size
  ·have hnx:∀ ty,(Instr.next (.pointer (some ⟨w.heap.size,0,none⟩)) true ty).run Tryz.prog wr=_:=fun ty => Lib.run_next_any_at wr w.heap.size s pos ty hit hp
   have hit2:=Lib.iterAt_heap wr w.heap.size s pos (pos + (Utf8.decode s pos).2) hit
   have hbw2:=Lib.below_iterAt hbw (k:=w.heap.size) (Nat.le_refl _) s (pos + (Utf8.decode s pos).2)
   have hsz2:w.heap.size < (wr.iterAt w.heap.size s (pos + (Utf8.decode s pos).2)).heap.size:=(Array.getElem?_eq_some_iff.1 hit2).1
   have hany:=Lib.hid (any_byte hset pos hp)
   have hwid:=Lib.hid (in_ascii hset pos hp)
   go_wp2
   have hpos:Hid (wr.iterPos w.heap.size=pos):=Lib.hid (by unfold World.iterPos;rw [hit])
   clear hnx hit hbw
   generalize (wr.iterAt w.heap.size s (pos + (Utf8.decode s pos).2))=wo at *
   generalize (Utf8.decode s pos).1=c at *
   go_loopw [7] (fun b w2 => ∃ p,p ≤ set.size∧w2=wo.iter set p∧b = .bool (anyTo set p c)) (fun _ w2 => set.size - w2.iterPos wo.heap.size)
   case atStart => exact ⟨0,Nat.zero_le _,rfl,by rw [anyTo_zero]⟩
   case round =>
    obtain ⟨p,hpl,rfl,rfl⟩:=hrel
    by_cases hps:p < set.size
    ·have ha:=hset p hps
     have hnx:∀ ty,(Instr.next (.pointer (some ⟨wo.heap.size,0,none⟩)) true ty).run Tryz.prog (wo.iter set p)=_:=fun ty => run_next_ascii wo set p ty hps ha
     have hst:=Lib.hid (anyTo_succ set p c hps)
     go_wp2
     all_goals go_roundw
     case rel => exact ⟨p + 1,by omega,rfl,by rw [hst.out];simp [*]⟩
     case measure => simp;omega
     case rel => exact ⟨p + 1,by omega,rfl,by rw [hst.out];simp [*]⟩
     case measure => simp;omega
    ·have hnx:∀ ty,(Instr.next (.pointer (some ⟨wo.heap.size,0,none⟩)) true ty).run Tryz.prog (wo.iter set p)=_:=fun ty => run_next_end wo set p ty hps
     obtain rfl:p=set.size:=by omega
     have hb3:Below w.heap.size w (wo.iter set set.size):=hbw2.alloc (Nat.le_of_lt hsz2) _
     have hit3:(wo.iter set set.size).heap[w.heap.size]? = some (.stringIter s (pos + (Utf8.decode s pos).2)):=(Lib.alloc_old wo _ w.heap.size hsz2).trans hit2
     have hall:=Lib.hid (anyTo_all set (c:Int))
     have hin':=Lib.hid hin
     clear hin hbw2 hit2 hsz2
     have hend:=fun h0 => cutSet_at hin'.out hp h0
     have hstep:=fun h0 => inTo_step hin'.out hp h0
     cases hb:anyTo set set.size (c:Int) with
     | false =>
      have hc:set.data.toList.contains (s[pos]'hp)=false:=by rw [← hany.out,← hall.out];exact hb
      have he:=Lib.hid (hend hc)
      clear hend hstep
      go_wp2
      go_ret
      exact ⟨by rw [he.out];rfl,hb3⟩
     | true =>
      have hc:set.data.toList.contains (s[pos]'hp)=true:=by rw [← hany.out,← hall.out];exact hb
      have hw1:=hwid.out hc
      rw [hw1] at hit3
      have hs1:=hstep hc
      have hR:Hid (CutRel s set w (wo.iter set set.size)):=Lib.hid ⟨pos + 1,hit3,hb3,hs1⟩
      have hM:Hid (s.size - (wo.iter set set.size).iterPos w.heap.size < s.size - wr.iterPos w.heap.size):=Lib.hid (by
       have e1:(wo.iter set set.size).iterPos w.heap.size=pos + 1:=by unfold World.iterPos;rw [hit3]
       rw [e1,hpos.out];omega)
      clear hend hstep hw1 hit3 hb3 hs1 hc
      go_wp2
      exact ⟨hR.out,hM.out⟩
  ·have hnx:∀ ty,(Instr.next (.pointer (some ⟨w.heap.size,0,none⟩)) true ty).run Tryz.prog wr=_:=fun ty => Lib.run_next_end_at wr w.heap.size s pos ty hit hp
   have he:=Lib.hid (cutSet_end hin hp)
   go_wp2
   go_ret
   exact ⟨by rw [he.out];rfl,hbw⟩
end Go.Proofs.YtcgdncpioafbdaaGreatDoor.Q
namespace Go.Proofs.YtcgdncpioafbdaaGreatDoor.Q
open Go Go.RowKit Go.Proofs.YtcgdncpioafbdaaGreatDoorW.PrintWords
theorem below_drewN' (w:World) (n:Nat):Below w.heap.size w (w.drewN n):=pw_below_drewN (Below.refl _ _) n
theorem strings_TrimLeft.calls (a0 a1 r:ByteArray) (w:World) (h:strings_TrimLeft.f a0 a1=some r) :
  Calls Tryz.prog 117 #[.string a0,.string a1] w fun e w' => e = .returned (.string r)∧Below w.heap.size w w':=by
 unfold strings_TrimLeft.f at h
 split at h
 ·rename_i hc
  cases h
  have e:a1=⟨#[32,9,10,13]⟩:=ba_ext hc
  subst e
  have c:=Any.strings_TrimLeft_laid Tryz.lays161 (by kernel_rfl) a0 ⟨#[32,9,10,13]⟩ w (by decide) (ascii_of_all (by decide))
  exact c
 ·cases h
theorem strings_HasPrefix.calls (a0 a1:ByteArray) (r:Bool) (w:World) (h:strings_HasPrefix.f a0 a1=some r) :
  Calls Tryz.prog 118 #[.string a0,.string a1] w fun e w' => e = .returned (.bool r)∧Drawn0 w w':=by
 cases h
 refine (Tryz.strings_HasPrefix a0 a1 w).mono ?_
 rintro e w' ⟨rfl,rfl⟩
 exact ⟨rfl,Drawn0.refl _⟩
theorem index_one (l:List UInt8) (c:UInt8):(Lib.index l [c] = -1∧l.takeWhile (· != c)=l∧l.dropWhile (· != c)=[]∧l.contains c=false) ∨ ∃ i:Nat,Lib.index l [c]=i∧l.take i=l.takeWhile (· != c)∧l.drop (i + 1)=(l.dropWhile (· != c)).drop 1∧l.contains c=true:=by
 induction l with
 | nil => exact .inl ⟨rfl,rfl,rfl,rfl⟩
 | cons b l ih =>
  by_cases hb:b=c
  ·subst hb
   refine .inr ⟨0,?_,?_,?_,?_⟩ <;> simp [Lib.index]
  ·have hp:[c].isPrefixOf (b :: l)=false:=by simp [List.isPrefixOf,Ne.symm hb]
   have hbc:(b != c)=true:=by simpa using hb
   have hcb:(c == b)=false:=by simpa using Ne.symm hb
   rcases ih with ⟨h1,h2,h3,h4⟩ | ⟨i,h1,h2,h3,h4⟩
   ·refine .inl ⟨by simp [Lib.index,hp,h1],by simp [List.takeWhile,hbc,h2],by simp [List.dropWhile,hbc,h3],by rw [List.contains_cons,hcb,h4];rfl⟩
   ·refine .inr ⟨i + 1,?_,?_,?_,?_⟩
    ·have hne:(Lib.index l [c] == -1)=false:=by rw [h1];simp
     simp [Lib.index,hp,h1]
    ·simp [List.takeWhile,hbc,h2]
    ·simp only [List.drop_succ_cons,List.dropWhile,hbc,h3]
    ·rw [List.contains_cons,h4];simp
theorem strings_Cut.calls (a0 a1 r1 r2:ByteArray) (r3:Bool) (w:World) (h:strings_Cut.f a0 a1=some (r1,r2,r3)) (hG:GV w) :
  Calls Tryz.prog 119 #[.string a0,.string a1] w fun e w' => e = .returned (.tuple #[.string r1,.string r2,.bool r3])∧Below w.heap.size w w':=by
 unfold strings_Cut.f at h
 split at h
 ·rename_i hc
  split at h
  ·rename_i hs
   cases h
   have e:a1=⟨#[10]⟩:=ba_ext hc
   subst e
   obtain ⟨m,hm⟩:=hG.max
   refine (Tryz.strings_Cut a0 ⟨#[10]⟩ m w hs hm).mono ?_
   rintro e w' ⟨rfl,n,rfl⟩
   refine ⟨?_,below_drewN' _ _⟩
   have hcut:Lib.cut a0.data.toList [10]=(a0.data.toList.takeWhile (· != 10),(a0.data.toList.dropWhile (· != 10)).drop 1,a0.data.toList.contains 10):=by
    unfold Lib.cut
    rcases index_one a0.data.toList 10 with ⟨h1,h2,h3,h4⟩ | ⟨i,h1,h2,h3,h4⟩
    ·rw [h1,if_neg (by decide),h2,h3,h4];rfl
    ·rw [h1,if_pos (by omega),h4];simp only [Int.toNat_natCast,List.length_cons,List.length_nil,Nat.zero_add];rw [h2,h3]
   have hcut':Lib.cut a0.data.toList (⟨#[10]⟩:ByteArray).data.toList=_:=hcut
   rw [hcut']
   rfl
  ·cases h
 ·cases h
theorem strings_IndexByte.calls (a0:ByteArray) (a1 r:Int) (w:World) (h:strings_IndexByte.f a0 a1=some r) :
  Calls Tryz.prog 120 #[.string a0,.int .u8 a1] w fun e w' => e = .returned (.int .i64 r)∧Drawn0 w w':=by
 cases h
 refine (Tryz.strings_IndexByte a0 a1 w).mono ?_
 rintro e w' ⟨rfl,rfl⟩
 exact ⟨rfl,Drawn0.refl _⟩
theorem lex_cutLeft.calls (a0 a1 r:ByteArray) (w:World) (h:lex_cutLeft.f a0 a1=some r) :
  Calls Tryz.prog 203 #[.string a0,.string a1] w fun e w' => e = .returned (.string r)∧Below w.heap.size w w':=by
 unfold lex_cutLeft.f at h
 split at h
 ·rename_i hc
  split at h
  ·rename_i hs
   cases h
   exact cut_walk a0 a1 hs (asciiSet_of hc) w
  ·cases h
 ·cases h
theorem strings_ToLower.calls (a0 r:ByteArray) (w:World) (h:strings_ToLower.f a0=some r) :
  Calls Tryz.prog 122 #[.string a0] w fun e w' => e = .returned (.string r)∧Below w.heap.size w w':=by
 unfold strings_ToLower.f at h
 split at h
 ·rename_i hc
  split at h
  ·rename_i hs
   cases h
   refine (Tryz.strings_ToLower_ascii a0 w hs (fun j b hb => ?_)).mono ?_
   ·have:=List.all_eq_true.1 hc b (List.mem_of_getElem? hb)
    simpa using this
   ·rintro e w' ⟨rfl,hb⟩
    refine ⟨?_,hb⟩
    have e1:Lib.toLowerA a0.data.toList=a0.data.toList.map Lx.lowerB:=by
     unfold Lib.toLowerA
     refine List.map_congr_left (fun b _ => ?_)
     simp [Lib.lowerB,Lib.isUpperB,Lx.lowerB]
    rw [e1]
    rfl
  ·cases h
 ·cases h
theorem dupQ_split (l:List UInt8):dupQ l=if l.contains 39 then l.takeWhile (· != 39) ++ 39 :: 39 :: dupQ ((l.dropWhile (· != 39)).drop 1) else l:=by
 induction l with
 | nil => rfl
 | cons c r ih =>
  by_cases hc:c=39
  ·subst hc
   simp [dupQ]
  ·have h1:(c == 39)=false:=by simpa using hc
   have h2:(c != 39)=true:=by simpa using hc
   have h3:((39:UInt8) == c)=false:=by simpa using Ne.symm hc
   rw [dupQ,h1,List.contains_cons,h3,Bool.false_or,ih]
   simp only [Bool.false_eq_true,if_false,List.takeWhile,List.dropWhile,h2]
   by_cases h4:r.contains 39=true
   ·rw [if_pos h4,if_pos h4,List.cons_append]
   ·rw [if_neg h4,if_neg h4]
theorem replace_quote:∀ (n:Nat) (l:List UInt8),l.length ≤ n → Lib.replaceK [39] [39,39] (Lib.count l [39]) l=dupQ l:=by
 intro n
 induction n with
 | zero =>
  intro l hl
  obtain rfl:l=[]:=List.eq_nil_of_length_eq_zero (by omega)
  rfl
 | succ n ih =>
  intro l hl
  rcases index_one l 39 with ⟨h1,h2,h3,h4⟩ | ⟨i,h1,h2,h3,h4⟩
  ·rw [Lib.count_miss h1,dupQ_split,h4]
   rfl
  ·rw [Lib.count_hit (by simp) h1,Nat.add_comm,Lib.replaceK_hit _ _ _ _ _ h1]
   simp only [List.length_cons,List.length_nil,Nat.zero_add]
   rw [ih _ (by simp;omega),dupQ_split l,h4,if_pos rfl,h2,h3]
   simp
theorem replaceAll_quote (l:List UInt8):Lib.replaceAll l [39] [39,39]=dupQ l:=by
 unfold Lib.replaceAll Lib.replace
 rw [if_neg (by decide)]
 unfold Lib.replaceNum
 rw [if_pos (.inl (by decide))]
 exact replace_quote _ l (Nat.le_refl _)
theorem strings_ReplaceAll.calls (a0 a1 a2 r:ByteArray) (w:World) (h:strings_ReplaceAll.f a0 a1 a2=some r) (hG:GV w) :
  Calls Tryz.prog 65 #[.string a0,.string a1,.string a2] w fun e w' => e = .returned (.string r)∧Below w.heap.size w w':=by
 unfold strings_ReplaceAll.f at h
 split at h
 ·rename_i h1
  split at h
  ·rename_i h2
   split at h
   ·rename_i hs
    cases h
    have e1:a1=⟨#[39]⟩:=ba_ext h1
    have e2:a2=⟨#[39,39]⟩:=ba_ext h2
    subst e1 e2
    obtain ⟨m,hm⟩:=hG.max
    have hle:=Lib.countB_mul_le ⟨#[39]⟩ (by decide) a0.size a0 (Nat.le_refl _)
    have hs1:(⟨#[39]⟩:ByteArray).size=1:=rfl
    have hs2:(⟨#[39,39]⟩:ByteArray).size=2:=rfl
    refine (Tryz.strings_ReplaceAll a0 ⟨#[39]⟩ ⟨#[39,39]⟩ m w hs hm (by decide) (by rw [hs1] at hle;rw [hs2];omega)).mono ?_
    rintro e w' ⟨rfl,hb⟩
    refine ⟨?_,hb⟩
    have e3:=replaceAll_quote a0.data.toList
    have e4:Lib.replaceAll a0.data.toList (⟨#[39]⟩:ByteArray).data.toList (⟨#[39,39]⟩:ByteArray).data.toList=dupQ a0.data.toList:=e3
    rw [e4]
    rfl
   ·cases h
  ·cases h
 ·cases h
end Go.Proofs.YtcgdncpioafbdaaGreatDoor.Q
namespace Go.Proofs.YtcgdncpioafbdaaGreatDoor.Q
open Go.RowKit Go.Proofs.YtcgdncpioafbdaaGreatDoorW.PrintWords Go.Proofs.YtcgdncpioafbdaaGreatDoorW.PrintLast Go.Proofs.YtcgdncpioafbdaaGreatDoorW.PrintMore
attribute [local go_sem] max2_int min2_int max_two min_two max_three min_three max_four min_four
set_option linter.unusedVariables false
set_option linter.unusedSimpArgs false
set_option maxHeartbeats 8000000 in
set_option maxRecDepth 100000 in
theorem parse_reserved.calls (a0:ByteArray) (r:Bool) (w:World) (h:parse_reserved.f a0=some r) :
  Calls Tryz.prog 324 #[.string a0] w fun e w' => e = .returned (.bool r)∧Drawn0 w w':=by
 have H:(if a0.toList=([99,114,101,97,116,101]:List UInt8) then (some true) else (if a0.toList=([116,97,98,108,101]:List UInt8) then (some true) else (if a0.toList=([100,114,111,112]:List UInt8) then (some true) else (if a0.toList=([105,110,115,101,114,116]:List UInt8) then (some true) else (if a0.toList=([105,110,116,111]:List UInt8) then (some true) else (if a0.toList=([118,97,108,117,101,115]:List UInt8) then (some true) else (if a0.toList=([115,101,108,101,99,116]:List UInt8) then (some true) else (if a0.toList=([102,114,111,109]:List UInt8) then (some true) else (if a0.toList=([119,104,101,114,101]:List UInt8) then (some true) else (if a0.toList=([111,114,100,101,114]:List UInt8) then (some true) else (if a0.toList=([98,121]:List UInt8) then (some true) else (if a0.toList=([100,101,115,99]:List UInt8) then (some true) else (if a0.toList=([108,105,109,105,116]:List UInt8) then (some true) else (if a0.toList=([117,112,100,97,116,101]:List UInt8) then (some true) else (if a0.toList=([115,101,116]:List UInt8) then (some true) else (if a0.toList=([100,101,108,101,116,101]:List UInt8) then (some true) else (if a0.toList=([97,110,100]:List UInt8) then (some true) else (if a0.toList=([111,114]:List UInt8) then (some true) else (if a0.toList=([110,111,116]:List UInt8) then (some true) else (if a0.toList=([105,115]:List UInt8) then (some true) else (if a0.toList=([110,117,108,108]:List UInt8) then (some true) else (if a0.toList=([105,110,116]:List UInt8) then (some true) else (if a0.toList=([116,101,120,116]:List UInt8) then (some true) else (if a0.toList=([100,101,116]:List UInt8) then (some true) else (if a0.toList=([107,101,121]:List UInt8) then (some true) else (if a0.toList=([99,111,117,110,116]:List UInt8) then (some true) else (if a0.toList=([115,117,109]:List UInt8) then (some true) else (if a0.toList=([109,105,110]:List UInt8) then (some true) else (if a0.toList=([109,97,120]:List UInt8) then (some true) else (some false))))))))))))))))))))))))))))))=some r:=h
 clear h
 by_cases c2:a0.toList=([99,114,101,97,116,101]:List UInt8)
 ·rw [if_pos c2] at H
  have c2b0:(a0.toList == ([99,114,101,97,116,101]:List UInt8))=true:=beq_iff_eq.mpr c2
  have c2b1:(a0.toList != ([99,114,101,97,116,101]:List UInt8))=false:=bne_eq_false_iff_eq.mpr c2
  clear c2
  obtain rfl:=Option.some.inj H
  go_enter Tryz.func324,Tryz.ntmps324
  go_wp2
  go_ret
  exact ⟨by first | rfl | (simp;done) | (simp [*];done),by repeat (first | exact Drawn0.refl _ | apply Drawn0.step)⟩
 ·rw [if_neg c2] at H
  have c2b0:(a0.toList == ([99,114,101,97,116,101]:List UInt8))=false:=beq_eq_false_iff_ne.mpr c2
  have c2b1:(a0.toList != ([99,114,101,97,116,101]:List UInt8))=true:=bne_iff_ne.mpr c2
  by_cases c3:a0.toList=([116,97,98,108,101]:List UInt8)
  ·rw [if_pos c3] at H
   have c3b0:(a0.toList == ([116,97,98,108,101]:List UInt8))=true:=beq_iff_eq.mpr c3
   have c3b1:(a0.toList != ([116,97,98,108,101]:List UInt8))=false:=bne_eq_false_iff_eq.mpr c3
   clear c3
   obtain rfl:=Option.some.inj H
   go_enter Tryz.func324,Tryz.ntmps324
   go_wp2
   go_ret
   exact ⟨by first | rfl | (simp;done) | (simp [*];done),by repeat (first | exact Drawn0.refl _ | apply Drawn0.step)⟩
  ·rw [if_neg c3] at H
   have c3b0:(a0.toList == ([116,97,98,108,101]:List UInt8))=false:=beq_eq_false_iff_ne.mpr c3
   have c3b1:(a0.toList != ([116,97,98,108,101]:List UInt8))=true:=bne_iff_ne.mpr c3
   by_cases c4:a0.toList=([100,114,111,112]:List UInt8)
   ·rw [if_pos c4] at H
    have c4b0:(a0.toList == ([100,114,111,112]:List UInt8))=true:=beq_iff_eq.mpr c4
    have c4b1:(a0.toList != ([100,114,111,112]:List UInt8))=false:=bne_eq_false_iff_eq.mpr c4
    clear c4
    obtain rfl:=Option.some.inj H
    go_enter Tryz.func324,Tryz.ntmps324
    go_wp2
    go_ret
    exact ⟨by first | rfl | (simp;done) | (simp [*];done),by repeat (first | exact Drawn0.refl _ | apply Drawn0.step)⟩
   ·rw [if_neg c4] at H
    have c4b0:(a0.toList == ([100,114,111,112]:List UInt8))=false:=beq_eq_false_iff_ne.mpr c4
    have c4b1:(a0.toList != ([100,114,111,112]:List UInt8))=true:=bne_iff_ne.mpr c4
    by_cases c5:a0.toList=([105,110,115,101,114,116]:List UInt8)
    ·rw [if_pos c5] at H
     have c5b0:(a0.toList == ([105,110,115,101,114,116]:List UInt8))=true:=beq_iff_eq.mpr c5
     have c5b1:(a0.toList != ([105,110,115,101,114,116]:List UInt8))=false:=bne_eq_false_iff_eq.mpr c5
     clear c5
     obtain rfl:=Option.some.inj H
     go_enter Tryz.func324,Tryz.ntmps324
     go_wp2
     go_ret
     exact ⟨by first | rfl | (simp;done) | (simp [*];done),by repeat (first | exact Drawn0.refl _ | apply Drawn0.step)⟩
    ·rw [if_neg c5] at H
     have c5b0:(a0.toList == ([105,110,115,101,114,116]:List UInt8))=false:=beq_eq_false_iff_ne.mpr c5
     have c5b1:(a0.toList != ([105,110,115,101,114,116]:List UInt8))=true:=bne_iff_ne.mpr c5
     by_cases c6:a0.toList=([105,110,116,111]:List UInt8)
     ·rw [if_pos c6] at H
      have c6b0:(a0.toList == ([105,110,116,111]:List UInt8))=true:=beq_iff_eq.mpr c6
      have c6b1:(a0.toList != ([105,110,116,111]:List UInt8))=false:=bne_eq_false_iff_eq.mpr c6
      clear c6
      obtain rfl:=Option.some.inj H
      go_enter Tryz.func324,Tryz.ntmps324
      go_wp2
      go_ret
      exact ⟨by first | rfl | (simp;done) | (simp [*];done),by repeat (first | exact Drawn0.refl _ | apply Drawn0.step)⟩
     ·rw [if_neg c6] at H
      have c6b0:(a0.toList == ([105,110,116,111]:List UInt8))=false:=beq_eq_false_iff_ne.mpr c6
      have c6b1:(a0.toList != ([105,110,116,111]:List UInt8))=true:=bne_iff_ne.mpr c6
      by_cases c7:a0.toList=([118,97,108,117,101,115]:List UInt8)
      ·rw [if_pos c7] at H
       have c7b0:(a0.toList == ([118,97,108,117,101,115]:List UInt8))=true:=beq_iff_eq.mpr c7
       have c7b1:(a0.toList != ([118,97,108,117,101,115]:List UInt8))=false:=bne_eq_false_iff_eq.mpr c7
       clear c7
       obtain rfl:=Option.some.inj H
       go_enter Tryz.func324,Tryz.ntmps324
       go_wp2
       go_ret
       exact ⟨by first | rfl | (simp;done) | (simp [*];done),by repeat (first | exact Drawn0.refl _ | apply Drawn0.step)⟩
      ·rw [if_neg c7] at H
       have c7b0:(a0.toList == ([118,97,108,117,101,115]:List UInt8))=false:=beq_eq_false_iff_ne.mpr c7
       have c7b1:(a0.toList != ([118,97,108,117,101,115]:List UInt8))=true:=bne_iff_ne.mpr c7
       by_cases c8:a0.toList=([115,101,108,101,99,116]:List UInt8)
       ·rw [if_pos c8] at H
        have c8b0:(a0.toList == ([115,101,108,101,99,116]:List UInt8))=true:=beq_iff_eq.mpr c8
        have c8b1:(a0.toList != ([115,101,108,101,99,116]:List UInt8))=false:=bne_eq_false_iff_eq.mpr c8
        clear c8
        obtain rfl:=Option.some.inj H
        go_enter Tryz.func324,Tryz.ntmps324
        go_wp2
        go_ret
        exact ⟨by first | rfl | (simp;done) | (simp [*];done),by repeat (first | exact Drawn0.refl _ | apply Drawn0.step)⟩
       ·rw [if_neg c8] at H
        have c8b0:(a0.toList == ([115,101,108,101,99,116]:List UInt8))=false:=beq_eq_false_iff_ne.mpr c8
        have c8b1:(a0.toList != ([115,101,108,101,99,116]:List UInt8))=true:=bne_iff_ne.mpr c8
        by_cases c9:a0.toList=([102,114,111,109]:List UInt8)
        ·rw [if_pos c9] at H
         have c9b0:(a0.toList == ([102,114,111,109]:List UInt8))=true:=beq_iff_eq.mpr c9
         have c9b1:(a0.toList != ([102,114,111,109]:List UInt8))=false:=bne_eq_false_iff_eq.mpr c9
         clear c9
         obtain rfl:=Option.some.inj H
         go_enter Tryz.func324,Tryz.ntmps324
         go_wp2
         go_ret
         exact ⟨by first | rfl | (simp;done) | (simp [*];done),by repeat (first | exact Drawn0.refl _ | apply Drawn0.step)⟩
        ·rw [if_neg c9] at H
         have c9b0:(a0.toList == ([102,114,111,109]:List UInt8))=false:=beq_eq_false_iff_ne.mpr c9
         have c9b1:(a0.toList != ([102,114,111,109]:List UInt8))=true:=bne_iff_ne.mpr c9
         by_cases c10:a0.toList=([119,104,101,114,101]:List UInt8)
         ·rw [if_pos c10] at H
          have c10b0:(a0.toList == ([119,104,101,114,101]:List UInt8))=true:=beq_iff_eq.mpr c10
          have c10b1:(a0.toList != ([119,104,101,114,101]:List UInt8))=false:=bne_eq_false_iff_eq.mpr c10
          clear c10
          obtain rfl:=Option.some.inj H
          go_enter Tryz.func324,Tryz.ntmps324
          go_wp2
          go_ret
          exact ⟨by first | rfl | (simp;done) | (simp [*];done),by repeat (first | exact Drawn0.refl _ | apply Drawn0.step)⟩
         ·rw [if_neg c10] at H
          have c10b0:(a0.toList == ([119,104,101,114,101]:List UInt8))=false:=beq_eq_false_iff_ne.mpr c10
          have c10b1:(a0.toList != ([119,104,101,114,101]:List UInt8))=true:=bne_iff_ne.mpr c10
          by_cases c11:a0.toList=([111,114,100,101,114]:List UInt8)
          ·rw [if_pos c11] at H
           have c11b0:(a0.toList == ([111,114,100,101,114]:List UInt8))=true:=beq_iff_eq.mpr c11
           have c11b1:(a0.toList != ([111,114,100,101,114]:List UInt8))=false:=bne_eq_false_iff_eq.mpr c11
           clear c11
           obtain rfl:=Option.some.inj H
           go_enter Tryz.func324,Tryz.ntmps324
           go_wp2
           go_ret
           exact ⟨by first | rfl | (simp;done) | (simp [*];done),by repeat (first | exact Drawn0.refl _ | apply Drawn0.step)⟩
          ·rw [if_neg c11] at H
           have c11b0:(a0.toList == ([111,114,100,101,114]:List UInt8))=false:=beq_eq_false_iff_ne.mpr c11
           have c11b1:(a0.toList != ([111,114,100,101,114]:List UInt8))=true:=bne_iff_ne.mpr c11
           by_cases c12:a0.toList=([98,121]:List UInt8)
           ·rw [if_pos c12] at H
            have c12b0:(a0.toList == ([98,121]:List UInt8))=true:=beq_iff_eq.mpr c12
            have c12b1:(a0.toList != ([98,121]:List UInt8))=false:=bne_eq_false_iff_eq.mpr c12
            clear c12
            obtain rfl:=Option.some.inj H
            go_enter Tryz.func324,Tryz.ntmps324
            go_wp2
            go_ret
            exact ⟨by first | rfl | (simp;done) | (simp [*];done),by repeat (first | exact Drawn0.refl _ | apply Drawn0.step)⟩
           ·rw [if_neg c12] at H
            have c12b0:(a0.toList == ([98,121]:List UInt8))=false:=beq_eq_false_iff_ne.mpr c12
            have c12b1:(a0.toList != ([98,121]:List UInt8))=true:=bne_iff_ne.mpr c12
            by_cases c13:a0.toList=([100,101,115,99]:List UInt8)
            ·rw [if_pos c13] at H
             have c13b0:(a0.toList == ([100,101,115,99]:List UInt8))=true:=beq_iff_eq.mpr c13
             have c13b1:(a0.toList != ([100,101,115,99]:List UInt8))=false:=bne_eq_false_iff_eq.mpr c13
             clear c13
             obtain rfl:=Option.some.inj H
             go_enter Tryz.func324,Tryz.ntmps324
             go_wp2
             go_ret
             exact ⟨by first | rfl | (simp;done) | (simp [*];done),by repeat (first | exact Drawn0.refl _ | apply Drawn0.step)⟩
            ·rw [if_neg c13] at H
             have c13b0:(a0.toList == ([100,101,115,99]:List UInt8))=false:=beq_eq_false_iff_ne.mpr c13
             have c13b1:(a0.toList != ([100,101,115,99]:List UInt8))=true:=bne_iff_ne.mpr c13
             by_cases c14:a0.toList=([108,105,109,105,116]:List UInt8)
             ·rw [if_pos c14] at H
              have c14b0:(a0.toList == ([108,105,109,105,116]:List UInt8))=true:=beq_iff_eq.mpr c14
              have c14b1:(a0.toList != ([108,105,109,105,116]:List UInt8))=false:=bne_eq_false_iff_eq.mpr c14
              clear c14
              obtain rfl:=Option.some.inj H
              go_enter Tryz.func324,Tryz.ntmps324
              go_wp2
              go_ret
              exact ⟨by first | rfl | (simp;done) | (simp [*];done),by repeat (first | exact Drawn0.refl _ | apply Drawn0.step)⟩
             ·rw [if_neg c14] at H
              have c14b0:(a0.toList == ([108,105,109,105,116]:List UInt8))=false:=beq_eq_false_iff_ne.mpr c14
              have c14b1:(a0.toList != ([108,105,109,105,116]:List UInt8))=true:=bne_iff_ne.mpr c14
              by_cases c15:a0.toList=([117,112,100,97,116,101]:List UInt8)
              ·rw [if_pos c15] at H
               have c15b0:(a0.toList == ([117,112,100,97,116,101]:List UInt8))=true:=beq_iff_eq.mpr c15
               have c15b1:(a0.toList != ([117,112,100,97,116,101]:List UInt8))=false:=bne_eq_false_iff_eq.mpr c15
               clear c15
               obtain rfl:=Option.some.inj H
               go_enter Tryz.func324,Tryz.ntmps324
               go_wp2
               go_ret
               exact ⟨by first | rfl | (simp;done) | (simp [*];done),by repeat (first | exact Drawn0.refl _ | apply Drawn0.step)⟩
              ·rw [if_neg c15] at H
               have c15b0:(a0.toList == ([117,112,100,97,116,101]:List UInt8))=false:=beq_eq_false_iff_ne.mpr c15
               have c15b1:(a0.toList != ([117,112,100,97,116,101]:List UInt8))=true:=bne_iff_ne.mpr c15
               by_cases c16:a0.toList=([115,101,116]:List UInt8)
               ·rw [if_pos c16] at H
                have c16b0:(a0.toList == ([115,101,116]:List UInt8))=true:=beq_iff_eq.mpr c16
                have c16b1:(a0.toList != ([115,101,116]:List UInt8))=false:=bne_eq_false_iff_eq.mpr c16
                clear c16
                obtain rfl:=Option.some.inj H
                go_enter Tryz.func324,Tryz.ntmps324
                go_wp2
                go_ret
                exact ⟨by first | rfl | (simp;done) | (simp [*];done),by repeat (first | exact Drawn0.refl _ | apply Drawn0.step)⟩
               ·rw [if_neg c16] at H
                have c16b0:(a0.toList == ([115,101,116]:List UInt8))=false:=beq_eq_false_iff_ne.mpr c16
                have c16b1:(a0.toList != ([115,101,116]:List UInt8))=true:=bne_iff_ne.mpr c16
                by_cases c17:a0.toList=([100,101,108,101,116,101]:List UInt8)
                ·rw [if_pos c17] at H
                 have c17b0:(a0.toList == ([100,101,108,101,116,101]:List UInt8))=true:=beq_iff_eq.mpr c17
                 have c17b1:(a0.toList != ([100,101,108,101,116,101]:List UInt8))=false:=bne_eq_false_iff_eq.mpr c17
                 clear c17
                 obtain rfl:=Option.some.inj H
                 go_enter Tryz.func324,Tryz.ntmps324
                 go_wp2
                 go_ret
                 exact ⟨by first | rfl | (simp;done) | (simp [*];done),by repeat (first | exact Drawn0.refl _ | apply Drawn0.step)⟩
                ·rw [if_neg c17] at H
                 have c17b0:(a0.toList == ([100,101,108,101,116,101]:List UInt8))=false:=beq_eq_false_iff_ne.mpr c17
                 have c17b1:(a0.toList != ([100,101,108,101,116,101]:List UInt8))=true:=bne_iff_ne.mpr c17
                 by_cases c18:a0.toList=([97,110,100]:List UInt8)
                 ·rw [if_pos c18] at H
                  have c18b0:(a0.toList == ([97,110,100]:List UInt8))=true:=beq_iff_eq.mpr c18
                  have c18b1:(a0.toList != ([97,110,100]:List UInt8))=false:=bne_eq_false_iff_eq.mpr c18
                  clear c18
                  obtain rfl:=Option.some.inj H
                  go_enter Tryz.func324,Tryz.ntmps324
                  go_wp2
                  go_ret
                  exact ⟨by first | rfl | (simp;done) | (simp [*];done),by repeat (first | exact Drawn0.refl _ | apply Drawn0.step)⟩
                 ·rw [if_neg c18] at H
                  have c18b0:(a0.toList == ([97,110,100]:List UInt8))=false:=beq_eq_false_iff_ne.mpr c18
                  have c18b1:(a0.toList != ([97,110,100]:List UInt8))=true:=bne_iff_ne.mpr c18
                  by_cases c19:a0.toList=([111,114]:List UInt8)
                  ·rw [if_pos c19] at H
                   have c19b0:(a0.toList == ([111,114]:List UInt8))=true:=beq_iff_eq.mpr c19
                   have c19b1:(a0.toList != ([111,114]:List UInt8))=false:=bne_eq_false_iff_eq.mpr c19
                   clear c19
                   obtain rfl:=Option.some.inj H
                   go_enter Tryz.func324,Tryz.ntmps324
                   go_wp2
                   go_ret
                   exact ⟨by first | rfl | (simp;done) | (simp [*];done),by repeat (first | exact Drawn0.refl _ | apply Drawn0.step)⟩
                  ·rw [if_neg c19] at H
                   have c19b0:(a0.toList == ([111,114]:List UInt8))=false:=beq_eq_false_iff_ne.mpr c19
                   have c19b1:(a0.toList != ([111,114]:List UInt8))=true:=bne_iff_ne.mpr c19
                   by_cases c20:a0.toList=([110,111,116]:List UInt8)
                   ·rw [if_pos c20] at H
                    have c20b0:(a0.toList == ([110,111,116]:List UInt8))=true:=beq_iff_eq.mpr c20
                    have c20b1:(a0.toList != ([110,111,116]:List UInt8))=false:=bne_eq_false_iff_eq.mpr c20
                    clear c20
                    obtain rfl:=Option.some.inj H
                    go_enter Tryz.func324,Tryz.ntmps324
                    go_wp2
                    go_ret
                    exact ⟨by first | rfl | (simp;done) | (simp [*];done),by repeat (first | exact Drawn0.refl _ | apply Drawn0.step)⟩
                   ·rw [if_neg c20] at H
                    have c20b0:(a0.toList == ([110,111,116]:List UInt8))=false:=beq_eq_false_iff_ne.mpr c20
                    have c20b1:(a0.toList != ([110,111,116]:List UInt8))=true:=bne_iff_ne.mpr c20
                    by_cases c21:a0.toList=([105,115]:List UInt8)
                    ·rw [if_pos c21] at H
                     have c21b0:(a0.toList == ([105,115]:List UInt8))=true:=beq_iff_eq.mpr c21
                     have c21b1:(a0.toList != ([105,115]:List UInt8))=false:=bne_eq_false_iff_eq.mpr c21
                     clear c21
                     obtain rfl:=Option.some.inj H
                     go_enter Tryz.func324,Tryz.ntmps324
                     go_wp2
                     go_ret
                     exact ⟨by first | rfl | (simp;done) | (simp [*];done),by repeat (first | exact Drawn0.refl _ | apply Drawn0.step)⟩
                    ·rw [if_neg c21] at H
                     have c21b0:(a0.toList == ([105,115]:List UInt8))=false:=beq_eq_false_iff_ne.mpr c21
                     have c21b1:(a0.toList != ([105,115]:List UInt8))=true:=bne_iff_ne.mpr c21
                     by_cases c22:a0.toList=([110,117,108,108]:List UInt8)
                     ·rw [if_pos c22] at H
                      have c22b0:(a0.toList == ([110,117,108,108]:List UInt8))=true:=beq_iff_eq.mpr c22
                      have c22b1:(a0.toList != ([110,117,108,108]:List UInt8))=false:=bne_eq_false_iff_eq.mpr c22
                      clear c22
                      obtain rfl:=Option.some.inj H
                      go_enter Tryz.func324,Tryz.ntmps324
                      go_wp2
                      go_ret
                      exact ⟨by first | rfl | (simp;done) | (simp [*];done),by repeat (first | exact Drawn0.refl _ | apply Drawn0.step)⟩
                     ·rw [if_neg c22] at H
                      have c22b0:(a0.toList == ([110,117,108,108]:List UInt8))=false:=beq_eq_false_iff_ne.mpr c22
                      have c22b1:(a0.toList != ([110,117,108,108]:List UInt8))=true:=bne_iff_ne.mpr c22
                      by_cases c23:a0.toList=([105,110,116]:List UInt8)
                      ·rw [if_pos c23] at H
                       have c23b0:(a0.toList == ([105,110,116]:List UInt8))=true:=beq_iff_eq.mpr c23
                       have c23b1:(a0.toList != ([105,110,116]:List UInt8))=false:=bne_eq_false_iff_eq.mpr c23
                       clear c23
                       obtain rfl:=Option.some.inj H
                       go_enter Tryz.func324,Tryz.ntmps324
                       go_wp2
                       go_ret
                       exact ⟨by first | rfl | (simp;done) | (simp [*];done),by repeat (first | exact Drawn0.refl _ | apply Drawn0.step)⟩
                      ·rw [if_neg c23] at H
                       have c23b0:(a0.toList == ([105,110,116]:List UInt8))=false:=beq_eq_false_iff_ne.mpr c23
                       have c23b1:(a0.toList != ([105,110,116]:List UInt8))=true:=bne_iff_ne.mpr c23
                       by_cases c24:a0.toList=([116,101,120,116]:List UInt8)
                       ·rw [if_pos c24] at H
                        have c24b0:(a0.toList == ([116,101,120,116]:List UInt8))=true:=beq_iff_eq.mpr c24
                        have c24b1:(a0.toList != ([116,101,120,116]:List UInt8))=false:=bne_eq_false_iff_eq.mpr c24
                        clear c24
                        obtain rfl:=Option.some.inj H
                        go_enter Tryz.func324,Tryz.ntmps324
                        go_wp2
                        go_ret
                        exact ⟨by first | rfl | (simp;done) | (simp [*];done),by repeat (first | exact Drawn0.refl _ | apply Drawn0.step)⟩
                       ·rw [if_neg c24] at H
                        have c24b0:(a0.toList == ([116,101,120,116]:List UInt8))=false:=beq_eq_false_iff_ne.mpr c24
                        have c24b1:(a0.toList != ([116,101,120,116]:List UInt8))=true:=bne_iff_ne.mpr c24
                        by_cases c25:a0.toList=([100,101,116]:List UInt8)
                        ·rw [if_pos c25] at H
                         have c25b0:(a0.toList == ([100,101,116]:List UInt8))=true:=beq_iff_eq.mpr c25
                         have c25b1:(a0.toList != ([100,101,116]:List UInt8))=false:=bne_eq_false_iff_eq.mpr c25
                         clear c25
                         obtain rfl:=Option.some.inj H
                         go_enter Tryz.func324,Tryz.ntmps324
                         go_wp2
                         go_ret
                         exact ⟨by first | rfl | (simp;done) | (simp [*];done),by repeat (first | exact Drawn0.refl _ | apply Drawn0.step)⟩
                        ·rw [if_neg c25] at H
                         have c25b0:(a0.toList == ([100,101,116]:List UInt8))=false:=beq_eq_false_iff_ne.mpr c25
                         have c25b1:(a0.toList != ([100,101,116]:List UInt8))=true:=bne_iff_ne.mpr c25
                         by_cases c26:a0.toList=([107,101,121]:List UInt8)
                         ·rw [if_pos c26] at H
                          have c26b0:(a0.toList == ([107,101,121]:List UInt8))=true:=beq_iff_eq.mpr c26
                          have c26b1:(a0.toList != ([107,101,121]:List UInt8))=false:=bne_eq_false_iff_eq.mpr c26
                          clear c26
                          obtain rfl:=Option.some.inj H
                          go_enter Tryz.func324,Tryz.ntmps324
                          go_wp2
                          go_ret
                          exact ⟨by first | rfl | (simp;done) | (simp [*];done),by repeat (first | exact Drawn0.refl _ | apply Drawn0.step)⟩
                         ·rw [if_neg c26] at H
                          have c26b0:(a0.toList == ([107,101,121]:List UInt8))=false:=beq_eq_false_iff_ne.mpr c26
                          have c26b1:(a0.toList != ([107,101,121]:List UInt8))=true:=bne_iff_ne.mpr c26
                          by_cases c27:a0.toList=([99,111,117,110,116]:List UInt8)
                          ·rw [if_pos c27] at H
                           have c27b0:(a0.toList == ([99,111,117,110,116]:List UInt8))=true:=beq_iff_eq.mpr c27
                           have c27b1:(a0.toList != ([99,111,117,110,116]:List UInt8))=false:=bne_eq_false_iff_eq.mpr c27
                           clear c27
                           obtain rfl:=Option.some.inj H
                           go_enter Tryz.func324,Tryz.ntmps324
                           go_wp2
                           go_ret
                           exact ⟨by first | rfl | (simp;done) | (simp [*];done),by repeat (first | exact Drawn0.refl _ | apply Drawn0.step)⟩
                          ·rw [if_neg c27] at H
                           have c27b0:(a0.toList == ([99,111,117,110,116]:List UInt8))=false:=beq_eq_false_iff_ne.mpr c27
                           have c27b1:(a0.toList != ([99,111,117,110,116]:List UInt8))=true:=bne_iff_ne.mpr c27
                           by_cases c28:a0.toList=([115,117,109]:List UInt8)
                           ·rw [if_pos c28] at H
                            have c28b0:(a0.toList == ([115,117,109]:List UInt8))=true:=beq_iff_eq.mpr c28
                            have c28b1:(a0.toList != ([115,117,109]:List UInt8))=false:=bne_eq_false_iff_eq.mpr c28
                            clear c28
                            obtain rfl:=Option.some.inj H
                            go_enter Tryz.func324,Tryz.ntmps324
                            go_wp2
                            go_ret
                            exact ⟨by first | rfl | (simp;done) | (simp [*];done),by repeat (first | exact Drawn0.refl _ | apply Drawn0.step)⟩
                           ·rw [if_neg c28] at H
                            have c28b0:(a0.toList == ([115,117,109]:List UInt8))=false:=beq_eq_false_iff_ne.mpr c28
                            have c28b1:(a0.toList != ([115,117,109]:List UInt8))=true:=bne_iff_ne.mpr c28
                            by_cases c29:a0.toList=([109,105,110]:List UInt8)
                            ·rw [if_pos c29] at H
                             have c29b0:(a0.toList == ([109,105,110]:List UInt8))=true:=beq_iff_eq.mpr c29
                             have c29b1:(a0.toList != ([109,105,110]:List UInt8))=false:=bne_eq_false_iff_eq.mpr c29
                             clear c29
                             obtain rfl:=Option.some.inj H
                             go_enter Tryz.func324,Tryz.ntmps324
                             go_wp2
                             go_ret
                             exact ⟨by first | rfl | (simp;done) | (simp [*];done),by repeat (first | exact Drawn0.refl _ | apply Drawn0.step)⟩
                            ·rw [if_neg c29] at H
                             have c29b0:(a0.toList == ([109,105,110]:List UInt8))=false:=beq_eq_false_iff_ne.mpr c29
                             have c29b1:(a0.toList != ([109,105,110]:List UInt8))=true:=bne_iff_ne.mpr c29
                             by_cases c30:a0.toList=([109,97,120]:List UInt8)
                             ·rw [if_pos c30] at H
                              have c30b0:(a0.toList == ([109,97,120]:List UInt8))=true:=beq_iff_eq.mpr c30
                              have c30b1:(a0.toList != ([109,97,120]:List UInt8))=false:=bne_eq_false_iff_eq.mpr c30
                              clear c30
                              obtain rfl:=Option.some.inj H
                              go_enter Tryz.func324,Tryz.ntmps324
                              go_wp2
                              go_ret
                              exact ⟨by first | rfl | (simp;done) | (simp [*];done),by repeat (first | exact Drawn0.refl _ | apply Drawn0.step)⟩
                             ·rw [if_neg c30] at H
                              have c30b0:(a0.toList == ([109,97,120]:List UInt8))=false:=beq_eq_false_iff_ne.mpr c30
                              have c30b1:(a0.toList != ([109,97,120]:List UInt8))=true:=bne_iff_ne.mpr c30
                              obtain rfl:=Option.some.inj H
                              go_enter Tryz.func324,Tryz.ntmps324
                              go_wp2
                              go_ret
                              exact ⟨by first | rfl | (simp;done) | (simp [*];done),by repeat (first | exact Drawn0.refl _ | apply Drawn0.step)⟩
set_option maxHeartbeats 8000000 in
set_option maxRecDepth 100000 in
theorem parse_binds.calls (k:Nat) (a0:ByteArray) (r:Int) (w:World) (h:parse_binds.f k a0=some r) :
  Calls Tryz.prog 102 #[.string a0] w fun e w' => e = .returned (.int .i64 r)∧Drawn0 w w':=by
 have H:(if a0.toList=([111,114]:List UInt8) then (some 1) else (if a0.toList=([97,110,100]:List UInt8) then (some 2) else (if a0.toList=([61]:List UInt8) then (parse_binds.j0 k a0 (a0.toList == ([61]:List UInt8))) else (if a0.toList=([60,62]:List UInt8) then (parse_binds.j0 k a0 (a0.toList == ([60,62]:List UInt8))) else (if a0.toList=([60]:List UInt8) then (parse_binds.j0 k a0 (a0.toList == ([60]:List UInt8))) else (if a0.toList=([60,61]:List UInt8) then (parse_binds.j0 k a0 (a0.toList == ([60,61]:List UInt8))) else (if a0.toList=([62]:List UInt8) then (parse_binds.j0 k a0 (a0.toList == ([62]:List UInt8))) else (if a0.toList=([62,61]:List UInt8) then (parse_binds.j0 k a0 (a0.toList == ([62,61]:List UInt8))) else (parse_binds.j0 k a0 (a0.toList == ([105,115]:List UInt8)))))))))))=some r:=h
 clear h
 by_cases c2:a0.toList=([111,114]:List UInt8)
 ·rw [if_pos c2] at H
  have c2b0:(a0.toList == ([111,114]:List UInt8))=true:=beq_iff_eq.mpr c2
  have c2b1:(a0.toList != ([111,114]:List UInt8))=false:=bne_eq_false_iff_eq.mpr c2
  clear c2
  obtain rfl:=Option.some.inj H
  go_enter Tryz.func102,Tryz.ntmps102
  go_wp2
  go_ret
  exact ⟨by first | rfl | (simp;done) | (simp [*];done),by repeat (first | exact Drawn0.refl _ | apply Drawn0.step)⟩
 ·rw [if_neg c2] at H
  have c2b0:(a0.toList == ([111,114]:List UInt8))=false:=beq_eq_false_iff_ne.mpr c2
  have c2b1:(a0.toList != ([111,114]:List UInt8))=true:=bne_iff_ne.mpr c2
  by_cases c3:a0.toList=([97,110,100]:List UInt8)
  ·rw [if_pos c3] at H
   have c3b0:(a0.toList == ([97,110,100]:List UInt8))=true:=beq_iff_eq.mpr c3
   have c3b1:(a0.toList != ([97,110,100]:List UInt8))=false:=bne_eq_false_iff_eq.mpr c3
   clear c3
   obtain rfl:=Option.some.inj H
   go_enter Tryz.func102,Tryz.ntmps102
   go_wp2
   go_ret
   exact ⟨by first | rfl | (simp;done) | (simp [*];done),by repeat (first | exact Drawn0.refl _ | apply Drawn0.step)⟩
  ·rw [if_neg c3] at H
   have c3b0:(a0.toList == ([97,110,100]:List UInt8))=false:=beq_eq_false_iff_ne.mpr c3
   have c3b1:(a0.toList != ([97,110,100]:List UInt8))=true:=bne_iff_ne.mpr c3
   have HC4:=Aside0.mk H
   clear H
   go_enter Tryz.func102,Tryz.ntmps102
   go_upto_if 8 with (fail)
   go_cut [8] (fun v8 wc => ∃ (kq:Nat) (x8_3:Bool),v8 = .bool x8_3∧Aside0 (parse_binds.j0 kq a0 x8_3=some r)∧Aside0 (kq ≤ k)∧Drawn0 w wc)
   case first =>
    have H:=HC4.out
    clear HC4
    by_cases c5:a0.toList=([61]:List UInt8)
    ·rw [if_pos c5] at H
     have c5b0:(a0.toList == ([61]:List UInt8))=true:=beq_iff_eq.mpr c5
     have c5b1:(a0.toList != ([61]:List UInt8))=false:=bne_eq_false_iff_eq.mpr c5
     clear c5
     (first | rw [c5b0] | (simp only [i64_w,i32_w];rw [c5b0]) | skip)
     have H':=Aside0.mk H
     clear H
     go_wp2
     go_meet
     case rel => exact ⟨_,((a0.toList == ([61]:List UInt8))),(by first | rfl | (simp;done) | (simp [*];done)),H',⟨by first | omega | exact Nat.le_refl _⟩,by repeat (first | exact Drawn0.refl _ | apply Drawn0.step)⟩
    ·rw [if_neg c5] at H
     have c5b0:(a0.toList == ([61]:List UInt8))=false:=beq_eq_false_iff_ne.mpr c5
     have c5b1:(a0.toList != ([61]:List UInt8))=true:=bne_iff_ne.mpr c5
     (first | rw [c5b0] | (simp only [i64_w,i32_w];rw [c5b0]) | skip)
     by_cases c6:a0.toList=([60,62]:List UInt8)
     ·rw [if_pos c6] at H
      have c6b0:(a0.toList == ([60,62]:List UInt8))=true:=beq_iff_eq.mpr c6
      have c6b1:(a0.toList != ([60,62]:List UInt8))=false:=bne_eq_false_iff_eq.mpr c6
      clear c6
      have H':=Aside0.mk H
      clear H
      go_wp2
      go_meet
      case rel => exact ⟨_,((a0.toList == ([60,62]:List UInt8))),(by first | rfl | (simp;done) | (simp [*];done)),H',⟨by first | omega | exact Nat.le_refl _⟩,by repeat (first | exact Drawn0.refl _ | apply Drawn0.step)⟩
     ·rw [if_neg c6] at H
      have c6b0:(a0.toList == ([60,62]:List UInt8))=false:=beq_eq_false_iff_ne.mpr c6
      have c6b1:(a0.toList != ([60,62]:List UInt8))=true:=bne_iff_ne.mpr c6
      by_cases c7:a0.toList=([60]:List UInt8)
      ·rw [if_pos c7] at H
       have c7b0:(a0.toList == ([60]:List UInt8))=true:=beq_iff_eq.mpr c7
       have c7b1:(a0.toList != ([60]:List UInt8))=false:=bne_eq_false_iff_eq.mpr c7
       clear c7
       have H':=Aside0.mk H
       clear H
       go_wp2
       go_meet
       case rel => exact ⟨_,((a0.toList == ([60]:List UInt8))),(by first | rfl | (simp;done) | (simp [*];done)),H',⟨by first | omega | exact Nat.le_refl _⟩,by repeat (first | exact Drawn0.refl _ | apply Drawn0.step)⟩
      ·rw [if_neg c7] at H
       have c7b0:(a0.toList == ([60]:List UInt8))=false:=beq_eq_false_iff_ne.mpr c7
       have c7b1:(a0.toList != ([60]:List UInt8))=true:=bne_iff_ne.mpr c7
       by_cases c8:a0.toList=([60,61]:List UInt8)
       ·rw [if_pos c8] at H
        have c8b0:(a0.toList == ([60,61]:List UInt8))=true:=beq_iff_eq.mpr c8
        have c8b1:(a0.toList != ([60,61]:List UInt8))=false:=bne_eq_false_iff_eq.mpr c8
        clear c8
        have H':=Aside0.mk H
        clear H
        go_wp2
        go_meet
        case rel => exact ⟨_,((a0.toList == ([60,61]:List UInt8))),(by first | rfl | (simp;done) | (simp [*];done)),H',⟨by first | omega | exact Nat.le_refl _⟩,by repeat (first | exact Drawn0.refl _ | apply Drawn0.step)⟩
       ·rw [if_neg c8] at H
        have c8b0:(a0.toList == ([60,61]:List UInt8))=false:=beq_eq_false_iff_ne.mpr c8
        have c8b1:(a0.toList != ([60,61]:List UInt8))=true:=bne_iff_ne.mpr c8
        by_cases c9:a0.toList=([62]:List UInt8)
        ·rw [if_pos c9] at H
         have c9b0:(a0.toList == ([62]:List UInt8))=true:=beq_iff_eq.mpr c9
         have c9b1:(a0.toList != ([62]:List UInt8))=false:=bne_eq_false_iff_eq.mpr c9
         clear c9
         have H':=Aside0.mk H
         clear H
         go_wp2
         go_meet
         case rel => exact ⟨_,((a0.toList == ([62]:List UInt8))),(by first | rfl | (simp;done) | (simp [*];done)),H',⟨by first | omega | exact Nat.le_refl _⟩,by repeat (first | exact Drawn0.refl _ | apply Drawn0.step)⟩
        ·rw [if_neg c9] at H
         have c9b0:(a0.toList == ([62]:List UInt8))=false:=beq_eq_false_iff_ne.mpr c9
         have c9b1:(a0.toList != ([62]:List UInt8))=true:=bne_iff_ne.mpr c9
         by_cases c10:a0.toList=([62,61]:List UInt8)
         ·rw [if_pos c10] at H
          have c10b0:(a0.toList == ([62,61]:List UInt8))=true:=beq_iff_eq.mpr c10
          have c10b1:(a0.toList != ([62,61]:List UInt8))=false:=bne_eq_false_iff_eq.mpr c10
          clear c10
          have H':=Aside0.mk H
          clear H
          go_wp2
          go_meet
          case rel => exact ⟨_,((a0.toList == ([62,61]:List UInt8))),(by first | rfl | (simp;done) | (simp [*];done)),H',⟨by first | omega | exact Nat.le_refl _⟩,by repeat (first | exact Drawn0.refl _ | apply Drawn0.step)⟩
         ·rw [if_neg c10] at H
          have c10b0:(a0.toList == ([62,61]:List UInt8))=false:=beq_eq_false_iff_ne.mpr c10
          have c10b1:(a0.toList != ([62,61]:List UInt8))=true:=bne_iff_ne.mpr c10
          have H':=Aside0.mk H
          clear H
          go_wp2
          go_meet
          case rel => exact ⟨_,((a0.toList == ([105,115]:List UInt8))),(by first | rfl | (simp;done) | (simp [*];done)),H',⟨by first | omega | exact Nat.le_refl _⟩,by repeat (first | exact Drawn0.refl _ | apply Drawn0.step)⟩
   case rest =>
    clear HC4
    try clear c1
    try clear c2
    try clear c2b0
    try clear c2b1
    try clear p2
    try clear c3
    try clear c3b0
    try clear c3b1
    try clear c5
    try clear c5b0
    try clear c5b1
    try clear c6
    try clear c6b0
    try clear c6b1
    try clear c7
    try clear c7b0
    try clear c7b1
    try clear c8
    try clear c8b0
    try clear c8b1
    try clear c9
    try clear c9b0
    try clear c9b1
    try clear c10
    try clear c10b0
    try clear c10b1
    obtain ⟨kq,x8_3,rfl,HA,HJ3,⟨mc3,rfl⟩⟩:=hcut
    cases kq with
    | zero => exact absurd HA.out (by simp [parse_binds.j0])
    | succ kj3 =>
     have H:=HA.out
     clear HA
     simp only [parse_binds.j0] at H
     by_cases c11:x8_3=true
     ·subst c11
      have H1:(some 4)=some r:=by rw [if_pos rfl] at H;exact H
      clear H
      have H:=H1
      clear H1
      obtain rfl:=Option.some.inj H
      go_wp2
      go_ret
      exact ⟨by first | rfl | (simp;done) | (simp [*];done),by repeat (first | exact Drawn0.refl _ | apply Drawn0.step)⟩
     ·replace c11:=Bool.eq_false_iff.mpr c11
      subst c11
      have H1:(if a0.toList=([43]:List UInt8) then (parse_binds.j1 kj3 a0 (a0.toList == ([43]:List UInt8))) else (if a0.toList=([45]:List UInt8) then (parse_binds.j1 kj3 a0 (a0.toList == ([45]:List UInt8))) else (parse_binds.j1 kj3 a0 (a0.toList == ([124,124]:List UInt8)))))=some r:=by rw [if_neg (show ¬ (false=true) by decide)] at H;exact H
      clear H
      have H:=H1
      clear H1
      have HC12:=Aside0.mk H
      clear H
      go_upto_if 16 with (fail)
      go_cut [16] (fun v16 wc => ∃ (kq:Nat) (x16_11:Bool),v16 = .bool x16_11∧Aside0 (parse_binds.j1 kq a0 x16_11=some r)∧Aside0 (kq ≤ kj3)∧Drawn0 w wc)
      case first =>
       have H:=HC12.out
       clear HC12
       by_cases c13:a0.toList=([43]:List UInt8)
       ·rw [if_pos c13] at H
        have c13b0:(a0.toList == ([43]:List UInt8))=true:=beq_iff_eq.mpr c13
        have c13b1:(a0.toList != ([43]:List UInt8))=false:=bne_eq_false_iff_eq.mpr c13
        clear c13
        (first | rw [c13b0] | (simp only [i64_w,i32_w];rw [c13b0]) | skip)
        have H':=Aside0.mk H
        clear H
        go_wp2
        go_meet
        case rel => exact ⟨_,((a0.toList == ([43]:List UInt8))),(by first | rfl | (simp;done) | (simp [*];done)),H',⟨by have:=HJ3.out;first | omega | exact Nat.le_refl _⟩,by repeat (first | exact Drawn0.refl _ | apply Drawn0.step)⟩
       ·rw [if_neg c13] at H
        have c13b0:(a0.toList == ([43]:List UInt8))=false:=beq_eq_false_iff_ne.mpr c13
        have c13b1:(a0.toList != ([43]:List UInt8))=true:=bne_iff_ne.mpr c13
        (first | rw [c13b0] | (simp only [i64_w,i32_w];rw [c13b0]) | skip)
        by_cases c14:a0.toList=([45]:List UInt8)
        ·rw [if_pos c14] at H
         have c14b0:(a0.toList == ([45]:List UInt8))=true:=beq_iff_eq.mpr c14
         have c14b1:(a0.toList != ([45]:List UInt8))=false:=bne_eq_false_iff_eq.mpr c14
         clear c14
         have H':=Aside0.mk H
         clear H
         go_wp2
         go_meet
         case rel => exact ⟨_,((a0.toList == ([45]:List UInt8))),(by first | rfl | (simp;done) | (simp [*];done)),H',⟨by have:=HJ3.out;first | omega | exact Nat.le_refl _⟩,by repeat (first | exact Drawn0.refl _ | apply Drawn0.step)⟩
        ·rw [if_neg c14] at H
         have c14b0:(a0.toList == ([45]:List UInt8))=false:=beq_eq_false_iff_ne.mpr c14
         have c14b1:(a0.toList != ([45]:List UInt8))=true:=bne_iff_ne.mpr c14
         have H':=Aside0.mk H
         clear H
         go_wp2
         go_meet
         case rel => exact ⟨_,((a0.toList == ([124,124]:List UInt8))),(by first | rfl | (simp;done) | (simp [*];done)),H',⟨by have:=HJ3.out;first | omega | exact Nat.le_refl _⟩,by repeat (first | exact Drawn0.refl _ | apply Drawn0.step)⟩
      case rest =>
       clear HC12
       try clear c1
       try clear c2
       try clear c2b0
       try clear c2b1
       try clear p2
       try clear c3
       try clear c3b0
       try clear c3b1
       try clear c5
       try clear c5b0
       try clear c5b1
       try clear c6
       try clear c6b0
       try clear c6b1
       try clear c7
       try clear c7b0
       try clear c7b1
       try clear c8
       try clear c8b0
       try clear c8b1
       try clear c9
       try clear c9b0
       try clear c9b1
       try clear c10
       try clear c10b0
       try clear c10b1
       try clear c11
       try clear c13
       try clear c13b0
       try clear c13b1
       try clear c14
       try clear c14b0
       try clear c14b1
       try clear p2
       obtain ⟨kq,x16_11,rfl,HA,HJ11,⟨mc11,rfl⟩⟩:=hcut
       cases kq with
       | zero => exact absurd HA.out (by simp [parse_binds.j1])
       | succ kj11 =>
        have H:=HA.out
        clear HA
        simp only [parse_binds.j1] at H
        by_cases c15:x16_11=true
        ·subst c15
         have H1:(some 5)=some r:=by rw [if_pos rfl] at H;exact H
         clear H
         have H:=H1
         clear H1
         obtain rfl:=Option.some.inj H
         go_wp2
         go_ret
         exact ⟨by first | rfl | (simp;done) | (simp [*];done),by repeat (first | exact Drawn0.refl _ | apply Drawn0.step)⟩
        ·replace c15:=Bool.eq_false_iff.mpr c15
         subst c15
         have H1:(if a0.toList=([42]:List UInt8) then (some 6) else (if a0.toList=([47]:List UInt8) then (some 6) else (if a0.toList=([37]:List UInt8) then (some 6) else (some 0))))=some r:=by rw [if_neg (show ¬ (false=true) by decide)] at H;exact H
         clear H
         have H:=H1
         clear H1
         by_cases c16:a0.toList=([42]:List UInt8)
         ·rw [if_pos c16] at H
          have c16b0:(a0.toList == ([42]:List UInt8))=true:=beq_iff_eq.mpr c16
          have c16b1:(a0.toList != ([42]:List UInt8))=false:=bne_eq_false_iff_eq.mpr c16
          clear c16
          obtain rfl:=Option.some.inj H
          go_wp2
          go_ret
          exact ⟨by first | rfl | (simp;done) | (simp [*];done),by repeat (first | exact Drawn0.refl _ | apply Drawn0.step)⟩
         ·rw [if_neg c16] at H
          have c16b0:(a0.toList == ([42]:List UInt8))=false:=beq_eq_false_iff_ne.mpr c16
          have c16b1:(a0.toList != ([42]:List UInt8))=true:=bne_iff_ne.mpr c16
          by_cases c17:a0.toList=([47]:List UInt8)
          ·rw [if_pos c17] at H
           have c17b0:(a0.toList == ([47]:List UInt8))=true:=beq_iff_eq.mpr c17
           have c17b1:(a0.toList != ([47]:List UInt8))=false:=bne_eq_false_iff_eq.mpr c17
           clear c17
           obtain rfl:=Option.some.inj H
           go_wp2
           go_ret
           exact ⟨by first | rfl | (simp;done) | (simp [*];done),by repeat (first | exact Drawn0.refl _ | apply Drawn0.step)⟩
          ·rw [if_neg c17] at H
           have c17b0:(a0.toList == ([47]:List UInt8))=false:=beq_eq_false_iff_ne.mpr c17
           have c17b1:(a0.toList != ([47]:List UInt8))=true:=bne_iff_ne.mpr c17
           by_cases c18:a0.toList=([37]:List UInt8)
           ·rw [if_pos c18] at H
            have c18b0:(a0.toList == ([37]:List UInt8))=true:=beq_iff_eq.mpr c18
            have c18b1:(a0.toList != ([37]:List UInt8))=false:=bne_eq_false_iff_eq.mpr c18
            clear c18
            obtain rfl:=Option.some.inj H
            go_wp2
            go_ret
            exact ⟨by first | rfl | (simp;done) | (simp [*];done),by repeat (first | exact Drawn0.refl _ | apply Drawn0.step)⟩
           ·rw [if_neg c18] at H
            have c18b0:(a0.toList == ([37]:List UInt8))=false:=beq_eq_false_iff_ne.mpr c18
            have c18b1:(a0.toList != ([37]:List UInt8))=true:=bne_iff_ne.mpr c18
            obtain rfl:=Option.some.inj H
            go_wp2
            go_ret
            exact ⟨by first | rfl | (simp;done) | (simp [*];done),by repeat (first | exact Drawn0.refl _ | apply Drawn0.step)⟩
set_option maxHeartbeats 8000000 in
set_option maxRecDepth 100000 in
theorem parse_digits.calls (k:Nat):∀ (a0:Int) (r:ByteArray) (w:World) (h:parse_digits.f k a0=some r),
  Calls Tryz.prog 177 #[.int .u64 a0] w fun e w' => e = .returned (.string r)∧Below w.heap.size w w':=by
 induction k using Nat.strongRecOn with
 | _ k ih =>
 intro a0 r w h
 cases k with
 | zero => exact absurd h (by simp [parse_digits.f])
 | succ k =>
 simp only [parse_digits.f] at h
 have HB:=Aside0.mk (Below.refl w.heap.size w)
 have H:(if a0 < 10 then (some (strOfNums (([(48 + ((a0) % 256)) % 256]:List Int)))) else ((parse_digits.f k (IntKind.u64.wrap (Int.tdiv a0 10))).bind fun t104 => ((parse_digits.f k (Int.tmod a0 10)).bind fun t105 => (if t104.size + t105.size ≤ 9223372036854775807 then (some (t104 ++ t105)) else (none)))))=some r:=h
 clear h
 by_cases c2:a0 < 10
 ·rw [if_pos c2] at H
  have c2b0:decide (a0 < 10)=true:=decide_eq_true c2
  clear c2
  obtain ⟨y101,hy101⟩:∃ y_:List Int,y_=(([(48 + ((a0) % 256)) % 256]:List Int)):=⟨_,rfl⟩
  replace H:(some (strOfNums y101))=some r:=by first | (rw [hy101];with_reducible exact H) | (have H2_:=(Option.bind_some _ _).symm.trans H;rw [hy101];with_reducible exact H2_) | (have H2_:=(Option.bind_some _ _).symm.trans H;with_reducible exact H2_) | with_reducible exact H | (rw [hy101];exact H) | exact H
  have Ny101:=Aside0.mk hy101
  clear hy101
  obtain rfl:=Option.some.inj H
  go_enter Tryz.func177,Tryz.ntmps177
  go_wp2_with (first | ((with_reducible refine gate_dst (N:=8) rfl ?_);refine Kd.R_lit (Kd.int .u8) _ 5 ?hg (N:=8) ?hd (xs:=([(48 + ((a0) % 256)) % 256]:List Int)) (inner:=[.int .u8 ((48 + ((a0) % 256)) % 256)]) (ok:=fun _ => True) (okp:=fun _ => True) ?hr ?hp (fun _ hk => hk) trivial (Below.refl _ _) (Nat.le_refl _) (by simp) ?_;(case hd => rfl);(case hg => rfl);(case hr => first | (go_simp;done) | (go_simp;rfl));(case hp => exact (Reps.one (show Kd.M (Kd.int .u8) _ _ _ ((48 + ((a0) % 256)) % 256) [.int .u8 ((48 + ((a0) % 256)) % 256)] from rfl) (Reps.none _ _)));intro v102 w3 ho4 hb hg_ hnew_;clear hg_ hnew_;(first | rw [← Ny101.out] at ho4 | (simp only [Int.reduceToNat] at ho4;rw [← Ny101.out] at ho4));have n0_:=Aside0.mk (Kd.R_lower ho4 (below_size (by repeat (first | (with_reducible first | exact HB.out | apply below_alloc | apply pw_below_drewN | apply below_drew1) | exact HB.out))));have n1_:=Aside0.mk (below_step (by repeat (first | (with_reducible first | exact HB.out | apply below_alloc | apply pw_below_drewN | apply below_drew1) | exact HB.out)) hb);clear HB;have HO103:=n0_;have HB:=n1_;clear n0_ n1_;clear hb ho4;have hcv5:=own_string (P:=Tryz.prog) Tryz.underlying36 Tryz.underlying5 Tryz.underlying9 (Kd.own_of_R HO103.out)))
  go_ret
  exact ⟨by first | rfl | (simp [errW_none,errW_some] <;> rfl) | (simp [*,errW_none,errW_some] <;> rfl),by repeat (first | (with_reducible first | exact HB.out | apply below_alloc | apply pw_below_drewN | apply below_drew1) | exact HB.out)⟩
 ·rw [if_neg c2] at H
  have c2b0:decide (a0 < 10)=false:=decide_eq_false c2
  clear c2
  replace H:=Option.bind_eq_some_iff.mp H
  obtain ⟨t104,A60,H⟩:=H
  replace H:((parse_digits.f k (Int.tmod a0 10)).bind fun t105 => (if t104.size + t105.size ≤ 9223372036854775807 then (some (t104 ++ t105)) else (none)))=some r:=H
  have A6:=Aside0.mk A60
  clear A60
  replace H:=Option.bind_eq_some_iff.mp H
  obtain ⟨t105,A70,H⟩:=H
  replace H:(if t104.size + t105.size ≤ 9223372036854775807 then (some (t104 ++ t105)) else (none))=some r:=H
  have A7:=Aside0.mk A70
  clear A70
  by_cases c8:t104.size + t105.size ≤ 9223372036854775807
  ·rw [if_pos c8] at H
   have c8b0:=eq_true c8
   have c8b1:decide (t104.size + t105.size ≤ 9223372036854775807)=true:=decide_eq_true c8
   try have c8b2:(9223372036854775807 < t104.size + t105.size)=False:=eq_false (Nat.not_lt.2 c8)
   obtain rfl:=Option.some.inj H
   go_enter Tryz.func177,Tryz.ntmps177
   go_wp2_with (first | ((with_reducible refine gate_callee (f:=177) rfl ?_);refine goesL_ (some 12) rfl rfl Tryz.func177 (by kernel_rfl) rfl #[.int .u64 (IntKind.u64.wrap (Int.tdiv a0 10))] rfl (by (try simp only [List.map_toArray,List.map_cons,List.map_nil]);first | done | rfl | (simp only [List.length_drop,List.length_take];rfl)) ?_;(with_reducible refine (ih k (by omega) (IntKind.u64.wrap (Int.tdiv a0 10)) t104 _ A6.out).mono ?_);rintro e w9 ⟨rfl,hb⟩;refine ⟨_,rfl,?_⟩;have n0_:=Aside0.mk (below_step (by repeat (first | (with_reducible first | exact HB.out | apply below_alloc | apply pw_below_drewN | apply below_drew1) | exact HB.out)) hb);clear HB;have HB:=n0_;clear n0_;(try clear hb);(try clear hb2);(try clear hk);(try clear hi)) | ((with_reducible refine gate_callee (f:=177) rfl ?_);refine goesL_ (some 15) rfl rfl Tryz.func177 (by kernel_rfl) rfl #[.int .u64 (Int.tmod a0 10)] rfl (by (try simp only [List.map_toArray,List.map_cons,List.map_nil]);first | done | rfl | (simp only [List.length_drop,List.length_take];rfl)) ?_;(with_reducible refine (ih k (by omega) (Int.tmod a0 10) t105 _ A7.out).mono ?_);rintro e w10 ⟨rfl,hb⟩;refine ⟨_,rfl,?_⟩;have n0_:=Aside0.mk (below_step (by repeat (first | (with_reducible first | exact HB.out | apply below_alloc | apply pw_below_drewN | apply below_drew1) | exact HB.out)) hb);clear HB;have HB:=n0_;clear n0_;(try clear hb);(try clear hb2);(try clear hk);(try clear hi)))
   go_ret
   exact ⟨by first | rfl | (simp [errW_none,errW_some] <;> rfl) | (simp [*,errW_none,errW_some] <;> rfl),by repeat (first | (with_reducible first | exact HB.out | apply below_alloc | apply pw_below_drewN | apply below_drew1) | exact HB.out)⟩
  ·rw [if_neg c8] at H
   exact absurd H (by simp)
set_option maxHeartbeats 8000000 in
set_option maxRecDepth 100000 in
theorem parse_literal.calls (k:Nat) (a0_0:Int) (a0_1:Int) (a0_2:ByteArray) (r:ByteArray) (w:World) (h:parse_literal.f k a0_0 a0_1 a0_2=some r) (hG:GV w) :
  Calls Tryz.prog 101 #[.agg #[.int .i64 a0_0,.int .i64 a0_1,.string a0_2]] w fun e w' => e = .returned (.string r)∧Below w.heap.size w w':=by
 have hu40:=Tryz.underlying40
 have HB:=Aside0.mk (Below.refl w.heap.size w)
 have H:(if a0_0=0 then (some (⟨#[110,117,108,108]⟩:ByteArray)) else (if a0_0=2 then (parse_literal.j0 k true a0_0 a0_1 a0_2) else (parse_literal.j0 k (a0_0 != 1) a0_0 a0_1 a0_2)))=some r:=h
 clear h
 by_cases c2:a0_0=0
 ·rw [if_pos c2] at H
  have c2b0:(a0_0 == 0)=true:=beq_iff_eq.mpr c2
  have c2b1:(a0_0 != 0)=false:=bne_eq_false_iff_eq.mpr c2
  clear c2
  obtain rfl:=Option.some.inj H
  go_enter Tryz.func101,Tryz.ntmps101
  go_wp2_with (first | ((with_reducible refine gate_dst (N:=1) rfl ?_);refine box_event ?hg (N:=1) ?hd (cs:=#[.int .i64 a0_0,.int .i64 a0_1,.string a0_2]) (t:=40) ?hr ?_;(case hd => rfl);(case hg => rfl);(case hr => first | (go_simp;done) | (go_simp;rfl));intro gb106 hg w3 hbox hb;have n0_:=Aside0.mk (below_step (by repeat (first | (with_reducible first | exact HB.out | apply below_alloc | apply pw_below_drewN | apply below_drew1) | exact HB.out)) hb);have n1_:=Aside0.mk (hbox);have n2_:=Aside0.mk ((by rw [hg];exact (below_size (by repeat (first | (with_reducible first | exact HB.out | apply below_alloc | apply pw_below_drewN | apply below_drew1) | exact HB.out))):w.heap.size ≤ gb106));have n3_:=Aside0.mk ((by rw [hg];exact (below_size (by repeat (first | (with_reducible first | exact HB.out | apply below_alloc | apply pw_below_drewN | apply below_drew1) | exact HB.out))):w.heap.size ≤ gb106));clear HB;have HB:=n0_;have BK106:=n1_;have GW106:=n2_;have GE106:=n3_;clear n0_ n1_ n2_ n3_;clear hb hbox hg;have hcz4_0:w3.cell? ⟨gb106,0,none⟩=some (.int .i64 a0_0):=(blk_cell BK106.out 0).trans rfl;have hcz4_1:w3.cell? ⟨gb106,1,none⟩=some (.int .i64 a0_1):=(blk_cell BK106.out 1).trans rfl;have hcz4_2:w3.cell? ⟨gb106,2,none⟩=some (.string a0_2):=(blk_cell BK106.out 2).trans rfl;have hfz4_0:=blk_frozen BK106.out 0;have hfz4_1:=blk_frozen BK106.out 1;have hfz4_2:=blk_frozen BK106.out 2))
  go_ret
  exact ⟨by first | rfl | (simp [errW_none,errW_some] <;> rfl) | (simp [*,errW_none,errW_some] <;> rfl),by repeat (first | (with_reducible first | exact HB.out | apply below_alloc | apply pw_below_drewN | apply below_drew1 | refine below_set ?_ GE106.out) | exact HB.out)⟩
 ·rw [if_neg c2] at H
  have c2b0:(a0_0 == 0)=false:=beq_eq_false_iff_ne.mpr c2
  have c2b1:(a0_0 != 0)=true:=bne_iff_ne.mpr c2
  have HC5:=Aside0.mk H
  clear H
  go_enter Tryz.func101,Tryz.ntmps101
  go_upto_region 3 with (first | ((with_reducible refine gate_dst (N:=1) rfl ?_);refine box_event ?hg (N:=1) ?hd (cs:=#[.int .i64 a0_0,.int .i64 a0_1,.string a0_2]) (t:=40) ?hr ?_;(case hd => rfl);(case hg => rfl);(case hr => first | (go_simp;done) | (go_simp;rfl));intro gb106 hg w6 hbox hb;have n0_:=Aside0.mk (below_step (by repeat (first | (with_reducible first | exact HB.out | apply below_alloc | apply pw_below_drewN | apply below_drew1) | exact HB.out)) hb);have n1_:=Aside0.mk (hbox);have n2_:=Aside0.mk ((by rw [hg];exact (below_size (by repeat (first | (with_reducible first | exact HB.out | apply below_alloc | apply pw_below_drewN | apply below_drew1) | exact HB.out))):w.heap.size ≤ gb106));have n3_:=Aside0.mk ((by rw [hg];exact (below_size (by repeat (first | (with_reducible first | exact HB.out | apply below_alloc | apply pw_below_drewN | apply below_drew1) | exact HB.out))):w.heap.size ≤ gb106));clear HB;have HB:=n0_;have BK106:=n1_;have GW106:=n2_;have GE106:=n3_;clear n0_ n1_ n2_ n3_;clear hb hbox hg;have hcz7_0:w6.cell? ⟨gb106,0,none⟩=some (.int .i64 a0_0):=(blk_cell BK106.out 0).trans rfl;have hcz7_1:w6.cell? ⟨gb106,1,none⟩=some (.int .i64 a0_1):=(blk_cell BK106.out 1).trans rfl;have hcz7_2:w6.cell? ⟨gb106,2,none⟩=some (.string a0_2):=(blk_cell BK106.out 2).trans rfl;have hfz7_0:=blk_frozen BK106.out 0;have hfz7_1:=blk_frozen BK106.out 1;have hfz7_2:=blk_frozen BK106.out 2))
  (try simp only [Act.put,List.setIfInBounds_toArray,List.set_cons_zero,List.set_cons_succ])
  go_cut [7] (fun v7 wc => ∃ (kq:Nat) (x7_4:Bool),v7 = .bool x7_4∧Aside0 (parse_literal.j0 kq x7_4 a0_0 a0_1 a0_2=some r)∧Aside0 (kq ≤ k)∧Aside0 (wc.heap[gb106]? = some (.cells #[.int .i64 a0_0,.int .i64 a0_1,.string a0_2] 40 (0,0)))∧Aside0 (Below w.heap.size w wc))
  case first =>
   have H:=HC5.out
   clear HC5
   by_cases c8:a0_0=2
   ·rw [if_pos c8] at H
    have c8b0:(a0_0 == 2)=true:=beq_iff_eq.mpr c8
    have c8b1:(a0_0 != 2)=false:=bne_eq_false_iff_eq.mpr c8
    clear c8
    (first | rw [c8b0] | (simp only [i64_w,i32_w];rw [c8b0]) | skip)
    have H':=Aside0.mk H
    clear H
    have hcz9_0:w6.cell? ⟨gb106,0,none⟩=some (.int .i64 a0_0):=(blk_cell BK106.out 0).trans rfl
    have hcz9_1:w6.cell? ⟨gb106,1,none⟩=some (.int .i64 a0_1):=(blk_cell BK106.out 1).trans rfl
    have hcz9_2:w6.cell? ⟨gb106,2,none⟩=some (.string a0_2):=(blk_cell BK106.out 2).trans rfl
    have hfz9_0:=blk_frozen BK106.out 0
    have hfz9_1:=blk_frozen BK106.out 1
    have hfz9_2:=blk_frozen BK106.out 2
    go_wp2
    go_meet
    case rel => exact ⟨_,(true),(by first | rfl | (simp;done) | (simp [*];done)),H',⟨by first | omega | exact Nat.le_refl _⟩,⟨by (with_reducible repeat (first | refine blk_drewN ?_ _ | refine blk_drew ?_ | refine blk_alloc ?_ _));exact BK106.out⟩,⟨by repeat (first | (with_reducible first | exact HB.out | apply below_alloc | apply pw_below_drewN | apply below_drew1 | refine below_set ?_ GE106.out) | exact HB.out)⟩⟩
   ·rw [if_neg c8] at H
    have c8b0:(a0_0 == 2)=false:=beq_eq_false_iff_ne.mpr c8
    have c8b1:(a0_0 != 2)=true:=bne_iff_ne.mpr c8
    (first | rw [c8b0] | (simp only [i64_w,i32_w];rw [c8b0]) | skip)
    have H':=Aside0.mk H
    clear H
    have hcz10_0:w6.cell? ⟨gb106,0,none⟩=some (.int .i64 a0_0):=(blk_cell BK106.out 0).trans rfl
    have hcz10_1:w6.cell? ⟨gb106,1,none⟩=some (.int .i64 a0_1):=(blk_cell BK106.out 1).trans rfl
    have hcz10_2:w6.cell? ⟨gb106,2,none⟩=some (.string a0_2):=(blk_cell BK106.out 2).trans rfl
    have hfz10_0:=blk_frozen BK106.out 0
    have hfz10_1:=blk_frozen BK106.out 1
    have hfz10_2:=blk_frozen BK106.out 2
    go_wp2
    go_meet
    case rel => exact ⟨_,((a0_0 != 1)),(by first | rfl | (simp;done) | (simp [*];done)),H',⟨by first | omega | exact Nat.le_refl _⟩,⟨by (with_reducible repeat (first | refine blk_drewN ?_ _ | refine blk_drew ?_ | refine blk_alloc ?_ _));exact BK106.out⟩,⟨by repeat (first | (with_reducible first | exact HB.out | apply below_alloc | apply pw_below_drewN | apply below_drew1 | refine below_set ?_ GE106.out) | exact HB.out)⟩⟩
  case rest =>
   clear HC5
   try clear c1
   try clear c2
   try clear c2b0
   try clear c2b1
   try clear p2
   try clear c8
   try clear c8b0
   try clear c8b1
   try clear c10
   try clear hcz10_0
   try clear hcz10_1
   try clear hcz10_2
   try clear hcz4_0
   try clear hcz4_1
   try clear hcz4_2
   try clear hcz7_0
   try clear hcz7_1
   try clear hcz7_2
   try clear hcz9_0
   try clear hcz9_1
   try clear hcz9_2
   try clear hfz10_0
   try clear hfz10_1
   try clear hfz10_2
   try clear hfz4_0
   try clear hfz4_1
   try clear hfz4_2
   try clear hfz7_0
   try clear hfz7_1
   try clear hfz7_2
   try clear hfz9_0
   try clear hfz9_1
   try clear hfz9_2
   obtain ⟨kq,x7_4,rfl,HA,HJ4,BK106,HB⟩:=hcut
   cases kq with
   | zero => exact absurd HA.out (by simp [parse_literal.j0])
   | succ kj4 =>
    have H:=HA.out
    clear HA
    simp only [parse_literal.j0] at H
    by_cases c11:x7_4=true
    ·subst c11
     have H1:((strings_ReplaceAll.f a0_2 (⟨#[39]⟩:ByteArray) (⟨#[39,39]⟩:ByteArray)).bind fun t107 => (if 1 + t107.size ≤ 9223372036854775807 then (if ((⟨#[39]⟩:ByteArray) ++ t107).size + 1 ≤ 9223372036854775807 then (some (((⟨#[39]⟩:ByteArray) ++ t107) ++ (⟨#[39]⟩:ByteArray))) else (none)) else (none)))=some r:=by rw [if_pos rfl] at H;exact H
     clear H
     have H:=H1
     clear H1
     replace H:=Option.bind_eq_some_iff.mp H
     obtain ⟨t107,A120,H⟩:=H
     replace H:(if 1 + t107.size ≤ 9223372036854775807 then (if ((⟨#[39]⟩:ByteArray) ++ t107).size + 1 ≤ 9223372036854775807 then (some (((⟨#[39]⟩:ByteArray) ++ t107) ++ (⟨#[39]⟩:ByteArray))) else (none)) else (none))=some r:=H
     have A12:=Aside0.mk A120
     clear A120
     by_cases c13:1 + t107.size ≤ 9223372036854775807
     ·rw [if_pos c13] at H
      have c13b0:=eq_true c13
      have c13b1:decide (1 + t107.size ≤ 9223372036854775807)=true:=decide_eq_true c13
      try have c13b2:(9223372036854775807 < 1 + t107.size)=False:=eq_false (Nat.not_lt.2 c13)
      by_cases c14:((⟨#[39]⟩:ByteArray) ++ t107).size + 1 ≤ 9223372036854775807
      ·rw [if_pos c14] at H
       have c14b0:=eq_true c14
       have c14s:(1 + t107.size) + 1 ≤ 9223372036854775807:=by have z_:=c14;rw [ByteArray.size_append] at z_;exact z_
       have c14s1:=eq_true c14s
       have c14s2:decide ((1 + t107.size) + 1 ≤ 9223372036854775807)=true:=decide_eq_true c14s
       have c14b1:decide (((⟨#[39]⟩:ByteArray) ++ t107).size + 1 ≤ 9223372036854775807)=true:=decide_eq_true c14
       try have c14b2:(9223372036854775807 < ((⟨#[39]⟩:ByteArray) ++ t107).size + 1)=False:=eq_false (Nat.not_lt.2 c14)
       obtain rfl:=Option.some.inj H
       have hcz15_0:wc.cell? ⟨gb106,0,none⟩=some (.int .i64 a0_0):=(blk_cell BK106.out 0).trans rfl
       have hcz15_1:wc.cell? ⟨gb106,1,none⟩=some (.int .i64 a0_1):=(blk_cell BK106.out 1).trans rfl
       have hcz15_2:wc.cell? ⟨gb106,2,none⟩=some (.string a0_2):=(blk_cell BK106.out 2).trans rfl
       have hfz15_0:=blk_frozen BK106.out 0
       have hfz15_1:=blk_frozen BK106.out 1
       have hfz15_2:=blk_frozen BK106.out 2
       go_wp2_with (first | ((with_reducible refine gate_callee (f:=65) rfl ?_);refine goesL_ (some 18) rfl rfl Tryz.func65 (by kernel_rfl) rfl #[.string a0_2,.string (⟨#[39]⟩:ByteArray),.string (⟨#[39,39]⟩:ByteArray)] rfl (by (try simp only [List.map_toArray,List.map_cons,List.map_nil]);first | done | rfl | (simp only [List.length_drop,List.length_take];rfl)) ?_;(with_reducible refine (strings_ReplaceAll.calls a0_2 (⟨#[39]⟩:ByteArray) (⟨#[39,39]⟩:ByteArray) t107 _ A12.out (GV.below hG (by repeat (first | (with_reducible first | exact HB.out | apply below_alloc | apply pw_below_drewN | apply below_drew1 | refine below_set ?_ GE106.out) | exact HB.out)))).mono ?_);rintro e w16 ⟨rfl,hb⟩;refine ⟨_,rfl,?_⟩;have n0_:=Aside0.mk (blk_below (g:=gb106) (o:=.cells #[.int .i64 a0_0,.int .i64 a0_1,.string a0_2] 40 (0,0)) (by (with_reducible repeat (first | refine blk_drewN ?_ _ | refine blk_drew ?_ | refine blk_alloc ?_ _));exact BK106.out) hb);have n1_:=Aside0.mk (below_step (by repeat (first | (with_reducible first | exact HB.out | apply below_alloc | apply pw_below_drewN | apply below_drew1 | refine below_set ?_ GE106.out) | exact HB.out)) hb);clear BK106;clear HB;have BK106:=n0_;have HB:=n1_;clear n0_ n1_;(try clear hb);(try clear hb2);(try clear hk);(try clear hi)))
       go_ret
       exact ⟨by first | rfl | (simp [errW_none,errW_some] <;> rfl) | (simp [*,errW_none,errW_some] <;> rfl),by repeat (first | (with_reducible first | exact HB.out | apply below_alloc | apply pw_below_drewN | apply below_drew1 | refine below_set ?_ GE106.out) | exact HB.out)⟩
      ·rw [if_neg c14] at H
       exact absurd H (by simp)
     ·rw [if_neg c13] at H
      exact absurd H (by simp)
    ·replace c11:=Bool.eq_false_iff.mpr c11
     subst c11
     have H1:(if a0_1 < 0 then ((parse_digits.f kj4 (IntKind.u64.wrap (wrap64 (-a0_1)))).bind fun t108 => (if 1 + t108.size ≤ 9223372036854775807 then (some ((⟨#[45]⟩:ByteArray) ++ t108)) else (none))) else ((parse_digits.f kj4 (IntKind.u64.wrap (a0_1))).bind fun t109 => (some t109)))=some r:=by rw [if_neg (show ¬ (false=true) by decide)] at H;exact H
     clear H
     have H:=H1
     clear H1
     by_cases c17:a0_1 < 0
     ·rw [if_pos c17] at H
      have c17b0:decide (a0_1 < 0)=true:=decide_eq_true c17
      clear c17
      replace H:=Option.bind_eq_some_iff.mp H
      obtain ⟨t108,A180,H⟩:=H
      replace H:(if 1 + t108.size ≤ 9223372036854775807 then (some ((⟨#[45]⟩:ByteArray) ++ t108)) else (none))=some r:=H
      have A18:=Aside0.mk A180
      clear A180
      by_cases c19:1 + t108.size ≤ 9223372036854775807
      ·rw [if_pos c19] at H
       have c19b0:=eq_true c19
       have c19b1:decide (1 + t108.size ≤ 9223372036854775807)=true:=decide_eq_true c19
       try have c19b2:(9223372036854775807 < 1 + t108.size)=False:=eq_false (Nat.not_lt.2 c19)
       obtain rfl:=Option.some.inj H
       have hcz20_0:wc.cell? ⟨gb106,0,none⟩=some (.int .i64 a0_0):=(blk_cell BK106.out 0).trans rfl
       have hcz20_1:wc.cell? ⟨gb106,1,none⟩=some (.int .i64 a0_1):=(blk_cell BK106.out 1).trans rfl
       have hcz20_2:wc.cell? ⟨gb106,2,none⟩=some (.string a0_2):=(blk_cell BK106.out 2).trans rfl
       have hfz20_0:=blk_frozen BK106.out 0
       have hfz20_1:=blk_frozen BK106.out 1
       have hfz20_2:=blk_frozen BK106.out 2
       go_wp2_with (first | ((with_reducible refine gate_callee (f:=177) rfl ?_);refine goesL_ (some 29) rfl rfl Tryz.func177 (by kernel_rfl) rfl #[.int .u64 (IntKind.u64.wrap (wrap64 (-a0_1)))] rfl (by (try simp only [List.map_toArray,List.map_cons,List.map_nil]);first | done | rfl | (simp only [List.length_drop,List.length_take];rfl)) ?_;(with_reducible refine (parse_digits.calls kj4 (IntKind.u64.wrap (wrap64 (-a0_1))) t108 _ A18.out).mono ?_);rintro e w21 ⟨rfl,hb⟩;refine ⟨_,rfl,?_⟩;have n0_:=Aside0.mk (blk_below (g:=gb106) (o:=.cells #[.int .i64 a0_0,.int .i64 a0_1,.string a0_2] 40 (0,0)) (by (with_reducible repeat (first | refine blk_drewN ?_ _ | refine blk_drew ?_ | refine blk_alloc ?_ _));exact BK106.out) hb);have n1_:=Aside0.mk (below_step (by repeat (first | (with_reducible first | exact HB.out | apply below_alloc | apply pw_below_drewN | apply below_drew1 | refine below_set ?_ GE106.out) | exact HB.out)) hb);clear BK106;clear HB;have BK106:=n0_;have HB:=n1_;clear n0_ n1_;(try clear hb);(try clear hb2);(try clear hk);(try clear hi)))
       go_ret
       exact ⟨by first | rfl | (simp [errW_none,errW_some] <;> rfl) | (simp [*,errW_none,errW_some] <;> rfl),by repeat (first | (with_reducible first | exact HB.out | apply below_alloc | apply pw_below_drewN | apply below_drew1 | refine below_set ?_ GE106.out) | exact HB.out)⟩
      ·rw [if_neg c19] at H
       exact absurd H (by simp)
     ·rw [if_neg c17] at H
      have c17b0:decide (a0_1 < 0)=false:=decide_eq_false c17
      clear c17
      replace H:=Option.bind_eq_some_iff.mp H
      obtain ⟨t109,A220,H⟩:=H
      replace H:(some t109)=some r:=H
      have A22:=Aside0.mk A220
      clear A220
      obtain rfl:=Option.some.inj H
      have hcz23_0:wc.cell? ⟨gb106,0,none⟩=some (.int .i64 a0_0):=(blk_cell BK106.out 0).trans rfl
      have hcz23_1:wc.cell? ⟨gb106,1,none⟩=some (.int .i64 a0_1):=(blk_cell BK106.out 1).trans rfl
      have hcz23_2:wc.cell? ⟨gb106,2,none⟩=some (.string a0_2):=(blk_cell BK106.out 2).trans rfl
      have hfz23_0:=blk_frozen BK106.out 0
      have hfz23_1:=blk_frozen BK106.out 1
      have hfz23_2:=blk_frozen BK106.out 2
      go_wp2_with (first | ((with_reducible refine gate_callee (f:=177) rfl ?_);refine goesL_ (some 34) rfl rfl Tryz.func177 (by kernel_rfl) rfl #[.int .u64 (IntKind.u64.wrap (a0_1))] rfl (by (try simp only [List.map_toArray,List.map_cons,List.map_nil]);first | done | rfl | (simp only [List.length_drop,List.length_take];rfl)) ?_;(with_reducible refine (parse_digits.calls kj4 (IntKind.u64.wrap (a0_1)) t109 _ A22.out).mono ?_);rintro e w24 ⟨rfl,hb⟩;refine ⟨_,rfl,?_⟩;have n0_:=Aside0.mk (blk_below (g:=gb106) (o:=.cells #[.int .i64 a0_0,.int .i64 a0_1,.string a0_2] 40 (0,0)) (by (with_reducible repeat (first | refine blk_drewN ?_ _ | refine blk_drew ?_ | refine blk_alloc ?_ _));exact BK106.out) hb);have n1_:=Aside0.mk (below_step (by repeat (first | (with_reducible first | exact HB.out | apply below_alloc | apply pw_below_drewN | apply below_drew1 | refine below_set ?_ GE106.out) | exact HB.out)) hb);clear BK106;clear HB;have BK106:=n0_;have HB:=n1_;clear n0_ n1_;(try clear hb);(try clear hb2);(try clear hk);(try clear hi)))
      go_ret
      exact ⟨by first | rfl | (simp [errW_none,errW_some] <;> rfl) | (simp [*,errW_none,errW_some] <;> rfl),by repeat (first | (with_reducible first | exact HB.out | apply below_alloc | apply pw_below_drewN | apply below_drew1 | refine below_set ?_ GE106.out) | exact HB.out)⟩
set_option maxHeartbeats 8000000 in
set_option maxRecDepth 100000 in
theorem parse_Depth.calls (k:Nat):∀ (a0_0:ByteArray) (a0_1:Int) (a0_2:Int) (a0_3:ByteArray) (a0_4:ByteArray) (A0_5:Option Addr) (c0_5:Nat) (l0_5:List (S43)) (r:Int) (w:World) (hr0_5:Kd.C k43 w A0_5 l0_5.length l0_5) (hc0_5:l0_5.length ≤ c0_5) (h:parse_Depth.f k a0_0 a0_1 a0_2 a0_3 a0_4 l0_5=some r),
  Calls Tryz.prog 43 #[.agg #[.string a0_0,.int .i64 a0_1,.int .i64 a0_2,.string a0_3,.string a0_4,.slice A0_5 l0_5.length c0_5]] w fun e w' => e = .returned (.int .i64 r)∧Below w.heap.size w w':=by
 induction k using Nat.strongRecOn with
 | _ k ih =>
 intro a0_0 a0_1 a0_2 a0_3 a0_4 A0_5 c0_5 l0_5 r w hr0_5 hc0_5 h
 cases k with
 | zero => exact absurd h (by simp [parse_Depth.f])
 | succ k =>
 simp only [parse_Depth.f] at h
 have hu43:=Tryz.underlying43
 have HR0_5:=Aside0.mk hr0_5
 have HC0_5:=Aside0.mk hc0_5
 clear hr0_5 hc0_5
 have HB:=Aside0.mk (Below.refl w.heap.size w)
 have H:(parse_Depth.l0 k 0 l0_5 (l0_5.length:Int) 0)=some r:=h
 clear h
 have H':=Aside0.mk H
 clear H
 go_enter Tryz.func43,Tryz.ntmps43
 go_wp2_with (first | ((with_reducible refine gate_dst (N:=1) rfl ?_);refine box_event ?hg (N:=1) ?hd (cs:=#[.string a0_0,.int .i64 a0_1,.int .i64 a0_2,.string a0_3,.string a0_4,.slice A0_5 l0_5.length c0_5]) (t:=43) ?hr ?_;(case hd => rfl);(case hg => rfl);(case hr => first | (go_simp;done) | (go_simp;rfl));intro gb110 hg w2 hbox hb;have n0_:=Aside0.mk (below_step (by repeat (first | (with_reducible first | exact HB.out | apply below_alloc | apply pw_below_drewN | apply below_drew1) | exact HB.out)) hb);have n1_:=Aside0.mk (hbox);have n2_:=Aside0.mk ((by rw [hg];exact (below_size (by repeat (first | (with_reducible first | exact HB.out | apply below_alloc | apply pw_below_drewN | apply below_drew1) | exact HB.out))):w.heap.size ≤ gb110));have n3_:=Aside0.mk ((by rw [hg];exact (below_size (by repeat (first | (with_reducible first | exact HB.out | apply below_alloc | apply pw_below_drewN | apply below_drew1) | exact HB.out))):w.heap.size ≤ gb110));clear HB;have HB:=n0_;have BK110:=n1_;have GW110:=n2_;have GE110:=n3_;clear n0_ n1_ n2_ n3_;clear hb hbox hg;have hcz3_0:w2.cell? ⟨gb110,0,none⟩=some (.string a0_0):=(blk_cell BK110.out 0).trans rfl;have hcz3_1:w2.cell? ⟨gb110,1,none⟩=some (.int .i64 a0_1):=(blk_cell BK110.out 1).trans rfl;have hcz3_2:w2.cell? ⟨gb110,2,none⟩=some (.int .i64 a0_2):=(blk_cell BK110.out 2).trans rfl;have hcz3_3:w2.cell? ⟨gb110,3,none⟩=some (.string a0_3):=(blk_cell BK110.out 3).trans rfl;have hcz3_4:w2.cell? ⟨gb110,4,none⟩=some (.string a0_4):=(blk_cell BK110.out 4).trans rfl;have hcz3_5:w2.cell? ⟨gb110,5,none⟩=some (.slice A0_5 l0_5.length c0_5):=(blk_cell BK110.out 5).trans rfl;have hfz3_0:=blk_frozen BK110.out 0;have hfz3_1:=blk_frozen BK110.out 1;have hfz3_2:=blk_frozen BK110.out 2;have hfz3_3:=blk_frozen BK110.out 3;have hfz3_4:=blk_frozen BK110.out 4;have hfz3_5:=blk_frozen BK110.out 5))
 go_loopg [3,9] k (fun kq v3 v9 w' => ∃ (x3_1:Int) (x9_1:Int),v3 = .int .i64 x3_1∧v9 = .int .i64 x9_1∧Aside0 (parse_Depth.l0 kq x3_1 l0_5 (l0_5.length:Int) x9_1=some r)∧Aside0 (kq ≤ k)∧Aside0 (w'.heap[gb110]? = some (.cells #[.string a0_0,.int .i64 a0_1,.int .i64 a0_2,.string a0_3,.string a0_4,(.slice A0_5 l0_5.length c0_5)] 43 (0,0)))∧Aside0 (Below w.heap.size w w'))
 case atStart => exact ⟨(0),(0),(by first | rfl | (simp;done) | (simp [*];done)),(by first | rfl | (simp;done) | (simp [*];done)),H',⟨Nat.le_refl _⟩,⟨by (with_reducible repeat (first | refine blk_drewN ?_ _ | refine blk_drew ?_ | refine blk_alloc ?_ _));exact BK110.out⟩,⟨by repeat (first | (with_reducible first | exact HB.out | apply below_alloc | apply pw_below_drewN | apply below_drew1 | refine below_set ?_ GE110.out) | exact HB.out)⟩⟩
 case round =>
  clear H'
  try clear p2
  try clear hcz3_0
  try clear hcz3_1
  try clear hcz3_2
  try clear hcz3_3
  try clear hcz3_4
  try clear hcz3_5
  try clear hfz3_0
  try clear hfz3_1
  try clear hfz3_2
  try clear hfz3_3
  try clear hfz3_4
  try clear hfz3_5
  obtain ⟨x3_1,x9_1,rfl,rfl,HA,HK1,BK110,HB⟩:=hrel
  cases gk with
  | zero => exact absurd HA.out (by simp [parse_Depth.l0])
  | succ k1 =>
   have H:=HA.out
   clear HA
   simp only [parse_Depth.l0] at H
   by_cases c4:x9_1 < (l0_5.length:Int)
   ·rw [if_pos c4] at H
    have c4b0:decide (x9_1 < (l0_5.length:Int))=true:=decide_eq_true c4
    clear c4
    by_cases c5:0 ≤ x9_1
    ·rw [if_pos c5] at H
     have c5b0:decide (0 ≤ x9_1)=true:=decide_eq_true c5
     clear c5
     by_cases c6:x9_1 < (l0_5.length:Int)
     ·rw [if_pos c6] at H
      have c6b0:decide (x9_1 < (l0_5.length:Int))=true:=decide_eq_true c6
      clear c6
      replace H:=Option.bind_eq_some_iff.mp H
      obtain ⟨t113,A70,H⟩:=H
      replace H:(parse_Depth.l0 k1 (mx x3_1 t113) l0_5 (l0_5.length:Int) (wrap64 (x9_1 + 1)))=some r:=H
      have A7:=Aside0.mk A70
      clear A70
      obtain ⟨ji8,hji8⟩:∃ j_:Int,(mx x3_1 t113)=j_:=⟨_,rfl⟩
      replace H:(parse_Depth.l0 k1 ji8 l0_5 (l0_5.length:Int) (wrap64 (x9_1 + 1)))=some r:=by first | (rw [hji8] at H;exact H) | (simp only [hji8] at H ⊢;exact H)
      (try rw [hji8] at A7)
      have hji8_:(if x3_1 < t113 then t113 else x3_1)=ji8:=hji8
      have H':=Aside0.mk H
      clear H
      have p111:0 ≤ (x9_1:Int):=of_decide_eq_true (by first | (with_reducible assumption) | assumption)
      have q111:x9_1 < (l0_5.length:Int):=of_decide_eq_true (by first | (with_reducible assumption) | assumption)
      obtain ⟨ad111,A111_5,c111_5,e111,hx111_0,hx111_1,hx111_2,hx111_3,hx111_4,hx111_5,hl111_5,hi111_5⟩:=at_T43 HR0_5.out x9_1 p111 q111
      cases e111
      replace hx111_0:=(HB.out.cell (World.block_lt_of_cell? w _ hx111_0)).trans hx111_0
      replace hx111_1:=(HB.out.cell (World.block_lt_of_cell? w _ hx111_1)).trans hx111_1
      replace hx111_2:=(HB.out.cell (World.block_lt_of_cell? w _ hx111_2)).trans hx111_2
      replace hx111_3:=(HB.out.cell (World.block_lt_of_cell? w _ hx111_3)).trans hx111_3
      replace hx111_4:=(HB.out.cell (World.block_lt_of_cell? w _ hx111_4)).trans hx111_4
      replace hx111_5:=(HB.out.cell (World.block_lt_of_cell? w _ hx111_5)).trans hx111_5
      have HR111_5:=Aside0.mk hi111_5
      have HC111_5:=Aside0.mk hl111_5
      clear hi111_5 hl111_5
      replace p111:=eq_true p111
      replace q111:=eq_true q111
      go_wp2_with (first | ((with_reducible refine gate_dst (N:=5) rfl ?_);refine box_event ?hg (N:=5) ?hd (cs:=#[.string (⟨#[]⟩:ByteArray),.int .i64 0,.int .i64 0,.string (⟨#[]⟩:ByteArray),.string (⟨#[]⟩:ByteArray),.slice none 0 0]) (t:=43) ?hr ?_;(case hd => rfl);(case hg => rfl);(case hr => first | (go_simp;done) | (go_simp;rfl));intro gb112 hg w9 hbox hb;have n0_:=Aside0.mk (blk_below (g:=gb110) (o:=.cells #[.string a0_0,.int .i64 a0_1,.int .i64 a0_2,.string a0_3,.string a0_4,.slice (some ad111) l0_5.length c0_5] 43 (0,0)) (by (with_reducible repeat (first | refine blk_drewN ?_ _ | refine blk_drew ?_ | refine blk_alloc ?_ _));exact BK110.out) hb);have n1_:=Aside0.mk (below_step (by repeat (first | (with_reducible first | exact HB.out | apply below_alloc | apply pw_below_drewN | apply below_drew1 | refine below_set ?_ GE110.out) | exact HB.out)) hb);have n2_:=Aside0.mk (hbox);have n3_:=Aside0.mk ((by rw [hg];exact (below_size (by repeat (first | (with_reducible first | exact HB.out | apply below_alloc | apply pw_below_drewN | apply below_drew1 | refine below_set ?_ GE110.out) | exact HB.out))):w.heap.size ≤ gb112));have n4_:=Aside0.mk ((by rw [hg];exact (below_size (by repeat (first | (with_reducible first | exact HB.out | apply below_alloc | apply pw_below_drewN | apply below_drew1 | refine below_set ?_ GE110.out) | exact HB.out))):w.heap.size ≤ gb112));have n5_:=Aside0.mk ((by rw [hg];exact Nat.ne_of_lt (blk_lt (g:=gb110) (o:=.cells #[.string a0_0,.int .i64 a0_1,.int .i64 a0_2,.string a0_3,.string a0_4,.slice (some ad111) l0_5.length c0_5] 43 (0,0)) (by (with_reducible repeat (first | refine blk_drewN ?_ _ | refine blk_drew ?_ | refine blk_alloc ?_ _));exact BK110.out)):gb110 ≠ gb112));have n6_:=Aside0.mk ((by rw [hg];exact Nat.ne_of_gt (blk_lt (g:=gb110) (o:=.cells #[.string a0_0,.int .i64 a0_1,.int .i64 a0_2,.string a0_3,.string a0_4,.slice (some ad111) l0_5.length c0_5] 43 (0,0)) (by (with_reducible repeat (first | refine blk_drewN ?_ _ | refine blk_drew ?_ | refine blk_alloc ?_ _));exact BK110.out)):gb112 ≠ gb110));clear BK110;clear HB;have BK110:=n0_;have HB:=n1_;have BK112:=n2_;have GW112:=n3_;have GE112:=n4_;have NB110_112:=n5_;have NB112_110:=n6_;clear n0_ n1_ n2_ n3_ n4_ n5_ n6_;clear hb hbox hg;have hnb10:=NB112_110.out;have hnc10:=NB110_112.out;have hcz11_0:w9.cell? ⟨gb112,0,none⟩=some (.string (⟨#[]⟩:ByteArray)):=(blk_cell BK112.out 0).trans rfl;have hcz11_1:w9.cell? ⟨gb112,1,none⟩=some (.int .i64 0):=(blk_cell BK112.out 1).trans rfl;have hcz11_2:w9.cell? ⟨gb112,2,none⟩=some (.int .i64 0):=(blk_cell BK112.out 2).trans rfl;have hcz11_3:w9.cell? ⟨gb112,3,none⟩=some (.string (⟨#[]⟩:ByteArray)):=(blk_cell BK112.out 3).trans rfl;have hcz11_4:w9.cell? ⟨gb112,4,none⟩=some (.string (⟨#[]⟩:ByteArray)):=(blk_cell BK112.out 4).trans rfl;have hcz11_5:w9.cell? ⟨gb112,5,none⟩=some (.slice none 0 0):=(blk_cell BK112.out 5).trans rfl;have hfz11_0:=blk_frozen BK112.out 0;have hfz11_1:=blk_frozen BK112.out 1;have hfz11_2:=blk_frozen BK112.out 2;have hfz11_3:=blk_frozen BK112.out 3;have hfz11_4:=blk_frozen BK112.out 4;have hfz11_5:=blk_frozen BK112.out 5) | ((with_reducible refine gate_callee (f:=43) rfl ?_);refine goesL_ (some 15) rfl rfl Tryz.func43 (by kernel_rfl) rfl #[.agg #[.string ((rd_T43 l0_5 x9_1).f0),.int .i64 ((rd_T43 l0_5 x9_1).f1.f0),.int .i64 ((rd_T43 l0_5 x9_1).f1.f1),.string ((rd_T43 l0_5 x9_1).f1.f2),.string ((rd_T43 l0_5 x9_1).f2),.slice A111_5 ((rd_T43 l0_5 x9_1).f3).length c111_5]] rfl (by (try simp only [List.map_toArray,List.map_cons,List.map_nil]);first | done | rfl | (simp only [List.length_drop,List.length_take];rfl)) ?_;(with_reducible refine (ih k1 (by have:=HK1.out;omega) ((rd_T43 l0_5 x9_1).f0) ((rd_T43 l0_5 x9_1).f1.f0) ((rd_T43 l0_5 x9_1).f1.f1) ((rd_T43 l0_5 x9_1).f1.f2) ((rd_T43 l0_5 x9_1).f2) _ _ ((rd_T43 l0_5 x9_1).f3) t113 _ ?side1 ?side2 A7.out).mono ?_);(case side1 => exact Kd.C_below HR111_5.out (by repeat (first | (with_reducible first | exact HB.out | apply below_alloc | apply pw_below_drewN | apply below_drew1 | refine below_set ?_ GE110.out | refine below_set ?_ GE112.out) | exact HB.out)));(case side2 => exact HC111_5.out);rintro e w12 ⟨rfl,hb⟩;refine ⟨_,rfl,?_⟩;have n0_:=Aside0.mk (blk_below (g:=gb110) (o:=.cells #[.string a0_0,.int .i64 a0_1,.int .i64 a0_2,.string a0_3,.string a0_4,.slice (some ad111) l0_5.length c0_5] 43 (0,0)) (by (with_reducible repeat (first | refine blk_drewN ?_ _ | refine blk_drew ?_ | refine blk_alloc ?_ _));refine blk_far ?_ NB110_112.out _;(with_reducible repeat (first | refine blk_drewN ?_ _ | refine blk_drew ?_ | refine blk_alloc ?_ _));refine blk_far ?_ NB110_112.out _;(with_reducible repeat (first | refine blk_drewN ?_ _ | refine blk_drew ?_ | refine blk_alloc ?_ _));refine blk_far ?_ NB110_112.out _;(with_reducible repeat (first | refine blk_drewN ?_ _ | refine blk_drew ?_ | refine blk_alloc ?_ _));refine blk_far ?_ NB110_112.out _;(with_reducible repeat (first | refine blk_drewN ?_ _ | refine blk_drew ?_ | refine blk_alloc ?_ _));refine blk_far ?_ NB110_112.out _;(with_reducible repeat (first | refine blk_drewN ?_ _ | refine blk_drew ?_ | refine blk_alloc ?_ _));refine blk_far ?_ NB110_112.out _;(with_reducible repeat (first | refine blk_drewN ?_ _ | refine blk_drew ?_ | refine blk_alloc ?_ _));exact BK110.out) hb);have n1_:=Aside0.mk (blk_below (g:=gb112) (o:=.cells #[.string ((rd_T43 l0_5 x9_1).f0),.int .i64 ((rd_T43 l0_5 x9_1).f1.f0),.int .i64 ((rd_T43 l0_5 x9_1).f1.f1),.string ((rd_T43 l0_5 x9_1).f1.f2),.string ((rd_T43 l0_5 x9_1).f2),.slice A111_5 ((rd_T43 l0_5 x9_1).f3).length c111_5] 43 (0,0)) (by (with_reducible repeat (first | refine blk_drewN ?_ _ | refine blk_drew ?_ | refine blk_alloc ?_ _));refine blk_put (cs:=#[.string ((rd_T43 l0_5 x9_1).f0),.int .i64 ((rd_T43 l0_5 x9_1).f1.f0),.int .i64 ((rd_T43 l0_5 x9_1).f1.f1),.string ((rd_T43 l0_5 x9_1).f1.f2),.string ((rd_T43 l0_5 x9_1).f2),.slice none 0 0]) ?_ 5 _ rfl;(with_reducible repeat (first | refine blk_drewN ?_ _ | refine blk_drew ?_ | refine blk_alloc ?_ _));refine blk_put (cs:=#[.string ((rd_T43 l0_5 x9_1).f0),.int .i64 ((rd_T43 l0_5 x9_1).f1.f0),.int .i64 ((rd_T43 l0_5 x9_1).f1.f1),.string ((rd_T43 l0_5 x9_1).f1.f2),.string (⟨#[]⟩:ByteArray),.slice none 0 0]) ?_ 4 _ rfl;(with_reducible repeat (first | refine blk_drewN ?_ _ | refine blk_drew ?_ | refine blk_alloc ?_ _));refine blk_put (cs:=#[.string ((rd_T43 l0_5 x9_1).f0),.int .i64 ((rd_T43 l0_5 x9_1).f1.f0),.int .i64 ((rd_T43 l0_5 x9_1).f1.f1),.string (⟨#[]⟩:ByteArray),.string (⟨#[]⟩:ByteArray),.slice none 0 0]) ?_ 3 _ rfl;(with_reducible repeat (first | refine blk_drewN ?_ _ | refine blk_drew ?_ | refine blk_alloc ?_ _));refine blk_put (cs:=#[.string ((rd_T43 l0_5 x9_1).f0),.int .i64 ((rd_T43 l0_5 x9_1).f1.f0),.int .i64 0,.string (⟨#[]⟩:ByteArray),.string (⟨#[]⟩:ByteArray),.slice none 0 0]) ?_ 2 _ rfl;(with_reducible repeat (first | refine blk_drewN ?_ _ | refine blk_drew ?_ | refine blk_alloc ?_ _));refine blk_put (cs:=#[.string ((rd_T43 l0_5 x9_1).f0),.int .i64 0,.int .i64 0,.string (⟨#[]⟩:ByteArray),.string (⟨#[]⟩:ByteArray),.slice none 0 0]) ?_ 1 _ rfl;(with_reducible repeat (first | refine blk_drewN ?_ _ | refine blk_drew ?_ | refine blk_alloc ?_ _));refine blk_put (cs:=#[.string (⟨#[]⟩:ByteArray),.int .i64 0,.int .i64 0,.string (⟨#[]⟩:ByteArray),.string (⟨#[]⟩:ByteArray),.slice none 0 0]) ?_ 0 _ rfl;(with_reducible repeat (first | refine blk_drewN ?_ _ | refine blk_drew ?_ | refine blk_alloc ?_ _));exact BK112.out) hb);have n2_:=Aside0.mk (below_step (by repeat (first | (with_reducible first | exact HB.out | apply below_alloc | apply pw_below_drewN | apply below_drew1 | refine below_set ?_ GE110.out | refine below_set ?_ GE112.out) | exact HB.out)) hb);clear BK110;clear BK112;clear HB;have BK110:=n0_;have BK112:=n1_;have HB:=n2_;clear n0_ n1_ n2_;(try clear hb);(try clear hb2);(try clear hk);(try clear hi)))
      go_roundg k1
      case measure => have:=HK1.out;omega
      case rel => exact ⟨(ji8),(wrap64 (x9_1 + 1)),(by first | rfl | (simp;done) | (simp only [← hji8] <;> (first | rfl | simp)) | (simp [*];done)),(by first | rfl | (simp;done) | (simp [*];done)),H',⟨by have:=HK1.out;omega⟩,⟨by (with_reducible repeat (first | refine blk_drewN ?_ _ | refine blk_drew ?_ | refine blk_alloc ?_ _));exact BK110.out⟩,⟨by repeat (first | (with_reducible first | exact HB.out | apply below_alloc | apply pw_below_drewN | apply below_drew1 | refine below_set ?_ GE110.out | refine below_set ?_ GE112.out) | exact HB.out)⟩⟩
     ·rw [if_neg c6] at H
      exact absurd H (by simp)
    ·rw [if_neg c5] at H
     exact absurd H (by simp)
   ·rw [if_neg c4] at H
    have c4b0:decide (x9_1 < (l0_5.length:Int))=false:=decide_eq_false c4
    clear c4
    obtain rfl:=Option.some.inj H
    go_wp2
    go_ret
    exact ⟨by first | rfl | (simp [errW_none,errW_some] <;> rfl) | (simp [*,errW_none,errW_some] <;> rfl),by repeat (first | (with_reducible first | exact HB.out | apply below_alloc | apply pw_below_drewN | apply below_drew1 | refine below_set ?_ GE110.out) | exact HB.out)⟩
end Go.Proofs.YtcgdncpioafbdaaGreatDoor.Q
namespace Go.Proofs.YtcgdncpioafbdaaGreatDoor.Q
open Go.RowKit Go.Proofs.YtcgdncpioafbdaaGreatDoorW.PrintWords Go.Proofs.YtcgdncpioafbdaaGreatDoorW.PrintLast Go.Proofs.YtcgdncpioafbdaaGreatDoorW.PrintMore
attribute [local go_sem] max2_int min2_int max_two min_two max_three min_three max_four min_four
set_option linter.unusedVariables false
set_option linter.unusedSimpArgs false
theorem eqA32 (d:Nat) (w:World) (x0 y0:Int) (x1 y1:ByteArray) (x2 y2:Int) :
  (Op.equalIn (d + 2) 32 (.agg #[.int .i64 x0,.string x1,.int .i64 x2]) (.agg #[.int .i64 y0,.string y1,.int .i64 y2])).run Tryz.prog w = .ok (x0 == y0 && (x1.toList == y1.toList && (x2 == y2))) w:=by
 refine eqA_of Tryz.underlying32 (by kernel_rfl) ?_
 refine eqf_cons (by rfl) (by go_simp;rfl) (by go_simp;rfl) (by go_simp) ?_
 refine eqf_cons (by rfl) (by go_simp;rfl) (by go_simp;rfl) (by go_simp) ?_
 exact eqf_last (by rfl) (by go_simp;rfl) (by go_simp;rfl) (by go_simp)
end Go.Proofs.YtcgdncpioafbdaaGreatDoor.Q
namespace Go.Proofs.YtcgdncpioafbdaaGreatDoor.Q
open Go.RowKit Go.Proofs.YtcgdncpioafbdaaGreatDoorW.PrintWords Go.Proofs.YtcgdncpioafbdaaGreatDoorW.PrintLast Go.Proofs.YtcgdncpioafbdaaGreatDoorW.PrintMore
attribute [local go_sem] max2_int min2_int max_two min_two max_three min_three max_four min_four
set_option linter.unusedVariables false
set_option linter.unusedSimpArgs false
attribute [local go_sem high] eqA32
def vidimusref16_Same.l0:Nat → List (S32) → List (S32) → Int → Option (Bool)
 | 0,_,_,_ => none
 | k + 1,x0,x1,x5 => if x5 < (x0.length:Int) then (if 0 ≤ x5 then (if x5 < (x1.length:Int) then (if (!(((rd_T32 x0 x5).f0) == ((rd_T32 x1 x5).f0)) || (!((((rd_T32 x0 x5).f1).toList) == (((rd_T32 x1 x5).f1).toList)) || (!(((rd_T32 x0 x5).f2) == ((rd_T32 x1 x5).f2)))))=true then (some false) else (vidimusref16_Same.l0 k x0 x1 (wrap64 (x5 + 1)))) else (none)) else (none)) else (some true)
def vidimusref16_Same.f (k:Nat) (l0:List (S32)) (l1:List (S32)):Option (Bool):=if (l0.length:Int)=(l1.length:Int) then (vidimusref16_Same.l0 k l0 l1 0) else (some false)
def vidimusref16_Digits.f:Nat → Int → Option (ByteArray)
 | 0,_ => none
 | k + 1,a0 => if a0 < 10 then (some (strOfNums (([(wrap64 (48 + a0)) % 256]:List Int)))) else ((vidimusref16_Digits.f k (wrap64 (Int.tdiv a0 10))).bind fun t156 => ((some (([(wrap64 (48 + (Int.tmod a0 10))) % 256]:List Int):List Int)).bind fun y157 => (if t156.size + (strOfNums y157).size ≤ 9223372036854775807 then (some (t156 ++ (strOfNums y157))) else (none))))
def vidimusref16_Quoted.l0:Nat → ByteArray → ByteArray → Int → Option (ByteArray)
 | 0,_,_,_ => none
 | k + 1,x0,x3,x4 => if x4 < (x0.size:Int) then (if 0 ≤ x4 then (if (bt x0 x4)=39 then (if x3.size + 1 ≤ 9223372036854775807 then (if x4 ≤ (wrap64 (x4 + 1)) then (if (wrap64 (x4 + 1)) ≤ (x0.size:Int) then (if (x3 ++ (⟨#[39]⟩:ByteArray)).size + (x0.extract (x4:Int).toNat ((wrap64 (x4 + 1)):Int).toNat).size ≤ 9223372036854775807 then (vidimusref16_Quoted.l0 k x0 ((x3 ++ (⟨#[39]⟩:ByteArray)) ++ (x0.extract (x4:Int).toNat ((wrap64 (x4 + 1)):Int).toNat)) (wrap64 (x4 + 1))) else (none)) else (none)) else (none)) else (none)) else (if x4 ≤ (wrap64 (x4 + 1)) then (if (wrap64 (x4 + 1)) ≤ (x0.size:Int) then (if x3.size + (x0.extract (x4:Int).toNat ((wrap64 (x4 + 1)):Int).toNat).size ≤ 9223372036854775807 then (vidimusref16_Quoted.l0 k x0 (x3 ++ (x0.extract (x4:Int).toNat ((wrap64 (x4 + 1)):Int).toNat)) (wrap64 (x4 + 1))) else (none)) else (none)) else (none))) else (none)) else (if x3.size + 1 ≤ 9223372036854775807 then (some (x3 ++ (⟨#[39]⟩:ByteArray))) else (none))
def vidimusref16_Quoted.f (k:Nat) (a0:ByteArray):Option (ByteArray):=vidimusref16_Quoted.l0 k a0 (⟨#[39]⟩:ByteArray) 0
mutual
def vidimusref16_Text.l0:Nat → List (S32) → ByteArray → Int → Option (ByteArray)
 | 0,_,_,_ => none
 | k + 1,x0,x3,x4 => if x4 < (x0.length:Int) then (if 0 ≤ x4 then (vidimusref16_Text.j1 k x0 x3 x4 (((rd_T32 x0 x4).f0) != 0)) else (none)) else (vidimusref16_Text.j1 k x0 x3 x4 false)
def vidimusref16_Text.j1:Nat → List (S32) → ByteArray → Int → Bool → Option (ByteArray)
 | 0,_,_,_,_ => none
 | k + 1,x0,x3,x4,x16 => if x16=true then (if x4 > 0 then (if x3.size + 1 ≤ 9223372036854775807 then (vidimusref16_Text.j2 k x0 (x3 ++ (⟨#[32]⟩:ByteArray)) x4) else (none)) else (vidimusref16_Text.j2 k x0 x3 x4)) else (some x3)
def vidimusref16_Text.j2:Nat → List (S32) → ByteArray → Int → Option (ByteArray)
 | 0,_,_,_ => none
 | k + 1,x0,x3,x4 => if 0 ≤ x4 then (if x4 < (x0.length:Int) then (if ((rd_T32 x0 x4).f0)=2 then ((vidimusref16_Digits.f k (mx ((rd_T32 x0 x4).f2) 0)).bind fun t163 => (if x3.size + t163.size ≤ 9223372036854775807 then (vidimusref16_Text.l0 k x0 (x3 ++ t163) (wrap64 (x4 + 1))) else (none))) else (if ((rd_T32 x0 x4).f0)=3 then ((vidimusref16_Quoted.f k ((rd_T32 x0 x4).f1)).bind fun t165 => (if x3.size + t165.size ≤ 9223372036854775807 then (vidimusref16_Text.l0 k x0 (x3 ++ t165) (wrap64 (x4 + 1))) else (none))) else (if x3.size + ((rd_T32 x0 x4).f1).size ≤ 9223372036854775807 then (vidimusref16_Text.l0 k x0 (x3 ++ ((rd_T32 x0 x4).f1)) (wrap64 (x4 + 1))) else (none)))) else (none)) else (none)
end
def vidimusref16_Text.f (k:Nat) (l0:List (S32)):Option (ByteArray):=vidimusref16_Text.l0 k l0 (⟨#[]⟩:ByteArray) 0
end Go.Proofs.YtcgdncpioafbdaaGreatDoor.Q
namespace Go.Proofs.YtcgdncpioafbdaaGreatDoor.Q
open Go.RowKit Go.Proofs.YtcgdncpioafbdaaGreatDoorW.PrintWords Go.Proofs.YtcgdncpioafbdaaGreatDoorW.PrintLast Go.Proofs.YtcgdncpioafbdaaGreatDoorW.PrintMore
attribute [local go_sem] max2_int min2_int max_two min_two max_three min_three max_four min_four
set_option linter.unusedVariables false
set_option linter.unusedSimpArgs false
attribute [local go_sem high] eqA32
def vidimusref16_Digits.T3:Bool × List (List Nat × List Nat):=(true,[([],[]),([0],[0]),([1],[1]),([],[]),([3],[3]),([4],[4]),([5],[5]),([6],[6]),([7],[7]),([2,8],[2,8]),([9,2,0,1,2,3,4,5,6,7,8,9],[9])])
def vidimusref16_Digits.B3:List Nat:=[0,1,3,0,8,24,56,120,248,511,1023]
theorem vidimusref16_Digits.tab3:rtab .any (opsOf Tryz.f67 3)=vidimusref16_Digits.T3:=by kernel_rfl
theorem vidimusref16_Digits.bits3:waitsOk vidimusref16_Digits.T3.2 vidimusref16_Digits.B3=true:=by kernel_rfl
set_option maxHeartbeats 8000000 in
set_option maxRecDepth 100000 in
theorem vidimusref16_Digits.calls (k:Nat):∀ (a0:Int) (r:ByteArray) (w:World) (h:vidimusref16_Digits.f k a0=some r),
  Calls Tryz.prog 67 #[.int .i64 a0] w fun e w' => e = .returned (.string r)∧Below w.heap.size w w':=by
 induction k using Nat.strongRecOn with
 | _ k ih =>
 intro a0 r w h
 cases k with
 | zero => exact absurd h (by simp [vidimusref16_Digits.f])
 | succ k =>
 simp only [vidimusref16_Digits.f] at h
 have HB:=Aside0.mk (Below.refl w.heap.size w)
 have H:(if a0 < 10 then (some (strOfNums (([(wrap64 (48 + a0)) % 256]:List Int)))) else ((vidimusref16_Digits.f k (wrap64 (Int.tdiv a0 10))).bind fun t156 => ((some (([(wrap64 (48 + (Int.tmod a0 10))) % 256]:List Int):List Int)).bind fun y157 => (if t156.size + (strOfNums y157).size ≤ 9223372036854775807 then (some (t156 ++ (strOfNums y157))) else (none)))))=some r:=h
 clear h
 by_cases c2:a0 < 10
 ·rw [if_pos c2] at H
  have c2b0:decide (a0 < 10)=true:=decide_eq_true c2
  clear c2
  obtain ⟨y153,hy153⟩:∃ y_:List Int,y_=(([(wrap64 (48 + a0)) % 256]:List Int)):=⟨_,rfl⟩
  replace H:(some (strOfNums y153))=some r:=by first | (rw [hy153];with_reducible exact H) | (have H2_:=(Option.bind_some _ _).symm.trans H;rw [hy153];with_reducible exact H2_) | (have H2_:=(Option.bind_some _ _).symm.trans H;with_reducible exact H2_) | with_reducible exact H | (rw [hy153];exact H) | exact H
  have Ny153:=Aside0.mk hy153
  clear hy153
  obtain rfl:=Option.some.inj H
  go_enter Tryz.func67,Tryz.ntmps67
  go_wp2_with (first | ((with_reducible refine gate_dst (N:=8) rfl ?_);refine Kd.R_lit (Kd.int .u8) _ 5 ?hg (N:=8) ?hd (xs:=([(wrap64 (48 + a0)) % 256]:List Int)) (inner:=[.int .u8 ((wrap64 (48 + a0)) % 256)]) (ok:=fun _ => True) (okp:=fun _ => True) ?hr ?hp (fun _ hk => hk) trivial (Below.refl _ _) (Nat.le_refl _) (by simp) ?_;(case hd => rfl);(case hg => rfl);(case hr => first | (go_simp;done) | (go_simp;rfl));(case hp => exact (Reps.one (show Kd.M (Kd.int .u8) _ _ _ ((wrap64 (48 + a0)) % 256) [.int .u8 ((wrap64 (48 + a0)) % 256)] from rfl) (Reps.none _ _)));intro v154 w3 ho4 hb hg_ hnew_;clear hg_ hnew_;(first | rw [← Ny153.out] at ho4 | (simp only [Int.reduceToNat] at ho4;rw [← Ny153.out] at ho4));have n0_:=Aside0.mk (Kd.R_lower ho4 (below_size (by repeat (first | (with_reducible first | exact HB.out | apply below_alloc | apply pw_below_drewN | apply below_drew1) | exact HB.out))));have n1_:=Aside0.mk (below_step (by repeat (first | (with_reducible first | exact HB.out | apply below_alloc | apply pw_below_drewN | apply below_drew1) | exact HB.out)) hb);clear HB;have HO155:=n0_;have HB:=n1_;clear n0_ n1_;clear hb ho4;have hcv5:=own_string (P:=Tryz.prog) Tryz.underlying36 Tryz.underlying5 Tryz.underlying9 (Kd.own_of_R HO155.out)))
  go_ret
  exact ⟨by first | rfl | (simp [errW_none,errW_some] <;> rfl) | (simp [*,errW_none,errW_some] <;> rfl),by repeat (first | (with_reducible first | exact HB.out | apply below_alloc | apply pw_below_drewN | apply below_drew1) | exact HB.out)⟩
 ·rw [if_neg c2] at H
  have c2b0:decide (a0 < 10)=false:=decide_eq_false c2
  clear c2
  replace H:=Option.bind_eq_some_iff.mp H
  obtain ⟨t156,A60,H⟩:=H
  replace H:((some (([(wrap64 (48 + (Int.tmod a0 10))) % 256]:List Int):List Int)).bind fun y157 => (if t156.size + (strOfNums y157).size ≤ 9223372036854775807 then (some (t156 ++ (strOfNums y157))) else (none)))=some r:=H
  have A6:=Aside0.mk A60
  clear A60
  obtain ⟨y157,hy157⟩:∃ y_:List Int,y_=(([(wrap64 (48 + (Int.tmod a0 10))) % 256]:List Int)):=⟨_,rfl⟩
  replace H:(if t156.size + (strOfNums y157).size ≤ 9223372036854775807 then (some (t156 ++ (strOfNums y157))) else (none))=some r:=by first | (rw [hy157];with_reducible exact H) | (have H2_:=(Option.bind_some _ _).symm.trans H;rw [hy157];with_reducible exact H2_) | (have H2_:=(Option.bind_some _ _).symm.trans H;with_reducible exact H2_) | with_reducible exact H | (rw [hy157];exact H) | exact H
  have Ny157:=Aside0.mk hy157
  clear hy157
  by_cases c7:t156.size + (strOfNums y157).size ≤ 9223372036854775807
  ·rw [if_pos c7] at H
   have c7b0:=eq_true c7
   have c7b1:decide (t156.size + (strOfNums y157).size ≤ 9223372036854775807)=true:=decide_eq_true c7
   try have c7b2:(9223372036854775807 < t156.size + (strOfNums y157).size)=False:=eq_false (Nat.not_lt.2 c7)
   obtain rfl:=Option.some.inj H
   go_enter Tryz.func67,Tryz.ntmps67
   try go_wp2
   have n0_:=Aside0.mk (below_drew1 HB.out)
   clear HB
   have HB:=n0_
   clear n0_
   refine start_ (n:=11) (S:=fun w' => True) (ds:=[]) #[false,false,false,false,false,false,false,false,false,false,false] (by kernel_rfl) rfl rfl trivial (fun hHeld => ?_);refine with_tabW vidimusref16_Digits.tab3 vidimusref16_Digits.bits3 (fun HT_ HW_ => ?_)
   generalize w.drew=w8 at HB hHeld ⊢
   refine pure_ (i:=0) (N:=some 10) (v:=?_) (a':=?_) #[true,false,false,false,false,false,false,false,false,false,false] rfl rfl (any_of HT_.out (by kernel_rfl)) (fun _ _ _ h => h) (Or.inl ⟨by rfl,?_⟩) ?_ ?_
   rotate_left
   ·intro w'
    go_simp
    with_reducible rfl
   rotate_left
   ·simp only [Act.put,List.setIfInBounds_toArray,List.set_cons_zero,List.set_cons_succ,i64_w,i32_w]
    rfl
   refine pure_ (i:=1) (N:=some 11) (v:=?_) (a':=?_) #[true,true,false,false,false,false,false,false,false,false,false] rfl rfl (any_of HT_.out (by kernel_rfl)) (fun _ _ _ h => h) (Or.inl ⟨by rfl,?_⟩) ?_ ?_
   rotate_left
   ·intro w'
    go_simp
    with_reducible rfl
   rotate_left
   ·simp only [Act.put,List.setIfInBounds_toArray,List.set_cons_zero,List.set_cons_succ,i64_w,i32_w]
    rfl
   refine pure_ (i:=3) (N:=some 13) (v:=?_) (a':=?_) #[true,true,false,true,false,false,false,false,false,false,false] rfl rfl (any_of HT_.out (by kernel_rfl)) (fun _ _ _ h => h) (Or.inl ⟨by rfl,?_⟩) ?_ ?_
   rotate_left
   ·intro w'
    go_simp
    with_reducible rfl
   rotate_left
   ·simp only [Act.put,List.setIfInBounds_toArray,List.set_cons_zero,List.set_cons_succ,i64_w,i32_w]
    rfl
   refine pure_ (i:=4) (N:=some 14) (v:=?_) (a':=?_) #[true,true,false,true,true,false,false,false,false,false,false] rfl rfl (any_of HT_.out (by kernel_rfl)) (fun _ _ _ h => h) (Or.inl ⟨by rfl,?_⟩) ?_ ?_
   rotate_left
   ·intro w'
    go_simp
    with_reducible rfl
   rotate_left
   ·simp only [Act.put,List.setIfInBounds_toArray,List.set_cons_zero,List.set_cons_succ,i64_w,i32_w]
    rfl
   refine pure_ (i:=5) (N:=some 15) (v:=?_) (a':=?_) #[true,true,false,true,true,true,false,false,false,false,false] rfl rfl (any_of HT_.out (by kernel_rfl)) (fun _ _ _ h => h) (Or.inl ⟨by rfl,?_⟩) ?_ ?_
   rotate_left
   ·intro w'
    go_simp
    with_reducible rfl
   rotate_left
   ·simp only [Act.put,List.setIfInBounds_toArray,List.set_cons_zero,List.set_cons_succ,i64_w,i32_w]
    rfl
   refine pure_ (i:=6) (N:=some 16) (v:=?_) (a':=?_) #[true,true,false,true,true,true,true,false,false,false,false] rfl rfl (any_of HT_.out (by kernel_rfl)) (fun _ _ _ h => h) (Or.inl ⟨by rfl,?_⟩) ?_ ?_
   rotate_left
   ·intro w'
    go_simp
    with_reducible rfl
   rotate_left
   ·simp only [Act.put,List.setIfInBounds_toArray,List.set_cons_zero,List.set_cons_succ,i64_w,i32_w]
    rfl
   refine join_ (σ:=Value) 2 #[true,true,true,true,true,true,true,true,true,false,false] (fun s_ => [(12,.string t156),(17,s_),(18,.string (strOfNums y157))]) (fun s_ w' => (Kd.R (Kd.int .u8) 5 w' w.heap.size (fun _ => True) s_ y157)∧(Below w.heap.size w w')) ?_ ?_
   rotate_left
   ·intro hCont
    refine two_ (i:=2) (j:=7) (Ni:=some 12) (Nj:=some 17) #[true,true,true,true,true,true,true,false,false,false,false] #[true,true,false,true,true,true,true,true,false,false,false] rfl rfl rfl rfl (two_of HT_.out (by kernel_rfl)) (by decide) (by decide) (fun K hK => ?_) (fun K hK => ?_)
    ·skip
     refine goes_ Tryz.func67 (by kernel_rfl) rfl #[.int .i64 (wrap64 (Int.tdiv a0 10))] (by rfl) rfl rfl (by (try simp only [List.map_toArray,List.map_cons,List.map_nil]);first | done | rfl | (simp only [List.length_drop,List.length_take];rfl)) ?_
     with_reducible refine (ih k (by omega) (wrap64 (Int.tdiv a0 10)) t156 _ A6.out).mono ?_
     rintro e w9 ⟨rfl,hb⟩
     refine ⟨_,rfl,?_⟩
     have n0_:=Aside0.mk (below_step (by repeat (first | (with_reducible first | exact HB.out | apply below_alloc | apply pw_below_drewN | apply below_drew1) | exact HB.out)) hb)
     clear HB
     have HB:=n0_
     clear n0_
     (try clear hb)
     (try clear hb2)
     (try clear hk)
     (try clear hi)
     refine hK.out _ _ trivial (fun hHeld => ?_)
     clear hK K
     refine norm_ (a':=?_) ?_ ?_
     rotate_left
     ·show Act.put _ (some 12) _=_
      simp only [Act.put,List.setIfInBounds_toArray,List.set_cons_zero,List.set_cons_succ,i64_w,i32_w]
      rfl
     refine one_ (i:=7) (N:=some 17) #[true,true,true,true,true,true,true,true,false,false,false] rfl rfl (one_of HT_.out (by kernel_rfl)) (by decide) (fun K hK => ?_)
     refine Kd.R_lit_step (Kd.int .u8) _ 5 ?hg (N:=17) ?hd (xs:=([(wrap64 (48 + (Int.tmod a0 10))) % 256]:List Int)) (inner:=[.int .u8 ((wrap64 (48 + (Int.tmod a0 10))) % 256)]) (ok:=fun _ => True) (okp:=fun _ => True) ?hr ?hp (fun _ hk => hk) trivial (Below.refl _ _) (Nat.le_refl _) (by simp) ?_;(case hd => rfl);(case hg => rfl);(case hr => first | (go_simp;done) | (go_simp;rfl));(case hp => exact (Reps.one (show Kd.M (Kd.int .u8) _ _ _ ((wrap64 (48 + (Int.tmod a0 10))) % 256) [.int .u8 ((wrap64 (48 + (Int.tmod a0 10))) % 256)] from rfl) (Reps.none _ _)))
     intro v158 w10 ho11 hb hg_ hnew_
     clear hg_ hnew_
     (first | rw [← Ny157.out] at ho11 | (simp only [Int.reduceToNat] at ho11;rw [← Ny157.out] at ho11))
     have n0_:=Aside0.mk (Kd.R_lower ho11 (below_size (by repeat (first | (with_reducible first | exact HB.out | apply below_alloc | apply pw_below_drewN | apply below_drew1) | exact HB.out))))
     have n1_:=Aside0.mk (below_step (by repeat (first | (with_reducible first | exact HB.out | apply below_alloc | apply pw_below_drewN | apply below_drew1) | exact HB.out)) hb)
     clear HB
     have HO159:=n0_
     have HB:=n1_
     clear n0_ n1_
     clear hb ho11
     refine hK.out _ _ trivial (fun hHeld => ?_)
     clear hK K
     refine norm_ (a':=?_) ?_ ?_
     rotate_left
     ·show Act.put _ (some 17) _=_
      simp only [Act.put,List.setIfInBounds_toArray,List.set_cons_zero,List.set_cons_succ,i64_w,i32_w]
      rfl
     refine one_ (i:=8) (N:=some 18) #[true,true,true,true,true,true,true,true,true,false,false] rfl rfl (one_of HT_.out (by kernel_rfl)) (by decide) (fun K hK => ?_)
     have hcv12:=own_string (P:=Tryz.prog) Tryz.underlying36 Tryz.underlying5 Tryz.underlying9 (Kd.own_of_R HO159.out)
     refine value_ (w1:=?_) (v:=?_) (by rfl) rfl ?_ ?_
     rotate_left 2
     ·go_simp
      constructor
      ·rfl
      ·rfl
     clear hcv12
     refine hK.out _ _ trivial (fun hHeld => ?_)
     clear hK K
     refine norm_ (a':=?_) ?_ ?_
     rotate_left
     ·show Act.put _ (some 18) _=_
      simp only [Act.put,List.setIfInBounds_toArray,List.set_cons_zero,List.set_cons_succ,i64_w,i32_w]
      rfl
     exact norm_ (by simp only [putAll,Act.put,List.setIfInBounds_toArray,List.set_cons_zero,List.set_cons_succ]) (hCont (v158) _ ⟨(by (with_reducible repeat (first | apply Kd.R_alloc | apply Kd.R_drewN | apply Kd.R_drew));exact HO159.out),(by repeat (first | (with_reducible first | exact HB.out | apply below_alloc | apply pw_below_drewN | apply below_drew1) | exact HB.out))⟩)
    ·skip
     refine Kd.R_lit_step (Kd.int .u8) _ 5 ?hg (N:=17) ?hd (xs:=([(wrap64 (48 + (Int.tmod a0 10))) % 256]:List Int)) (inner:=[.int .u8 ((wrap64 (48 + (Int.tmod a0 10))) % 256)]) (ok:=fun _ => True) (okp:=fun _ => True) ?hr ?hp (fun _ hk => hk) trivial (Below.refl _ _) (Nat.le_refl _) (by simp) ?_;(case hd => rfl);(case hg => rfl);(case hr => first | (go_simp;done) | (go_simp;rfl));(case hp => exact (Reps.one (show Kd.M (Kd.int .u8) _ _ _ ((wrap64 (48 + (Int.tmod a0 10))) % 256) [.int .u8 ((wrap64 (48 + (Int.tmod a0 10))) % 256)] from rfl) (Reps.none _ _)))
     intro v158 w9 ho10 hb hg_ hnew_
     clear hg_ hnew_
     (first | rw [← Ny157.out] at ho10 | (simp only [Int.reduceToNat] at ho10;rw [← Ny157.out] at ho10))
     have n0_:=Aside0.mk (Kd.R_lower ho10 (below_size (by repeat (first | (with_reducible first | exact HB.out | apply below_alloc | apply pw_below_drewN | apply below_drew1) | exact HB.out))))
     have n1_:=Aside0.mk (below_step (by repeat (first | (with_reducible first | exact HB.out | apply below_alloc | apply pw_below_drewN | apply below_drew1) | exact HB.out)) hb)
     clear HB
     have HO159:=n0_
     have HB:=n1_
     clear n0_ n1_
     clear hb ho10
     refine hK.out _ _ trivial (fun hHeld => ?_)
     clear hK K
     refine norm_ (a':=?_) ?_ ?_
     rotate_left
     ·show Act.put _ (some 17) _=_
      simp only [Act.put,List.setIfInBounds_toArray,List.set_cons_zero,List.set_cons_succ,i64_w,i32_w]
      rfl
     refine two_ (i:=2) (j:=8) (Ni:=some 12) (Nj:=some 18) #[true,true,true,true,true,true,true,true,false,false,false] #[true,true,false,true,true,true,true,true,true,false,false] rfl rfl rfl rfl (two_of HT_.out (by kernel_rfl)) (by decide) (by decide) (fun K hK => ?_) (fun K hK => ?_)
     ·skip
      refine goes_ Tryz.func67 (by kernel_rfl) rfl #[.int .i64 (wrap64 (Int.tdiv a0 10))] (by rfl) rfl rfl (by (try simp only [List.map_toArray,List.map_cons,List.map_nil]);first | done | rfl | (simp only [List.length_drop,List.length_take];rfl)) ?_
      with_reducible refine (ih k (by omega) (wrap64 (Int.tdiv a0 10)) t156 _ A6.out).mono ?_
      rintro e w11 ⟨rfl,hb⟩
      refine ⟨_,rfl,?_⟩
      have n0_:=Aside0.mk (Kd.R_below (by (with_reducible repeat (first | apply Kd.R_alloc | apply Kd.R_drewN | apply Kd.R_drew));exact HO159.out) hb)
      have n1_:=Aside0.mk (below_step (by repeat (first | (with_reducible first | exact HB.out | apply below_alloc | apply pw_below_drewN | apply below_drew1) | exact HB.out)) hb)
      clear HO159
      clear HB
      have HO159:=n0_
      have HB:=n1_
      clear n0_ n1_
      (try clear hb)
      (try clear hb2)
      (try clear hk)
      (try clear hi)
      refine hK.out _ _ trivial (fun hHeld => ?_)
      clear hK K
      refine norm_ (a':=?_) ?_ ?_
      rotate_left
      ·show Act.put _ (some 12) _=_
       simp only [Act.put,List.setIfInBounds_toArray,List.set_cons_zero,List.set_cons_succ,i64_w,i32_w]
       rfl
      refine one_ (i:=8) (N:=some 18) #[true,true,true,true,true,true,true,true,true,false,false] rfl rfl (one_of HT_.out (by kernel_rfl)) (by decide) (fun K hK => ?_)
      have hcv12:=own_string (P:=Tryz.prog) Tryz.underlying36 Tryz.underlying5 Tryz.underlying9 (Kd.own_of_R HO159.out)
      refine value_ (w1:=?_) (v:=?_) (by rfl) rfl ?_ ?_
      rotate_left 2
      ·go_simp
       constructor
       ·rfl
       ·rfl
      clear hcv12
      refine hK.out _ _ trivial (fun hHeld => ?_)
      clear hK K
      refine norm_ (a':=?_) ?_ ?_
      rotate_left
      ·show Act.put _ (some 18) _=_
       simp only [Act.put,List.setIfInBounds_toArray,List.set_cons_zero,List.set_cons_succ,i64_w,i32_w]
       rfl
      exact norm_ (by simp only [putAll,Act.put,List.setIfInBounds_toArray,List.set_cons_zero,List.set_cons_succ]) (hCont (v158) _ ⟨(by (with_reducible repeat (first | apply Kd.R_alloc | apply Kd.R_drewN | apply Kd.R_drew));exact HO159.out),(by repeat (first | (with_reducible first | exact HB.out | apply below_alloc | apply pw_below_drewN | apply below_drew1) | exact HB.out))⟩)
     ·skip
      have hcv11:=own_string (P:=Tryz.prog) Tryz.underlying36 Tryz.underlying5 Tryz.underlying9 (Kd.own_of_R HO159.out)
      refine value_ (w1:=?_) (v:=?_) (by rfl) rfl ?_ ?_
      rotate_left 2
      ·go_simp
       constructor
       ·rfl
       ·rfl
      clear hcv11
      refine hK.out _ _ trivial (fun hHeld => ?_)
      clear hK K
      refine norm_ (a':=?_) ?_ ?_
      rotate_left
      ·show Act.put _ (some 18) _=_
       simp only [Act.put,List.setIfInBounds_toArray,List.set_cons_zero,List.set_cons_succ,i64_w,i32_w]
       rfl
      refine one_ (i:=2) (N:=some 12) #[true,true,true,true,true,true,true,true,true,false,false] rfl rfl (one_of HT_.out (by kernel_rfl)) (by decide) (fun K hK => ?_)
      refine goes_ Tryz.func67 (by kernel_rfl) rfl #[.int .i64 (wrap64 (Int.tdiv a0 10))] (by rfl) rfl rfl (by (try simp only [List.map_toArray,List.map_cons,List.map_nil]);first | done | rfl | (simp only [List.length_drop,List.length_take];rfl)) ?_
      with_reducible refine (ih k (by omega) (wrap64 (Int.tdiv a0 10)) t156 _ A6.out).mono ?_
      rintro e w12 ⟨rfl,hb⟩
      refine ⟨_,rfl,?_⟩
      have n0_:=Aside0.mk (Kd.R_below (by (with_reducible repeat (first | apply Kd.R_alloc | apply Kd.R_drewN | apply Kd.R_drew));exact HO159.out) hb)
      have n1_:=Aside0.mk (below_step (by repeat (first | (with_reducible first | exact HB.out | apply below_alloc | apply pw_below_drewN | apply below_drew1) | exact HB.out)) hb)
      clear HO159
      clear HB
      have HO159:=n0_
      have HB:=n1_
      clear n0_ n1_
      (try clear hb)
      (try clear hb2)
      (try clear hk)
      (try clear hi)
      refine hK.out _ _ trivial (fun hHeld => ?_)
      clear hK K
      refine norm_ (a':=?_) ?_ ?_
      rotate_left
      ·show Act.put _ (some 12) _=_
       simp only [Act.put,List.setIfInBounds_toArray,List.set_cons_zero,List.set_cons_succ,i64_w,i32_w]
       rfl
      exact norm_ (by simp only [putAll,Act.put,List.setIfInBounds_toArray,List.set_cons_zero,List.set_cons_succ]) (hCont (v158) _ ⟨(by (with_reducible repeat (first | apply Kd.R_alloc | apply Kd.R_drewN | apply Kd.R_drew));exact HO159.out),(by repeat (first | (with_reducible first | exact HB.out | apply below_alloc | apply pw_below_drewN | apply below_drew1) | exact HB.out))⟩)
   rintro v158 w13 ⟨h0_,h1_⟩
   have n0_:Aside0 (Kd.R (Kd.int .u8) 5 w13 w.heap.size (fun _ => True) v158 y157):=⟨h0_⟩
   have n1_:Aside0 (Below w.heap.size w w13):=⟨h1_⟩
   clear HB
   clear h0_ h1_
   have HO159:=n0_
   have HB:=n1_
   clear n0_ n1_
   have hHeld:=trivial
   refine norm_ (a':=?_) ?_ ?_
   rotate_left
   ·simp only [putAll,Act.put,List.setIfInBounds_toArray,List.set_cons_zero,List.set_cons_succ]
    rfl
   refine pure_ (i:=9) (N:=some 19) (v:=?_) (a':=?_) #[true,true,true,true,true,true,true,true,true,true,false] rfl rfl (any_of HT_.out (by kernel_rfl)) (fun _ _ _ h => h) (Or.inl ⟨by rfl,?_⟩) ?_ ?_
   rotate_left
   ·intro w'
    go_simp
    with_reducible rfl
   rotate_left
   ·simp only [Act.put,List.setIfInBounds_toArray,List.set_cons_zero,List.set_cons_succ,i64_w,i32_w]
    rfl
   refine pure_ (i:=10) (N:=some 2) (v:=?_) (a':=?_) #[true,true,true,true,true,true,true,true,true,true,true] rfl rfl (any_of HT_.out (by kernel_rfl)) (fun _ _ _ h => h) (Or.inl ⟨by rfl,?_⟩) ?_ ?_
   rotate_left
   ·intro w'
    go_simp
    with_reducible rfl
   rotate_left
   ·simp only [Act.put,List.setIfInBounds_toArray,List.set_cons_zero,List.set_cons_succ,i64_w,i32_w]
    rfl
   refine done_ (done_of HT_.out (by kernel_rfl)) ?_
   try go_wp2
   go_ret
   exact ⟨by first | rfl | (simp [errW_none,errW_some] <;> rfl) | (simp [*,errW_none,errW_some] <;> rfl),by repeat (first | (with_reducible first | exact HB.out | apply below_alloc | apply pw_below_drewN | apply below_drew1) | exact HB.out)⟩
  ·rw [if_neg c7] at H
   exact absurd H (by simp)
set_option maxHeartbeats 8000000 in
set_option maxRecDepth 100000 in
theorem vidimusref16_Quoted.calls (k:Nat) (a0:ByteArray) (r:ByteArray) (w:World) (h:vidimusref16_Quoted.f k a0=some r) :
  Calls Tryz.prog 68 #[.string a0] w fun e w' => e = .returned (.string r)∧Drawn0 w w':=by
 have H:(vidimusref16_Quoted.l0 k a0 (⟨#[39]⟩:ByteArray) 0)=some r:=h
 clear h
 have H':=Aside0.mk H
 clear H
 go_enter Tryz.func68,Tryz.ntmps68
 go_wp2
 go_loopg [3,4] k (fun kq v3 v4 w' => ∃ (x3_1:ByteArray) (x4_1:Int),v3 = .string x3_1∧v4 = .int .i64 x4_1∧Aside0 (vidimusref16_Quoted.l0 kq a0 x3_1 x4_1=some r)∧Aside0 (kq ≤ k)∧Drawn0 w w')
 case atStart => exact ⟨((⟨#[39]⟩:ByteArray)),(0),(by first | rfl | (simp;done) | (simp [*];done)),(by first | rfl | (simp;done) | (simp [*];done)),H',⟨Nat.le_refl _⟩,by repeat (first | exact Drawn0.refl _ | apply Drawn0.step)⟩
 case round =>
  clear H'
  obtain ⟨x3_1,x4_1,rfl,rfl,HA,HK1,⟨m1,rfl⟩⟩:=hrel
  cases gk with
  | zero => exact absurd HA.out (by simp [vidimusref16_Quoted.l0])
  | succ k1 =>
   have H:=HA.out
   clear HA
   simp only [vidimusref16_Quoted.l0] at H
   by_cases c2:x4_1 < (a0.size:Int)
   ·rw [if_pos c2] at H
    have c2b0:decide (x4_1 < (a0.size:Int))=true:=decide_eq_true c2
    clear c2
    by_cases c3:0 ≤ x4_1
    ·rw [if_pos c3] at H
     have c3b0:decide (0 ≤ x4_1)=true:=decide_eq_true c3
     clear c3
     by_cases c5:(bt a0 x4_1)=39
     ·rw [if_pos c5] at H
      have c5b0:((bt a0 x4_1) == 39)=true:=beq_iff_eq.mpr c5
      have c5b1:((bt a0 x4_1) != 39)=false:=bne_eq_false_iff_eq.mpr c5
      clear c5
      by_cases c6:x3_1.size + 1 ≤ 9223372036854775807
      ·rw [if_pos c6] at H
       have c6b0:=eq_true c6
       have c6b1:decide (x3_1.size + 1 ≤ 9223372036854775807)=true:=decide_eq_true c6
       try have c6b2:(9223372036854775807 < x3_1.size + 1)=False:=eq_false (Nat.not_lt.2 c6)
       have c7b0:=eq_true (of_decide_eq_true (by first | (with_reducible assumption) | assumption):0 ≤ x4_1)
       by_cases c8:x4_1 ≤ (wrap64 (x4_1 + 1))
       ·rw [if_pos c8] at H
        have c8b0:=eq_true c8
        have c8b1:decide (x4_1 ≤ (wrap64 (x4_1 + 1)))=true:=decide_eq_true c8
        by_cases c9:(wrap64 (x4_1 + 1)) ≤ (a0.size:Int)
        ·rw [if_pos c9] at H
         have c9b0:=eq_true c9
         have c9b1:decide ((wrap64 (x4_1 + 1)) ≤ (a0.size:Int))=true:=decide_eq_true c9
         by_cases c10:(x3_1 ++ (⟨#[39]⟩:ByteArray)).size + (a0.extract (x4_1:Int).toNat ((wrap64 (x4_1 + 1)):Int).toNat).size ≤ 9223372036854775807
         ·rw [if_pos c10] at H
          have c10b0:=eq_true c10
          have c10s:(x3_1.size + 1) + (a0.extract (x4_1:Int).toNat ((wrap64 (x4_1 + 1)):Int).toNat).size ≤ 9223372036854775807:=by have z_:=c10;rw [ByteArray.size_append] at z_;exact z_
          have c10s1:=eq_true c10s
          have c10s2:decide ((x3_1.size + 1) + (a0.extract (x4_1:Int).toNat ((wrap64 (x4_1 + 1)):Int).toNat).size ≤ 9223372036854775807)=true:=decide_eq_true c10s
          have c10b1:decide ((x3_1 ++ (⟨#[39]⟩:ByteArray)).size + (a0.extract (x4_1:Int).toNat ((wrap64 (x4_1 + 1)):Int).toNat).size ≤ 9223372036854775807)=true:=decide_eq_true c10
          try have c10b2:(9223372036854775807 < (x3_1 ++ (⟨#[39]⟩:ByteArray)).size + (a0.extract (x4_1:Int).toNat ((wrap64 (x4_1 + 1)):Int).toNat).size)=False:=eq_false (Nat.not_lt.2 c10)
          have H':=Aside0.mk H
          clear H
          have p4:0 ≤ (x4_1:Int):=of_decide_eq_true (by first | (with_reducible assumption) | assumption)
          have q4:x4_1 < (a0.size:Int):=of_decide_eq_true (by first | (with_reducible assumption) | assumption)
          have hx4:=bt_at a0 x4_1
          replace p4:=eq_true p4
          replace q4:=eq_true q4
          go_wp2
          go_roundg k1
          case measure => have:=HK1.out;omega
          case rel => exact ⟨((x3_1 ++ (⟨#[39]⟩:ByteArray)) ++ (a0.extract (x4_1:Int).toNat ((wrap64 (x4_1 + 1)):Int).toNat)),(wrap64 (x4_1 + 1)),(by first | rfl | (simp;done) | (simp [*];done)),(by first | rfl | (simp;done) | (simp [*];done)),H',⟨by have:=HK1.out;omega⟩,by repeat (first | exact Drawn0.refl _ | apply Drawn0.step)⟩
         ·rw [if_neg c10] at H
          exact absurd H (by simp)
        ·rw [if_neg c9] at H
         exact absurd H (by simp)
       ·rw [if_neg c8] at H
        exact absurd H (by simp)
      ·rw [if_neg c6] at H
       exact absurd H (by simp)
     ·rw [if_neg c5] at H
      have c5b0:((bt a0 x4_1) == 39)=false:=beq_eq_false_iff_ne.mpr c5
      have c5b1:((bt a0 x4_1) != 39)=true:=bne_iff_ne.mpr c5
      have c11b0:=eq_true (of_decide_eq_true (by first | (with_reducible assumption) | assumption):0 ≤ x4_1)
      by_cases c12:x4_1 ≤ (wrap64 (x4_1 + 1))
      ·rw [if_pos c12] at H
       have c12b0:=eq_true c12
       have c12b1:decide (x4_1 ≤ (wrap64 (x4_1 + 1)))=true:=decide_eq_true c12
       by_cases c13:(wrap64 (x4_1 + 1)) ≤ (a0.size:Int)
       ·rw [if_pos c13] at H
        have c13b0:=eq_true c13
        have c13b1:decide ((wrap64 (x4_1 + 1)) ≤ (a0.size:Int))=true:=decide_eq_true c13
        by_cases c14:x3_1.size + (a0.extract (x4_1:Int).toNat ((wrap64 (x4_1 + 1)):Int).toNat).size ≤ 9223372036854775807
        ·rw [if_pos c14] at H
         have c14b0:=eq_true c14
         have c14b1:decide (x3_1.size + (a0.extract (x4_1:Int).toNat ((wrap64 (x4_1 + 1)):Int).toNat).size ≤ 9223372036854775807)=true:=decide_eq_true c14
         try have c14b2:(9223372036854775807 < x3_1.size + (a0.extract (x4_1:Int).toNat ((wrap64 (x4_1 + 1)):Int).toNat).size)=False:=eq_false (Nat.not_lt.2 c14)
         have H':=Aside0.mk H
         clear H
         have p4:0 ≤ (x4_1:Int):=of_decide_eq_true (by first | (with_reducible assumption) | assumption)
         have q4:x4_1 < (a0.size:Int):=of_decide_eq_true (by first | (with_reducible assumption) | assumption)
         have hx4:=bt_at a0 x4_1
         replace p4:=eq_true p4
         replace q4:=eq_true q4
         go_wp2
         go_roundg k1
         case measure => have:=HK1.out;omega
         case rel => exact ⟨(x3_1 ++ (a0.extract (x4_1:Int).toNat ((wrap64 (x4_1 + 1)):Int).toNat)),(wrap64 (x4_1 + 1)),(by first | rfl | (simp;done) | (simp [*];done)),(by first | rfl | (simp;done) | (simp [*];done)),H',⟨by have:=HK1.out;omega⟩,by repeat (first | exact Drawn0.refl _ | apply Drawn0.step)⟩
        ·rw [if_neg c14] at H
         exact absurd H (by simp)
       ·rw [if_neg c13] at H
        exact absurd H (by simp)
      ·rw [if_neg c12] at H
       exact absurd H (by simp)
    ·rw [if_neg c3] at H
     exact absurd H (by simp)
   ·rw [if_neg c2] at H
    have c2b0:decide (x4_1 < (a0.size:Int))=false:=decide_eq_false c2
    clear c2
    by_cases c15:x3_1.size + 1 ≤ 9223372036854775807
    ·rw [if_pos c15] at H
     have c15b0:=eq_true c15
     have c15b1:decide (x3_1.size + 1 ≤ 9223372036854775807)=true:=decide_eq_true c15
     try have c15b2:(9223372036854775807 < x3_1.size + 1)=False:=eq_false (Nat.not_lt.2 c15)
     obtain rfl:=Option.some.inj H
     go_wp2
     go_ret
     exact ⟨by first | rfl | (simp;done) | (simp [*];done),by repeat (first | exact Drawn0.refl _ | apply Drawn0.step)⟩
    ·rw [if_neg c15] at H
     exact absurd H (by simp)
end Go.Proofs.YtcgdncpioafbdaaGreatDoor.Q
namespace Go.Proofs.YtcgdncpioafbdaaGreatDoor.Q
open Go.RowKit Go.Proofs.YtcgdncpioafbdaaGreatDoorW.PrintWords Go.Proofs.YtcgdncpioafbdaaGreatDoorW.PrintLast Go.Proofs.YtcgdncpioafbdaaGreatDoorW.PrintMore
attribute [local go_sem] max2_int min2_int max_two min_two max_three min_three max_four min_four
set_option linter.unusedVariables false
set_option linter.unusedSimpArgs false
def vidimusref17_Reserved.l0:Nat → ByteArray → List ByteArray → Int → Int → Option (Bool)
 | 0,_,_,_,_ => none
 | k + 1,x0,x5,x6,x7 => if x7 < x6 then (if 0 ≤ x7 then (if x7 < (x5.length:Int) then (if (rdOf ByteArray.empty x5 x7).toList=x0.toList then (some true) else (vidimusref17_Reserved.l0 k x0 x5 x6 (wrap64 (x7 + 1)))) else (none)) else (none)) else (some false)
def vidimusref17_Reserved.f (k:Nat) (a0:ByteArray):Option (Bool):=(some (([(⟨#[99,114,101,97,116,101]⟩:ByteArray),(⟨#[116,97,98,108,101]⟩:ByteArray),(⟨#[100,114,111,112]⟩:ByteArray),(⟨#[105,110,115,101,114,116]⟩:ByteArray),(⟨#[105,110,116,111]⟩:ByteArray),(⟨#[118,97,108,117,101,115]⟩:ByteArray),(⟨#[115,101,108,101,99,116]⟩:ByteArray),(⟨#[102,114,111,109]⟩:ByteArray),(⟨#[119,104,101,114,101]⟩:ByteArray),(⟨#[111,114,100,101,114]⟩:ByteArray),(⟨#[98,121]⟩:ByteArray),(⟨#[100,101,115,99]⟩:ByteArray),(⟨#[108,105,109,105,116]⟩:ByteArray),(⟨#[117,112,100,97,116,101]⟩:ByteArray),(⟨#[115,101,116]⟩:ByteArray),(⟨#[100,101,108,101,116,101]⟩:ByteArray),(⟨#[97,110,100]⟩:ByteArray),(⟨#[111,114]⟩:ByteArray),(⟨#[110,111,116]⟩:ByteArray),(⟨#[105,115]⟩:ByteArray),(⟨#[110,117,108,108]⟩:ByteArray),(⟨#[105,110,116]⟩:ByteArray),(⟨#[116,101,120,116]⟩:ByteArray),(⟨#[100,101,116]⟩:ByteArray),(⟨#[107,101,121]⟩:ByteArray),(⟨#[99,111,117,110,116]⟩:ByteArray),(⟨#[115,117,109]⟩:ByteArray),(⟨#[109,105,110]⟩:ByteArray),(⟨#[109,97,120]⟩:ByteArray)]:List ByteArray):List ByteArray)).bind fun y118 => (vidimusref17_Reserved.l0 k a0 y118 (y118.length:Int) 0)
mutual
def vidimusref17_Depth.l0:Nat → Int → Int → ByteArray → Int → Int → ByteArray → ByteArray → List (S43) → Option (Int)
 | 0,_,_,_,_,_,_,_,_ => none
 | k + 1,x3,x4,x127000,x127001,x127002,x127003,x127004,x127005 => if x4 < (x127005.length:Int) then (if 0 ≤ x4 then ((vidimusref17_Depth.f k ((rd_T43 x127005 x4).f0) ((rd_T43 x127005 x4).f1.f0) ((rd_T43 x127005 x4).f1.f1) ((rd_T43 x127005 x4).f1.f2) ((rd_T43 x127005 x4).f2) ((rd_T43 x127005 x4).f3)).bind fun t128 => (vidimusref17_Depth.l0 k (mx x3 t128) (wrap64 (x4 + 1)) x127000 x127001 x127002 x127003 x127004 x127005)) else (none)) else (some (wrap64 (x3 + 1)))
def vidimusref17_Depth.f:Nat → ByteArray → Int → Int → ByteArray → ByteArray → List (S43) → Option (Int)
 | 0,_,_,_,_,_,_ => none
 | k + 1,a0_0,a0_1,a0_2,a0_3,a0_4,l0_5 => vidimusref17_Depth.l0 k 0 0 a0_0 a0_1 a0_2 a0_3 a0_4 l0_5
end
def vidimusref17_number.f (k:Nat) (a0:Int):Option (ByteArray):=if a0 ≥ 0 then ((vidimusref16_Digits.f k a0).bind fun t129 => (some t129)) else (if a0=(-9223372036854775808) then (some (⟨#[45,57,50,50,51,51,55,50,48,51,54,56,53,52,55,55,53,56,48,56]⟩:ByteArray)) else ((vidimusref16_Digits.f k (wrap64 (-a0))).bind fun t130 => (if 1 + t130.size ≤ 9223372036854775807 then (some ((⟨#[45]⟩:ByteArray) ++ t130)) else (none))))
end Go.Proofs.YtcgdncpioafbdaaGreatDoor.Q
namespace Go.Proofs.YtcgdncpioafbdaaGreatDoor.Q
open Go.RowKit Go.Proofs.YtcgdncpioafbdaaGreatDoorW.PrintWords Go.Proofs.YtcgdncpioafbdaaGreatDoorW.PrintLast Go.Proofs.YtcgdncpioafbdaaGreatDoorW.PrintMore
attribute [local go_sem] max2_int min2_int max_two min_two max_three min_three max_four min_four
set_option linter.unusedVariables false
set_option linter.unusedSimpArgs false
set_option maxHeartbeats 8000000 in
set_option maxRecDepth 100000 in
theorem vidimusref17_Reserved.calls (k:Nat) (a0:ByteArray) (r:Bool) (w:World) (h:vidimusref17_Reserved.f k a0=some r) :
  Calls Tryz.prog 50 #[.string a0] w fun e w' => e = .returned (.bool r)∧Below w.heap.size w w':=by
 have HB:=Aside0.mk (Below.refl w.heap.size w)
 have H:((some (([(⟨#[99,114,101,97,116,101]⟩:ByteArray),(⟨#[116,97,98,108,101]⟩:ByteArray),(⟨#[100,114,111,112]⟩:ByteArray),(⟨#[105,110,115,101,114,116]⟩:ByteArray),(⟨#[105,110,116,111]⟩:ByteArray),(⟨#[118,97,108,117,101,115]⟩:ByteArray),(⟨#[115,101,108,101,99,116]⟩:ByteArray),(⟨#[102,114,111,109]⟩:ByteArray),(⟨#[119,104,101,114,101]⟩:ByteArray),(⟨#[111,114,100,101,114]⟩:ByteArray),(⟨#[98,121]⟩:ByteArray),(⟨#[100,101,115,99]⟩:ByteArray),(⟨#[108,105,109,105,116]⟩:ByteArray),(⟨#[117,112,100,97,116,101]⟩:ByteArray),(⟨#[115,101,116]⟩:ByteArray),(⟨#[100,101,108,101,116,101]⟩:ByteArray),(⟨#[97,110,100]⟩:ByteArray),(⟨#[111,114]⟩:ByteArray),(⟨#[110,111,116]⟩:ByteArray),(⟨#[105,115]⟩:ByteArray),(⟨#[110,117,108,108]⟩:ByteArray),(⟨#[105,110,116]⟩:ByteArray),(⟨#[116,101,120,116]⟩:ByteArray),(⟨#[100,101,116]⟩:ByteArray),(⟨#[107,101,121]⟩:ByteArray),(⟨#[99,111,117,110,116]⟩:ByteArray),(⟨#[115,117,109]⟩:ByteArray),(⟨#[109,105,110]⟩:ByteArray),(⟨#[109,97,120]⟩:ByteArray)]:List ByteArray):List ByteArray)).bind fun y118 => (vidimusref17_Reserved.l0 k a0 y118 (y118.length:Int) 0))=some r:=h
 clear h
 obtain ⟨y118,hy118⟩:∃ y_:List ByteArray,y_=(([(⟨#[99,114,101,97,116,101]⟩:ByteArray),(⟨#[116,97,98,108,101]⟩:ByteArray),(⟨#[100,114,111,112]⟩:ByteArray),(⟨#[105,110,115,101,114,116]⟩:ByteArray),(⟨#[105,110,116,111]⟩:ByteArray),(⟨#[118,97,108,117,101,115]⟩:ByteArray),(⟨#[115,101,108,101,99,116]⟩:ByteArray),(⟨#[102,114,111,109]⟩:ByteArray),(⟨#[119,104,101,114,101]⟩:ByteArray),(⟨#[111,114,100,101,114]⟩:ByteArray),(⟨#[98,121]⟩:ByteArray),(⟨#[100,101,115,99]⟩:ByteArray),(⟨#[108,105,109,105,116]⟩:ByteArray),(⟨#[117,112,100,97,116,101]⟩:ByteArray),(⟨#[115,101,116]⟩:ByteArray),(⟨#[100,101,108,101,116,101]⟩:ByteArray),(⟨#[97,110,100]⟩:ByteArray),(⟨#[111,114]⟩:ByteArray),(⟨#[110,111,116]⟩:ByteArray),(⟨#[105,115]⟩:ByteArray),(⟨#[110,117,108,108]⟩:ByteArray),(⟨#[105,110,116]⟩:ByteArray),(⟨#[116,101,120,116]⟩:ByteArray),(⟨#[100,101,116]⟩:ByteArray),(⟨#[107,101,121]⟩:ByteArray),(⟨#[99,111,117,110,116]⟩:ByteArray),(⟨#[115,117,109]⟩:ByteArray),(⟨#[109,105,110]⟩:ByteArray),(⟨#[109,97,120]⟩:ByteArray)]:List ByteArray)):=⟨_,rfl⟩
 replace H:(vidimusref17_Reserved.l0 k a0 y118 (y118.length:Int) 0)=some r:=by first | (rw [hy118];with_reducible exact H) | (have H2_:=(Option.bind_some _ _).symm.trans H;rw [hy118];with_reducible exact H2_) | (have H2_:=(Option.bind_some _ _).symm.trans H;with_reducible exact H2_) | with_reducible exact H | (rw [hy118];exact H) | exact H
 have Ny118:=Aside0.mk hy118
 clear hy118
 have H':=Aside0.mk H
 clear H
 go_enter Tryz.func50,Tryz.ntmps50
 go_wp2_with (first | ((with_reducible refine gate_dst (N:=5) rfl ?_);refine Kd.R_lit Kd.string _ 9 ?hg (N:=5) ?hd (xs:=([(⟨#[99,114,101,97,116,101]⟩:ByteArray),(⟨#[116,97,98,108,101]⟩:ByteArray),(⟨#[100,114,111,112]⟩:ByteArray),(⟨#[105,110,115,101,114,116]⟩:ByteArray),(⟨#[105,110,116,111]⟩:ByteArray),(⟨#[118,97,108,117,101,115]⟩:ByteArray),(⟨#[115,101,108,101,99,116]⟩:ByteArray),(⟨#[102,114,111,109]⟩:ByteArray),(⟨#[119,104,101,114,101]⟩:ByteArray),(⟨#[111,114,100,101,114]⟩:ByteArray),(⟨#[98,121]⟩:ByteArray),(⟨#[100,101,115,99]⟩:ByteArray),(⟨#[108,105,109,105,116]⟩:ByteArray),(⟨#[117,112,100,97,116,101]⟩:ByteArray),(⟨#[115,101,116]⟩:ByteArray),(⟨#[100,101,108,101,116,101]⟩:ByteArray),(⟨#[97,110,100]⟩:ByteArray),(⟨#[111,114]⟩:ByteArray),(⟨#[110,111,116]⟩:ByteArray),(⟨#[105,115]⟩:ByteArray),(⟨#[110,117,108,108]⟩:ByteArray),(⟨#[105,110,116]⟩:ByteArray),(⟨#[116,101,120,116]⟩:ByteArray),(⟨#[100,101,116]⟩:ByteArray),(⟨#[107,101,121]⟩:ByteArray),(⟨#[99,111,117,110,116]⟩:ByteArray),(⟨#[115,117,109]⟩:ByteArray),(⟨#[109,105,110]⟩:ByteArray),(⟨#[109,97,120]⟩:ByteArray)]:List ByteArray)) (inner:=[.string (⟨#[99,114,101,97,116,101]⟩:ByteArray),.string (⟨#[116,97,98,108,101]⟩:ByteArray),.string (⟨#[100,114,111,112]⟩:ByteArray),.string (⟨#[105,110,115,101,114,116]⟩:ByteArray),.string (⟨#[105,110,116,111]⟩:ByteArray),.string (⟨#[118,97,108,117,101,115]⟩:ByteArray),.string (⟨#[115,101,108,101,99,116]⟩:ByteArray),.string (⟨#[102,114,111,109]⟩:ByteArray),.string (⟨#[119,104,101,114,101]⟩:ByteArray),.string (⟨#[111,114,100,101,114]⟩:ByteArray),.string (⟨#[98,121]⟩:ByteArray),.string (⟨#[100,101,115,99]⟩:ByteArray),.string (⟨#[108,105,109,105,116]⟩:ByteArray),.string (⟨#[117,112,100,97,116,101]⟩:ByteArray),.string (⟨#[115,101,116]⟩:ByteArray),.string (⟨#[100,101,108,101,116,101]⟩:ByteArray),.string (⟨#[97,110,100]⟩:ByteArray),.string (⟨#[111,114]⟩:ByteArray),.string (⟨#[110,111,116]⟩:ByteArray),.string (⟨#[105,115]⟩:ByteArray),.string (⟨#[110,117,108,108]⟩:ByteArray),.string (⟨#[105,110,116]⟩:ByteArray),.string (⟨#[116,101,120,116]⟩:ByteArray),.string (⟨#[100,101,116]⟩:ByteArray),.string (⟨#[107,101,121]⟩:ByteArray),.string (⟨#[99,111,117,110,116]⟩:ByteArray),.string (⟨#[115,117,109]⟩:ByteArray),.string (⟨#[109,105,110]⟩:ByteArray),.string (⟨#[109,97,120]⟩:ByteArray)]) (ok:=fun _ => True) (okp:=fun _ => True) ?hr ?hp (fun _ hk => hk) trivial (Below.refl _ _) (Nat.le_refl _) (by simp) ?_;(case hd => rfl);(case hg => rfl);(case hr => first | (go_simp;done) | (go_simp;rfl));(case hp => exact (Reps.one (show Kd.M Kd.string _ _ _ (⟨#[99,114,101,97,116,101]⟩:ByteArray) [.string (⟨#[99,114,101,97,116,101]⟩:ByteArray)] from rfl) (Reps.one (show Kd.M Kd.string _ _ _ (⟨#[116,97,98,108,101]⟩:ByteArray) [.string (⟨#[116,97,98,108,101]⟩:ByteArray)] from rfl) (Reps.one (show Kd.M Kd.string _ _ _ (⟨#[100,114,111,112]⟩:ByteArray) [.string (⟨#[100,114,111,112]⟩:ByteArray)] from rfl) (Reps.one (show Kd.M Kd.string _ _ _ (⟨#[105,110,115,101,114,116]⟩:ByteArray) [.string (⟨#[105,110,115,101,114,116]⟩:ByteArray)] from rfl) (Reps.one (show Kd.M Kd.string _ _ _ (⟨#[105,110,116,111]⟩:ByteArray) [.string (⟨#[105,110,116,111]⟩:ByteArray)] from rfl) (Reps.one (show Kd.M Kd.string _ _ _ (⟨#[118,97,108,117,101,115]⟩:ByteArray) [.string (⟨#[118,97,108,117,101,115]⟩:ByteArray)] from rfl) (Reps.one (show Kd.M Kd.string _ _ _ (⟨#[115,101,108,101,99,116]⟩:ByteArray) [.string (⟨#[115,101,108,101,99,116]⟩:ByteArray)] from rfl) (Reps.one (show Kd.M Kd.string _ _ _ (⟨#[102,114,111,109]⟩:ByteArray) [.string (⟨#[102,114,111,109]⟩:ByteArray)] from rfl) (Reps.one (show Kd.M Kd.string _ _ _ (⟨#[119,104,101,114,101]⟩:ByteArray) [.string (⟨#[119,104,101,114,101]⟩:ByteArray)] from rfl) (Reps.one (show Kd.M Kd.string _ _ _ (⟨#[111,114,100,101,114]⟩:ByteArray) [.string (⟨#[111,114,100,101,114]⟩:ByteArray)] from rfl) (Reps.one (show Kd.M Kd.string _ _ _ (⟨#[98,121]⟩:ByteArray) [.string (⟨#[98,121]⟩:ByteArray)] from rfl) (Reps.one (show Kd.M Kd.string _ _ _ (⟨#[100,101,115,99]⟩:ByteArray) [.string (⟨#[100,101,115,99]⟩:ByteArray)] from rfl) (Reps.one (show Kd.M Kd.string _ _ _ (⟨#[108,105,109,105,116]⟩:ByteArray) [.string (⟨#[108,105,109,105,116]⟩:ByteArray)] from rfl) (Reps.one (show Kd.M Kd.string _ _ _ (⟨#[117,112,100,97,116,101]⟩:ByteArray) [.string (⟨#[117,112,100,97,116,101]⟩:ByteArray)] from rfl) (Reps.one (show Kd.M Kd.string _ _ _ (⟨#[115,101,116]⟩:ByteArray) [.string (⟨#[115,101,116]⟩:ByteArray)] from rfl) (Reps.one (show Kd.M Kd.string _ _ _ (⟨#[100,101,108,101,116,101]⟩:ByteArray) [.string (⟨#[100,101,108,101,116,101]⟩:ByteArray)] from rfl) (Reps.one (show Kd.M Kd.string _ _ _ (⟨#[97,110,100]⟩:ByteArray) [.string (⟨#[97,110,100]⟩:ByteArray)] from rfl) (Reps.one (show Kd.M Kd.string _ _ _ (⟨#[111,114]⟩:ByteArray) [.string (⟨#[111,114]⟩:ByteArray)] from rfl) (Reps.one (show Kd.M Kd.string _ _ _ (⟨#[110,111,116]⟩:ByteArray) [.string (⟨#[110,111,116]⟩:ByteArray)] from rfl) (Reps.one (show Kd.M Kd.string _ _ _ (⟨#[105,115]⟩:ByteArray) [.string (⟨#[105,115]⟩:ByteArray)] from rfl) (Reps.one (show Kd.M Kd.string _ _ _ (⟨#[110,117,108,108]⟩:ByteArray) [.string (⟨#[110,117,108,108]⟩:ByteArray)] from rfl) (Reps.one (show Kd.M Kd.string _ _ _ (⟨#[105,110,116]⟩:ByteArray) [.string (⟨#[105,110,116]⟩:ByteArray)] from rfl) (Reps.one (show Kd.M Kd.string _ _ _ (⟨#[116,101,120,116]⟩:ByteArray) [.string (⟨#[116,101,120,116]⟩:ByteArray)] from rfl) (Reps.one (show Kd.M Kd.string _ _ _ (⟨#[100,101,116]⟩:ByteArray) [.string (⟨#[100,101,116]⟩:ByteArray)] from rfl) (Reps.one (show Kd.M Kd.string _ _ _ (⟨#[107,101,121]⟩:ByteArray) [.string (⟨#[107,101,121]⟩:ByteArray)] from rfl) (Reps.one (show Kd.M Kd.string _ _ _ (⟨#[99,111,117,110,116]⟩:ByteArray) [.string (⟨#[99,111,117,110,116]⟩:ByteArray)] from rfl) (Reps.one (show Kd.M Kd.string _ _ _ (⟨#[115,117,109]⟩:ByteArray) [.string (⟨#[115,117,109]⟩:ByteArray)] from rfl) (Reps.one (show Kd.M Kd.string _ _ _ (⟨#[109,105,110]⟩:ByteArray) [.string (⟨#[109,105,110]⟩:ByteArray)] from rfl) (Reps.one (show Kd.M Kd.string _ _ _ (⟨#[109,97,120]⟩:ByteArray) [.string (⟨#[109,97,120]⟩:ByteArray)] from rfl) (Reps.none _ _)))))))))))))))))))))))))))))));intro v119 w2 ho3 hb hg_ hnew_;clear hg_ hnew_;(first | rw [← Ny118.out] at ho3 | (simp only [Int.reduceToNat] at ho3;rw [← Ny118.out] at ho3));have n0_:=Aside0.mk (Kd.R_lower ho3 (below_size (by repeat (first | (with_reducible first | exact HB.out | apply below_alloc | apply pw_below_drewN | apply below_drew1) | exact HB.out))));have n1_:=Aside0.mk (below_step (by repeat (first | (with_reducible first | exact HB.out | apply below_alloc | apply pw_below_drewN | apply below_drew1) | exact HB.out)) hb);clear HB;have HO120:=n0_;have HB:=n1_;clear n0_ n1_;clear hb ho3;obtain ⟨Ao4,co4,eo4⟩:=Kd.R_slice HO120.out;subst eo4))
 go_loopg [7] k (fun kq v7 w' => ∃ (x7_1:Int),v7 = .int .i64 x7_1∧Aside0 (vidimusref17_Reserved.l0 kq a0 y118 (y118.length:Int) x7_1=some r)∧Aside0 (kq ≤ k)∧Aside0 (Kd.R Kd.string 9 w' w.heap.size (fun _ => True) (.slice Ao4 y118.length co4) y118)∧Aside0 (Below w.heap.size w w'))
 case atStart => exact ⟨(0),(by first | rfl | (simp;done) | (simp [*];done)),H',⟨Nat.le_refl _⟩,⟨by (with_reducible repeat (first | apply Kd.R_alloc | apply Kd.R_drewN | apply Kd.R_drew));exact HO120.out⟩,⟨by repeat (first | (with_reducible first | exact HB.out | apply below_alloc | apply pw_below_drewN | apply below_drew1) | exact HB.out)⟩⟩
 case round =>
  clear H'
  try clear p2
  obtain ⟨x7_1,rfl,HA,HK1,HO_5,HB⟩:=hrel
  cases gk with
  | zero => exact absurd HA.out (by simp [vidimusref17_Reserved.l0])
  | succ k1 =>
   have H:=HA.out
   clear HA
   simp only [vidimusref17_Reserved.l0] at H
   by_cases c5:x7_1 < (y118.length:Int)
   ·rw [if_pos c5] at H
    have c5b0:decide (x7_1 < (y118.length:Int))=true:=decide_eq_true c5
    clear c5
    by_cases c6:0 ≤ x7_1
    ·rw [if_pos c6] at H
     have c6b0:decide (0 ≤ x7_1)=true:=decide_eq_true c6
     clear c6
     by_cases c7:x7_1 < (y118.length:Int)
     ·rw [if_pos c7] at H
      have c7b0:decide (x7_1 < (y118.length:Int))=true:=decide_eq_true c7
      clear c7
      by_cases c8:(rdOf ByteArray.empty y118 x7_1).toList=a0.toList
      ·rw [if_pos c8] at H
       have c8b0:((rdOf ByteArray.empty y118 x7_1).toList == a0.toList)=true:=beq_iff_eq.mpr c8
       have c8b1:((rdOf ByteArray.empty y118 x7_1).toList != a0.toList)=false:=bne_eq_false_iff_eq.mpr c8
       clear c8
       obtain rfl:=Option.some.inj H
       have p121:0 ≤ (x7_1:Int):=of_decide_eq_true (by first | (with_reducible assumption) | assumption)
       have q121:x7_1 < (y118.length:Int):=of_decide_eq_true (by first | (with_reducible assumption) | assumption)
       obtain ⟨ad121,e121,hx121_0⟩:=Kd.at_string (Kd.R_reads' HO_5.out).2.2 x7_1 p121 q121
       cases e121
       replace p121:=eq_true p121
       replace q121:=eq_true q121
       go_wp2
       go_ret
       exact ⟨by first | rfl | (simp [errW_none,errW_some] <;> rfl) | (simp [*,errW_none,errW_some] <;> rfl),by repeat (first | (with_reducible first | exact HB.out | apply below_alloc | apply pw_below_drewN | apply below_drew1) | exact HB.out)⟩
      ·rw [if_neg c8] at H
       have c8b0:((rdOf ByteArray.empty y118 x7_1).toList == a0.toList)=false:=beq_eq_false_iff_ne.mpr c8
       have c8b1:((rdOf ByteArray.empty y118 x7_1).toList != a0.toList)=true:=bne_iff_ne.mpr c8
       have H':=Aside0.mk H
       clear H
       have p121:0 ≤ (x7_1:Int):=of_decide_eq_true (by first | (with_reducible assumption) | assumption)
       have q121:x7_1 < (y118.length:Int):=of_decide_eq_true (by first | (with_reducible assumption) | assumption)
       obtain ⟨ad121,e121,hx121_0⟩:=Kd.at_string (Kd.R_reads' HO_5.out).2.2 x7_1 p121 q121
       cases e121
       replace p121:=eq_true p121
       replace q121:=eq_true q121
       go_wp2
       go_roundg k1
       case measure => have:=HK1.out;omega
       case rel => exact ⟨(wrap64 (x7_1 + 1)),(by first | rfl | (simp;done) | (simp [*];done)),H',⟨by have:=HK1.out;omega⟩,⟨by (with_reducible repeat (first | apply Kd.R_alloc | apply Kd.R_drewN | apply Kd.R_drew));exact HO_5.out⟩,⟨by repeat (first | (with_reducible first | exact HB.out | apply below_alloc | apply pw_below_drewN | apply below_drew1) | exact HB.out)⟩⟩
     ·rw [if_neg c7] at H
      exact absurd H (by simp)
    ·rw [if_neg c6] at H
     exact absurd H (by simp)
   ·rw [if_neg c5] at H
    have c5b0:decide (x7_1 < (y118.length:Int))=false:=decide_eq_false c5
    clear c5
    obtain rfl:=Option.some.inj H
    go_wp2
    go_ret
    exact ⟨by first | rfl | (simp [errW_none,errW_some] <;> rfl) | (simp [*,errW_none,errW_some] <;> rfl),by repeat (first | (with_reducible first | exact HB.out | apply below_alloc | apply pw_below_drewN | apply below_drew1) | exact HB.out)⟩
set_option maxHeartbeats 8000000 in
set_option maxRecDepth 100000 in
theorem vidimusref17_Depth.calls (k:Nat):∀ (a0_0:ByteArray) (a0_1:Int) (a0_2:Int) (a0_3:ByteArray) (a0_4:ByteArray) (A0_5:Option Addr) (c0_5:Nat) (l0_5:List (S43)) (r:Int) (w:World) (hr0_5:Kd.C k43 w A0_5 l0_5.length l0_5) (hc0_5:l0_5.length ≤ c0_5) (h:vidimusref17_Depth.f k a0_0 a0_1 a0_2 a0_3 a0_4 l0_5=some r),
  Calls Tryz.prog 44 #[.agg #[.string a0_0,.int .i64 a0_1,.int .i64 a0_2,.string a0_3,.string a0_4,.slice A0_5 l0_5.length c0_5]] w fun e w' => e = .returned (.int .i64 r)∧Below w.heap.size w w':=by
 induction k using Nat.strongRecOn with
 | _ k ih =>
 intro a0_0 a0_1 a0_2 a0_3 a0_4 A0_5 c0_5 l0_5 r w hr0_5 hc0_5 h
 cases k with
 | zero => exact absurd h (by simp [vidimusref17_Depth.f])
 | succ k =>
 simp only [vidimusref17_Depth.f] at h
 have hu43:=Tryz.underlying43
 have HR0_5:=Aside0.mk hr0_5
 have HC0_5:=Aside0.mk hc0_5
 clear hr0_5 hc0_5
 have HB:=Aside0.mk (Below.refl w.heap.size w)
 have H:(vidimusref17_Depth.l0 k 0 0 a0_0 a0_1 a0_2 a0_3 a0_4 l0_5)=some r:=h
 clear h
 have H':=Aside0.mk H
 clear H
 go_enter Tryz.func44,Tryz.ntmps44
 go_wp2_with (first | ((with_reducible refine gate_dst (N:=1) rfl ?_);refine box_event ?hg (N:=1) ?hd (cs:=#[.string a0_0,.int .i64 a0_1,.int .i64 a0_2,.string a0_3,.string a0_4,.slice A0_5 l0_5.length c0_5]) (t:=43) ?hr ?_;(case hd => rfl);(case hg => rfl);(case hr => first | (go_simp;done) | (go_simp;rfl));intro gb126 hg w2 hbox hb;have n0_:=Aside0.mk (below_step (by repeat (first | (with_reducible first | exact HB.out | apply below_alloc | apply pw_below_drewN | apply below_drew1) | exact HB.out)) hb);have n1_:=Aside0.mk (hbox);have n2_:=Aside0.mk ((by rw [hg];exact (below_size (by repeat (first | (with_reducible first | exact HB.out | apply below_alloc | apply pw_below_drewN | apply below_drew1) | exact HB.out))):w.heap.size ≤ gb126));have n3_:=Aside0.mk ((by rw [hg];exact (below_size (by repeat (first | (with_reducible first | exact HB.out | apply below_alloc | apply pw_below_drewN | apply below_drew1) | exact HB.out))):w.heap.size ≤ gb126));clear HB;have HB:=n0_;have BK126:=n1_;have GW126:=n2_;have GE126:=n3_;clear n0_ n1_ n2_ n3_;clear hb hbox hg))
 go_loopg [3,4] k (fun kq v3 v4 w' => ∃ (x3_1:Int) (x4_1:Int),v3 = .int .i64 x3_1∧v4 = .int .i64 x4_1∧Aside0 (vidimusref17_Depth.l0 kq x3_1 x4_1 a0_0 a0_1 a0_2 a0_3 a0_4 l0_5=some r)∧Aside0 (kq ≤ k)∧Aside0 (w'.heap[gb126]? = some (.cells #[.string a0_0,.int .i64 a0_1,.int .i64 a0_2,.string a0_3,.string a0_4,(.slice A0_5 l0_5.length c0_5)] 43 (0,0)))∧Aside0 (Below w.heap.size w w'))
 case atStart => exact ⟨(0),(0),(by first | rfl | (simp;done) | (simp [*];done)),(by first | rfl | (simp;done) | (simp [*];done)),H',⟨Nat.le_refl _⟩,⟨by (with_reducible repeat (first | refine blk_drewN ?_ _ | refine blk_drew ?_ | refine blk_alloc ?_ _));exact BK126.out⟩,⟨by repeat (first | (with_reducible first | exact HB.out | apply below_alloc | apply pw_below_drewN | apply below_drew1 | refine below_set ?_ GE126.out) | exact HB.out)⟩⟩
 case round =>
  clear H'
  try clear p2
  obtain ⟨x3_1,x4_1,rfl,rfl,HA,HK1,BK126,HB⟩:=hrel
  cases gk with
  | zero => exact absurd HA.out (by simp [vidimusref17_Depth.l0])
  | succ k1 =>
   have H:=HA.out
   clear HA
   simp only [vidimusref17_Depth.l0] at H
   by_cases c3:x4_1 < (l0_5.length:Int)
   ·rw [if_pos c3] at H
    have c3b0:decide (x4_1 < (l0_5.length:Int))=true:=decide_eq_true c3
    clear c3
    by_cases c4:0 ≤ x4_1
    ·rw [if_pos c4] at H
     have c4b0:decide (0 ≤ x4_1)=true:=decide_eq_true c4
     clear c4
     replace H:=Option.bind_eq_some_iff.mp H
     obtain ⟨t128,A50,H⟩:=H
     replace H:(vidimusref17_Depth.l0 k1 (mx x3_1 t128) (wrap64 (x4_1 + 1)) a0_0 a0_1 a0_2 a0_3 a0_4 l0_5)=some r:=H
     have A5:=Aside0.mk A50
     clear A50
     obtain ⟨ji6,hji6⟩:∃ j_:Int,(mx x3_1 t128)=j_:=⟨_,rfl⟩
     replace H:(vidimusref17_Depth.l0 k1 ji6 (wrap64 (x4_1 + 1)) a0_0 a0_1 a0_2 a0_3 a0_4 l0_5)=some r:=by first | (rw [hji6] at H;exact H) | (simp only [hji6] at H ⊢;exact H)
     (try rw [hji6] at A5)
     have hji6_:(if x3_1 < t128 then t128 else x3_1)=ji6:=hji6
     have H':=Aside0.mk H
     clear H
     have hcz7_0:wr.cell? ⟨gb126,0,none⟩=some (.string a0_0):=(blk_cell BK126.out 0).trans rfl
     have hcz7_1:wr.cell? ⟨gb126,1,none⟩=some (.int .i64 a0_1):=(blk_cell BK126.out 1).trans rfl
     have hcz7_2:wr.cell? ⟨gb126,2,none⟩=some (.int .i64 a0_2):=(blk_cell BK126.out 2).trans rfl
     have hcz7_3:wr.cell? ⟨gb126,3,none⟩=some (.string a0_3):=(blk_cell BK126.out 3).trans rfl
     have hcz7_4:wr.cell? ⟨gb126,4,none⟩=some (.string a0_4):=(blk_cell BK126.out 4).trans rfl
     have hcz7_5:wr.cell? ⟨gb126,5,none⟩=some (.slice A0_5 l0_5.length c0_5):=(blk_cell BK126.out 5).trans rfl
     have hfz7_0:=blk_frozen BK126.out 0
     have hfz7_1:=blk_frozen BK126.out 1
     have hfz7_2:=blk_frozen BK126.out 2
     have hfz7_3:=blk_frozen BK126.out 3
     have hfz7_4:=blk_frozen BK126.out 4
     have hfz7_5:=blk_frozen BK126.out 5
     have p127:0 ≤ (x4_1:Int):=of_decide_eq_true (by first | (with_reducible assumption) | assumption)
     have q127:x4_1 < (l0_5.length:Int):=of_decide_eq_true (by first | (with_reducible assumption) | assumption)
     obtain ⟨ad127,A127_5,c127_5,e127,hx127_0,hx127_1,hx127_2,hx127_3,hx127_4,hx127_5,hl127_5,hi127_5⟩:=at_T43 HR0_5.out x4_1 p127 q127
     cases e127
     replace hx127_0:=(HB.out.cell (World.block_lt_of_cell? w _ hx127_0)).trans hx127_0
     replace hx127_1:=(HB.out.cell (World.block_lt_of_cell? w _ hx127_1)).trans hx127_1
     replace hx127_2:=(HB.out.cell (World.block_lt_of_cell? w _ hx127_2)).trans hx127_2
     replace hx127_3:=(HB.out.cell (World.block_lt_of_cell? w _ hx127_3)).trans hx127_3
     replace hx127_4:=(HB.out.cell (World.block_lt_of_cell? w _ hx127_4)).trans hx127_4
     replace hx127_5:=(HB.out.cell (World.block_lt_of_cell? w _ hx127_5)).trans hx127_5
     have HR127_5:=Aside0.mk hi127_5
     have HC127_5:=Aside0.mk hl127_5
     clear hi127_5 hl127_5
     replace p127:=eq_true p127
     replace q127:=eq_true q127
     go_wp2_with (first | ((with_reducible refine gate_callee (f:=44) rfl ?_);refine goesL_ (some 18) rfl rfl Tryz.func44 (by kernel_rfl) rfl #[.agg #[.string ((rd_T43 l0_5 x4_1).f0),.int .i64 ((rd_T43 l0_5 x4_1).f1.f0),.int .i64 ((rd_T43 l0_5 x4_1).f1.f1),.string ((rd_T43 l0_5 x4_1).f1.f2),.string ((rd_T43 l0_5 x4_1).f2),.slice A127_5 ((rd_T43 l0_5 x4_1).f3).length c127_5]] rfl (by (try simp only [List.map_toArray,List.map_cons,List.map_nil]);first | done | rfl | (simp only [List.length_drop,List.length_take];rfl)) ?_;(with_reducible refine (ih k1 (by have:=HK1.out;omega) ((rd_T43 l0_5 x4_1).f0) ((rd_T43 l0_5 x4_1).f1.f0) ((rd_T43 l0_5 x4_1).f1.f1) ((rd_T43 l0_5 x4_1).f1.f2) ((rd_T43 l0_5 x4_1).f2) _ _ ((rd_T43 l0_5 x4_1).f3) t128 _ ?side1 ?side2 A5.out).mono ?_);(case side1 => repeat (first | exact (Kd.C_below HR127_5.out HB.out) | (with_reducible refine Kd.C_alloc ?_ _) | (with_reducible refine Kd.C_drewN ?_ _) | (with_reducible refine Kd.C_drew ?_)));(case side2 => exact HC127_5.out);rintro e w8 ⟨rfl,hb⟩;refine ⟨_,rfl,?_⟩;have n0_:=Aside0.mk (blk_below (g:=gb126) (o:=.cells #[.string a0_0,.int .i64 a0_1,.int .i64 a0_2,.string a0_3,.string a0_4,.slice (some ad127) l0_5.length c0_5] 43 (0,0)) (by (with_reducible repeat (first | refine blk_drewN ?_ _ | refine blk_drew ?_ | refine blk_alloc ?_ _));exact BK126.out) hb);have n1_:=Aside0.mk (below_step (by repeat (first | (with_reducible first | exact HB.out | apply below_alloc | apply pw_below_drewN | apply below_drew1 | refine below_set ?_ GE126.out) | exact HB.out)) hb);clear BK126;clear HB;have BK126:=n0_;have HB:=n1_;clear n0_ n1_;(try clear hb);(try clear hb2);(try clear hk);(try clear hi)))
     go_roundg k1
     case measure => have:=HK1.out;omega
     case rel => exact ⟨(ji6),(wrap64 (x4_1 + 1)),(by first | rfl | (simp;done) | (simp only [← hji6] <;> (first | rfl | simp)) | (simp [*];done)),(by first | rfl | (simp;done) | (simp [*];done)),H',⟨by have:=HK1.out;omega⟩,⟨by (with_reducible repeat (first | refine blk_drewN ?_ _ | refine blk_drew ?_ | refine blk_alloc ?_ _));exact BK126.out⟩,⟨by repeat (first | (with_reducible first | exact HB.out | apply below_alloc | apply pw_below_drewN | apply below_drew1 | refine below_set ?_ GE126.out) | exact HB.out)⟩⟩
    ·rw [if_neg c4] at H
     exact absurd H (by simp)
   ·rw [if_neg c3] at H
    have c3b0:decide (x4_1 < (l0_5.length:Int))=false:=decide_eq_false c3
    clear c3
    obtain rfl:=Option.some.inj H
    have hcz9_0:wr.cell? ⟨gb126,0,none⟩=some (.string a0_0):=(blk_cell BK126.out 0).trans rfl
    have hcz9_1:wr.cell? ⟨gb126,1,none⟩=some (.int .i64 a0_1):=(blk_cell BK126.out 1).trans rfl
    have hcz9_2:wr.cell? ⟨gb126,2,none⟩=some (.int .i64 a0_2):=(blk_cell BK126.out 2).trans rfl
    have hcz9_3:wr.cell? ⟨gb126,3,none⟩=some (.string a0_3):=(blk_cell BK126.out 3).trans rfl
    have hcz9_4:wr.cell? ⟨gb126,4,none⟩=some (.string a0_4):=(blk_cell BK126.out 4).trans rfl
    have hcz9_5:wr.cell? ⟨gb126,5,none⟩=some (.slice A0_5 l0_5.length c0_5):=(blk_cell BK126.out 5).trans rfl
    have hfz9_0:=blk_frozen BK126.out 0
    have hfz9_1:=blk_frozen BK126.out 1
    have hfz9_2:=blk_frozen BK126.out 2
    have hfz9_3:=blk_frozen BK126.out 3
    have hfz9_4:=blk_frozen BK126.out 4
    have hfz9_5:=blk_frozen BK126.out 5
    go_wp2
    go_ret
    exact ⟨by first | rfl | (simp [errW_none,errW_some] <;> rfl) | (simp [*,errW_none,errW_some] <;> rfl),by repeat (first | (with_reducible first | exact HB.out | apply below_alloc | apply pw_below_drewN | apply below_drew1 | refine below_set ?_ GE126.out) | exact HB.out)⟩
set_option maxHeartbeats 8000000 in
set_option maxRecDepth 100000 in
theorem vidimusref17_number.calls (k:Nat) (a0:Int) (r:ByteArray) (w:World) (h:vidimusref17_number.f k a0=some r) :
  Calls Tryz.prog 103 #[.int .i64 a0] w fun e w' => e = .returned (.string r)∧Below w.heap.size w w':=by
 have HB:=Aside0.mk (Below.refl w.heap.size w)
 have H:(if a0 ≥ 0 then ((vidimusref16_Digits.f k a0).bind fun t129 => (some t129)) else (if a0=(-9223372036854775808) then (some (⟨#[45,57,50,50,51,51,55,50,48,51,54,56,53,52,55,55,53,56,48,56]⟩:ByteArray)) else ((vidimusref16_Digits.f k (wrap64 (-a0))).bind fun t130 => (if 1 + t130.size ≤ 9223372036854775807 then (some ((⟨#[45]⟩:ByteArray) ++ t130)) else (none)))))=some r:=h
 clear h
 by_cases c2:a0 ≥ 0
 ·rw [if_pos c2] at H
  have c2b0:decide (0 ≤ a0)=true:=decide_eq_true c2
  clear c2
  replace H:=Option.bind_eq_some_iff.mp H
  obtain ⟨t129,A30,H⟩:=H
  replace H:(some t129)=some r:=H
  have A3:=Aside0.mk A30
  clear A30
  obtain rfl:=Option.some.inj H
  go_enter Tryz.func103,Tryz.ntmps103
  go_wp2_with (first | ((with_reducible refine gate_callee (f:=67) rfl ?_);refine goesL_ (some 6) rfl rfl Tryz.func67 (by kernel_rfl) rfl #[.int .i64 a0] rfl (by (try simp only [List.map_toArray,List.map_cons,List.map_nil]);first | done | rfl | (simp only [List.length_drop,List.length_take];rfl)) ?_;(with_reducible refine (vidimusref16_Digits.calls k a0 t129 _ A3.out).mono ?_);rintro e w4 ⟨rfl,hb⟩;refine ⟨_,rfl,?_⟩;have n0_:=Aside0.mk (below_step (by repeat (first | (with_reducible first | exact HB.out | apply below_alloc | apply pw_below_drewN | apply below_drew1) | exact HB.out)) hb);clear HB;have HB:=n0_;clear n0_;(try clear hb);(try clear hb2);(try clear hk);(try clear hi)))
  go_ret
  exact ⟨by first | rfl | (simp [errW_none,errW_some] <;> rfl) | (simp [*,errW_none,errW_some] <;> rfl),by repeat (first | (with_reducible first | exact HB.out | apply below_alloc | apply pw_below_drewN | apply below_drew1) | exact HB.out)⟩
 ·rw [if_neg c2] at H
  have c2b0:decide (0 ≤ a0)=false:=decide_eq_false c2
  clear c2
  by_cases c5:a0=(-9223372036854775808)
  ·rw [if_pos c5] at H
   have c5b0:(a0 == (-9223372036854775808))=true:=beq_iff_eq.mpr c5
   have c5b1:(a0 != (-9223372036854775808))=false:=bne_eq_false_iff_eq.mpr c5
   clear c5
   obtain rfl:=Option.some.inj H
   go_enter Tryz.func103,Tryz.ntmps103
   go_wp2
   go_ret
   exact ⟨by first | rfl | (simp [errW_none,errW_some] <;> rfl) | (simp [*,errW_none,errW_some] <;> rfl),by repeat (first | (with_reducible first | exact HB.out | apply below_alloc | apply pw_below_drewN | apply below_drew1) | exact HB.out)⟩
  ·rw [if_neg c5] at H
   have c5b0:(a0 == (-9223372036854775808))=false:=beq_eq_false_iff_ne.mpr c5
   have c5b1:(a0 != (-9223372036854775808))=true:=bne_iff_ne.mpr c5
   replace H:=Option.bind_eq_some_iff.mp H
   obtain ⟨t130,A60,H⟩:=H
   replace H:(if 1 + t130.size ≤ 9223372036854775807 then (some ((⟨#[45]⟩:ByteArray) ++ t130)) else (none))=some r:=H
   have A6:=Aside0.mk A60
   clear A60
   by_cases c7:1 + t130.size ≤ 9223372036854775807
   ·rw [if_pos c7] at H
    have c7b0:=eq_true c7
    have c7b1:decide (1 + t130.size ≤ 9223372036854775807)=true:=decide_eq_true c7
    try have c7b2:(9223372036854775807 < 1 + t130.size)=False:=eq_false (Nat.not_lt.2 c7)
    obtain rfl:=Option.some.inj H
    go_enter Tryz.func103,Tryz.ntmps103
    go_wp2_with (first | ((with_reducible refine gate_callee (f:=67) rfl ?_);refine goesL_ (some 11) rfl rfl Tryz.func67 (by kernel_rfl) rfl #[.int .i64 (wrap64 (-a0))] rfl (by (try simp only [List.map_toArray,List.map_cons,List.map_nil]);first | done | rfl | (simp only [List.length_drop,List.length_take];rfl)) ?_;(with_reducible refine (vidimusref16_Digits.calls k (wrap64 (-a0)) t130 _ A6.out).mono ?_);rintro e w8 ⟨rfl,hb⟩;refine ⟨_,rfl,?_⟩;have n0_:=Aside0.mk (below_step (by repeat (first | (with_reducible first | exact HB.out | apply below_alloc | apply pw_below_drewN | apply below_drew1) | exact HB.out)) hb);clear HB;have HB:=n0_;clear n0_;(try clear hb);(try clear hb2);(try clear hk);(try clear hi)))
    go_ret
    exact ⟨by first | rfl | (simp [errW_none,errW_some] <;> rfl) | (simp [*,errW_none,errW_some] <;> rfl),by repeat (first | (with_reducible first | exact HB.out | apply below_alloc | apply pw_below_drewN | apply below_drew1) | exact HB.out)⟩
   ·rw [if_neg c7] at H
    exact absurd H (by simp)
end Go.Proofs.YtcgdncpioafbdaaGreatDoor.Q
namespace Go.Proofs.YtcgdncpioafbdaaGreatDoor.Q
open Go Go.RowKit Go.Proofs.YtcgdncpioafbdaaGreatDoorW.PrintWords
mutual
def dep:S43 → Nat
 | ⟨_,_,_,l⟩ => deps l + 1
def deps:List S43 → Nat
 | [] => 0
 | x :: l => max (dep x) (deps l)
end
mutual
def fu:S43 → Nat
 | ⟨_,_,_,l⟩ => fus l + 1
def fus:List S43 → Nat
 | [] => 1
 | x :: l => max (fu x) (fus l) + 1
end
theorem deps_cons (x:S43) (l:List S43):deps (x :: l)=max (dep x) (deps l):=by rw [deps]
theorem deps_nil:deps []=0:=by rw [deps]
mutual
theorem dep_fu:∀ x:S43,dep x ≤ fu x
 | ⟨_,_,_,l⟩ => by
  unfold dep fu
  have:=deps_fus l
  omega
theorem deps_fus:∀ l:List S43,deps l ≤ fus l
 | [] => by unfold deps fus;omega
 | x :: l => by
  unfold deps fus
  have:=dep_fu x
  have:=deps_fus l
  omega
end
theorem len_fus:∀ l:List S43,l.length ≤ fus l
 | [] => by simp
 | x :: l => by
  unfold fus
  have:=len_fus l
  simp
  omega
theorem dep_eq (x:S43):dep x=deps x.f3 + 1:=by cases x;rfl
theorem fu_eq (x:S43):fu x=fus x.f3 + 1:=by cases x;rfl
theorem Depth_loop {n:Nat} (ih:∀ x:S43,fu x < n → fu x < 4611686018427387904 → ∀ k,fu x ≤ k → parse_Depth.f k x.f0 x.f1.f0 x.f1.f1 x.f1.f2 x.f2 x.f3=some (dep x:Int)) :
  ∀ (l pre:List S43),fus l ≤ n → pre.length + fus l < 4611686018427387904 → ∀ (k m:Nat),m < 4611686018427387904 → fus l ≤ k → parse_Depth.l0 k (m:Int) (pre ++ l) ((pre ++ l).length:Int) (pre.length:Int)=some ((max m (deps l) + 1:Nat):Int)
 | [],pre,h1,h2,k,m,hm,hk => by
  cases k with
  | zero => simp [fus] at hk
  | succ k =>
   unfold parse_Depth.l0
   rw [if_neg (by simp)]
   unfold deps
   congr 1
   unfold wrap64
   omega
 | x :: l,pre,h1,h2,k,m,hm,hk => by
  unfold fus at h1 h2 hk
  cases k with
  | zero => omega
  | succ k =>
   have hx:rd_T43 (pre ++ x :: l) (pre.length:Int)=x:=by
    unfold rd_T43
    rw [Int.toNat_natCast,List.getD_eq_getElem?_getD,List.getElem?_append_right (Nat.le_refl _),Nat.sub_self]
    rfl
   unfold parse_Depth.l0
   rw [if_pos (by simp;omega),if_pos (by omega),if_pos (by simp;omega),hx,ih x (by omega) (by omega) k (by omega)]
   simp only [Option.bind_some]
   have hd:=dep_fu x
   have hmx:mx (m:Int) (dep x:Int)=((max m (dep x):Nat):Int):=by
    unfold mx
    split <;> omega
   have hw:wrap64 ((pre.length:Int) + 1)=((pre ++ [x]).length:Int):=by
    rw [List.length_append]
    simp only [List.length_cons,List.length_nil]
    unfold wrap64
    omega
   rw [hmx,hw,show pre ++ x :: l=(pre ++ [x]) ++ l by simp]
   have h:=Depth_loop ih l (pre ++ [x]) (by omega) (by simp;omega) k (max m (dep x)) (by omega) (by omega)
   rw [h,deps_cons]
   congr 2
   omega
theorem Depth_is (x:S43) (hx:fu x < 4611686018427387904):∀ k,fu x ≤ k → parse_Depth.f k x.f0 x.f1.f0 x.f1.f1 x.f1.f2 x.f2 x.f3=some (dep x:Int):=by
 have key:∀ n,∀ x:S43,fu x < n → fu x < 4611686018427387904 → ∀ k,fu x ≤ k → parse_Depth.f k x.f0 x.f1.f0 x.f1.f1 x.f1.f2 x.f2 x.f3=some (dep x:Int):=by
  intro n
  induction n with
  | zero => intro x h;omega
  | succ n ih =>
   intro x h1 h2 k hk
   have he:=fu_eq x
   cases k with
   | zero => omega
   | succ k =>
    unfold parse_Depth.f
    have h:=Depth_loop (n:=n) ih x.f3 [] (by omega) (by simp;omega) k 0 (by omega) (by omega)
    simp only [List.nil_append,List.length_nil] at h
    rw [dep_eq]
    have h0:((0:Nat):Int)=0:=rfl
    rw [h0] at h
    rw [h]
    congr 2
    first | done | omega
 exact key (fu x + 1) x (by omega) hx
theorem fu_op1 (s:ByteArray) (e:S43):fu (Ps.op s [e]) ≤ fu e + 3:=by
 have:=fu_eq (Ps.op s [e])
 have h2:fus [e]=max (fu e) 1 + 1:=by simp [fus]
 have:fu (Ps.op s [e])=fus [e] + 1:=this
 have:=fu_eq e
 omega
theorem fu_op2 (s:ByteArray) (e x:S43):fu (Ps.op s [e,x]) ≤ max (fu e) (fu x) + 4:=by
 have h1:fu (Ps.op s [e,x])=fus [e,x] + 1:=fu_eq _
 have h2:fus [e,x]=max (fu e) (max (fu x) 1 + 1) + 1:=by simp [fus]
 omega
theorem fu_val (v:S40):fu (Ps.val v)=2:=rfl
def BB (k:Nat):Nat:=4 * k * k + 2
theorem BB_succ (k:Nat):BB (k + 1)=BB k + 8 * k + 4:=by
 have h:(k + 1) * (k + 1)=k * k + 2 * k + 1:=by rw [Nat.add_mul,Nat.mul_add];omega
 unfold BB
 rw [Nat.mul_assoc,Nat.mul_assoc,h]
 omega
theorem fu_all:∀ k,(∀ least ts e r,Ps.expr k least ts=some (e,r) → fu e ≤ BB k)∧(∀ least e ts x r,Ps.more k least e ts=some (x,r) → fu x ≤ max (fu e) (BB k) + 4 * k)∧(∀ ts e r,Ps.first k ts=some (e,r) → fu e ≤ BB k)
 | 0 => ⟨fun _ _ _ _ h => by simp [Ps.expr] at h,fun _ _ _ _ _ h => by simp [Ps.more] at h,fun _ _ _ h => by simp [Ps.first] at h⟩
 | k + 1 => by
  obtain ⟨h1,h2,h3⟩:=fu_all k
  have hB:=BB_succ k
  have hB2:2 ≤ BB k:=by unfold BB;omega
  refine ⟨fun least ts e r h => ?_,fun least e ts x r h => ?_,fun ts e r h => ?_⟩
  ·unfold Ps.expr at h
   split at h
   ·cases h
   ·split at h
    ·cases h
    ·rename_i e1 r1 hf
     have a:=h3 _ _ _ hf
     have b:=h2 _ _ _ _ _ h
     omega
  ·unfold Ps.more at h
   split at h
   ·cases h;omega
   ·split at h
    ·cases h;omega
    ·split at h
     ·cases h
     ·split at h
      ·split at h
       ·cases h
       ·rename_i no r1 ht
        split at h
        ·cases h
        ·have b:=h2 _ _ _ _ _ h
         have c1:=fu_op1 Ps.sIsnull e
         have c2:=fu_op1 Ps.sNot (Ps.op Ps.sIsnull [e])
         have c3:fu (Ps.op Ps.sIsnull [e]) ≤ fu e + 2:=by
          have e1:fu (Ps.op Ps.sIsnull [e])=fus [e] + 1:=fu_eq _
          have e2:fus [e]=max (fu e) 1 + 1:=by simp [fus]
          have:=fu_eq e
          omega
         have c4:fu (Ps.op Ps.sNot [Ps.op Ps.sIsnull [e]]) ≤ fu e + 4:=by
          have e1:fu (Ps.op Ps.sNot [Ps.op Ps.sIsnull [e]])=fus [Ps.op Ps.sIsnull [e]] + 1:=fu_eq _
          have e2:fus [Ps.op Ps.sIsnull [e]]=max (fu (Ps.op Ps.sIsnull [e])) 1 + 1:=by simp [fus]
          omega
         cases no
         ·rw [if_neg (by decide)] at b
          omega
         ·rw [if_pos rfl] at b
          omega
      ·split at h
       ·cases h
       ·rename_i y r1 hx
        have a:=h1 _ _ _ _ hx
        have b:=h2 _ _ _ _ _ h
        have c:=fu_op2 (Ps.pk ts) e y
        omega
  ·unfold Ps.first at h
   have o1:∀ s e,fu (Ps.op s [e]) ≤ fu e + 3:=fu_op1
   repeat' (split at h)
   all_goals first
    | (cases h;done)
    | (cases h;first | (have:=fu_val ⟨1,0,⟨#[]⟩⟩;simp only [fu_val];omega) | (have a:=h1 _ _ _ _ ‹Ps.expr k _ _=some (_,_)›;first | omega | (refine Nat.le_trans (o1 _ _) ?_;omega)) | (rename_i hx hu;have a:=h1 _ _ _ _ hx;first | omega | (refine Nat.le_trans (o1 _ _) ?_;omega)) | (show fu ⟨_,_,_,[]⟩ ≤ _;simp only [fu,fus];omega) | (refine Nat.le_trans (Nat.le_of_eq (fu_eq _)) ?_;simp only [Ps.op,fus];omega))
theorem fu_expr {k:Nat} {least:Int} {ts r:List S32} {e:S43} (h:Ps.expr k least ts=some (e,r)):fu e ≤ BB k:=(fu_all k).1 _ _ _ _ h
end Go.Proofs.YtcgdncpioafbdaaGreatDoor.Q
namespace Go.Proofs.YtcgdncpioafbdaaGreatDoor.Q
open Go.RowKit Go.Proofs.YtcgdncpioafbdaaGreatDoorW.PrintWords Go.Proofs.YtcgdncpioafbdaaGreatDoorW.PrintLast Go.Proofs.YtcgdncpioafbdaaGreatDoorW.PrintMore
attribute [local go_sem] max2_int min2_int max_two min_two max_three min_three max_four min_four
set_option linter.unusedVariables false
set_option linter.unusedSimpArgs false
mutual
def vidimuslaw17_minus.l0:Nat → List (S43) → Int → Int → Option (Bool)
 | 0,_,_,_ => none
 | k + 1,x10,x11,x12 => if x12 < x11 then (if 0 ≤ x12 then (if x12 < (x10.length:Int) then ((vidimuslaw17_minus.f k ((rd_T43 x10 x12).f0) ((rd_T43 x10 x12).f1.f0) ((rd_T43 x10 x12).f1.f1) ((rd_T43 x10 x12).f1.f2) ((rd_T43 x10 x12).f2) ((rd_T43 x10 x12).f3)).bind fun t117 => (if t117=true then (some true) else (vidimuslaw17_minus.l0 k x10 x11 (wrap64 (x12 + 1))))) else (none)) else (none)) else (some false)
def vidimuslaw17_minus.f:Nat → ByteArray → Int → Int → ByteArray → ByteArray → List (S43) → Option (Bool)
 | 0,_,_,_,_,_,_ => none
 | k + 1,a0_0,a0_1,a0_2,a0_3,a0_4,l0_5 => if a0_2 < 0 then (some true) else (vidimuslaw17_minus.l0 k l0_5 (l0_5.length:Int) 0)
end
def vidimuslaw17_Name.l0:Nat → ByteArray → Int → Option (ByteArray)
 | 0,_,_ => none
 | k + 1,x0,x3 => if x3 < (x0.size:Int) then (if x3 < 10 then (if 0 ≤ x3 then (if (bt x0 x3) ≥ 97 then (if (bt x0 x3) ≤ 122 then (vidimuslaw17_Name.l0 k x0 (wrap64 (x3 + 1))) else (if x3=0 then (some (⟨#[120]⟩:ByteArray)) else (if x3 ≤ (x0.size:Int) then ((vidimusref17_Reserved.f k (x0.extract 0 (x3:Int).toNat)).bind fun t122 => (if t122=true then (some (⟨#[120]⟩:ByteArray)) else (some (x0.extract 0 (x3:Int).toNat)))) else (none)))) else (if x3=0 then (some (⟨#[120]⟩:ByteArray)) else (if x3 ≤ (x0.size:Int) then ((vidimusref17_Reserved.f k (x0.extract 0 (x3:Int).toNat)).bind fun t123 => (if t123=true then (some (⟨#[120]⟩:ByteArray)) else (some (x0.extract 0 (x3:Int).toNat)))) else (none)))) else (none)) else (if x3=0 then (some (⟨#[120]⟩:ByteArray)) else (if 0 ≤ x3 then (if x3 ≤ (x0.size:Int) then ((vidimusref17_Reserved.f k (x0.extract 0 (x3:Int).toNat)).bind fun t124 => (if t124=true then (some (⟨#[120]⟩:ByteArray)) else (some (x0.extract 0 (x3:Int).toNat)))) else (none)) else (none)))) else (if x3=0 then (some (⟨#[120]⟩:ByteArray)) else (if 0 ≤ x3 then (if x3 ≤ (x0.size:Int) then ((vidimusref17_Reserved.f k (x0.extract 0 (x3:Int).toNat)).bind fun t125 => (if t125=true then (some (⟨#[120]⟩:ByteArray)) else (some (x0.extract 0 (x3:Int).toNat)))) else (none)) else (none)))
def vidimuslaw17_Name.f (k:Nat) (a0:ByteArray):Option (ByteArray):=vidimuslaw17_Name.l0 k a0 0
def vidimuslaw17_ends.l0:Nat → ByteArray → Int → Int → Option (Bool)
 | 0,_,_,_ => none
 | k + 1,x0,x5,x6 => if x6 < x5 then (if 0 ≤ x6 then (if x6 < (x0.size:Int) then (if (bt x0 x6)=59 then (some true) else (vidimuslaw17_ends.l0 k x0 x5 (wrap64 (x6 + 1)))) else (none)) else (none)) else (some false)
def vidimuslaw17_ends.f (k:Nat) (a0:ByteArray):Option (Bool):=vidimuslaw17_ends.l0 k a0 (a0.size:Int) 0
end Go.Proofs.YtcgdncpioafbdaaGreatDoor.Q
