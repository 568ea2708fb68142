/-
Contracts and plain laws, merged out of own texts.
-/
import Derived.Test.YteibicnbkggiiaaGreatDoorQ2
import Derived.Shelf.Small.Utf8
import Derived.Shelf.Small.Bits
import Derived.Shelf.Small.Strs
import Derived.Shelf.Small.Wraps
import Derived.Shelf.Strconv.Atoi
import Derived.Shelf.Strconv.Itoa0
import Derived.Shelf.Strconv.Itoa1
import Derived.Shelf.LaysM
import Derived.Shelf.Strconv.Itoa2
import Derived.Shelf.Strconv.Itoa3
import Derived.Shelf.Strconv.AtoiErrFast
import Derived.Shelf.Strconv.ParseIntEmpty
import Derived.Shelf.Strconv.AtoiFail
import Derived.Shelf.Strconv.Clone
import Derived.Shelf.Strconv.SyntaxError
import Derived.Shelf.LaysC
import Derived.Shelf.Strconv.ToError
import Derived.Shelf.Strconv.Lower
import Derived.Shelf.Strconv.ParseUint10
import Derived.Shelf.Strconv.ParseUint10Empty
import Derived.Shelf.Strconv.ParseUint10Any
import Derived.Shelf.Strconv.ParseInt10
import Derived.Shelf.Strconv.AtoiLong
import Derived.Shelf.Strconv.AtoiInnerAll
import Derived.Shelf.Strconv.RangeError
import Derived.Shelf.Strconv.ToErrorRange
import Derived.Shelf.Strconv.AtoiAll
import Derived.Shelf.Strconv.ErrVarAll
import Derived.Shelf.Strings.Search1
import Derived.Shelf.Strings.Search2
import Derived.Shelf.Strings.Search3
import Derived.Shelf.Strings.Shaped
import Derived.Shelf.Sort.Plain
import Derived.Shelf.Strings.Prefix
import Derived.Shelf.Strings.Runes
import Derived.Shelf.Slices.Turned
import Derived.Ground.Names2Prog
import Derived.Shelf.Slices.CompactI
import Derived.Shelf.Slices.SearchI
import Derived.Shelf.Slices.Cells
import Derived.Shelf.Slices.In.SortNone
import Derived.Test.YteibicnbkggiiaaGreatDoorProg
import Derived.Test.YteibicnbkggiiaaGreatDoorRows
import Derived.Test.YteibicnbkggiiaaGreatDoorTie
import Derived.Test.YteibicnbkggiiaaGreatDoorCards
set_option linter.unusedVariables false
set_option linter.unusedSimpArgs false
set_option maxHeartbeats 4000000
set_option maxRecDepth 20000
namespace Go.Proofs
theorem fxT {P:Go.Program} {f:Nat} {a b:Go.Func} (h:P.funcs[f]?=some a) (e:a=b:=by kernel_rfl):P.funcs[f]?=some b:=h.trans (congrArg some e)
open Go.Shelf
def Tryz.lays137_ren:Go.Shelf.Ren:=⟨fun|137=>272|217=>304|266=>331|n=>n,fun|9=>9|5=>5|3=>3|n=>n,fun|n=>n⟩
theorem Tryz.lays137:Go.Proofs.Lays.n137 Tryz.prog Tryz.lays137_ren:={
 mixed:=by kernel_rfl
 f137:=fxT Tryz.func272
 f217:=fxT Tryz.func304
 f266:=fxT Tryz.func331
 t3:=Tryz.underlying3
 a3:=Tryz.isAgg3
 z3:=Tryz.sizeOf3
 v3:=Tryz.zeroValue3
 t5:=Tryz.underlying5
 a5:=Tryz.isAgg5
 z5:=Tryz.sizeOf5
 v5:=Tryz.zeroValue5
 t9:=Tryz.underlying9
 a9:=Tryz.isAgg9
 z9:=Tryz.sizeOf9
 v9:=Tryz.zeroValue9 }
open Go.RowKit in
theorem Tryz.strings_IndexByte (s:ByteArray) (c:Int) (w:World) :
 Calls Tryz.prog 272 #[.string s,.int .u8 c] w λe w'=>e=.returned (.int .i64 (Lib.indexByte s.data.toList c.toNat.toUInt8))/\w'=w:=Any.strings_IndexByte Tryz.lays137 s c w
def Tryz.lays215_ren:Go.Shelf.Ren:=⟨fun|215=>86|n=>n,fun|3=>3|4=>4|n=>n,fun|n=>n⟩
def Tryz.lays122_ren:Go.Shelf.Ren:=⟨fun|122=>49|215=>86|n=>n,fun|3=>3|4=>4|n=>n,fun|n=>n⟩
theorem Tryz.lays122:Go.Proofs.Lays.n122 Tryz.prog Tryz.lays122_ren:={
 mixed:=by kernel_rfl
 f122:=fxT Tryz.func49
 f215:=fxT Tryz.func86
 t3:=Tryz.underlying3
 a3:=Tryz.isAgg3
 z3:=Tryz.sizeOf3
 v3:=Tryz.zeroValue3
 t4:=Tryz.underlying4
 a4:=Tryz.isAgg4
 z4:=Tryz.sizeOf4
 v4:=Tryz.zeroValue4 }
open Go.RowKit in
theorem Tryz.cmp_Compare_int (x y:Int) (w:World) :
 Calls Tryz.prog 49 #[.int .i64 x,.int .i64 y] w λe w'=>e=.returned (.int .i64 (Lib.compareInt x y))/\w'=w:=Any.cmp_Compare_int Tryz.lays122 x y w
def Tryz.lays172_ren:Go.Shelf.Ren:=⟨fun|172=>275|244=>308|245=>309|247=>332|279=>333|280=>334|281=>335|282=>336|287=>344|316=>345|171=>347|205=>346|321=>360|322=>361|243=>362|246=>367|283=>371|284=>372|285=>373|286=>374|129=>128|317=>376|318=>377|319=>378|320=>379|337=>381|338=>382|n=>n,fun|9=>9|3=>3|75=>321|76=>322|4=>4|5=>5|167=>363|37=>287|0=>0|85=>364|2=>2|168=>366|53=>206|175=>378|46=>157|210=>382|127=>394|145=>397|143=>395|21=>21|171=>405|173=>407|212=>410|51=>204|20=>20|213=>411|232=>412|233=>413|80=>252|n=>n,fun|15=>3|16=>4|17=>6|18=>7|19=>8|n=>n⟩
def Tryz.laysC172_ren:Go.Shelf.Ren:=⟨fun|172=>275|244=>308|245=>309|247=>332|279=>333|280=>334|281=>335|282=>336|287=>344|316=>345|171=>347|205=>346|321=>360|322=>361|243=>362|246=>367|283=>371|284=>372|285=>373|286=>374|129=>128|317=>376|318=>377|319=>378|320=>379|337=>381|338=>382|n=>n,fun|9=>9|3=>3|75=>321|76=>322|4=>4|5=>5|167=>363|37=>287|0=>0|85=>364|2=>2|168=>366|53=>206|175=>378|46=>157|210=>382|127=>394|145=>397|143=>395|21=>21|171=>405|173=>407|212=>410|51=>204|20=>20|213=>411|232=>412|233=>413|80=>252|n=>n,fun|15=>3|16=>4|17=>6|18=>7|19=>8|n=>n⟩
theorem Tryz.laysC172:Go.Proofs.LaysC.n172 Tryz.prog Tryz.laysC172_ren:={
 mixed:=by kernel_rfl
 f129:=fxT Tryz.func128
 f171:=fxT Tryz.func347
 f172:=fxT Tryz.func275
 f205:=fxT Tryz.func346
 f243:=fxT Tryz.func362
 f244:=fxT Tryz.func308
 f245:=fxT Tryz.func309
 f246:=fxT Tryz.func367
 f247:=fxT Tryz.func332
 f279:=fxT Tryz.func333
 f280:=fxT Tryz.func334
 f281:=fxT Tryz.func335
 f282:=fxT Tryz.func336
 f283:=fxT Tryz.func371
 f284:=fxT Tryz.func372
 f285:=fxT Tryz.func373
 f286:=fxT Tryz.func374
 f287:=fxT Tryz.func344
 f316:=fxT Tryz.func345
 f317:=fxT Tryz.func376
 f318:=fxT Tryz.func377
 f319:=fxT Tryz.func378
 f320:=fxT Tryz.func379
 f321:=fxT Tryz.func360
 f322:=fxT Tryz.func361
 f337:=fxT Tryz.func381
 f338:=fxT Tryz.func382
 t0:=Tryz.underlying0
 a0:=Tryz.isAgg0
 z0:=Tryz.sizeOf0
 v0:=Tryz.zeroValue0
 t2:=Tryz.underlying2
 a2:=Tryz.isAgg2
 z2:=Tryz.sizeOf2
 v2:=Tryz.zeroValue2
 t3:=Tryz.underlying3
 a3:=Tryz.isAgg3
 z3:=Tryz.sizeOf3
 v3:=Tryz.zeroValue3
 t4:=Tryz.underlying4
 a4:=Tryz.isAgg4
 z4:=Tryz.sizeOf4
 v4:=Tryz.zeroValue4
 t5:=Tryz.underlying5
 a5:=Tryz.isAgg5
 z5:=Tryz.sizeOf5
 v5:=Tryz.zeroValue5
 t9:=Tryz.underlying9
 a9:=Tryz.isAgg9
 z9:=Tryz.sizeOf9
 v9:=Tryz.zeroValue9
 t20:=Tryz.underlying20
 a20:=Tryz.isAgg20
 z20:=Tryz.sizeOf20
 v20:=Tryz.zeroValue20
 t21:=Tryz.underlying21
 a21:=Tryz.isAgg21
 z21:=Tryz.sizeOf21
 v21:=Tryz.zeroValue21
 t37:=Tryz.underlying287
 a37:=Tryz.isAgg287
 z37:=Tryz.sizeOf287
 v37:=Tryz.zeroValue287
 t46:=Tryz.underlying157
 a46:=Tryz.isAgg157
 z46:=Tryz.sizeOf157
 v46:=Tryz.zeroValue157
 t51:=Tryz.underlying204
 a51:=Tryz.isAgg204
 z51:=Tryz.sizeOf204
 v51:=Tryz.zeroValue204
 t53:=Tryz.underlying206
 a53:=Tryz.isAgg206
 z53:=Tryz.sizeOf206
 v53:=Tryz.zeroValue206
 t75:=Tryz.underlying321
 a75:=Tryz.isAgg321
 z75:=Tryz.sizeOf321
 v75:=Tryz.zeroValue321
 t76:=Tryz.underlying322
 a76:=Tryz.isAgg322
 z76:=Tryz.sizeOf322
 v76:=Tryz.zeroValue322
 t85:=Tryz.underlying364
 a85:=Tryz.isAgg364
 z85:=Tryz.sizeOf364
 v85:=Tryz.zeroValue364
 t127:=Tryz.underlying394
 a127:=Tryz.isAgg394
 z127:=Tryz.sizeOf394
 v127:=Tryz.zeroValue394
 t143:=Tryz.underlying395
 a143:=Tryz.isAgg395
 z143:=Tryz.sizeOf395
 v143:=Tryz.zeroValue395
 t145:=Tryz.underlying397
 a145:=Tryz.isAgg397
 z145:=Tryz.sizeOf397
 v145:=Tryz.zeroValue397
 t167:=Tryz.underlying363
 a167:=Tryz.isAgg363
 z167:=Tryz.sizeOf363
 v167:=Tryz.zeroValue363
 t168:=Tryz.underlying366
 a168:=Tryz.isAgg366
 z168:=Tryz.sizeOf366
 v168:=Tryz.zeroValue366
 t171:=Tryz.underlying405
 a171:=Tryz.isAgg405
 z171:=Tryz.sizeOf405
 v171:=Tryz.zeroValue405
 t173:=Tryz.underlying407
 a173:=Tryz.isAgg407
 z173:=Tryz.sizeOf407
 v173:=Tryz.zeroValue407
 t175:=Tryz.underlying378
 a175:=Tryz.isAgg378
 z175:=Tryz.sizeOf378
 v175:=Tryz.zeroValue378
 t210:=Tryz.underlying382
 a210:=Tryz.isAgg382
 z210:=Tryz.sizeOf382
 v210:=Tryz.zeroValue382
 t212:=Tryz.underlying410
 a212:=Tryz.isAgg410
 z212:=Tryz.sizeOf410
 v212:=Tryz.zeroValue410
 t213:=Tryz.underlying411
 a213:=Tryz.isAgg411
 z213:=Tryz.sizeOf411
 t232:=Tryz.underlying412
 a232:=Tryz.isAgg412
 z232:=Tryz.sizeOf412
 v232:=Tryz.zeroValue412
 t233:=Tryz.underlying413
 a233:=Tryz.isAgg413
 z233:=Tryz.sizeOf413
 v233:=Tryz.zeroValue413
 g15:=by kernel_rfl
 g16:=by kernel_rfl
 g17:=by kernel_rfl
 g18:=by kernel_rfl
 g19:=by kernel_rfl
 t80:=Tryz.underlying252
 a80:=Tryz.isAgg252
 z80:=Tryz.sizeOf252
 v80:=Tryz.zeroValue252
 i0:=by kernel_rfl
 i2:=by kernel_rfl
 i3:=by kernel_rfl
 i4:=by kernel_rfl
 i5:=by kernel_rfl
 i9:=by kernel_rfl
 i20:=by kernel_rfl
 i21:=by kernel_rfl
 i37:=by kernel_rfl
 i46:=by kernel_rfl
 i51:=by kernel_rfl
 i53:=by kernel_rfl
 i75:=by kernel_rfl
 i76:=by kernel_rfl
 i80:=by kernel_rfl
 i85:=by kernel_rfl
 i127:=by kernel_rfl
 i143:=by kernel_rfl
 i145:=by kernel_rfl
 i167:=by kernel_rfl
 i168:=by kernel_rfl
 i171:=by kernel_rfl
 i173:=by kernel_rfl
 i175:=by kernel_rfl
 i210:=by kernel_rfl
 i212:=by kernel_rfl
 i232:=by kernel_rfl
 i233:=by kernel_rfl
 m15:=by kernel_rfl
 m16:=by kernel_rfl
 m17:=by kernel_rfl
 m18:=by kernel_rfl
 m19:=by kernel_rfl
 c0:=by kernel_rfl
 c2:=by kernel_rfl
 c3:=by kernel_rfl
 c4:=by kernel_rfl
 c5:=by kernel_rfl
 c9:=by kernel_rfl
 c20:=by kernel_rfl
 c21:=by kernel_rfl
 c37:=by kernel_rfl
 c46:=by kernel_rfl
 c51:=by kernel_rfl
 c53:=by kernel_rfl
 c75:=by kernel_rfl
 c76:=by kernel_rfl
 c80:=by kernel_rfl
 c85:=by kernel_rfl
 c127:=by kernel_rfl
 c143:=by kernel_rfl
 c145:=by kernel_rfl
 c167:=by kernel_rfl
 c168:=by kernel_rfl
 c171:=by kernel_rfl
 c173:=by kernel_rfl
 c175:=by kernel_rfl
 c210:=by kernel_rfl
 c212:=by kernel_rfl
 c213:=by kernel_rfl
 c232:=by kernel_rfl
 c233:=by kernel_rfl }
open Go.RowKit in
theorem Tryz.strconv_Atoi_ok (s:ByteArray) (aW:s.size<=9223372036854775806) (v:Int) (h:Lib.atoiAll s.data.toList=.ok v) (w:World) :
 Calls Tryz.prog 275 #[.string s] w λe w'=>e=.returned (.tuple #[.int .i64 v,.nilIface])/\(w'=w\/∃ t,w'=Lib.bytesWorld w 5 t):=Any.strconv_Atoi_ok Tryz.laysC172 s aW v h w
def Tryz.lays219_ren:Go.Shelf.Ren:=⟨fun|219=>302|217=>304|225=>307|224=>306|267=>330|266=>331|314=>343|n=>n,fun|9=>9|3=>3|4=>4|5=>5|46=>157|146=>376|51=>204|n=>n,fun|1=>2|n=>n⟩
def Tryz.lays144_ren:Go.Shelf.Ren:=⟨fun|144=>213|143=>269|219=>302|217=>304|225=>307|224=>306|267=>330|266=>331|314=>343|n=>n,fun|9=>9|4=>4|3=>3|5=>5|46=>157|146=>376|51=>204|n=>n,fun|1=>2|n=>n⟩
theorem Tryz.lays144:Go.Proofs.Lays.n144 Tryz.prog Tryz.lays144_ren:={
 mixed:=by kernel_rfl
 f143:=fxT Tryz.func269
 f144:=fxT Tryz.func213
 f217:=fxT Tryz.func304
 f219:=fxT Tryz.func302
 f224:=fxT Tryz.func306
 f225:=fxT Tryz.func307
 f266:=fxT Tryz.func331
 f267:=fxT Tryz.func330
 f314:=fxT Tryz.func343
 t3:=Tryz.underlying3
 a3:=Tryz.isAgg3
 z3:=Tryz.sizeOf3
 v3:=Tryz.zeroValue3
 t4:=Tryz.underlying4
 a4:=Tryz.isAgg4
 z4:=Tryz.sizeOf4
 v4:=Tryz.zeroValue4
 t5:=Tryz.underlying5
 a5:=Tryz.isAgg5
 z5:=Tryz.sizeOf5
 v5:=Tryz.zeroValue5
 t9:=Tryz.underlying9
 a9:=Tryz.isAgg9
 z9:=Tryz.sizeOf9
 v9:=Tryz.zeroValue9
 t46:=Tryz.underlying157
 a46:=Tryz.isAgg157
 z46:=Tryz.sizeOf157
 v46:=Tryz.zeroValue157
 t51:=Tryz.underlying204
 a51:=Tryz.isAgg204
 z51:=Tryz.sizeOf204
 v51:=Tryz.zeroValue204
 t146:=Tryz.underlying376
 a146:=Tryz.isAgg376
 z146:=Tryz.sizeOf376
 v146:=Tryz.zeroValue376
 g1:=by kernel_rfl }
open Go.RowKit Go.Lib in
theorem Tryz.strings_Contains (s sub:ByteArray) (m:Int) (w:World) (hs:s.size<4294967281) (hm:w.cell? ⟨2,0,none⟩=some (.int .i64 m)) :
 Calls Tryz.prog 213 #[.string s,.string sub] w λe w'=>e=.returned (.bool (Lib.contains s.data.toList sub.data.toList))/\w'=w:=Any.strings_Contains Tryz.lays144 s sub m w hs hm
def Tryz.laysM144_ren:Go.Shelf.Ren:=⟨fun|144=>213|143=>269|219=>302|217=>304|225=>307|224=>306|267=>330|266=>331|314=>343|n=>n,fun|9=>9|4=>4|3=>3|5=>5|46=>157|146=>376|51=>204|n=>n,fun|1=>2|n=>n⟩
theorem Tryz.laysM144:Go.Proofs.LaysM.n144 Tryz.prog Tryz.laysM144_ren:={
 mixed:=by kernel_rfl
 f143:=fxT Tryz.func269
 f144:=fxT Tryz.func213
 f217:=fxT Tryz.func304
 f219:=fxT Tryz.func302
 f224:=fxT Tryz.func306
 f225:=fxT Tryz.func307
 f266:=fxT Tryz.func331
 f267:=fxT Tryz.func330
 f314:=fxT Tryz.func343
 t3:=Tryz.underlying3
 a3:=Tryz.isAgg3
 z3:=Tryz.sizeOf3
 v3:=Tryz.zeroValue3
 t4:=Tryz.underlying4
 a4:=Tryz.isAgg4
 z4:=Tryz.sizeOf4
 v4:=Tryz.zeroValue4
 t5:=Tryz.underlying5
 a5:=Tryz.isAgg5
 z5:=Tryz.sizeOf5
 v5:=Tryz.zeroValue5
 t9:=Tryz.underlying9
 a9:=Tryz.isAgg9
 z9:=Tryz.sizeOf9
 v9:=Tryz.zeroValue9
 t46:=Tryz.underlying157
 a46:=Tryz.isAgg157
 z46:=Tryz.sizeOf157
 v46:=Tryz.zeroValue157
 t51:=Tryz.underlying204
 a51:=Tryz.isAgg204
 z51:=Tryz.sizeOf204
 v51:=Tryz.zeroValue204
 t146:=Tryz.underlying376
 a146:=Tryz.isAgg376
 z146:=Tryz.sizeOf376
 v146:=Tryz.zeroValue376
 g1:=by kernel_rfl
 i3:=by kernel_rfl
 i4:=by kernel_rfl
 i5:=by kernel_rfl
 i9:=by kernel_rfl
 i46:=by kernel_rfl
 i51:=by kernel_rfl
 i146:=by kernel_rfl
 m1:=by kernel_rfl
 s1_3:=λw h=>Go.Proofs.cell_of_shapedOpen_int (zero:=#[.int .i64 0]) (t:=3) h (of_decide_eq_true (by kernel_rfl)) (by kernel_rfl) rfl (by kernel_rfl) (by kernel_rfl) Tryz.underlying3 }
def Tryz.lays189_ren:Go.Shelf.Ren:=⟨fun|189=>317|125=>85|257=>338|128=>127|129=>128|294=>348|295=>349|296=>350|297=>351|298=>352|299=>353|216=>354|300=>355|301=>356|328=>363|329=>191|330=>192|331=>364|332=>365|215=>86|343=>368|n=>n,fun|28=>22|3=>3|46=>157|0=>0|51=>204|53=>206|4=>4|183=>197|182=>196|131=>201|5=>5|9=>9|218=>259|222=>263|228=>306|229=>238|n=>n,fun|n=>n⟩
theorem Tryz.lays189:Go.Proofs.Lays.n189 Tryz.prog Tryz.lays189_ren:={
 mixed:=by kernel_rfl
 f125:=fxT Tryz.func85
 f128:=fxT Tryz.func127
 f129:=fxT Tryz.func128
 f189:=fxT Tryz.func317
 f215:=fxT Tryz.func86
 f216:=fxT Tryz.func354
 f257:=fxT Tryz.func338
 f294:=fxT Tryz.func348
 f295:=fxT Tryz.func349
 f296:=fxT Tryz.func350
 f297:=fxT Tryz.func351
 f298:=fxT Tryz.func352
 f299:=fxT Tryz.func353
 f300:=fxT Tryz.func355
 f301:=fxT Tryz.func356
 f328:=fxT Tryz.func363
 f329:=fxT Tryz.func191
 f330:=fxT Tryz.func192
 f331:=fxT Tryz.func364
 f332:=fxT Tryz.func365
 f343:=fxT Tryz.func368
 t0:=Tryz.underlying0
 a0:=Tryz.isAgg0
 z0:=Tryz.sizeOf0
 v0:=Tryz.zeroValue0
 t3:=Tryz.underlying3
 a3:=Tryz.isAgg3
 z3:=Tryz.sizeOf3
 v3:=Tryz.zeroValue3
 t4:=Tryz.underlying4
 a4:=Tryz.isAgg4
 z4:=Tryz.sizeOf4
 v4:=Tryz.zeroValue4
 t5:=Tryz.underlying5
 a5:=Tryz.isAgg5
 z5:=Tryz.sizeOf5
 v5:=Tryz.zeroValue5
 t9:=Tryz.underlying9
 a9:=Tryz.isAgg9
 z9:=Tryz.sizeOf9
 v9:=Tryz.zeroValue9
 t28:=Tryz.underlying22
 a28:=Tryz.isAgg22
 z28:=Tryz.sizeOf22
 v28:=Tryz.zeroValue22
 t46:=Tryz.underlying157
 a46:=Tryz.isAgg157
 z46:=Tryz.sizeOf157
 v46:=Tryz.zeroValue157
 t51:=Tryz.underlying204
 a51:=Tryz.isAgg204
 z51:=Tryz.sizeOf204
 v51:=Tryz.zeroValue204
 t53:=Tryz.underlying206
 a53:=Tryz.isAgg206
 z53:=Tryz.sizeOf206
 v53:=Tryz.zeroValue206
 t131:=Tryz.underlying201
 a131:=Tryz.isAgg201
 z131:=Tryz.sizeOf201
 v131:=Tryz.zeroValue201
 t182:=Tryz.underlying196
 a182:=Tryz.isAgg196
 z182:=Tryz.sizeOf196
 v182:=Tryz.zeroValue196
 t183:=Tryz.underlying197
 a183:=Tryz.isAgg197
 z183:=Tryz.sizeOf197
 v183:=Tryz.zeroValue197
 t218:=Tryz.underlying259
 a218:=Tryz.isAgg259
 z218:=Tryz.sizeOf259
 v218:=Tryz.zeroValue259
 t222:=Tryz.underlying263
 a222:=Tryz.isAgg263
 z222:=Tryz.sizeOf263
 v222:=Tryz.zeroValue263
 t228:=Tryz.underlying306
 a228:=Tryz.isAgg306
 z228:=Tryz.sizeOf306
 v228:=Tryz.zeroValue306
 t229:=Tryz.underlying238
 a229:=Tryz.isAgg238
 z229:=Tryz.sizeOf238
 v229:=Tryz.zeroValue238 }
open Go.Sort Go.RowKit in
theorem Tryz.slices_Sort_int (blk off cap:Nat) (zs:List Int) (w:World) (hH:Holds (Value.int .i64) w blk off zs.toArray) (ab:blk<w.heap.size) (br:zs.length<4611686018427387904) :
 Calls Tryz.prog 317 #[.slice (some ⟨blk,off,none⟩) zs.length cap] w λe w'=>
  e=.returned (.tuple #[])/\∃ n os,w'=grow (putRow (Value.int .i64) (Sort.ahead w n) blk off (zs.mergeSort λx y=>decide (x<=y)).toArray) os:=Any.slices_Sort_int Tryz.lays189 blk off cap zs w hH ab br
def Tryz.lays151_ren:Go.Shelf.Ren:=⟨fun|151=>222|152=>273|137=>272|119=>305|224=>306|225=>307|217=>304|266=>331|n=>n,fun|9=>9|21=>21|4=>4|3=>3|5=>5|0=>0|46=>157|n=>n,fun|n=>n⟩
theorem Tryz.lays151:Go.Proofs.Lays.n151 Tryz.prog Tryz.lays151_ren:={
 mixed:=by kernel_rfl
 f119:=fxT Tryz.func305
 f137:=fxT Tryz.func272
 f151:=fxT Tryz.func222
 f152:=fxT Tryz.func273
 f217:=fxT Tryz.func304
 f224:=fxT Tryz.func306
 f225:=fxT Tryz.func307
 f266:=fxT Tryz.func331
 t0:=Tryz.underlying0
 a0:=Tryz.isAgg0
 z0:=Tryz.sizeOf0
 v0:=Tryz.zeroValue0
 t3:=Tryz.underlying3
 a3:=Tryz.isAgg3
 z3:=Tryz.sizeOf3
 v3:=Tryz.zeroValue3
 t4:=Tryz.underlying4
 a4:=Tryz.isAgg4
 z4:=Tryz.sizeOf4
 v4:=Tryz.zeroValue4
 t5:=Tryz.underlying5
 a5:=Tryz.isAgg5
 z5:=Tryz.sizeOf5
 v5:=Tryz.zeroValue5
 t9:=Tryz.underlying9
 a9:=Tryz.isAgg9
 z9:=Tryz.sizeOf9
 v9:=Tryz.zeroValue9
 t21:=Tryz.underlying21
 a21:=Tryz.isAgg21
 z21:=Tryz.sizeOf21
 v21:=Tryz.zeroValue21
 t46:=Tryz.underlying157
 a46:=Tryz.isAgg157
 z46:=Tryz.sizeOf157
 v46:=Tryz.zeroValue157 }
open Go.RowKit Go.Lib in
theorem Tryz.strings_ContainsRune_ascii (s:ByteArray) (r:Int) (w:World) (h0:0<=r) (h1:r<128) :
 Calls Tryz.prog 222 #[.string s,.int .i32 r] w λe w'=>e=.returned (.bool (decide (0<=Lib.indexByte s.data.toList r.toNat.toUInt8)))/\w'=w:=Any.strings_ContainsRune_ascii Tryz.lays151 s r w h0 h1
def Tryz.laysNm220_ren:Go.Shelf.Ren:=⟨fun|20=>318|n=>n,fun|22=>22|3=>3|4=>4|0=>0|n=>n,fun|n=>n⟩
theorem Tryz.laysNm220:Go.Proofs.Lays2.n20 Tryz.prog Tryz.laysNm220_ren:={
 mixed:=by kernel_rfl
 f20:=fxT Tryz.func318
 t0:=Tryz.underlying0
 a0:=Tryz.isAgg0
 z0:=Tryz.sizeOf0
 v0:=Tryz.zeroValue0
 t3:=Tryz.underlying3
 a3:=Tryz.isAgg3
 z3:=Tryz.sizeOf3
 v3:=Tryz.zeroValue3
 t4:=Tryz.underlying4
 a4:=Tryz.isAgg4
 z4:=Tryz.sizeOf4
 v4:=Tryz.zeroValue4
 t22:=Tryz.underlying22
 a22:=Tryz.isAgg22
 z22:=Tryz.sizeOf22
 v22:=Tryz.zeroValue22
 i3:=by kernel_rfl }
open Go.RowKit Go.Lib Go.Sort in
theorem Tryz.slices_Compact_int (blk off cap:Nat) (zs:List Int) (w:World) (hH:Holds (Value.int .i64) w blk off zs.toArray) (br:zs.length<=9223372036854775807) (lG:zs.length<=cap) :
 Calls Tryz.prog 318 #[.slice (some ⟨blk,off,none⟩) zs.length cap] w λe w'=>e=.returned (.slice (some ⟨blk,off,none⟩) (Lib.compact zs).length cap)/\∃ q,w'=putRow (Value.int .i64) (Sort.ahead w q) blk off (Lib.compact zs++List.replicate (zs.length - (Lib.compact zs).length) 0).toArray:=Any.slices_Compact_int Tryz.laysNm220 blk off cap zs w hH br lG
open Go.RowKit Go.Lib Go.Sort in
theorem Tryz.slices_Compact_int_empty (a:Option Addr) (cap:Nat) (w:World) :
 Calls Tryz.prog 318 #[.slice a 0 cap] w λe w'=>e=.returned (.slice a 0 cap)/\w'=w:=Any.slices_Compact_int_empty Tryz.laysNm220 a cap w
open Go.RowKit Go.Sort in
theorem Tryz.slices_Sort_int_none (p:Option Addr) (cap:Nat) (w:World) :
 Calls Tryz.prog 317 #[.slice p 0 cap] w λe w'=>e=.returned (.tuple #[])/\w'=w:=Any.slices_Sort_int_none Tryz.lays189 p cap w
end Go.Proofs
namespace Go.Eng
open Go Go.RowKit Go.Proofs
structure Fl where
 i:Nat
 d:Nat
 T:Nat
 z:Value
structure Zcv (P:Program) (n:Nat) (ops:Array Oper) (F:List Fl):Prop where
 op:∀ f∈F,∃ ty pos af,ops[f.i]?=some ⟨some f.d,.alloc f.T,ty,pos,af,none⟩
 zero:∀ f∈F,Zer P f.T f.z
 small:∀ f∈F,Nat.blt f.d n=true
 idx:(F.map Fl.i).Nodup
 dst:∀ f∈F,∀ g∈F,f.d=g.d->f=g
def Z2z (ops:Array Oper) (Lt:List Nat) (is:List Nat):List (Nat×Nat)->List (Nat×Nat)->Array Bool->Bool
 | [],join,listed=>(Z7M is).all (λrem=>rem.isEmpty || Region.ready .any ops (lst listed is rem) == rem) && ZX ops Lt join (lst listed is [])
 | (i,0) :: r,join,listed=>(Z7M is).all (λrem=>(Region.ready .any ops (lst listed is rem)).contains i && Region.free .any ops (lst listed is rem) i) && !is.contains i && Z2z ops Lt is r join (listed.setIfInBounds i true)
 | (i,1) :: r,join,listed=>(Z7M is).all (λrem=>(Region.ready .any ops (lst listed is rem)).contains i && Region.free .any ops (lst listed is rem) i) && Za5 ops Lt i && !is.contains i && Z2z ops Lt is r join (listed.setIfInBounds i true)
 | (i,2) :: r,join,listed=>(Z7M is).all (λrem=>(Region.ready .any ops (lst listed is rem)).contains i && (Region.ready .any ops (lst listed is rem)).all (λj=>j == i || rem.contains j)) && !is.contains i && Z2z ops Lt is r join (listed.setIfInBounds i true)
 | _ :: _,_,_=>false
theorem Z6p {listed:Array Bool} {is rem:List Nat} {i:Nat} (hi:is.contains i=false):(lst listed is rem).setIfInBounds i true=lst (listed.setIfInBounds i true) is rem:=by
 apply Array.ext;simp [lst];intro m h1 h2;have hm:m<listed.size:=by simpa [lst] using h2
 rw [Yba];simp only [lst,YbI];by_cases e:i=m;subst e;simp;rw [if_neg e];have:(listed.setIfInBounds i true)[m]'(by simpa using hm)=listed[m]:=by rw [Yba hm];simp [e]
 simp [this];simpa [lst] using hm
theorem Has.cons {n:Nat} {e:Env} {a:Act} {d:Nat} {v:Value} (h:Has n e a) (hv:a.tmps.getD d undef=v):Has n ((d,v) :: e) a:=by
 refine ⟨h.defers,h.size,λt x hx=>?_⟩;rw [Ju] at hx;by_cases hd:d=t;subst hd;simp at hx;subst hx;exact hv;rw [if_neg hd] at hx;exact h.vals _ _ hx
theorem Z5c {a:Act} {d t:Nat} {v:Value} (h:d≠t):(a.put (some d) v).tmps.getD t undef=a.tmps.getD t undef:=by
 simp [Act.put,Yad h]
theorem Zi9 {n:Nat} {e:Env} {a:Act} {d:Nat} {v:Value} (h:Has n e a) (hd:Nat.blt d n=true):(a.put (some d) v).tmps.getD d undef=v:=by
 have hlt:d<a.tmps.size:=by rw [h.size];exact Xg hd
 simp [Act.put,hlt]
theorem Has.beside {n:Nat} {e:Env} {a:Act} {d:Nat} {v:Value} (h:Has n e a) (hd:look e d=none):Has n e (a.put (some d) v):=by
 refine ⟨h.defers,by simp [Act.put,h.size],λt u hu=>?_⟩;by_cases il:d=t;subst il;rw [hd] at hu;cases hu;rw [Z5c il];exact h.vals t u hu
structure Z5d (F:List Fl) (rem:List Nat) (done:List (Fl×Nat)) (w:World) (D:List Nat) (a:Act):Prop where
 all:∀ f∈F,f.i∈rem\/∃ b,(f,b)∈done
 blk:∀ p∈done,Blk w p.2 p.1.T p.1.z.cells.toList
 mem:∀ p∈done,p.1∈F/\p.2∈D
 val:∀ p∈done,a.tmps.getD p.1.d undef=.pointer (some ⟨p.2,0,none⟩)
 inj:∀ p∈done,∀ q∈done,p.2=q.2->p=q
 old:∀ p∈done,¬ p.1.i∈rem
structure WP (P:Program) (n:Nat) (ops:Array Oper) (Lt:List Nat) (Q:Exit->Act->World->Prop) (F:List Fl) (main join:List (Nat×Nat)) (e:Env) (J:World->List Nat->Prop):Prop where
 h : ∀ listed : Array Bool, Region.noSelect ops = true -> Z2z ops Lt (F.map Fl.i) main join listed = true -> (∀ f ∈ F, look e f.d = none) -> ∀ rem : List Nat, rem.Sublist (F.map Fl.i) -> ∀ done w D a, Z5d F rem done w D a -> J w D -> Has n e a->
   Z45 P .any ops [] (λj=>Lt.contains j) (λa w=>Q .normal a w) (wt main+rem.length+wt join) (lst listed (F.map Fl.i) rem) a w
def Z8h (J:World->List Nat->Prop):Prop:=∀ w w' D D',J w D->Stp [] w w'->(∀ b∈D',b∈D\/(w.heap.size<=b/\b<w'.heap.size))->J w' D'
section rules
variable {P:Program} {n:Nat} {ops:Array Oper} {Lt:List Nat} {Q:Exit->Act->World->Prop} {F:List Fl} {rest join:List (Nat×Nat)} {e:Env} {J:World->List Nat->Prop}
variable {i d:Nat} {op:Op} {ty:TypeId} {pos:String} {af:Array Edge} {gd:Option (Nat×Bool)} {v:Value}
theorem Z5d.put {rem:List Nat} {done:List (Fl×Nat)} {w} {D:List Nat} {a:Act} (h:Z5d F rem done w D a) (hd:F.all (λf=>f.d != d)=true):Z5d F rem done w D (a.put (some d) v):=
 ⟨h.all, h.blk, h.mem, λp hp => by
   have:=Xx.1 hd p.1 (h.mem p hp).1;rw [Z5c (by simp at this;exact λh=>this h.symm)];exact h.val p hp,h.inj,h.old⟩
theorem Z5d.world {rem:List Nat} {done:List (Fl×Nat)} {w w':World} {D D':List Nat} {a:Act} (h:Z5d F rem done w D a) (hS:Stp [] w w') (hD:∀ b∈D,b∈D'):Z5d F rem done w' D' a:=
 ⟨h.all,λp hp=>(h.blk p hp).up hS,λp hp=>⟨(h.mem p hp).1,hD _ (h.mem p hp).2⟩,h.val,h.inj,h.old⟩
theorem Z5d.next (hF:Zcv P n ops F) {rem:List Nat} {done:List (Fl×Nat)} {w w':World} {D:List Nat} {a:Act} (h:Z5d F rem done w D a) {f:Fl} (hf:f∈F) (hr:f.i∈rem) (dT:rem.Nodup) {b:Nat} (hb:w.heap.size<=b) (hB:Blk w' b f.T f.z.cells.toList) (hS:Stp [] w w') (ha:Has n e a) :
 Z5d F (rem.erase f.i) ((f,b) :: done) w' (b :: D) (a.put (some f.d) (pQ b)):=by
 have aB:∀ g∈F,g.i=f.i->g=f:=by
  intro g hg hi;have:=hF.idx;obtain ⟨x,hx,rfl⟩:=Xv hf;obtain ⟨y,hy,rfl⟩:=Xv hg;have h1:(F.map Fl.i)[y]'(by simpa using hy)=(F.map Fl.i)[x]'(by simpa using hx):=by simpa using hi
  have h2:=(List.getElem_inj this).1 h1;subst h2;rfl
 have aX:∀ p∈done,p.1≠f:=λp hp tm=>h.old p hp (tm ▸ hr);refine ⟨λg hg=>?_,λp hp=>?_,λp hp=>?_,λp hp=>?_,λp hp q hq jL=>?_,λp hp=>?_⟩;by_cases hi:g.i=f.i;obtain rfl:=aB g hg hi;exact .inr ⟨b,by simp⟩;rcases h.all g hg with h1|⟨b',h1⟩
 exact .inl ((List.mem_erase_of_ne hi).2 h1);exact .inr ⟨b',by simp [h1]⟩;rcases Xa.1 hp with rfl|hp
 exact hB;exact (h.blk p hp).up hS;rcases Xa.1 hp with rfl|hp
 exact ⟨hf,by simp⟩;exact ⟨(h.mem p hp).1,by simp [(h.mem p hp).2]⟩;rcases Xa.1 hp with rfl|hp
 exact Zi9 ha (hF.small _ hf);rw [Z5c (λhd=>aX p hp (hF.dst f hf p.1 (h.mem p hp).1 hd).symm)];exact h.val p hp;rcases Xa.1 hp with rfl|hp<;>rcases Xa.1 hq with rfl|hq
 rfl;have:=(h.blk q hq).lt;simp only at jL;omega;have:=(h.blk p hp).lt;simp only at jL;omega;exact h.inj p hp q hq jL;rcases Xa.1 hp with rfl|hp
 exact dT.not_mem_erase;exact λhm=>h.old p hp (List.mem_of_mem_erase hm)
theorem Z2A (hd:F.all (λf=>f.d != d)=true) (hE:∀ f∈F,look e f.d=none):∀ f∈F,look ((d,v) :: e) f.d=none:=by
 intro f hf;rw [Ju];have:=Xx.1 hd f hf;rw [if_neg (by simp at this;exact λh=>this h.symm)];exact hE f hf
theorem Zia {o:Oper} (hi:ops[i]?=some o) (hd:o.dst=some d) (hY:∀ w D a,J w D->Has n e a->YE P ops (λ_ _=>True) o v a w) (aw:Nat.blt d n=true) (fz:F.all (λf=>f.d != d)=true)
 (k:WP P n ops Lt Q F rest join ((d,v) :: e) J):WP P n ops Lt Q F ((i,0) :: rest) join e J:=by
 refine ⟨λlisted hs hB hE rem aU done w D a bO hJ ha=>?_⟩;simp only [Z2z,Xd] at hB;obtain ⟨⟨h1,jg⟩,h3⟩:=hB;have fK:(F.map Fl.i).contains i=false:=by simpa using jg
 have h2:=Xx.1 h1 rem (Z0W aU);simp only [Xd] at h2;have hk:=k.h _ hs h3 (Z2A fz hE) rem aU done w D _ (bO.put fz) hJ (ha.put (v:=v) aw);rw [<- Z6p fK,<- hd] at hk;rw [Jj (by decide),show wt rest+1+rem.length+wt join=(wt rest+rem.length+wt join)+1 by omega];exact Z2p (R:=λ_ _=>True) (λ_=>trivial) (λ_ _ _ _ _=>trivial) hi (λ_ _ _ _ _ _ _ _=>trivial) (Region.noSelect_spec hs) _ _ _ _ (Region.free_spec hi h2.2) (λ_=>trivial) (by simpa using h2.1) (hY w D a hJ ha) hk
theorem Zib {o:Oper} (hi:ops[i]?=some o) (hd:o.dst=some d) (hY:∀ w D a,J w D->Has n e a->YE P ops (Stp []) o v a w) (aw:Nat.blt d n=true) (fz:F.all (λf=>f.d != d)=true)
 (k:WP P n ops Lt Q F rest join ((d,v) :: e) J):WP P n ops Lt Q F ((i,1) :: rest) join e J:=by
 refine ⟨λlisted hs hB hE rem aU done w D a bO hJ ha=>?_⟩;simp only [Z2z,Xd] at hB;obtain ⟨⟨⟨h1,hb⟩,jg⟩,h3⟩:=hB;have fK:(F.map Fl.i).contains i=false:=by simpa using jg
 have h2:=Xx.1 h1 rem (Z0W aU);simp only [Xd] at h2;have hk:=k.h _ hs h3 (Z2A fz hE) rem aU done w D _ (bO.put fz) hJ (ha.put (v:=v) aw);rw [<- Z6p fK,<- hd] at hk;rw [Jj (by decide),show wt rest+1+rem.length+wt join=(wt rest+rem.length+wt join)+1 by omega];refine Z2p (R:=Stp []) (λw=>Stp.refl _ w) (λ_ _ _ h k=>h.trans k) hi (λj oj hj hn cr w w' hs=>?_) (Region.noSelect_spec hs) _ _ _ _ (Region.free_spec hi h2.2) (λ_=>trivial) (by simpa using h2.1) (hY w D a hJ ha) hk;rcases hs with hs|hs
 exact hs;rw [Z44 hb hj hn cr] at hs;cases hs
theorem Jp (hi:ops[i]?=some ⟨some d,op,ty,pos,af,gd⟩) (hg:JV ops e gd) (hp:∀ w',PR P n ⟨some d,op,ty,pos,af,gd⟩ e w' v) (aw:Nat.blt d n=true) (fz:F.all (λf=>f.d != d)=true)
 (k:WP P n ops Lt Q F rest join ((d,v) :: e) J):WP P n ops Lt Q F ((i,0) :: rest) join e J:=
 Zia hi rfl (λw D a hJ ha=>.inl ⟨Jb ha hg,λw' _=>(hp w').h a ha⟩) aw fz k
theorem Z9g (hK:Z8h J) (hi:ops[i]?=some ⟨some d,op,ty,pos,af,gd⟩) (hg:JV ops e gd) (hp:∀ w D,J w D->PR P n ⟨some d,op,ty,pos,af,gd⟩ e w v) (aw:Nat.blt d n=true) (fz:F.all (λf=>f.d != d)=true)
 (k:WP P n ops Lt Q F rest join ((d,v) :: e) J):WP P n ops Lt Q F ((i,1) :: rest) join e J:=
 Zib hi rfl (λw D a hJ ha=>.inl ⟨Jb ha hg,λw' hw=>(hp w' D (hK w w' D D hJ hw (λb hb=>.inl hb))).h a ha⟩) aw fz k
theorem Z6Q (hF:Zcv P n ops F) {f:Fl} (hf:f∈F) {w} {a:Act} {K:Act->World->Prop}
 (hk:∀ b w',w.heap.size<=b->Blk w' b f.T f.z.cells.toList->Stp [] w w'->K (a.put (some f.d) (pQ b)) w') (ha:Has n e a):wpOp P ops (λ_ _ _=>False) f.i K a w:=by
 obtain ⟨ty,pos,af,fW⟩:=hF.op f hf;have:=hF.zero f hf;have tp:OE P n ⟨some f.d,.alloc f.T,ty,pos,af,none⟩ e w (Z53 w f.T f.z.cells.toList):=Z4;unfold wpOp;simp only [fW];rw [if_pos (by simp [Region.wanted])];refine .inl (Oper.wp_mono ?_ (tp.h a ha _));rintro a' w' ⟨_,rfl,b,rfl,hb,hB,hS⟩;exact hk b w' hb hB hS
theorem ZdY {f:Nat} (h:f∈F.map Fl.i):∃ g∈F,g.i=f:=by simpa using h
theorem Zcw (hF:Zcv P n ops F) (hK:Z8h J) {J':Value->World->List Nat->Prop} (hi:ops[i]?=some ⟨some d,op,ty,pos,af,gd⟩) (hg:JV ops e gd) (hp:∀ w D,J w D->OE P n ⟨some d,op,ty,pos,af,gd⟩ e w (λv w'=>Stp [] w w'/\J' v w' D)) (aw:Nat.blt d n=true) (fz:F.all (λf=>f.d != d)=true)
 (k:∀ v,WP P n ops Lt Q F rest join ((d,v) :: e) (J' v)):WP P n ops Lt Q F ((i,2) :: rest) join e J:=by
 refine ⟨λlisted hs hB hE=>?_⟩;simp only [Z2z,Xd] at hB;obtain ⟨⟨h1,jg⟩,h3⟩:=hB;have fK:(F.map Fl.i).contains i=false:=by simpa using jg
 have key:∀ (m:Nat) (rem:List Nat),rem.length=m->rem.Sublist (F.map Fl.i)->∀ done w D a,Z5d F rem done w D a->J w D->Has n e a->
  Z45 P .any ops [] (λj=>Lt.contains j) (λa w=>Q .normal a w) (wt ((i,2) :: rest)+rem.length+wt join) (lst listed (F.map Fl.i) rem) a w:=by
  intro m
  induction m with
  | zero=>
    intro rem hl aU done w D a bO hJ ha;have h2:=Xx.1 h1 rem (Z0W aU);simp only [Xd] at h2;rw [Jj (by decide),show wt rest+1+rem.length+wt join=(wt rest+rem.length+wt join)+1 by omega];refine ⟨λh0=>by rw [h0] at h2;simp at h2,λj hj=>?_⟩;have kD:=Xx.1 h2.2 j hj;obtain rfl:=XQ.1 hl;obtain rfl:j=i:=by simpa using kD
    unfold wpOp;simp only [hi];rw [if_pos (Jb ha hg)];refine .inl (Oper.wp_mono ?_ ((hp w D hJ).h a ha _));rintro a' w' ⟨v,rfl,hS,iq⟩;refine ⟨.inl hS,?_⟩;rw [Z6p fK];exact (k v).h _ hs h3 (Z2A fz hE) [] aU done w' D _ ((bO.put fz).world hS (λb hb=>hb)) iq (ha.put (v:=v) aw)
  | succ m ih=>
    intro rem hl aU done w D a bO hJ ha;have h2:=Xx.1 h1 rem (Z0W aU);simp only [Xd] at h2;rw [Jj (by decide),show wt rest+1+rem.length+wt join=(wt rest+rem.length+wt join)+1 by omega];refine ⟨λh0=>by rw [h0] at h2;simp at h2,λj hj=>?_⟩;have kD:=Xx.1 h2.2 j hj;by_cases cr:j=i;subst cr;unfold wpOp;simp only [hi];rw [if_pos (Jb ha hg)];refine .inl (Oper.wp_mono ?_ ((hp w D hJ).h a ha _));rintro a' w' ⟨v,rfl,hS,iq⟩;refine ⟨.inl hS,?_⟩;rw [Z6p fK];exact (k v).h _ hs h3 (Z2A fz hE) rem aU done w' D _ ((bO.put fz).world hS (λb hb=>hb)) iq (ha.put (v:=v) aw)
    . have m8:j∈rem:=by simpa [cr] using kD
      obtain ⟨f,hf,rfl⟩:=ZdY (aU.subset m8);refine Z6Q hF hf (λb w' hb hB hS=>?_) ha;refine ⟨.inl hS,?_⟩;rw [Z6A (aU.nodup hF.idx) aU m8];have ai:(rem.erase f.i).length=m:=by rw [Ybk m8];omega
      have:=ih (rem.erase f.i) ai (YbJ.trans aU) _ w' (b :: D) _ (bO.next hF hf m8 (aU.nodup hF.idx) hb hB hS ha) (hK w w' D (b :: D) hJ hS (λc hc=>by
       rcases Xa.1 hc with rfl|hc
       exact .inr ⟨hb,hB.lt⟩;exact .inl hc)) (ha.beside (hE f hf))
      rw [Jj (by decide)] at this;rw [show wt rest+rem.length+wt join=wt rest+1+(rem.erase f.i).length+wt join by omega];exact this
 intro rem aU done w D a bO hJ ha;exact key rem.length rem rfl aU done w D a bO hJ ha
theorem Zna {σ:Type} {main:List (Nat×Nat)} {J:σ->World->List Nat->Prop} (h:∀ s,WP P n ops Lt Q F main join e (J s)):WP P n ops Lt Q F main join e (λw D=>∃ s,J s w D):=
 ⟨λlisted hs hB hE rem aU done w D a bO ⟨s,hJ⟩ ha=>(h s).h listed hs hB hE rem aU done w D a bO hJ ha⟩
theorem Zcx {main:List (Nat×Nat)} {p:Prop} (h:p->WP P n ops Lt Q F main join e J):WP P n ops Lt Q F main join e (λw D=>p/\J w D):=
 ⟨λlisted hs hB hE rem aU done w D a bO ⟨hp,hJ⟩ ha=>(h hp).h listed hs hB hE rem aU done w D a bO hJ ha⟩
theorem Zlv (hF:Zcv P n ops F) (hK:Z8h J)
 (fin:∀ w D done a,Z5d F [] done w D a->J w D->Has n e a->∃ e',Has n e' a/\WD P n ops [] Lt Q join e' w):WP P n ops Lt Q F [] join e J:=by
 refine ⟨λlisted hs hB hE=>?_⟩;simp only [Z2z,Xd] at hB;obtain ⟨h1,h3⟩:=hB
 have key:∀ (m:Nat) (rem:List Nat),rem.length=m->rem.Sublist (F.map Fl.i)->∀ done w D a,Z5d F rem done w D a->J w D->Has n e a->
  Z45 P .any ops [] (λj=>Lt.contains j) (λa w=>Q .normal a w) (wt []+rem.length+wt join) (lst listed (F.map Fl.i) rem) a w:=by
  intro m
  induction m with
  | zero=>
    intro rem hl aU done w D a bO hJ ha;obtain rfl:=XQ.1 hl;obtain ⟨e',gt,hk⟩:=fin w D done a bO hJ ha;have:=hk.h _ hs h3 a gt;simpa [wt] using this
  | succ m ih=>
    intro rem hl aU done w D a bO hJ ha;have h2:=Xx.1 h1 rem (Z0W aU);have aX:rem≠[]:=λh=>by subst h;simp at hl
    have fG:Region.ready .any ops (lst listed (F.map Fl.i) rem)=rem:=by
     cases rem with
     | nil=>exact absurd rfl aX
     | cons x r=>simpa using h2
    rw [show wt []+rem.length+wt join=(m+wt join)+1 by simp [wt];omega];refine ⟨λh0=>absurd (fG.symm.trans h0) aX,λj hj=>?_⟩;rw [fG] at hj;obtain ⟨f,hf,rfl⟩:=ZdY (aU.subset hj);refine Z6Q hF hf (λb w' hb hB hS=>?_) ha;refine ⟨.inl hS,?_⟩;rw [Z6A (aU.nodup hF.idx) aU hj];have ai:(rem.erase f.i).length=m:=by rw [Ybk hj];omega
    have:=ih (rem.erase f.i) ai (YbJ.trans aU) _ w' (b :: D) _ (bO.next hF hf hj (aU.nodup hF.idx) hb hB hS ha) (hK w w' D (b :: D) hJ hS (λc hc=>by
     rcases Xa.1 hc with rfl|hc
     exact .inr ⟨hb,hB.lt⟩;exact .inl hc)) (ha.beside (hE f hf))
    rw [show m+wt join=wt []+(rem.erase f.i).length+wt join by simp [wt];omega];exact this
 intro rem aU done w D a bO hJ ha;exact key rem.length rem rfl aU done w D a bO hJ ha
theorem Zaw {f:Fl} (hF:Zcv P n ops [f]) (hK:Z8h J)
 (fin:∀ w D b,J w D->b∈D->Blk w b f.T f.z.cells.toList->WD P n ops [] Lt Q join ((f.d,pQ b) :: e) w):WP P n ops Lt Q [f] [] join e J:=by
 refine Zlv hF hK (λw D done a bO hJ ha=>?_);obtain ⟨b,hb⟩:∃ b,(f,b)∈done:=by simpa using bO.all f (by simp)
 exact ⟨_,ha.cons (bO.val _ hb),fin w D b hJ (bO.mem _ hb).2 (bO.blk _ hb)⟩
theorem ZdZ {main:List (Nat×Nat)} (hF:Zcv P n ops F) (h:Zcv P n ops F->WP P n ops Lt Q F main join e J):WP P n ops Lt Q F main join e J:=h hF
theorem Z8i {id:Nat} {l:List Oper} (m:Nat) (F:List Fl) (Lt:List Nat) (main join:List (Nat×Nat)) {w} (J:World->List Nat->Prop) (bP:l.length=m) (hm:P.follows .mixedOrders=true) (hs:Region.noSelect l.toArray=true)
 (hl:Nat.beq (wt main+F.length+wt join) l.length=true) (hB:Z2z l.toArray Lt (F.map Fl.i) main join (Array.replicate m false)=true) (hE:∀ f∈F,look e f.d=none)
 (h0:∀ w',Stp [] w w'->J w' []) (h:WP P n l.toArray Lt Q F main join e J):WC P n (.region id l.toArray true) Q e w:=by
 subst bP;refine ⟨λa ha=>wp_region_any hm ?_⟩;have aD:lst (Array.replicate l.length false) (F.map Fl.i) (F.map Fl.i)=Array.replicate l.length false:=ZdN _ _;have h1:=h.h _ hs hB hE (F.map Fl.i) (List.Sublist.refl _) [] { w with drawn:=w.drawn+1 } [] a ⟨λf hf=>.inl (Xw.2 ⟨f,hf,rfl⟩),by simp,by simp,by simp,by simp,by simp⟩ (h0 _ (Stp.drew [] w)) ha;rw [aD,XB] at h1;have h2:=JS (Q:=Q) (λa w hz=>hz) _ _ _ _ h1;rw [Xp hl] at h2;simpa using h2
end rules
end Go.Eng
namespace Go.Proofs.YteibicnbkggiiaaGreatDoor
open Go Go.Eng Go.RowKit
def Z69:Str:=[32,114,117,108,101,32,102,114,111,109,32,111,110,32,105,102,32,100,117,101,32,117,110,108,101,115,115,32,101,108,115,101,32,111,114,32,97,110,100,32,110,111,116,32,116,114,117,101,32,102,97,108,115,101,32,116,104,101,110,32,101,110,100,32,100,97,121,115,32,119,101,101,107,115,32,109,111,110,116,104,115,32,99,111,117,114,116,100,97,121,115,32,110,101,120,116,32,112,114,101,118,32,108,97,116,101,114,32,101,97,114,108,105,101,114,32,98,101,116,119,101,101,110,32]
def Z9h:List Str:=[[114,117,108,101],[102,114,111,109],[111,110],[105,102],[100,117,101],[117,110,108,101,115,115],[101,108,115,101],[111,114],[97,110,100],[110,111,116],[116,114,117,101],[102,97,108,115,101],[116,104,101,110],[101,110,100],[100,97,121,115],[119,101,101,107,115],[109,111,110,116,104,115],[99,111,117,114,116,100,97,121,115],[110,101,120,116],[112,114,101,118],[108,97,116,101,114],[101,97,114,108,105,101,114],[98,101,116,119,101,101,110]]
theorem Z8j:∀ (s sub:List UInt8),0<=Lib.index s sub↔∃ i,i<=s.length/\sub.isPrefixOf (s.drop i)=true
 | [], sub => by
   unfold Lib.index;cases sub with
   | nil=>simp
   | cons a l=>simp
 | b :: l, sub => by
   have ih:=Z8j l sub;have jJ:=Lib.index_ge l sub;unfold Lib.index;by_cases hp:sub.isPrefixOf (b :: l)=true;rw [if_pos hp];exact ⟨λ_=>⟨0,by omega,hp⟩,λ_=>by omega⟩;rw [if_neg hp];have e:(0:Int)<=(if (Lib.index l sub == -1)=true then -1 else Lib.index l sub+1)↔0<=Lib.index l sub:=by
    by_cases h1:Lib.index l sub=-1;rw [if_pos (by simpa using h1)];omega;rw [if_neg (by simpa using h1)];omega
   rw [e,ih];constructor;rintro ⟨i,hi,h⟩;exact ⟨i+1,by simpa using hi,h⟩
   . rintro ⟨i,hi,h⟩
     cases i with
     | zero=>exact absurd h hp
     | succ i=>exact ⟨i,by simpa using hi,h⟩
theorem Z8k:∀ (t r:List UInt8),(∀ c∈t,c≠32)->(t++[32]).isPrefixOf r=true->r.takeWhile (λc=>decide (c≠32))=t
 | [], r, _, h => by
   cases r with
   | nil=>simp at h
   | cons a l=>
     simp [List.isPrefixOf] at h;subst h;rfl
 | c :: t, r, hc, h => by
   cases r with
   | nil=>simp at h
   | cons a l=>
     simp only [Yab,List.isPrefixOf,Xd,beq_iff_eq] at h;obtain ⟨rfl,h⟩:=h;have h1:=hc c (by simp);rw [List.takeWhile_cons_of_pos (by simpa using h1),Z8k t l (λx hx=>hc x (by simp [hx])) h]
theorem ZeW:∀ i∈List.range (Z69.length+1),(Z69.drop i).head?=some 32->(Z69.drop (i+1)).takeWhile (λc=>decide (c≠32))∈Z9h\/(Z69.drop (i+1)).takeWhile (λc=>decide (c≠32))=[]:=by decide +kernel
theorem Zlw:∀ t∈Z9h,Lib.contains Z69 (32 :: t++[32])=true:=by decide +kernel
theorem Zlx {t:Str} (h0:t≠[]) (hc:∀ c∈t,c≠32):Lib.contains Z69 (32 :: t++[32])=decide (t∈Z9h):=by
 by_cases ht:t∈Z9h;rw [Zlw t ht,decide_eq_true ht]
 . rw [decide_eq_false ht]
   unfold Lib.contains;rw [decide_eq_false_iff_not,Z8j];rintro ⟨i,hi,h⟩;cases hd:Z69.drop i with
   | nil=>rw [hd] at h;simp at h
   | cons a l=>
     rw [hd] at h;simp only [Yab,List.isPrefixOf,Xd,beq_iff_eq] at h;obtain ⟨rfl,h⟩:=h;have hl:Z69.drop (i+1)=l:=by
      have:=congrArg List.tail hd;simpa [List.tail_drop] using this
     have hw:=Z8k t l hc h;have:=ZeW i (List.mem_range.2 (by omega)) (by rw [hd];rfl);rw [hl,hw] at this;exact this.elim ht h0
abbrev Zic (c:Int):Prop:=(97<=c/\c<=122)\/(48<=c/\c<=57)
def Z3a (s:Str):Bool:=decide (0<s.length/\s.length<=12/\97<=J5 s 0/\J5 s 0<=122/\∀ i,i<s.length->Zic (J5 s i))
def Zx (s:Str):Bool:=Z3a s && decide (s∉Z9h/\s∉Zd)
theorem Z9i (a b:Str) (m:Int) (w:World) (ha:a.length<4294967281) (hm:w.cell? ⟨2,0,none⟩=some (.I m)) :
 CC 213 #[str a,str b] w λr w'=>r=.B (Lib.contains a b)/\Stp [] w w':=by
 refine (Tryz.strings_Contains ⟨a.toArray⟩ ⟨b.toArray⟩ m w (by rw [Jy];exact ha) hm).mono ?_;rintro e w' ⟨rfl,rfl⟩;exact .mk ⟨rfl,Stp.refl _ _⟩
theorem Zax {l:List Str} {s:Str}:0<=idx (isS s) l↔s∈l:=by
 unfold idx;cases h:l.findIdx? (isS s) with
 | none=>
   rw [Yas] at h;simp only;constructor;intro h1;omega;intro h1;have:=h s h1;simp [isS] at this
 | some i=>
   obtain ⟨hi,hp,_⟩:=X8.1 h;simp only;constructor;intro _;have:l[i]=s:=by simpa [isS] using hp
   rw [<- this];exact Xc hi;intro _;omega
theorem Z7Q (X:List Nat) (v:Value) (l:List Str) (a:Str) (w) (hs:SlV X w v l) :
 CC 214 #[v,str a] w λr w'=>r=.B (decide (a∈l))/\Stp [] w w':=by
 refine cW2 9 Tryz.func214 ?_;refine W ?_;refine CL (Z8d X v l a _ hs) ?_;rintro _ w1 ⟨rfl,hS⟩;refine RT ?_;exact ⟨by congr 1;exact decide_eq_decide.2 Zax,hS⟩
theorem Z2c (s:Str) (m:Int) (w) (hF:SlV [] w Z2S Zd) (hm:w.cell? ⟨2,0,none⟩=some (.I m)) :
 CC 156 #[str s] w λr w'=>r=.B (Zx s)/\Stp [] w w':=by
 refine cW1 55 Tryz.func156 ?_;refine W ?_;by_cases h0:s.length≠0/\s.length<=12/\97<=J5 s 0/\J5 s 0<=122
 case neg=>
  have hn:Zx s=false:=by
   unfold Zx Z3a;rw [decide_eq_false (λh=>h0 ⟨by omega,h.2.1,h.2.2.1,h.2.2.2.1⟩)];rfl
  by_cases hl:s.length≠0;focus repeat'(first|refine W1 ?_|omega|refine VG ?_ ?_<;>intro hg|refine VC ?_ ?_<;>intro hc)
  refine RU ?_;exact ⟨by rw [hn],Stp.refl _ _⟩;refine RU ?_;exact ⟨by rw [hn],Stp.refl _ _⟩;refine Z0c (i:=0) rfl rfl rfl (by omega) rfl ?_
  (refine QP ?_ ?_<;>intro hg)
  refine RU ?_;exact ⟨by rw [hn],Stp.refl _ _⟩;refine Z0c (i:=0) rfl rfl rfl (by omega) rfl ?_;refine RT ?_;exact ⟨by rw [hn],Stp.refl _ _⟩;obtain rfl:s=[]:=XQ.1 (by omega);refine RT ?_;exact ⟨by rw [hn],Stp.refl _ _⟩
 obtain ⟨h1,h2,h3,h4⟩:=h0;have aX:¬ s=[]:=λh=>by rw [h] at h1;exact h1 rfl
 (refine QP ?_ ?_<;>intro hg)
 exact absurd (by assumption) aX;refine Z0c (i:=0) rfl rfl rfl (by omega) rfl ?_;refine QO ?_;refine Z0c (i:=0) rfl rfl rfl (by omega) rfl ?_;refine QO ?_;refine Z0 (Zi6 rfl (by omega)) rfl ?_;rintro bv w1 ⟨hb,hS⟩;replace hb:=hb [] (by simp);have eG:=hb.max;refine QO ?_;refine LP (σ:=Nat) (λi=>[(0,str s),(23,bv),(24,.I (s.length:Int)),(25,.I (i:Int))]) (λi w'=>i<=s.length/\Stp [] w1 w'/\∀ j,j<i->Zic (J5 s j)) (λi=>s.length - i) 0 ⟨Xu _,Stp.refl _ _,λj hj=>absurd hj (Xy _)⟩ ?_;rintro i w2 ⟨hi,ak,aD⟩
 try dsimp only at hi aD ⊢
 replace hb:=hb.up ak;replace hS:=hS.trans ak;by_cases hlt:i<s.length;have m9:J5 s i=(s[i].toNat:Int):=Go.Eng.byte_at hlt;by_cases cK:(97<=(s[i].toNat:Int)/\(s[i].toNat:Int)<=122)\/(48<=(s[i].toNat:Int)/\(s[i].toNat:Int)<=57)
 . have gE:∀ j,j<i+1->Zic (J5 s j):=λj hj=>by
    by_cases e:j=i;subst e;rw [m9];exact cK;exact aD j (by omega)
   repeat'(first|refine W1 ?_|omega|refine VG ?_ ?_<;>intro hg|refine VC ?_ ?_<;>intro hc)
   all_goals exact QL (i+1) ⟨hlt,ak,gE⟩ (XE hlt (XA i))
 . have hn:Zx s=false:=by
    unfold Zx Z3a;rw [decide_eq_false (λh=>cK (by have:=h.2.2.2.2 i hlt;rw [m9] at this;exact this))];rfl
   repeat'(first|refine W1 ?_|omega|refine VG ?_ ?_<;>intro hg|refine VC ?_ ?_<;>intro hc)
   all_goals
    refine RU ?_;exact ⟨by rw [hn],hS⟩
 obtain rfl:i=s.length:=by omega
 have aK:Z3a s=true:=decide_eq_true ⟨by omega,h2,h3,h4,aD⟩;have cC:∀ c∈s,c≠32:=λc hc h=>by
  obtain ⟨j,hj,rfl⟩:=Xv hc;have h5:=aD j hj;rw [Go.Eng.byte_at hj,h] at h5;exact absurd h5 (by decide)
 have jM:Z69.length<4294967281:=by
  have:Z69.length<=200:=by decide +kernel
  omega
 have ay:Lib.contains Z69 ([32]++s++[32])=decide (s∈Z9h):=Zlx aX cC;refine QO ?_;refine Z6j rfl rfl (by simp;omega) rfl ?_;repeat'(first|refine W1 ?_|omega|refine VG ?_ ?_<;>intro hg|refine VC ?_ ?_<;>intro hc)
 refine Z6j rfl rfl (by simp;omega) rfl ?_;repeat'(first|refine W1 ?_|omega|refine VG ?_ ?_<;>intro hg|refine VC ?_ ?_<;>intro hc)
 refine CM (Zh rfl rfl) (Z9i Z69 ([32]++s++[32]) m _ jM (hS.cell (by simp) hm)) ?_;rintro _ w3 ⟨rfl,az⟩;rw [ay];replace hS:=hS.trans az;by_cases hr:s∈Z9h;have hn:Zx s=false:=by
  unfold Zx;rw [decide_eq_false (λh=>h.1 hr),Yb3]
 rw [decide_eq_true hr];refine RT ?_;exact ⟨by rw [hn],hS⟩;rw [decide_eq_false hr];refine QO ?_;refine ZeF rfl rfl ?_;refine W ?_;refine CL (Z7Q [] _ Zd s _ (hF.up hS)) ?_;rintro _ w4 ⟨rfl,aF⟩;refine QO ?_;refine WR ?_;refine .mk ⟨?_,hS.trans aF⟩;unfold Zx;rw [aK];by_cases hf:s∈Zd<;>simp [hr,hf]
open Go Go.Eng Go.RowKit Go.Proofs
theorem Z9j (n:Int) (w) (h0:0<=n) (h1:n<=3652058):CC 320 #[.I n] w λr w'=>r=.tuple #[Zi8 (ofM n).y (ofM n).m (ofM n).d,.I 0]/\Stp [] w w':=by
 refine cW1 73 Tryz.func320 ?_;refine W ?_;refine Z0 Z4 rfl ?_;rintro _ w1 ⟨b2,rfl,cJ,e2',hS⟩;have iZ:=hS.size;repeat'(first|refine W1 ?_|omega|refine VG ?_ ?_<;>intro hg|refine VC ?_ ?_<;>intro hc)
 unfold ofM;simp only;have nf:=Ybm (n+306) (b:=146097) (by decide);have eA:=Ya6 (n+306) (b:=146097) (by decide);have he:(n+306) / 146097<=25/\0<=(n+306) / 146097:=by omega
 generalize (n+306) % 146097=doe at *;generalize (n+306) / 146097=era at *;obtain ⟨yoe,doy,e1,e2,hy,hd,-⟩:=Zi2 doe nf eA;simp only [e1,e2];have tr:0<=(5 * (doy:Int)+2) / 153/\(5 * (doy:Int)+2) / 153<=11:=by omega
 repeat'(first|refine W1 ?_|omega|refine VG ?_ ?_<;>intro hg|refine VC ?_ ?_<;>intro hc)
 refine Zc (vs:=[(0,.I _),(1,.I _),(2,.I _)]) rfl (Z6o _ _ _) rfl ?_;refine Z0 Z4 rfl ?_;rintro _ w2 ⟨b10,rfl,jN,e10,hT⟩;have n2:b10≠b2:=by have:=e2'.lt;omega
 replace e2':=e2'.up hT;replace hS:=hS.trans hT;refine SB (us:=[.I _,.I _,.I _]) (by simp;exact ⟨rfl,rfl,rfl⟩) e10 ?_;rintro _ w3 ⟨hT,e10'⟩;replace e2':=e2'.ext hT (by simpa using n2.symm);replace hS:=hS.own hT (λc hc=>.inr (by simp at hc;have:=hS.size;omega));clear e10 hT;repeat'(first|refine W1 ?_|omega|refine VG ?_ ?_<;>intro hg|refine VC ?_ ?_<;>intro hc)
 rename_i hc;refine Z8 (Zf (u:=.I ((yoe:Int)+400 * era+1)) rfl rfl rfl rfl e10' (by simp)) ?_;rintro _ w4 ⟨hT,e10⟩;replace e10:Blk w4 b10 237 [.I ((yoe:Int)+400 * era+1),.I ((5 * (doy:Int)+2) / 153+3),.I ((doy:Int) - (153 * ((5 * (doy:Int)+2) / 153)+2) / 5+1)]:=e10;replace e2':=e2'.ext hT (by simpa using n2.symm);replace hS:=hS.ow hT;clear e10' hT;refine W ?_;refine Z8 (Zf (u:=.I ((5 * (doy:Int)+2) / 153 - 9)) rfl rfl rfl rfl e10 (by simp)) ?_;rintro _ w5 ⟨hT,e10'⟩;replace e10':Blk w5 b10 237 [.I ((yoe:Int)+400 * era+1),.I ((5 * (doy:Int)+2) / 153 - 9),.I ((doy:Int) - (153 * ((5 * (doy:Int)+2) / 153)+2) / 5+1)]:=e10';replace e2':=e2'.ext hT (by simpa using n2.symm);replace hS:=hS.ow hT;clear e10 hT;refine W ?_;refine Z8 (Zy (us:=[.I _,.I _,.I _]) rfl rfl rfl rfl (by simp;exact ⟨rfl,rfl,rfl⟩) e2' rfl) ?_;rintro _ w6 ⟨hT,e2⟩;replace hS:=hS.ow hT;refine W ?_;refine ZM rfl rfl rfl e2 rfl rfl ?_;refine .mk ⟨?_,hS⟩;rw [if_pos (by omega)];rename_i hc;refine Z8 (Zy (us:=[.I _,.I _,.I _]) rfl rfl rfl rfl (by simp;exact ⟨rfl,rfl,rfl⟩) e2' rfl) ?_;rintro _ w6 ⟨hT,e2⟩;replace hS:=hS.ow hT;refine W ?_;refine ZM rfl rfl rfl e2 rfl rfl ?_;refine .mk ⟨?_,hS⟩;rw [if_neg (by omega)]
theorem Z7R (n:Int) (w) (h0:0<=n) (h1:n<=9223372036854775807):CC 140 #[.I n] w λr w'=>r=str (Lib.itoa n)/\Stp [] w w':=by
 obtain ⟨u,rfl⟩:∃ u:Nat,n=(u:Int):=⟨n.toNat,by omega⟩
 have dx:Lib.itoa (u:Int)=Lib.decDigits u:=by unfold Lib.itoa;rw [if_neg (by omega)];rfl
 rw [dx];have ai:(Lib.decDigits u).length<=19:=Z3W 18 u (by omega);refine cW1 32 Tryz.func140 ?_;by_cases hz:(u:Int)=0;obtain rfl:u=0:=by omega
 focus repeat'(first|refine W1 ?_|omega|refine VG ?_ ?_<;>intro hg|refine VC ?_ ?_<;>intro hc)
 refine RU ?_;exact ⟨by rw [Lib.decDigits];rfl,Stp.refl _ _⟩;focus repeat'(first|refine W1 ?_|omega|refine VG ?_ ?_<;>intro hg|refine VC ?_ ?_<;>intro hc)
 refine Zt (σ:=Nat×Str) (λq=>[(0,.I (u:Int)),(3,str [48,49,50,51,52,53,54,55,56,57]),(4,str q.2),(5,.I (q.1:Int))]) (λq w'=>w'=w/\q.1<=u/\(if q.1=0 then [] else Lib.decDigits q.1)++q.2=Lib.decDigits u) (λq=>q.1) (u,[]) ⟨rfl,rfl,rfl,rfl,trivial⟩ ⟨rfl,Xq _,by simp only;rw [if_neg (by omega)];simp⟩ ?_;rintro ⟨k,s⟩ w1 ⟨rfl,hk,he⟩;dsimp only at hk he ⊢;have au:s.length<=19:=by
  have:=congrArg List.length he;simp only [Xb] at this;omega
 by_cases fw:(k:Int)=0;obtain rfl:k=0:=by omega
 focus repeat'(first|refine W1 ?_|omega|refine VG ?_ ?_<;>intro hg|refine VC ?_ ?_<;>intro hc)
 refine RU ?_;exact ⟨by simpa using congrArg str he,Stp.refl _ _⟩;have ar:=Zi3 k (by omega);rw [if_neg (by omega),ar,XI] at he;focus repeat'(first|refine W1 ?_|omega|refine VG ?_ ?_<;>intro hg|refine VC ?_ ?_<;>intro hc)
 refine Za (Z2s (l:=k % 10) (r:=k % 10+1) rfl rfl rfl (by omega) (by omega) (by omega) (by show k % 10+1<=10;omega)) rfl ?_;rw [ZeS (k % 10) (by omega)];refine W ?_;refine Z6j rfl rfl (by simp;omega) rfl ?_;refine W ?_;refine ZF (k / 10,[UInt8.ofNat (48+k % 10)]++s) ⟨rfl,rfl,rfl,by simp only [Int.natCast_ediv];rfl,trivial⟩ ⟨rfl,by dsimp only;omega,by dsimp only;exact he⟩ (by dsimp only;omega)
end Go.Proofs.YteibicnbkggiiaaGreatDoor
namespace Go.Eng
open Go Go.RowKit Go.Proofs
end Go.Eng
namespace Go.Proofs.YteibicnbkggiiaaGreatDoor
open Go Go.Eng Go.RowKit Go.Proofs
theorem Z6q {α:Type} [Z5 α] (X:List Nat) (w:World):SlV (α:=α) X w (.N) []:=⟨none,0,rfl,Xq _,by simp [maxLen],λ_=>rfl,λi hi=>absurd hi (Xy _)⟩
theorem Z6R:Z1h [114,117,108,101,32,102,114,111,109,32,111,110,32,105,102,32,100,117,101,32,117,110,108,101,115,115,32,101,108,115,101,32,111,114,32,97,110,100,32,110,111,116,32,116,114,117,101,32,102,97,108,115,101,32,116,104,101,110,32,101,110,100,32,100,97,121,115,32,119,101,101,107,115,32,109,111,110,116,104,115,32,99,111,117,114,116,100,97,121,115,32,110,101,120,116,32,112,114,101,118,32,108,97,116,101,114,32,101,97,114,108,105,101,114,32,98,101,116,119,101,101,110,32,100,97,121,32,115,101,114,118,101,100,32,101,120,116,114,97,32,98,121,32,116,111,32,99,111,117,114,116,32,97,109,111,117,110,116]=Z9h++Zd:=by decide +kernel
theorem Z9k (X:List Nat) (w:World) (hX:∀ b∈X,b<w.heap.size):CC 146 #[] w λr w'=>Row X w' w.heap.size 9 r (Z9h++Zd)/\Stp [] w w':=by
 refine cW0 2 Tryz.func146 ?_;refine W ?_;refine CM (ZO rfl) (Z0r X [114,117,108,101,32,102,114,111,109,32,111,110,32,105,102,32,100,117,101,32,117,110,108,101,115,115,32,101,108,115,101,32,111,114,32,97,110,100,32,110,111,116,32,116,114,117,101,32,102,97,108,115,101,32,116,104,101,110,32,101,110,100,32,100,97,121,115,32,119,101,101,107,115,32,109,111,110,116,104,115,32,99,111,117,114,116,100,97,121,115,32,110,101,120,116,32,112,114,101,118,32,108,97,116,101,114,32,101,97,114,108,105,101,114,32,98,101,116,119,101,101,110,32,100,97,121,32,115,101,114,118,101,100,32,101,120,116,114,97,32,98,121,32,116,111,32,99,111,117,114,116,32,97,109,111,117,110,116] _ hX (by decide +kernel)) ?_;rintro v w1 ⟨hr,hS⟩;rw [Z6R] at hr;refine RT ?_;exact ⟨hr,hS⟩
theorem Z0Y (s:Str) (w):CC 99 #[str s] w λr w'=>r=.B (Zx s)/\Stp [] w w':=by
 refine cW1 60 Tryz.func99 ?_;refine W ?_;by_cases h0:s.length≠0/\s.length<=12/\97<=J5 s 0/\J5 s 0<=122
 case neg=>
  have hn:Zx s=false:=by
   unfold Zx Z3a;rw [decide_eq_false (λh=>h0 ⟨by omega,h.2.1,h.2.2.1,h.2.2.2.1⟩)];rfl
  by_cases hl:s.length≠0
  (refine QP ?_ ?_<;>intro hg)
  refine RU ?_;exact ⟨by rw [hn],Stp.refl _ _⟩;refine Z0c (i:=0) rfl rfl rfl (by omega) rfl ?_
  (refine QP ?_ ?_<;>intro hg)
  refine RU ?_;exact ⟨by rw [hn],Stp.refl _ _⟩;refine Z0c (i:=0) rfl rfl rfl (by omega) rfl ?_;refine RT ?_;exact ⟨by rw [hn],Stp.refl _ _⟩;refine RT ?_;exact ⟨by rw [hn],Stp.refl _ _⟩
 obtain ⟨h1,h2,h3,h4⟩:=h0;refine QO ?_;refine Z0c (i:=0) rfl rfl rfl (by omega) rfl ?_;refine QO ?_;refine Z0c (i:=0) rfl rfl rfl (by omega) rfl ?_;refine QO ?_;refine LP (σ:=Nat) (λi=>[(0,str s),(3,.I (i:Int))]) (λi w'=>i<=s.length/\w'=w/\∀ j,j<i->Zic (J5 s j)) (λi=>s.length - i) 0 ⟨Xu _,rfl,λj hj=>absurd hj (Xy _)⟩ ?_;rintro i w2 ⟨hi,rfl,aD⟩
 try dsimp only at hi aD ⊢
 by_cases hlt:¬ s.length<=i;by_cases cK:(97<=J5 s i/\J5 s i<=122)\/(48<=J5 s i/\J5 s i<=57)
 . have gE:∀ j,j<i+1->Zic (J5 s j):=λj hj=>by
    by_cases e:j=i;subst e;exact cK;exact aD j (by omega)
   repeat'(first|refine W1 ?_|omega|refine VG ?_ ?_<;>intro hg|refine VC ?_ ?_<;>intro hc)
   all_goals exact QL (i+1) ⟨by omega,rfl,gE⟩ (by omega)
 . have hn:Zx s=false:=by
    unfold Zx Z3a;rw [decide_eq_false (λh=>cK (h.2.2.2.2 i (by omega)))];rfl
   repeat'(first|refine W1 ?_|omega|refine VG ?_ ?_<;>intro hg|refine VC ?_ ?_<;>intro hc)
   all_goals
    refine RU ?_;exact ⟨by rw [hn],Stp.refl _ _⟩
 obtain rfl:i=s.length:=by omega
 have aK:Z3a s=true:=decide_eq_true ⟨by omega,h2,h3,h4,aD⟩;refine QO ?_;refine CM Z8X (Z9k [] _ (by simp)) ?_;rintro rv w3 ⟨hr,hS⟩;refine W ?_;refine CL (JP [] rv _ s _ hr.slv0) ?_;rintro _ w4 ⟨rfl,aF⟩;refine W ?_;refine WR ?_;refine .mk ⟨?_,hS.trans aF⟩;unfold Zx;rw [aK,Ybl];congr 1;refine decide_eq_decide.2 ?_;rw [<- Int.not_le,Zax,Xe,not_or]
def Z1R (x:Nd) (want:Int):Int:=if Zz x<=12 then (if Zg x=0 then 21 else if Zg x=want then 0 else 21) else 2
theorem Zay (v:Value) (x:Nd) (want:Int) (w) (hx:NdV [] w v x) (hF:SlV [] w Z2S Zd):CC 157 #[v,.I want] w λr w'=>r=.I (Z1R x want)/\Stp [] w w':=by
 obtain ⟨kv,rfl,hs⟩:=hx;refine cW2 20 Tryz.func157 ?_;refine W ?_;refine Z0 (Zn rfl) rfl ?_;rintro _ w1 ⟨b,rfl,hb,ab,hS⟩;replace ab:Blk w1 b _ (ndC x kv):=ab;refine W ?_;refine CL (Zr4 [] [] _ x _ ⟨kv,rfl,hs.up hS⟩ (hF.up hS)) ?_;rintro _ w2 ⟨rfl,ak⟩;replace hS:=hS.trans ak;unfold Z1R;by_cases hn:Zz x<=12;rw [if_pos hn,if_pos hn,if_pos hn];by_cases ht:Zg x=0;rw [if_pos ht,if_pos ht];refine RT ?_;exact ⟨rfl,hS⟩;rw [if_neg ht,if_neg ht];by_cases hw:Zg x=want;rw [if_pos hw];refine RT ?_;exact ⟨rfl,hS⟩;rw [if_neg hw];refine RT ?_;exact ⟨rfl,hS⟩;rw [if_neg hn,if_neg hn,if_neg hn];refine RT ?_;exact ⟨rfl,hS⟩
structure Rul where
 name:Str
 frm:Int
 on:Str
 cnd:Nd
 due:Nd
 unl:Str
 els:Str
abbrev rlC (r:Rul) (ki kd:Value):List Value:=[str r.name,.I r.frm,str r.on,.I r.cnd.kind,.I r.cnd.num,str r.cnd.word,ki,.I r.due.kind,.I r.due.num,str r.due.word,kd,str r.unl,str r.els]
def Zly (X:List Nat) (w:World) (v:Value) (r:Rul):Prop:=∃ ki kd,v=.agg (rlC r ki kd).toArray/\SlV X w ki r.cnd.kids/\SlV X w kd r.due.kids
def J2 (r:Rul):Bool:=Zx r.name && Zx r.on && (decide (r.unl=[]) || Zx r.unl) && (decide (r.els=[]) || Zx r.els)
def Z19 (r:Rul):Int:=if J2 r=false then 7 else if r.frm<0\/r.frm > 3652058 then 5 else if Z1R r.cnd 2≠0 then Z1R r.cnd 2 else Z1R r.due 3
theorem Zaz (v:Value) (r:Rul) (m:Int) (w) (hv:Zly [] w v r) (hF:SlV [] w Z2S Zd) (hm:w.cell? ⟨2,0,none⟩=some (.I m)) :
 CC 103 #[v] w λr' w'=>r'=.I (Z19 r)/\Stp [] w w':=by
 obtain ⟨ki,kd,rfl,hi,hd⟩:=hv;refine cW1 55 Tryz.func103 ?_;refine W ?_;refine Z0 (Zn rfl) rfl ?_;rintro _ w1 ⟨b,rfl,hb,ab,hS⟩;replace ab:Blk w1 b _ (rlC r ki kd):=ab;refine W ?_;refine CM (ZO rfl) (Z2c r.name m _ (hF.up hS) (hS.cell (by simp) hm)) ?_;rintro _ w2 ⟨rfl,hT⟩;replace ab:=ab.up hT;replace hS:=hS.trans hT;clear hT;refine Z6n (σ:=Bool) (λq=>[(1,pQ b),(2,.I 0),(4,.B q)]) (λq w'=>Blk w' b 84 (rlC r ki kd)/\Stp [] w w'/\q=!J2 r) ?_ ?_
 . cases hA:Zx r.name with
   | false=>
     refine W ?_;exact QT true ⟨ab,hS,by simp [J2, *]⟩
   | true=>
     refine W ?_;refine CM (ZO rfl) (Z2c r.on m _ (hF.up hS) (hS.cell (by simp) hm)) ?_;rintro _ w2 ⟨rfl,hT⟩;replace ab:=ab.up hT;replace hS:=hS.trans hT;clear hT;cases hB:Zx r.on with
     | false=>
       refine W ?_;exact QT true ⟨ab,hS,by simp [J2, *]⟩
     | true=>
       repeat'(first|refine W1 ?_|omega|refine VG ?_ ?_<;>intro hg|refine VC ?_ ?_<;>intro hc)
       . refine CM (ZO rfl) (Z2c r.unl m _ (hF.up hS) (hS.cell (by simp) hm)) ?_
         rintro _ w2 ⟨rfl,hT⟩;replace ab:=ab.up hT;replace hS:=hS.trans hT;clear hT;cases hC:Zx r.unl with
         | false=>
           refine W ?_;exact QT true ⟨ab,hS,by simp [J2, *]⟩
         | true=>
           (refine QP ?_ ?_<;>intro hg)
           . refine CM (ZO rfl) (Z2c r.els m _ (hF.up hS) (hS.cell (by simp) hm)) ?_
             rintro _ w2 ⟨rfl,hT⟩;replace ab:=ab.up hT;replace hS:=hS.trans hT;clear hT;cases hD:Zx r.els with
             | false=>
               refine W ?_;exact QT true ⟨ab,hS,by simp [J2, *]⟩
             | true=>
               refine W ?_;exact QT false ⟨ab,hS,by simp [J2, *]⟩
           exact QT false ⟨ab,hS,by simp [J2, *]⟩
       . refine CM (ZO rfl) (Z2c r.els m _ (hF.up hS) (hS.cell (by simp) hm)) ?_
         rintro _ w2 ⟨rfl,hT⟩;replace ab:=ab.up hT;replace hS:=hS.trans hT;clear hT;cases hD:Zx r.els with
         | false=>
           refine W ?_;exact QT true ⟨ab,hS,by simp [J2, *]⟩
         | true=>
           refine W ?_;exact QT false ⟨ab,hS,by simp [J2, *]⟩
       exact QT false ⟨ab,hS,by simp [J2, *]⟩
 rintro q w3 ⟨ab,hS,hq⟩
 try dsimp only at hq ⊢
 unfold Z19;cases fA:J2 r with
 | false=>
   rw [fA] at hq;subst hq;refine RT ?_;exact ⟨rfl,hS⟩
 | true=>
   rw [fA] at hq;subst hq;refine W ?_;by_cases hr:r.frm<0\/r.frm > 3652058
   . repeat'(first|refine W1 ?_|omega|refine VG ?_ ?_<;>intro hg|refine VC ?_ ?_<;>intro hc)
     all_goals
      refine RU ?_;exact ⟨by rw [if_neg (by decide),if_pos hr],hS⟩
   refine QO ?_;apply Za (Zj (us:=ndC r.cnd ki) rfl rfl ab rfl rfl) rfl;refine W ?_;refine CL (Zay _ r.cnd 2 _ ⟨ki,rfl,hi.up hS⟩ (hF.up hS)) ?_;rintro _ w4 ⟨rfl,hT⟩;replace ab:=ab.up hT;replace hS:=hS.trans hT;clear hT;by_cases h2:Z1R r.cnd 2=0;refine QO ?_;apply Za (Zj (us:=ndC r.due kd) rfl rfl ab rfl rfl) rfl;refine W ?_;refine CL (Zay _ r.due 3 _ ⟨kd,rfl,hd.up hS⟩ (hF.up hS)) ?_;rintro _ w5 ⟨rfl,hT⟩;refine RT ?_;exact ⟨by rw [if_neg (by decide),if_neg hr,if_neg (by simpa using h2)],hS.trans hT⟩;refine RT ?_;exact ⟨by rw [if_neg (by decide),if_neg hr,if_pos h2],hS⟩
end Go.Proofs.YteibicnbkggiiaaGreatDoor
namespace Go.Eng
open Go Go.RowKit Go.Proofs
end Go.Eng
namespace Go.Proofs.YteibicnbkggiiaaGreatDoor
open Go Go.Eng Go.RowKit Go.Proofs
def _root_.Go.Eng.RuleM.rul (r:RuleM):Rul:=⟨r.name,r.frm,r.on,r.cond,r.due,r.unl,r.els⟩
instance:Z5 Rul where
 k:=13
 rep:=λX w r cs=>∃ ki kd,cs=rlC r ki kd/\SlV X w ki r.cnd.kids/\SlV X w kd r.due.kids
 len:=by rintro X w r cs ⟨ki,kd,rfl,_⟩;rfl
 one:=by
  rintro X w r cs ⟨ki,kd,rfl,h1,h2⟩ c hc;have e1:=h1.one;have e2:=h2.one;simp only [rlC,Xa,Xo,or_false] at hc;rcases hc with rfl|rfl|rfl|rfl|rfl|rfl|rfl|rfl|rfl|rfl|rfl|rfl|rfl<;>first|rfl|exact e1|exact e2
 ext:=by
  rintro X S X' w w' r cs ⟨ki,kd,rfl,h1,h2⟩ hS g1 g2;exact ⟨ki,kd,rfl,h1.ext hS g1 g2,h2.ext hS g1 g2⟩
end Go.Proofs.YteibicnbkggiiaaGreatDoor
namespace Go.Eng
open Go Go.RowKit Go.Proofs
end Go.Eng
namespace Go.Proofs.YteibicnbkggiiaaGreatDoor
open Go Go.Eng Go.RowKit Go.Proofs
theorem Zr8 {X:List Nat} {w} {v:Value} {l:List Rul} {i:Nat} (h:SlV X w v l) (hi:i<l.length):∃ ki kd,SlV X w ki l[i].cnd.kids/\SlV X w kd l[i].due.kids/\∀ j u,(rlC l[i] ki kd)[j]?=some u->w.cell? (ZB v i 13 j)=some u:=by
 obtain ⟨cs,hr,hc⟩:=h.cell hi;obtain ⟨ki,kd,rfl,h1,h2⟩:=hr;exact ⟨ki,kd,h1,h2,hc⟩
theorem Zcy {P:Program} {n:Nat} {e:Env} {w} {d:Option Nat} {ty:TypeId} {pos:String} {af:Array Edge} {g:Option (Nat×Bool)} {X:List Nat} {v:Value} {l:List Rul} {i:Nat} {ki kd:Value} {x:Operand} {t:TypeId} {D:TypeDesc} [hu:Und P t D] (hA:Z0h D=true) [br:Siz P t 13] (hx:ev e x=some (.pointer (some (ZB v i 13 0)))) (hs:SlV X w v l) (hi:i<l.length)
 (hc:∀ j u,(rlC l[i] ki kd)[j]?=some u->w.cell? (ZB v i 13 j)=some u) :
 PR P n ⟨d,.load t x,ty,pos,af,g⟩ e w (.agg (rlC l[i] ki kd).toArray):=by
 obtain ⟨p,l',c,rfl⟩:=hs.isSome hi;refine Z25 (cs:=rlC l[i] ki kd) hA hx rfl (λj u hu=>?_);have:=hc j u hu;simpa [ZB] using this
abbrev Z4p:Nd:=.mk 2 1 [] []
theorem Zcz (X:List Nat) (w):CC 96 #[] w λr w'=>NdV X w' r Z4p/\Stp [] w w':=by
 refine cW0 2 Tryz.func96 ?_;refine W ?_;refine Z0 Z4 rfl ?_;rintro _ w1 ⟨b,rfl,hb,ab,hS⟩;refine W ?_;apply Zc (vs:=[(0,.I 2),(1,.I 1)]) rfl (Z37 _ _) rfl;have hy:SlV (α:=Nd) X w1 (.N) []:=Zi _ _;refine SB (us:=ndC Z4p (.N)) (Jo (x:=Z4p) hy) ab ?_;rintro _ w2 ⟨ak,aS⟩;have hT:=hS.ow ak;refine W ?_;refine JH rfl rfl rfl aS rfl ?_;exact .mk ⟨⟨_,rfl,Zi _ _⟩,hT⟩
theorem ZcA (v:Value) (r:Rul) (w) (hv:Zly [] w v r) (h1:ZU r.cnd<=1000) (h2:ZU r.due<=1000) :
 CC 63 #[v] w λr' w'=>r'=.I (Z19 r)/\Stp [] w w':=by
 obtain ⟨ki,kd,rfl,hi,hd⟩:=hv;have ng:=Z1j r.cnd;have iA:=Z1j r.due;refine cW1 69 Tryz.func63 ?_;refine W ?_;refine Z0 (Zn rfl) rfl ?_;rintro _ w1 ⟨b,rfl,hb,ab,hS⟩;replace ab:Blk w1 b _ (rlC r ki kd):=ab;refine W ?_;refine CL (Z0Y r.name _) ?_;rintro _ w2 ⟨rfl,hT⟩;replace ab:=ab.up hT;replace hS:=hS.trans hT;clear hT;refine Z6n (σ:=Bool) (λq=>[(1,pQ b),(2,.I 0),(38,.B q)]) (λq w'=>Blk w' b 84 (rlC r ki kd)/\Stp [] w w'/\q=!J2 r) ?_ ?_
 . cases hA:Zx r.name with
   | false=>
     refine W ?_;exact QT true ⟨ab,hS,by simp [J2, *]⟩
   | true=>
     refine W ?_;refine CL (Z0Y r.on _) ?_;rintro _ w2 ⟨rfl,hT⟩;replace ab:=ab.up hT;replace hS:=hS.trans hT;clear hT;cases hB:Zx r.on with
     | false=>
       refine W ?_;exact QT true ⟨ab,hS,by simp [J2, *]⟩
     | true=>
       repeat'(first|refine W1 ?_|omega|refine VG ?_ ?_<;>intro hg|refine VC ?_ ?_<;>intro hc)
       . refine CL (Z0Y r.unl _) ?_
         rintro _ w2 ⟨rfl,hT⟩;replace ab:=ab.up hT;replace hS:=hS.trans hT;clear hT;cases hC:Zx r.unl with
         | false=>
           refine W ?_;exact QT true ⟨ab,hS,by simp [J2, *]⟩
         | true=>
           (refine QP ?_ ?_<;>intro hg)
           . refine CL (Z0Y r.els _) ?_
             rintro _ w2 ⟨rfl,hT⟩;replace ab:=ab.up hT;replace hS:=hS.trans hT;clear hT;cases hD:Zx r.els with
             | false=>
               refine W ?_;exact QT true ⟨ab,hS,by simp [J2, *]⟩
             | true=>
               refine W ?_;exact QT false ⟨ab,hS,by simp [J2, *]⟩
           exact QT false ⟨ab,hS,by simp [J2, *]⟩
       . refine CL (Z0Y r.els _) ?_
         rintro _ w2 ⟨rfl,hT⟩;replace ab:=ab.up hT;replace hS:=hS.trans hT;clear hT;cases hD:Zx r.els with
         | false=>
           refine W ?_;exact QT true ⟨ab,hS,by simp [J2, *]⟩
         | true=>
           refine W ?_;exact QT false ⟨ab,hS,by simp [J2, *]⟩
       exact QT false ⟨ab,hS,by simp [J2, *]⟩
 rintro q w3 ⟨ab,hS,hq⟩
 try dsimp only at hq ⊢
 unfold Z19;cases fA:J2 r with
 | false=>
   rw [fA] at hq;subst hq;refine RT ?_;exact ⟨rfl,hS⟩
 | true=>
   rw [fA] at hq;subst hq;rw [if_neg (by decide)];refine W ?_;by_cases hr:r.frm<0\/r.frm > 3652058
   . rw [if_pos hr]
     repeat'(first|refine W1 ?_|omega|refine VG ?_ ?_<;>intro hg|refine VC ?_ ?_<;>intro hc)
     all_goals
      refine RU ?_;exact ⟨rfl,hS⟩
   rw [if_neg hr];refine QO ?_;apply Za (Zj (us:=ndC r.cnd ki) rfl rfl ab rfl rfl) rfl;refine W ?_;refine CM (ZO rfl) (Z6G [] _ r.cnd _ (Z34 _ h1) (by omega) ⟨ki,rfl,hi.up hS⟩) ?_;rintro _ w4 ⟨rfl,hT⟩;replace ab:=ab.up hT;replace hS:=hS.trans hT;clear hT;unfold Z1R;by_cases n1:Zz r.cnd<=12
   case neg=>
    simp only [if_neg n1];refine RT ?_;exact ⟨rfl,hS⟩
   simp only [if_pos n1];by_cases t1:Zg r.cnd=0;simp only [if_pos t1];refine RT ?_;exact ⟨rfl,hS⟩;simp only [if_neg t1];by_cases u1:Zg r.cnd=2
   case neg=>
    simp only [if_neg u1];refine RT ?_;exact ⟨rfl,hS⟩
   simp only [if_pos u1];refine QO ?_;apply Za (Zj (us:=ndC r.due kd) rfl rfl ab rfl rfl) rfl;refine W ?_;refine CM (ZO rfl) (Z6G [] _ r.due _ (Z34 _ h2) (by omega) ⟨kd,rfl,hd.up hS⟩) ?_;rintro _ w5 ⟨rfl,hT⟩;replace hS:=hS.trans hT;clear hT;by_cases n2:Zz r.due<=12
   case neg=>
    simp only [if_neg n2];refine RT ?_;exact ⟨rfl,hS⟩
   simp only [if_pos n2];by_cases t2:Zg r.due=0;simp only [if_pos t2];refine RT ?_;exact ⟨rfl,hS⟩;simp only [if_neg t2];by_cases u2:Zg r.due=3
   case neg=>
    simp only [if_neg u2];refine RT ?_;exact ⟨rfl,hS⟩
   simp only [if_pos u2];refine RT ?_;exact ⟨rfl,hS⟩
abbrev Zr9:Nd:=.mk 0 0 [] []
abbrev JE:Value:=.N
theorem Z9l (r:Rul) {X Y:List Nat} {w w':World} {ki kd:Value} (h1:SlV X w ki r.cnd.kids) (h2:SlV Y w' kd r.due.kids):∀ c∈rlC r ki kd,c.oneCell'=true:=by
 intro c hc;have e1:=h1.one;have e2:=h2.one;simp only [rlC,Xa,Xo,or_false] at hc;rcases hc with rfl|rfl|rfl|rfl|rfl|rfl|rfl|rfl|rfl|rfl|rfl|rfl|rfl<;>first|rfl|exact e1|exact e2
theorem Znb:∀ d,d<=6->Z1L 144 1 d/\Z1L 97 2 d/\Z1L 98 3 d:=by
 intro d
 induction d with
 | zero=>
   intro h;have ih':∀ e,0=e+1->Z1L 144 1 e/\Z1L 97 2 e/\Z1L 98 3 e:=λe he=>by omega
   exact ⟨Z4n _ h ih',Z6K _ h ih',Z6M _ h ih'⟩
 | succ d ih=>
   intro h;have ih':∀ e,d+1=e+1->Z1L 144 1 e/\Z1L 97 2 e/\Z1L 98 3 e:=λe he=>by
    obtain rfl:d=e:=by omega
    exact ih (by omega)
   exact ⟨Z4n _ h ih',Z6K _ h ih',Z6M _ h ih'⟩
def ZcB:List Str:=[[114,48],[114,49],[114,50],[114,51]]
def Z0B:List Str:=[[99,108,97,105,109],[97,110,115,119,101,114],[109,111,116,105,111,110],[111,114,100,101,114],[97,112,112,101,97,108],[108,97,112,115,101]]
theorem ZeX (q:Nat) (w) (hq:q<4):CC 95 #[.I (q:Int)] w λr w'=>(∃ s∈ZcB,r=str s)/\Stp [] w w':=by
 refine cW1 7 Tryz.func95 ?_;refine W ?_;refine CM (Zh rfl rfl) (J4 (q:Int) 4 _ (by decide) (by unfold I64;omega)) ?_;rintro _ w1 ⟨rfl,hS⟩;rw [if_neg (by omega),YbO (by omega) (by omega)];refine CM (ZO rfl) (Z7R (q:Int) _ (by omega) (by omega)) ?_;rintro _ w2 ⟨rfl,hT⟩;have:q=0\/q=1\/q=2\/q=3:=by omega
 have hm:([114]++Lib.itoa (q:Int):Str)∈ZcB/\(Lib.itoa (q:Int)).length<=10:=by
  rcases this with rfl|rfl|rfl|rfl<;>(unfold Lib.itoa;rw [if_neg (by omega),Lib.decDigits,dif_pos (by decide)];decide)
 refine Z6j rfl rfl (by simp;omega) rfl ?_;refine RT ?_;exact ⟨⟨_,hm.1,rfl⟩,hS.trans hT⟩
theorem Z3D (q:Nat) (w) (hq:q<6):CC 60 #[.I (q:Int)] w λr w'=>(∃ s∈Z0B,r=str s)/\Stp [] w w':=by
 refine cW1 10 Tryz.func60 ?_;refine W ?_;refine Z0 (Z1 (vs:=[(0,str [99,108,97,105,109]),(1,str [97,110,115,119,101,114]),(2,str [109,111,116,105,111,110]),(3,str [111,114,100,101,114]),(4,str [97,112,112,101,97,108]),(5,str [108,97,112,115,101])]) rfl (bS6 _ _ _ _ _ _)) rfl ?_;rintro v w1 hN;have hv:SlV [] w1 v Z0B:=hN.slv (by simp) rfl rfl (by decide);have hS:=Z6.stp hN;clear hN;refine W ?_;refine CM (Zh rfl rfl) (J4 (q:Int) 6 _ (by decide) (by unfold I64;omega)) ?_;rintro _ w2 ⟨rfl,hT⟩;rw [if_neg (by omega),YbO (by omega) (by omega)];replace hv:=hv.up hT;have bV:q<Z0B.length:=by show q<6;exact hq
 refine RT ?_;exact ⟨⟨_,Xc bV,rfl⟩,hS.trans hT⟩
structure Z6S (r:RuleM):Prop where
 name:r.name∈ZcB
 frm:739606<=r.frm/\r.frm<739636
 on:r.on∈Z0B
 cond:Gn 2 3 r.cond
 due:Gn 3 3 r.due
 unl:r.unl=[]\/r.unl∈Z0B
 els:r.els=[]\/r.els∈Z0B
theorem Zid (a o:Str) (f k n:Int) (s:Str) (p:Option Addr) (l c:Nat) (w):(Instr.build 84 #[(0,str a),(1,.I f),(2,str o),(3,.agg #[.I k,.I n,str s,.slice p l c])]).run Tryz.prog w=.ok (.agg #[str a,.I f,str o,.I k,.I n,str s,.slice p l c,.I 0,.I 0,str [],.N,str [],str []]) w:=by kernel_rfl
theorem ZeY (X:List Nat) (bm:Nat) (lv:Value) (l:List Int) (i:Nat) (w) (aA:Mk3 w bm lv i) (au:SlV [bm] w lv l) (hl:∀ a∈l,I64 a) (hi:i<=50000) (hX:∀ b∈X,b<w.heap.size) :
 CC 62 #[pQ bm] w λr w'=>∃ (rl:RuleM) (i':Nat),Zly X w' r rl.rul/\Z6S rl/\Mk3 w' bm lv i'/\i'<=i+300/\Stp [bm] w w':=by
 have z4:szD 4=40:=by decide
 have z4':szD (3+1)=40:=z4;have fL:=au;have jO:=aA.lt;refine cW1 40 Tryz.func62 ?_;refine W ?_;refine Z0 Z4 rfl ?_;rintro _ w1 ⟨b2,rfl,cJ,e2,hS⟩;have n2:b2≠bm:=by have:=aA.lt;omega
 replace aA:=aA.up hS;replace au:=au.up hS;replace hS:Stp [bm] w w1:=hS.mn;have l2:=e2.lt;refine W ?_;refine CM (Zh rfl rfl) (JZ bm lv l _ 4 _ (by decide) (by omega) aA au hl) ?_;rintro _ wq ⟨q1,rfl,hq1,aA,hT⟩;replace au:=au.ext hT (λ_ h=>h) (λ_ h=>.inl h);replace e2:=e2.ext hT (by simp;exact n2);replace hS:=hS.trans hT;clear hT;refine CM (ZO rfl) (ZeX q1 _ (by omega)) ?_;rintro _ wq ⟨⟨nm,fA,rfl⟩,hT⟩;replace aA:=aA.up hT;replace au:=au.up hT;replace e2:=e2.up hT;replace hS:=hS.trans hT.mn;clear hT;refine W ?_;refine CM (Zh rfl rfl) (JZ bm lv l _ 30 _ (by decide) (by omega) aA au hl) ?_;rintro _ wq ⟨q2,rfl,hq2,aA,hT⟩;replace au:=au.ext hT (λ_ h=>h) (λ_ h=>.inl h);replace e2:=e2.ext hT (by simp;exact n2);replace hS:=hS.trans hT;clear hT;refine W ?_;refine CM (Zh rfl rfl) (JZ bm lv l _ 6 _ (by decide) (by omega) aA au hl) ?_;rintro _ wq ⟨q3,rfl,oF,aA,hT⟩;replace au:=au.ext hT (λ_ h=>h) (λ_ h=>.inl h);replace e2:=e2.ext hT (by simp;exact n2);replace hS:=hS.trans hT;clear hT;refine CM (ZO rfl) (Z3D q3 _ (by omega)) ?_;rintro _ wq ⟨⟨on,ni,rfl⟩,hT⟩;replace aA:=aA.up hT;replace au:=au.up hT;replace e2:=e2.up hT;replace hS:=hS.trans hT.mn;clear hT;refine W ?_;refine CL (Zcz (b2 :: bm :: X) _) ?_;rintro _ wq ⟨⟨kt,rfl,ht⟩,hT⟩;obtain ⟨pt,ct,rfl,-⟩:=id ht;replace ht:SlV (b2 :: bm :: X) wq (.slice pt Z4p.kids.length ct) Z4p.kids:=ht;replace aA:=aA.up hT;replace au:=au.up hT;replace e2:=e2.up hT;replace hS:=hS.trans hT.mn;clear hT;refine W ?_;refine Zc (vs:=[(0,str nm),(1,.I _),(2,str on),(3,.agg #[.I 2,.I 1,str [],.slice pt 0 ct])]) rfl (Zid _ _ _ _ _ _ _ _ _) rfl ?_;refine Z0 Z4 rfl ?_;rintro _ wq ⟨b3,rfl,eD,e0,hT⟩;have qL:∀ c,c<w.heap.size->c<b3:=λc hc=>by have:=hS.size;omega
 have n3:b3≠bm:=by have:=aA.lt;omega
 have n23:b2≠b3:=by have:=e2.lt;omega
 have tt:w.heap.size<=b3:=Xk hS.size eD;refine SB (us:=rlC ⟨nm,739616+(q2:Int) - 10,on,Z4p,Zr9,[],[]⟩ (.slice pt 0 ct) JE) (Z9l _ (X:=b2 :: bm :: X) ht (Zi [] wq)) e0 ?_;rintro _ wq ⟨ax,e3⟩;replace hT:=Jw hT eD ax;clear ax e0;replace ht:SlV (b3 :: b2 :: bm :: X) wq (.slice pt Z4p.kids.length ct) Z4p.kids:=ht.ext hT (by simp) (λc hc=>by
  rcases Xa.1 hc with rfl|h
  exact .inr eD;exact .inl h)
 replace aA:=aA.up hT;replace au:=au.up hT;replace e2:=e2.up hT;replace hS:=hS.trans hT.mn;clear hT eD;have lq:739606<=739616+(q2:Int) - 10/\739616+(q2:Int) - 10<739636:=by omega
 generalize 739616+(q2:Int) - 10=fr at *;clear hq1 oF;refine W ?_;refine CM (Zh rfl rfl) (JZ bm lv l _ 3 _ (by decide) (by omega) aA au hl) ?_;rintro _ wq ⟨q4,rfl,lD,aA,hT⟩;replace au:=au.ext hT (λ_ h=>h) (λ_ h=>.inl h);replace e2:=e2.ext hT (by simp;exact n2);replace e3:=e3.ext hT (by simp;exact n3);replace hS:=hS.trans hT;replace ht:=ht.ext hT (by simp) (λ_ h=>.inl h);clear hT;have qV:∀ (w':World),Stp [bm] w w'->(∃ cs,Blk w' b3 84 cs)->(∃ cs,Blk w' b2 84 cs)->∀ b∈b3 :: b2 :: bm :: X,b<w'.heap.size:=λw' h1 h2 h3 b hb=>by
  obtain ⟨_,h2⟩:=h2;obtain ⟨_,h3⟩:=h3;have:=h1.size;simp only [Xa] at hb;rcases hb with rfl|rfl|rfl|h
  exact h2.lt;exact h3.lt;omega;have:=hX b h;omega
 refine W ?_
 refine JG (σ:=Nd×Value×Nat) (λ_=>[(0,pQ bm),(2,pQ b2),(3,pQ b3)])
  (λq w'=>Gn 2 3 q.1/\SlV (b3 :: b2 :: bm :: X) w' q.2.1 q.1.kids/\Mk3 w' bm lv q.2.2/\q.2.2<=i+124/\SlV [bm] w' lv l/\(∃ cs:List Value,cs.length=13/\Blk w' b2 84 cs)/\Blk w' b3 84 (rlC ⟨nm,fr,on,q.1,Zr9,[],[]⟩ q.2.1 JE)/\Stp [bm] w w') ?_ ?_
 (refine QP ?_ ?_<;>intro hc)
 refine CM (Zh rfl rfl) ((Znb 3 (by decide)).2.1 (b3 :: b2 :: bm :: X) _ bm lv l _ _ rfl aA au hl (by rw [z4];omega) (qV _ hS ⟨_,e3⟩ ⟨_,e2⟩)) ?_;rintro _ wq ⟨y,i1,⟨ky,rfl,hy⟩,gy,aA,cg,hT⟩;replace au:=au.ext hT (λ_ h=>h) (λ_ h=>.inl h);replace e2:=e2.ext hT (by simp;exact n2);replace e3:=e3.ext hT (by simp;exact n3);replace hS:=hS.trans hT;clear hT;refine W ?_;refine Z8 (Z1r (us:=ndC y ky) rfl rfl rfl rfl (Jo hy) e3 (by simp)) ?_;rintro _ wq ⟨hT,e3⟩;replace e3:Blk wq b3 84 (rlC ⟨nm,fr,on,y,Zr9,[],[]⟩ ky JE):=e3;replace hy:=hy.ext hT (by simp) (λ_ h=>.inl h);replace aA:=aA.ext hT (by simp;exact n3.symm);replace e2:=e2.ext hT (by simp;exact n23);replace hS:=hS.ow hT;replace au:=fL.ext hS (λ_ h=>h) (λ_ h=>.inl h);clear hT;refine W ?_;exact QT (y,ky,_) ⟨gy,hy,aA,by simp only;omega,au,⟨_,rfl,e2⟩,e3,hS⟩;exact QT (Z4p,_,_) ⟨.bool _ _ (by decide),ht,aA,by simp only;omega,au,⟨_,rfl,e2⟩,e3,hS⟩;clear aA au e2 e3 hS ht;rintro ⟨y,ky,i1⟩ wq ⟨gy,hy,aA,cg,au,⟨cs2,bT,e2⟩,e3,hS⟩;dsimp only at gy hy aA cg e3;have z4':szD (3+1)=40:=z4;refine W ?_;refine CM (Zh rfl rfl) ((Znb 3 (by decide)).2.2 (b3 :: b2 :: bm :: X) _ bm lv l _ _ rfl aA au hl (by rw [z4];omega) (qV _ hS ⟨_,e3⟩ ⟨_,e2⟩)) ?_;rintro _ wq ⟨x,i2,⟨kx,rfl,hx⟩,gx,aA,bI,hT⟩;replace hy:=hy.ext hT (by simp) (λ_ h=>.inl h);replace e2:=e2.ext hT (by simp;exact n2);replace e3:=e3.ext hT (by simp;exact n3);replace hS:=hS.trans hT;clear hT;refine W ?_;refine Z8 (Z1r (us:=ndC x kx) rfl rfl rfl rfl (Jo hx) e3 (by simp)) ?_;rintro _ wq ⟨hT,e3⟩;replace e3:Blk wq b3 84 (rlC ⟨nm,fr,on,y,x,[],[]⟩ ky kx):=e3;replace hx:=hx.ext hT (by simp) (λ_ h=>.inl h);replace hy:=hy.ext hT (by simp) (λ_ h=>.inl h);replace aA:=aA.ext hT (by simp;exact n3.symm);replace e2:=e2.ext hT (by simp;exact n23);replace hS:=hS.ow hT;replace au:=fL.ext hS (λ_ h=>h) (λ_ h=>.inl h);clear hT;refine W ?_;refine CM (Zh rfl rfl) (JZ bm lv l _ 2 _ (by decide) (by omega) aA au hl) ?_;rintro _ wq ⟨q5,rfl,qW,aA,hT⟩;replace hy:=hy.ext hT (by simp) (λ_ h=>.inl h);replace hx:=hx.ext hT (by simp) (λ_ h=>.inl h);replace e2:=e2.ext hT (by simp;exact n2);replace e3:=e3.ext hT (by simp;exact n3);replace hS:=hS.trans hT;replace au:=fL.ext hS (λ_ h=>h) (λ_ h=>.inl h);clear hT;refine W ?_
 refine JG (σ:=Str×Nat) (λ_=>[(0,pQ bm),(2,pQ b2),(3,pQ b3)])
  (λq w'=>(q.1=[]\/q.1∈Z0B)/\SlV (b3 :: b2 :: bm :: X) w' ky y.kids/\SlV (b3 :: b2 :: bm :: X) w' kx x.kids/\Mk3 w' bm lv q.2/\q.2<=i+250/\Blk w' b2 84 cs2/\Blk w' b3 84 (rlC ⟨nm,fr,on,y,x,q.1,[]⟩ ky kx)/\Stp [bm] w w') ?_ ?_
 (refine QP ?_ ?_<;>intro hc)
 refine CM (Zh rfl rfl) (JZ bm lv l _ 6 _ (by decide) (by omega) aA au hl) ?_;rintro _ wq ⟨q6,rfl,tu,aA,hT⟩;replace hy:=hy.ext hT (by simp) (λ_ h=>.inl h);replace hx:=hx.ext hT (by simp) (λ_ h=>.inl h);replace e2:=e2.ext hT (by simp;exact n2);replace e3:=e3.ext hT (by simp;exact n3);replace hS:=hS.trans hT;clear hT;refine W ?_;refine CM (ZO rfl) (Z3D q6 _ (by omega)) ?_;rintro _ wq ⟨⟨kn,fx,rfl⟩,hT⟩;replace hy:=hy.up hT;replace hx:=hx.up hT;replace aA:=aA.up hT;replace e2:=e2.up hT;replace e3:=e3.up hT;replace hS:=hS.trans hT.mn;clear hT;refine W ?_;refine S1 (u:=str kn) e3 ?_;rintro _ wq ⟨hT,e3⟩;replace e3:Blk wq b3 84 (rlC ⟨nm,fr,on,y,x,kn,[]⟩ ky kx):=e3;replace hx:=hx.ext hT (by simp) (λ_ h=>.inl h);replace hy:=hy.ext hT (by simp) (λ_ h=>.inl h);replace aA:=aA.ext hT (by simp;exact n3.symm);replace e2:=e2.ext hT (by simp;exact n23);replace hS:=hS.ow hT;refine W ?_;exact QT (kn,_) ⟨.inr fx,hy,hx,aA,by simp only;omega,e2,e3,hS⟩;exact QT ([],_) ⟨.inl rfl,hy,hx,aA,by simp only;omega,e2,e3,hS⟩;clear aA au e2 e3 hS hy hx;rintro ⟨u,i5⟩ wq ⟨hu,hy,hx,aA,tx,e2,e3,hS⟩;dsimp only at hu aA tx e3;have au:=fL.ext hS (λ_ h=>h) (λ_ h=>.inl h);refine W ?_;refine CM (Zh rfl rfl) (JZ bm lv l _ 2 _ (by decide) (by omega) aA au hl) ?_;rintro _ wq ⟨q5,rfl,qW,aA,hT⟩;replace hy:=hy.ext hT (by simp) (λ_ h=>.inl h);replace hx:=hx.ext hT (by simp) (λ_ h=>.inl h);replace e2:=e2.ext hT (by simp;exact n2);replace e3:=e3.ext hT (by simp;exact n3);replace hS:=hS.trans hT;replace au:=fL.ext hS (λ_ h=>h) (λ_ h=>.inl h);clear hT;refine W ?_
 refine JG (σ:=Str×Nat) (λ_=>[(0,pQ bm),(2,pQ b2),(3,pQ b3)])
  (λq w'=>(q.1=[]\/q.1∈Z0B)/\SlV (b3 :: b2 :: bm :: X) w' ky y.kids/\SlV (b3 :: b2 :: bm :: X) w' kx x.kids/\Mk3 w' bm lv q.2/\q.2<=i+252/\Blk w' b2 84 cs2/\Blk w' b3 84 (rlC ⟨nm,fr,on,y,x,u,q.1⟩ ky kx)/\Stp [bm] w w') ?_ ?_
 (refine QP ?_ ?_<;>intro hc)
 refine CM (Zh rfl rfl) (JZ bm lv l _ 6 _ (by decide) (by omega) aA au hl) ?_;rintro _ wq ⟨q6,rfl,tu,aA,hT⟩;replace hy:=hy.ext hT (by simp) (λ_ h=>.inl h);replace hx:=hx.ext hT (by simp) (λ_ h=>.inl h);replace e2:=e2.ext hT (by simp;exact n2);replace e3:=e3.ext hT (by simp;exact n3);replace hS:=hS.trans hT;clear hT;refine W ?_;refine CM (ZO rfl) (Z3D q6 _ (by omega)) ?_;rintro _ wq ⟨⟨kn,fx,rfl⟩,hT⟩;replace hy:=hy.up hT;replace hx:=hx.up hT;replace aA:=aA.up hT;replace e2:=e2.up hT;replace e3:=e3.up hT;replace hS:=hS.trans hT.mn;clear hT;refine W ?_;refine S1 (u:=str kn) e3 ?_;rintro _ wq ⟨hT,e3⟩;replace e3:Blk wq b3 84 (rlC ⟨nm,fr,on,y,x,u,kn⟩ ky kx):=e3;replace hx:=hx.ext hT (by simp) (λ_ h=>.inl h);replace hy:=hy.ext hT (by simp) (λ_ h=>.inl h);replace aA:=aA.ext hT (by simp;exact n3.symm);replace e2:=e2.ext hT (by simp;exact n23);replace hS:=hS.ow hT;refine W ?_;exact QT (kn,_) ⟨.inr fx,hy,hx,aA,by simp only;omega,e2,e3,hS⟩;exact QT ([],_) ⟨.inl rfl,hy,hx,aA,by simp only;omega,e2,e3,hS⟩;clear aA au e2 e3 hS hy hx;rintro ⟨v,i6⟩ wq ⟨hv,hy,hx,aA,tz,e2,e3,hS⟩;dsimp only at hv aA tz e3;have au:=fL.ext hS (λ_ h=>h) (λ_ h=>.inl h);refine W ?_
 try (apply Za (Zj (us:=rlC ⟨nm,fr,on,y,x,u,v⟩ ky kx) rfl rfl e3 rfl rfl) rfl)
 try refine W ?_
 refine Z8 (Zy (us:=rlC ⟨nm,fr,on,y,x,u,v⟩ ky kx) rfl rfl rfl rfl (Z9l ⟨nm,fr,on,y,x,u,v⟩ hy hx) e2 (by rw [bT];rfl)) ?_;rintro _ wz ⟨hT,e2⟩;refine W ?_;refine JH rfl rfl rfl e2 rfl ?_;refine .mk ⟨⟨nm,fr,on,y,x,u,v⟩,i6,⟨ky,kx,rfl,(hy.ext hT (by simp) (λ_ h=>.inl h)).wk (λb h=>by simp [h]),(hx.ext hT (by simp) (λ_ h=>.inl h)).wk (λb h=>by simp [h])⟩,⟨fA,lq,ni,gy,gx,hu,hv⟩,aA.ext hT (by simp;exact n2.symm),by omega,hS.ow hT⟩
structure Cr where
 name:Str
 frm:Int
 on:Str
 cnd:List Ins
 due:List Ins
 unl:Str
 els:Str
abbrev crC (q:Cr) (kc kd:Value):List Value:=[str q.name,.I q.frm,str q.on,kc,kd,str q.unl,str q.els]
def CrV (X:List Nat) (w:World) (v:Value) (q:Cr):Prop:=∃ kc kd,v=.agg (crC q kc kd).toArray/\SlV X w kc q.cnd/\SlV X w kd q.due
theorem Z1k {q:Cr} {X Y:List Nat} {w w':World} {kc kd:Value} (h1:SlV X w kc q.cnd) (h2:SlV Y w' kd q.due):∀ c∈crC q kc kd,c.oneCell'=true:=by
 intro c hc;have e1:=h1.one;have e2:=h2.one;simp only [crC,Xa,Xo,or_false] at hc;rcases hc with rfl|rfl|rfl|rfl|rfl|rfl|rfl<;>first|rfl|exact e1|exact e2
def Z2d (r:Rul):Int:=if Z19 r≠0 then Z19 r else if Z29 r.cnd≠0 then Z29 r.cnd else Z29 r.due
abbrev crZ:Cr:=⟨[],0,[],[],[],[],[]⟩
def crF (r:Rul):Cr:=if Z2d r=0 then ⟨r.name,r.frm,r.on,JA r.cnd,JA r.due,r.unl,r.els⟩ else crZ
def ZuC (w:World) (r:Rul) (v:Value) (w':World):Prop:=∃ cv,v=.tuple #[cv,.I (Z2d r)]/\(∀ X:List Nat,(∀ b∈X,b<w.heap.size)->CrV X w' cv (crF r))/\Stp [] w w'
theorem Z6T (w):(Instr.build 27 #[]).run Tryz.prog w=.ok (.agg (crC crZ JE JE).toArray) w:=by kernel_rfl
theorem Zlz (q:Cr) (p1 p2:Option Addr) (l1 c1 l2 c2:Nat) (w):(Instr.build 27 #[(0,str q.name),(1,.I q.frm),(2,str q.on),(3,.slice p1 l1 c1),(4,.slice p2 l2 c2),(5,str q.unl),(6,str q.els)]).run Tryz.prog w=.ok (.agg (crC q (.slice p1 l1 c1) (.slice p2 l2 c2)).toArray) w:=by kernel_rfl
theorem ZeZ (v:Value) (r:Rul) (w) (hv:Zly [] w v r) (h1:ZU r.cnd<=1000) (h2:ZU r.due<=1000) :
 Calls Tryz.prog 23 #[v] w (Ret (ZuC w r)):=by
 obtain ⟨ki,kd,rfl,hi,hd⟩:=hv;have ng:=Z1j r.cnd;have iA:=Z1j r.due;refine cW1 48 Tryz.func23 ?_;refine W ?_;refine Z0 (Zn rfl) rfl ?_;rintro _ w1 ⟨b,rfl,hb,ab,hS⟩;replace ab:Blk w1 b _ (rlC r ki kd):=ab;refine W ?_;refine Z0 Z4 rfl ?_;rintro _ w2 ⟨b2,rfl,cJ,e2,hT⟩;have tA:w.heap.size<=b2:=Xk hS.size cJ;replace ab:=ab.up hT;replace hS:=hS.trans hT;clear hT hb cJ;refine W ?_
 try (refine Za (ZY rfl rfl ab rfl) rfl ?_)
 refine W ?_;refine CL (ZcA _ r _ ⟨ki,kd,rfl,hi.up hS,hd.up hS⟩ h1 h2) ?_;rintro _ w3 ⟨rfl,hT⟩;replace ab:=ab.up hT;replace e2:=e2.up hT;replace hS:=hS.trans hT;clear hT;by_cases iB:Z19 r=0
 case neg=>
  have hE:Z2d r=Z19 r:=by unfold Z2d;rw [if_pos iB]
  have hC:crF r=crZ:=by unfold crF;rw [hE,if_neg iB]
  refine QO ?_;apply Zc (vs:=[]) rfl Z6T rfl;refine W ?_;refine SB (us:=crC crZ JE JE) (Z1k (q:=crZ) (Zi [] w) (Zi [] w)) e2 ?_;rintro _ w9 ⟨hT,e2⟩;refine W ?_;refine ZM rfl rfl rfl e2 rfl rfl ?_;exact .mk ⟨_,by rw [hE]<;>rfl,λX hX=>⟨JE,JE,by rw [hC],by rw [hC];exact Zi X _,by rw [hC];exact Zi X _⟩,hS.ow hT⟩
 refine QO ?_;apply Za (Zj (us:=ndC r.cnd ki) rfl rfl ab rfl rfl) rfl;refine W ?_;refine CM (ZO rfl) (Z2O _ r.cnd _ h1 (by omega) ⟨ki,rfl,hi.up hS⟩) ?_;rintro _ w4 ⟨va,rfl,ha,hT⟩;replace ha:=λX (hX:∀ b∈X,b<w.heap.size)=>ha (b2 :: X) (λb hb=>by
  rcases Xa.1 hb with rfl|h
  exact e2.lt;exact Xi (hX b h) hS.size)
 replace ab:=ab.up hT;replace e2:=e2.up hT;replace hS:=hS.trans hT;clear hT;refine W ?_;by_cases ca:Z29 r.cnd=0
 case neg=>
  have hE:Z2d r=Z29 r.cnd:=by unfold Z2d;rw [if_neg (by simp [iB]),if_pos ca]
  have hC:crF r=crZ:=by unfold crF;rw [hE,if_neg ca]
  refine QO ?_;apply Zc (vs:=[]) rfl Z6T rfl;refine W ?_;refine SB (us:=crC crZ JE JE) (Z1k (q:=crZ) (Zi [] w) (Zi [] w)) e2 ?_;rintro _ w9 ⟨hT,e2⟩;refine W ?_;refine ZM rfl rfl rfl e2 rfl rfl ?_;exact .mk ⟨_,by rw [hE]<;>rfl,λX hX=>⟨JE,JE,by rw [hC],by rw [hC];exact Zi X _,by rw [hC];exact Zi X _⟩,hS.ow hT⟩
 rw [if_pos ca] at ha;refine QO ?_;apply Za (Zj (us:=ndC r.due kd) rfl rfl ab rfl rfl) rfl;refine W ?_;refine CM (ZO rfl) (Z2O _ r.due _ h2 (by omega) ⟨kd,rfl,hd.up hS⟩) ?_;rintro _ w5 ⟨vb,rfl,hb,hT⟩;replace hb:=λX (hX:∀ b∈X,b<w.heap.size)=>hb (b2 :: X) (λb hb=>by
  rcases Xa.1 hb with rfl|h
  exact e2.lt;exact Xi (hX b h) hS.size)
 replace ha:=λX hX=>(ha X hX).up hT;replace ab:=ab.up hT;replace e2:=e2.up hT;replace hS:=hS.trans hT;clear hT;refine W ?_;have hE:Z2d r=Z29 r.due:=by unfold Z2d;rw [if_neg (by simp [iB]),if_neg (by simp [ca])]
 by_cases bT:Z29 r.due=0
 case neg=>
  have hC:crF r=crZ:=by unfold crF;rw [hE,if_neg bT]
  refine QO ?_;apply Zc (vs:=[]) rfl Z6T rfl;refine W ?_;refine SB (us:=crC crZ JE JE) (Z1k (q:=crZ) (Zi [] w) (Zi [] w)) e2 ?_;rintro _ w9 ⟨hT,e2⟩;refine W ?_;refine ZM rfl rfl rfl e2 rfl rfl ?_;exact .mk ⟨_,by rw [hE]<;>rfl,λX hX=>⟨JE,JE,by rw [hC],by rw [hC];exact Zi X _,by rw [hC];exact Zi X _⟩,hS.ow hT⟩
 rw [if_pos bT] at hb;have hC:crF r=⟨r.name,r.frm,r.on,JA r.cnd,JA r.due,r.unl,r.els⟩:=by unfold crF;rw [hE,if_pos bT]
 obtain ⟨p1,c1,rfl,-⟩:=id (ha [] (by simp));obtain ⟨p2,c2,rfl,-⟩:=id (hb [] (by simp));refine QO ?_;apply Zc (vs:=[(0,str r.name),(1,.I r.frm),(2,str r.on),(3,.slice p1 (JA r.cnd).length c1),(4,.slice p2 (JA r.due).length c2),(5,str r.unl),(6,str r.els)]) rfl (Zlz ⟨r.name,r.frm,r.on,JA r.cnd,JA r.due,r.unl,r.els⟩ _ _ _ _ _ _) rfl;refine SB (us:=crC ⟨r.name,r.frm,r.on,JA r.cnd,JA r.due,r.unl,r.els⟩ (.slice p1 (JA r.cnd).length c1) (.slice p2 (JA r.due).length c2)) (Z1k (q:=⟨r.name,r.frm,r.on,JA r.cnd,JA r.due,r.unl,r.els⟩) (ha [] (by simp)) (hb [] (by simp))) e2 ?_;rintro _ w9 ⟨hT,e2⟩;refine W ?_;refine ZM rfl rfl rfl e2 rfl rfl ?_;exact .mk ⟨_,by rw [hE,bT],λX hX=>by
  rw [hC];exact ⟨_,_,rfl,((ha X hX).ext hT (by simp) (λ_ h=>.inl h)).wk (λb h=>by simp [h]),((hb X hX).ext hT (by simp) (λ_ h=>.inl h)).wk (λb h=>by simp [h])⟩,hS.ow hT⟩
theorem Z4c (va vb:Value) (xs ys:List Int) (w) (ha:SlV [] w va xs) (hb:SlV [] w vb ys) :
 CC 153 #[va,vb] w λr w'=>r=.B (decide (xs=ys))/\Stp [] w w':=by
 have qX:=ha.max;have tr:=hb.max;refine cW2 26 Tryz.func153 ?_;refine W ?_;by_cases hl:xs.length=ys.length
 case neg=>
  refine RT ?_;exact ⟨by congr 1;rw [eq_comm,decide_eq_false_iff_not];exact λh=>hl (by rw [h]),Stp.refl _ _⟩
 refine QO ?_;refine LP (σ:=Nat) (λj=>[(0,va),(1,vb),(4,.B false),(12,.I (xs.length:Int)),(13,.I (j:Int))]) (λj w'=>j<=xs.length/\Stp [] w w'/\∀ i (h:i<xs.length),i<j->xs[i]=ys[i]'(by omega)) (λj=>xs.length - j) 0 ⟨Xu _,Stp.refl _ _,λi _ h=>absurd h (Xy _)⟩ ?_;rintro j w2 ⟨hj,hS,bD⟩
 try dsimp only at hj bD ⊢
 replace ha:=ha.up hS;replace hb:=hb.up hS;by_cases hlt:j<xs.length;have ea:j<ys.length:=by omega
 refine QO ?_;refine ZDr 9 [] [] [(0,0),(1,0),(2,0),(3,1),(4,0),(5,0),(6,0),(7,1),(8,0)] (λw1 ae=>?_);replace ha:=ha.up ae;replace hb:=hb.up ae;replace hS:=hS.trans ae;refine D ?_
 (refine QP ?_ ?_<;>intro hc)
 refine RU ?_;exact ⟨by congr 1;rw [eq_comm,decide_eq_false_iff_not];exact λh=>hc (by simp [h]),hS⟩;have he:xs[j]=ys[j]:=Decidable.byContradiction hc;have hk:∀ i (h:i<xs.length),i<j+1->xs[i]=ys[i]'(by omega):=λi h hi=>by
  by_cases bR:i=j;subst bR;exact he;exact bD i h (by omega)
 exact QL (j+1) ⟨hlt,hS,hk⟩ (XE hlt (XA j));have eQ:j=xs.length:=by omega
 subst eQ;refine RT ?_;exact ⟨by congr 1;rw [eq_comm,decide_eq_true_eq];exact Ya3 hl (λi h h'=>bD i h h),hS⟩
abbrev RwZ (w w':World) (v:Value) (xs:List Int):Prop:=ZE 3 w w' v xs
theorem Zf0 (k:Nat) (w) (hk:k<=1000000):CC 212 #[.N,.I (k:Int)] w λr w'=>RwZ w w' r []:=by
 refine cW2 27 Tryz.func212 ?_;refine W ?_;have h0:SlV (α:=Int) [] w (.N) []:=Zi _ _;have cm:([]:List Int).length=0:=rfl;repeat'(first|refine W1 ?_|omega|refine VG ?_ ?_<;>intro hg|refine VC ?_ ?_<;>intro hc)
 apply Za (Z6O rfl) rfl;by_cases fw:k=0;subst fw;refine QO ?_;refine WR ?_;exact .mk ZE.nil;refine QO ?_;apply Za (Z6O rfl) rfl;apply Za (Z6P rfl rfl) rfl;refine W ?_;refine Z0 (Zll (k:=k) rfl rfl rfl (by omega) (by simp [maxLen];omega) (by omega)) rfl ?_;rintro _ w1 ⟨c,rfl,bF,hS⟩;replace h0:=h0.up hS;have hr:RwZ w w1 (.slice (some ⟨w.heap.size,0,none⟩) 0 c) []:=⟨⟨[],rfl,λi h=>absurd h (Xy _),bF⟩,hS⟩
 refine W ?_;apply Za (Z8g rfl rfl) rfl;refine W ?_;refine WR ?_;exact .mk hr
theorem ZaA (v:Value) (xss:List (Sl Int)) (w) (hs:SlV [] w v xss) (hl:xss.length<=1000) (ai:(xss.flatMap Sl.l).length<=100000):CC 154 #[v] w λr w'=>RwZ w w' r (xss.flatMap Sl.l):=by
 have bQ:∀ j,((xss.take j).flatMap Sl.l).length<=(xss.flatMap Sl.l).length:=λj=>by
  rw [<- XN j xss,YaC,Xb];simp only [XN];have:(xss.take j).flatMap Sl.l=((xss.take j++xss.drop j).take j).flatMap Sl.l:=by rw [XN]
  omega
 have hstep:∀ j (h:j<xss.length),(xss.take (j+1)).flatMap Sl.l=(xss.take j).flatMap Sl.l++xss[j].l:=λj h=>by
  rw [Xj h,YaC];simp
 refine cW1 36 Tryz.func154 ?_;refine W ?_;refine Z0b (σ:=Unit) (λ_=>[(0,v),(3,.I ((xss.flatMap Sl.l).length:Int))]) (λ_ w'=>w'=w) ?_ ?_;refine LP (σ:=Nat) (λj=>[(0,v),(9,v),(10,.I (xss.length:Int)),(3,.I (((xss.take j).flatMap Sl.l).length:Int)),(11,.I (j:Int))]) (λj w'=>j<=xss.length/\w'=w) (λj=>xss.length - j) 0 ⟨Xu _,rfl⟩ ?_;rintro j w2 ⟨hj,rfl⟩;by_cases hlt:j<xss.length;obtain ⟨u,am,eE⟩:=hs.sub hlt;have mY:=eE.max;have h1:=bQ j;have h2:=bQ (j+1);have h3:=hstep j hlt;have h4:((xss.take (j+1)).flatMap Sl.l).length=((xss.take j).flatMap Sl.l).length+xss[j].l.length:=by rw [h3,Xb]
 refine QO ?_;apply Za (Jd rfl rfl am) rfl;refine QO ?_;refine ZF (j+1) ⟨rfl,rfl,rfl,by rw [h4,YbD];rfl,rfl,trivial⟩ ⟨hlt,rfl⟩ (by omega);have eQ:j=xss.length:=by omega
 subst eQ;rw [Xs];refine QO ?_;exact QT () rfl;rintro _ w2 rfl;refine W ?_;refine Z0 (Z3 rfl (Zh rfl rfl) (Zf0 _ _ (by omega))) rfl ?_;rintro g w3 hr;refine W ?_;have eh:=hs.up hr.2;refine W ?_;refine LP (σ:=Nat×Value) (λq=>[(6,q.2),(25,v),(26,.I (xss.length:Int)),(27,.I (q.1:Int))]) (λq w'=>q.1<=xss.length/\RwZ w2 w' q.2 ((xss.take q.1).flatMap Sl.l)) (λq=>xss.length - q.1) (0,g) ⟨Xu _,by simpa using hr⟩ ?_;clear hr eh;rintro ⟨j,g⟩ w4 ⟨hj,hr⟩;dsimp only at hj hr ⊢;by_cases hlt:j<xss.length;have dy:SlV (ob g) w4 v xss:=hs.ext hr.2 (by simp) (λb hb=>.inr (hr.ob_le b hb).1);obtain ⟨u,am,eE⟩:=dy.sub hlt;have h1:=bQ j;have h2:=bQ (j+1);have h3:=hstep j hlt;have h4:((xss.take (j+1)).flatMap Sl.l).length=((xss.take j).flatMap Sl.l).length+xss[j].l.length:=by rw [h3,Xb]
 refine QO ?_;apply Za (Jd rfl rfl am) rfl;refine QO ?_;refine Z0 (Z01 rfl (by decide) rfl rfl hr eE (by omega) (by simp only [maxLen];omega)) rfl ?_;rintro g' w5 ⟨bB,-,-⟩;refine W ?_;exact QL (j+1,g') ⟨hlt,by dsimp only;rw [h3];exact bB⟩ (by dsimp only;omega);have eQ:j=xss.length:=by omega
 subst eQ;rw [Xs] at hr;refine QO ?_;refine WR ?_;exact .mk hr
end Go.Proofs.YteibicnbkggiiaaGreatDoor
namespace Go.Eng
open Go
theorem JB {P:Program} {n:Nat} {fn:Func} {R:Ending->World->Prop} {e:Env} {w} {t u s q:Nat} {v x y z:Value} (hr:fn.results=#[.tmp t,.tmp u,.tmp s,.tmp q]) (ht:look e t=some v) (hu:look e u=some x) (hs:look e s=some y) (hq:look e q=some z) (h:R (.returned (.tuple #[v,x,y,z])) w):WQ n (bodyPost P fn R) .ret e w:=
 ⟨λa ha=>⟨ha.defers,.tuple #[v,x,y,z],by simp [results,hr];simpa [XJ] using And.intro (ha.vals t v ht) (And.intro (ha.vals u x hu) (And.intro (ha.vals s y hs) (ha.vals q z hq))),h⟩⟩
end Go.Eng
namespace Go.Proofs.YteibicnbkggiiaaGreatDoor
open Go Go.Eng Go.RowKit
def Zk (x:Ins):List Int×List Int×List Int×Bool:=
 if x.op=1 then ([],[],[1],decide (-2147483647<=x.n/\x.n<=2147483647))
 else if x.op=2 then ([],[],[2],decide (x.n=0\/x.n=1))
 else if x.op=3 then ([],[],[3],decide (0<=x.n/\x.n<=3652058))
 else if x.op=4 then ([],[],[if x.n=0\/x.n=1 then 3 else 1],decide (0<=x.n/\x.n<7))
 else if x.op=13 then ([],[],[],true)
 else if x.op=14 then ([2],[],[],true)
 else if x.op=5\/x.op=6\/x.op=7 then ([1,1],[],[1],decide (x.n=0))
 else if x.op=8 then ([1],[],[1],decide (x.n=0))
 else if x.op=9\/x.op=10\/x.op=11 then ([1,1],[3,3],[2],decide (x.n=0))
 else if x.op=12 then ([2],[],[2],decide (x.n=0))
 else if x.op=15\/x.op=16\/x.op=17\/x.op=18 then ([3,1],[],[3],decide (x.n=0))
 else if x.op=19\/x.op=20 then ([3],[],[3],decide (x.n=0))
 else if x.op=21\/x.op=22 then ([3,3],[],[3],decide (x.n=0))
 else if x.op=23 then ([3,3],[],[1],decide (x.n=0))
 else if x.op=24 then ([],[],[],decide (x.n=0))
 else ([],[],[],false)
def ZuD (X:List Nat) (w:World) (x:Ins) (r:Value) (w':World):Prop:=∃ a b c,r=.tuple #[a,b,c,.B (Zk x).2.2.2]/\SlV X w' a (Zk x).1/\SlV X w' b (Zk x).2.1/\SlV X w' c (Zk x).2.2.1/\Stp [] w w'
theorem JC {X:List Nat} {w w':World} {x:Ins} {a b c:Value} {p ok:Bool} {ta al gi:List Int} (bD:Zk x=(ta,al,gi,ok)) (hp:p=ok) (ha:SlV X w' a ta) (hb:SlV X w' b al) (hc:SlV X w' c gi) (hS:Stp [] w w'):Ret (ZuD X w x) (.returned (.tuple #[a,b,c,.B p])) w':=by
 refine .mk ⟨a,b,c,?_,?_,?_,?_,hS⟩<;>rw [bD];rw [hp];exact ha;exact hb;exact hc
theorem ZcC (X:List Nat) (x:Ins) (w:World) (og:∀ b∈X,b<w.heap.size) :
 Calls Tryz.prog 152 #[agg x] w (Ret (ZuD X w x)):=by
 refine cW1 117 Tryz.func152 ?_;refine W ?_;refine Z0 (Zn rfl) rfl ?_;rintro _ w0 ⟨b,rfl,hb,ab,hS⟩;replace ab:Blk w0 b _ [.I x.op,.I x.n]:=ab;have hX:∀ b∈X,b<w0.heap.size:=λb hb=>Xi (og b hb) hS.size;refine W ?_;by_cases h1:x.op=1
 . have bD:Zk x=([],[],[1],decide (-2147483647<=x.n/\x.n<=2147483647)):=by simp [Zk,h1]
   repeat'(first|refine W1 ?_|omega|refine VG ?_ ?_<;>intro hg|refine VC ?_ ?_<;>intro hc)
   refine ZDr 13 [] [] [(1,0),(2,1),(3,0),(4,0),(5,0),(6,1),(7,0),(8,0),(9,0),(10,0),(0,2),(11,0),(12,0)] (λw1 ae=>?_);replace ab:=ab.up ae;replace hS:=hS.trans ae;replace hX:=λb hb=>Xi (hX b hb) ae.size;repeat'(first|refine D1 ?_|omega|refine Zb rfl rfl rfl rfl (λhg=>?_) (λhg=>?_)|(refine Z7 rfl rfl rfl rfl (λhg=>?_) (λhg=>?_)<;>refine D1 ?_)|fail)
   all_goals
    refine Z9 rfl trivial (Z1 (vs:=[(0,.I 1)]) rfl (Zo _)) (λ_ _ h=>Z6.stp h) rfl ?_;rintro g wq hN;have s_g:SlV X wq g [(1:Int)]:=hN.slv hX rfl rfl (by simp [maxLen]);have hT:=Z6.stp hN;clear hN;replace ab:=ab.up hT;replace hS:=hS.trans hT;clear hT;refine D ?_;refine W ?_;refine JB rfl rfl rfl rfl rfl ?_;refine JC bD ?_ (Zi _ _) (Zi _ _) (s_g) hS;first|rfl|(simp only [decide_eq_decide];omega)|(symm;simp only [decide_eq_false_iff_not];omega)|(simp only [decide_eq_false_iff_not];omega)
 by_cases h2:x.op=2
 . have bD:Zk x=([],[],[2],decide (x.n=0\/x.n=1)):=by simp [Zk,h2]
   repeat'(first|refine W1 ?_|omega|refine VG ?_ ?_<;>intro hg|refine VC ?_ ?_<;>intro hc)
   refine ZDr 13 [] [] [(1,0),(2,1),(3,0),(4,0),(5,0),(6,1),(7,0),(8,0),(9,0),(10,0),(0,2),(11,0),(12,0)] (λw1 ae=>?_);replace ab:=ab.up ae;replace hS:=hS.trans ae;replace hX:=λb hb=>Xi (hX b hb) ae.size;repeat'(first|refine D1 ?_|omega|refine Zb rfl rfl rfl rfl (λhg=>?_) (λhg=>?_)|(refine Z7 rfl rfl rfl rfl (λhg=>?_) (λhg=>?_)<;>refine D1 ?_)|fail)
   all_goals
    refine Z9 rfl trivial (Z1 (vs:=[(0,.I 2)]) rfl (Zo _)) (λ_ _ h=>Z6.stp h) rfl ?_;rintro g wq hN;have s_g:SlV X wq g [(2:Int)]:=hN.slv hX rfl rfl (by simp [maxLen]);have hT:=Z6.stp hN;clear hN;replace ab:=ab.up hT;replace hS:=hS.trans hT;clear hT;refine D ?_;refine W ?_;refine JB rfl rfl rfl rfl rfl ?_;refine JC bD ?_ (Zi _ _) (Zi _ _) (s_g) hS;first|rfl|(simp only [decide_eq_decide];omega)|(symm;simp only [decide_eq_true_eq];omega)|(simp only [decide_eq_true_eq];omega)
 by_cases h3:x.op=3
 . have bD:Zk x=([],[],[3],decide (0<=x.n/\x.n<=3652058)):=by simp [Zk,h3]
   repeat'(first|refine W1 ?_|omega|refine VG ?_ ?_<;>intro hg|refine VC ?_ ?_<;>intro hc)
   refine ZDr 13 [] [] [(1,0),(2,1),(3,0),(4,0),(5,0),(6,1),(7,0),(8,0),(9,0),(10,0),(0,2),(11,0),(12,0)] (λw1 ae=>?_);replace ab:=ab.up ae;replace hS:=hS.trans ae;replace hX:=λb hb=>Xi (hX b hb) ae.size;repeat'(first|refine D1 ?_|omega|refine Zb rfl rfl rfl rfl (λhg=>?_) (λhg=>?_)|(refine Z7 rfl rfl rfl rfl (λhg=>?_) (λhg=>?_)<;>refine D1 ?_)|fail)
   all_goals
    refine Z9 rfl trivial (Z1 (vs:=[(0,.I 3)]) rfl (Zo _)) (λ_ _ h=>Z6.stp h) rfl ?_;rintro g wq hN;have s_g:SlV X wq g [(3:Int)]:=hN.slv hX rfl rfl (by simp [maxLen]);have hT:=Z6.stp hN;clear hN;replace ab:=ab.up hT;replace hS:=hS.trans hT;clear hT;refine D ?_;refine W ?_;refine JB rfl rfl rfl rfl rfl ?_;refine JC bD ?_ (Zi _ _) (Zi _ _) (s_g) hS;first|rfl|(simp only [decide_eq_decide];omega)|(symm;simp only [decide_eq_false_iff_not];omega)|(simp only [decide_eq_false_iff_not];omega)
 by_cases h4:x.op=4;by_cases fX:x.n=0\/x.n=1
 . have bD:Zk x=([],[],[3],decide (0<=x.n/\x.n<7)):=by simp [Zk,h4,fX]
   repeat'(first|refine W1 ?_|omega|refine VG ?_ ?_<;>intro hg|refine VC ?_ ?_<;>intro hc)
   all_goals
    refine ZDr 14 [] [] [(0,0),(2,0),(3,1),(4,0),(5,0),(6,0),(7,1),(8,0),(9,0),(10,0),(11,0),(1,2),(12,0),(13,0)] (λw1 ae=>?_);replace ab:=ab.up ae;replace hS:=hS.trans ae;replace hX:=λb hb=>Xi (hX b hb) ae.size;repeat'(first|refine D1 ?_|omega|refine Zb rfl rfl rfl rfl (λhg=>?_) (λhg=>?_)|(refine Z7 rfl rfl rfl rfl (λhg=>?_) (λhg=>?_)<;>refine D1 ?_)|fail)
    all_goals
     refine Z9 rfl trivial (Z1 (vs:=[(0,.I 3)]) rfl (Zo _)) (λ_ _ h=>Z6.stp h) rfl ?_;rintro g wq hN;have s_g:SlV X wq g [(3:Int)]:=hN.slv hX rfl rfl (by simp [maxLen]);have hT:=Z6.stp hN;clear hN;replace ab:=ab.up hT;replace hS:=hS.trans hT;clear hT;refine D ?_;refine W ?_;refine JB rfl rfl rfl rfl rfl ?_;refine JC bD ?_ (Zi _ _) (Zi _ _) (s_g) hS;first|rfl|(simp only [decide_eq_decide];omega)|(symm;simp only [decide_eq_true_eq,decide_eq_false_iff_not];omega)|(simp only [decide_eq_true_eq,decide_eq_false_iff_not];omega)
 . have bD:Zk x=([],[],[1],decide (0<=x.n/\x.n<7)):=by simp [Zk,h4,fX]
   repeat'(first|refine W1 ?_|omega|refine VG ?_ ?_<;>intro hg|refine VC ?_ ?_<;>intro hc)
   all_goals
    refine ZDr 14 [] [] [(0,0),(2,0),(3,1),(4,0),(5,0),(6,0),(7,1),(8,0),(9,0),(10,0),(11,0),(1,2),(12,0),(13,0)] (λw1 ae=>?_);replace ab:=ab.up ae;replace hS:=hS.trans ae;replace hX:=λb hb=>Xi (hX b hb) ae.size;repeat'(first|refine D1 ?_|omega|refine Zb rfl rfl rfl rfl (λhg=>?_) (λhg=>?_)|(refine Z7 rfl rfl rfl rfl (λhg=>?_) (λhg=>?_)<;>refine D1 ?_)|fail)
    all_goals
     refine Z9 rfl trivial (Z1 (vs:=[(0,.I 1)]) rfl (Zo _)) (λ_ _ h=>Z6.stp h) rfl ?_;rintro g wq hN;have s_g:SlV X wq g [(1:Int)]:=hN.slv hX rfl rfl (by simp [maxLen]);have hT:=Z6.stp hN;clear hN;replace ab:=ab.up hT;replace hS:=hS.trans hT;clear hT;refine D ?_;refine W ?_;refine JB rfl rfl rfl rfl rfl ?_;refine JC bD ?_ (Zi _ _) (Zi _ _) (s_g) hS;first|rfl|(simp only [decide_eq_decide];omega)|(symm;simp only [decide_eq_false_iff_not];omega)|(simp only [decide_eq_false_iff_not];omega)
 by_cases bW:x.op=13;have bD:Zk x=([],[],[],true):=by simp [Zk,bW]
 focus repeat'(first|refine W1 ?_|omega|refine VG ?_ ?_<;>intro hg|refine VC ?_ ?_<;>intro hc)
 refine JB rfl rfl rfl rfl rfl ?_;refine JC bD ?_ (Zi _ _) (Zi _ _) (Zi _ _) hS;first|rfl|(simp only [decide_eq_decide];omega)|(symm;simp only [decide_eq_true_eq,decide_eq_false_iff_not];omega)|(simp only [decide_eq_true_eq,decide_eq_false_iff_not];omega)
 by_cases cV:x.op=14;have bD:Zk x=([2],[],[],true):=by simp [Zk,cV]
 focus repeat'(first|refine W1 ?_|omega|refine VG ?_ ?_<;>intro hg|refine VC ?_ ?_<;>intro hc)
 refine Z0 (Z1 (vs:=[(0,.I 2)]) rfl (Zo _)) rfl ?_;rintro t wq hN;have s_t:SlV X wq t [(2:Int)]:=hN.slv hX rfl rfl (by simp [maxLen]);have hT:=Z6.stp hN;clear hN;replace ab:=ab.up hT;replace hS:=hS.trans hT;replace hX:=λb hb=>Xi (hX b hb) hT.size;clear hT;refine W ?_;refine JB rfl rfl rfl rfl rfl ?_;refine JC bD ?_ (s_t) (Zi _ _) (Zi _ _) hS;first|rfl|(simp only [decide_eq_decide];omega)|(symm;simp only [decide_eq_true_eq,decide_eq_false_iff_not];omega)|(simp only [decide_eq_true_eq,decide_eq_false_iff_not];omega)
 by_cases h5:x.op=5\/x.op=6\/x.op=7
 . have bD:Zk x=([1,1],[],[1],decide (x.n=0)):=by rcases h5 with h|h|h<;>simp [Zk,h]
   repeat'(first|refine W1 ?_|omega|refine VG ?_ ?_<;>intro hg|refine VC ?_ ?_<;>intro hc)
   all_goals
    refine Z0 (Z1 (vs:=[(0,.I 1),(1,.I 1)]) rfl (Jk _ _)) rfl ?_;rintro t wq hN;have s_t:SlV X wq t [(1:Int),(1:Int)]:=hN.slv hX rfl rfl (by simp [maxLen]);have hT:=Z6.stp hN;clear hN;replace ab:=ab.up hT;replace hS:=hS.trans hT;replace hX:=λb hb=>Xi (hX b hb) hT.size;clear hT;refine Z0 (Z1 (vs:=[(0,.I 1)]) rfl (Zo _)) rfl ?_;rintro g wq hN;have s_g:SlV X wq g [(1:Int)]:=hN.slv hX rfl rfl (by simp [maxLen]);have hT:=Z6.stp hN;clear hN;replace ab:=ab.up hT;replace hS:=hS.trans hT;replace hX:=λb hb=>Xi (hX b hb) hT.size;replace s_t:=s_t.up hT;clear hT;refine W ?_;refine ZDr 10 [] [] [(0,0),(1,0),(2,0),(3,0),(4,1),(5,0),(6,0),(7,0),(8,0),(9,0)] (λw1 ae=>?_);replace ab:=ab.up ae;replace hS:=hS.trans ae;replace s_t:=s_t.up ae;replace s_g:=s_g.up ae;refine D ?_;refine W ?_;refine JB rfl rfl rfl rfl rfl ?_;refine JC bD ?_ (s_t) (Zi _ _) (s_g) hS;first|rfl|(simp only [decide_eq_decide];omega)|(symm;simp only [decide_eq_true_eq,decide_eq_false_iff_not];omega)|(simp only [decide_eq_true_eq,decide_eq_false_iff_not];omega)
 by_cases h8:x.op=8
 . have bD:Zk x=([1],[],[1],decide (x.n=0)):=by simp [Zk,h8]
   repeat'(first|refine W1 ?_|omega|refine VG ?_ ?_<;>intro hg|refine VC ?_ ?_<;>intro hc)
   all_goals
    refine Z0 (Z1 (vs:=[(0,.I 1)]) rfl (Zo _)) rfl ?_;rintro t wq hN;have s_t:SlV X wq t [(1:Int)]:=hN.slv hX rfl rfl (by simp [maxLen]);have hT:=Z6.stp hN;clear hN;replace ab:=ab.up hT;replace hS:=hS.trans hT;replace hX:=λb hb=>Xi (hX b hb) hT.size;clear hT;refine Z0 (Z1 (vs:=[(0,.I 1)]) rfl (Zo _)) rfl ?_;rintro g wq hN;have s_g:SlV X wq g [(1:Int)]:=hN.slv hX rfl rfl (by simp [maxLen]);have hT:=Z6.stp hN;clear hN;replace ab:=ab.up hT;replace hS:=hS.trans hT;replace hX:=λb hb=>Xi (hX b hb) hT.size;replace s_t:=s_t.up hT;clear hT;refine W ?_;refine ZDr 10 [] [] [(0,0),(1,0),(2,0),(3,0),(4,1),(5,0),(6,0),(7,0),(8,0),(9,0)] (λw1 ae=>?_);replace ab:=ab.up ae;replace hS:=hS.trans ae;replace s_t:=s_t.up ae;replace s_g:=s_g.up ae;refine D ?_;refine W ?_;refine JB rfl rfl rfl rfl rfl ?_;refine JC bD ?_ (s_t) (Zi _ _) (s_g) hS;first|rfl|(simp only [decide_eq_decide];omega)|(symm;simp only [decide_eq_true_eq,decide_eq_false_iff_not];omega)|(simp only [decide_eq_true_eq,decide_eq_false_iff_not];omega)
 by_cases h9:x.op=9\/x.op=10\/x.op=11
 . have bD:Zk x=([1,1],[3,3],[2],decide (x.n=0)):=by rcases h9 with h|h|h<;>simp [Zk,h]
   repeat'(first|refine W1 ?_|omega|refine VG ?_ ?_<;>intro hg|refine VC ?_ ?_<;>intro hc)
   all_goals
    refine Z0 (Z1 (vs:=[(0,.I 1),(1,.I 1)]) rfl (Jk _ _)) rfl ?_;rintro t wq hN;have s_t:SlV X wq t [(1:Int),(1:Int)]:=hN.slv hX rfl rfl (by simp [maxLen]);have hT:=Z6.stp hN;clear hN;replace ab:=ab.up hT;replace hS:=hS.trans hT;replace hX:=λb hb=>Xi (hX b hb) hT.size;clear hT;refine Z0 (Z1 (vs:=[(0,.I 3),(1,.I 3)]) rfl (Jk _ _)) rfl ?_;rintro a wq hN;have s_a:SlV X wq a [(3:Int),(3:Int)]:=hN.slv hX rfl rfl (by simp [maxLen]);have hT:=Z6.stp hN;clear hN;replace ab:=ab.up hT;replace hS:=hS.trans hT;replace hX:=λb hb=>Xi (hX b hb) hT.size;replace s_t:=s_t.up hT;clear hT;refine Z0 (Z1 (vs:=[(0,.I 2)]) rfl (Zo _)) rfl ?_;rintro g wq hN;have s_g:SlV X wq g [(2:Int)]:=hN.slv hX rfl rfl (by simp [maxLen]);have hT:=Z6.stp hN;clear hN;replace ab:=ab.up hT;replace hS:=hS.trans hT;replace hX:=λb hb=>Xi (hX b hb) hT.size;replace s_t:=s_t.up hT;replace s_a:=s_a.up hT;clear hT;refine W ?_;refine ZDr 10 [] [] [(0,0),(1,0),(2,0),(3,0),(4,1),(5,0),(6,0),(7,0),(8,0),(9,0)] (λw1 ae=>?_);replace ab:=ab.up ae;replace hS:=hS.trans ae;replace s_t:=s_t.up ae;replace s_a:=s_a.up ae;replace s_g:=s_g.up ae;refine D ?_;refine W ?_;refine JB rfl rfl rfl rfl rfl ?_;refine JC bD ?_ (s_t) (s_a) (s_g) hS;first|rfl|(simp only [decide_eq_decide];omega)|(symm;simp only [decide_eq_true_eq,decide_eq_false_iff_not];omega)|(simp only [decide_eq_true_eq,decide_eq_false_iff_not];omega)
 by_cases iC:x.op=12
 . have bD:Zk x=([2],[],[2],decide (x.n=0)):=by simp [Zk,iC]
   repeat'(first|refine W1 ?_|omega|refine VG ?_ ?_<;>intro hg|refine VC ?_ ?_<;>intro hc)
   all_goals
    refine Z0 (Z1 (vs:=[(0,.I 2)]) rfl (Zo _)) rfl ?_;rintro t wq hN;have s_t:SlV X wq t [(2:Int)]:=hN.slv hX rfl rfl (by simp [maxLen]);have hT:=Z6.stp hN;clear hN;replace ab:=ab.up hT;replace hS:=hS.trans hT;replace hX:=λb hb=>Xi (hX b hb) hT.size;clear hT;refine Z0 (Z1 (vs:=[(0,.I 2)]) rfl (Zo _)) rfl ?_;rintro g wq hN;have s_g:SlV X wq g [(2:Int)]:=hN.slv hX rfl rfl (by simp [maxLen]);have hT:=Z6.stp hN;clear hN;replace ab:=ab.up hT;replace hS:=hS.trans hT;replace hX:=λb hb=>Xi (hX b hb) hT.size;replace s_t:=s_t.up hT;clear hT;refine W ?_;refine ZDr 10 [] [] [(0,0),(1,0),(2,0),(3,0),(4,1),(5,0),(6,0),(7,0),(8,0),(9,0)] (λw1 ae=>?_);replace ab:=ab.up ae;replace hS:=hS.trans ae;replace s_t:=s_t.up ae;replace s_g:=s_g.up ae;refine D ?_;refine W ?_;refine JB rfl rfl rfl rfl rfl ?_;refine JC bD ?_ (s_t) (Zi _ _) (s_g) hS;first|rfl|(simp only [decide_eq_decide];omega)|(symm;simp only [decide_eq_true_eq,decide_eq_false_iff_not];omega)|(simp only [decide_eq_true_eq,decide_eq_false_iff_not];omega)
 by_cases nj:x.op=15\/x.op=16\/x.op=17\/x.op=18
 . have bD:Zk x=([3,1],[],[3],decide (x.n=0)):=by rcases nj with h|h|h|h<;>simp [Zk,h]
   repeat'(first|refine W1 ?_|omega|refine VG ?_ ?_<;>intro hg|refine VC ?_ ?_<;>intro hc)
   all_goals
    refine Z0 (Z1 (vs:=[(0,.I 3),(1,.I 1)]) rfl (Jk _ _)) rfl ?_;rintro t wq hN;have s_t:SlV X wq t [(3:Int),(1:Int)]:=hN.slv hX rfl rfl (by simp [maxLen]);have hT:=Z6.stp hN;clear hN;replace ab:=ab.up hT;replace hS:=hS.trans hT;replace hX:=λb hb=>Xi (hX b hb) hT.size;clear hT;refine Z0 (Z1 (vs:=[(0,.I 3)]) rfl (Zo _)) rfl ?_;rintro g wq hN;have s_g:SlV X wq g [(3:Int)]:=hN.slv hX rfl rfl (by simp [maxLen]);have hT:=Z6.stp hN;clear hN;replace ab:=ab.up hT;replace hS:=hS.trans hT;replace hX:=λb hb=>Xi (hX b hb) hT.size;replace s_t:=s_t.up hT;clear hT;refine W ?_;refine ZDr 10 [] [] [(0,0),(1,0),(2,0),(3,0),(4,1),(5,0),(6,0),(7,0),(8,0),(9,0)] (λw1 ae=>?_);replace ab:=ab.up ae;replace hS:=hS.trans ae;replace s_t:=s_t.up ae;replace s_g:=s_g.up ae;refine D ?_;refine W ?_;refine JB rfl rfl rfl rfl rfl ?_;refine JC bD ?_ (s_t) (Zi _ _) (s_g) hS;first|rfl|(simp only [decide_eq_decide];omega)|(symm;simp only [decide_eq_true_eq,decide_eq_false_iff_not];omega)|(simp only [decide_eq_true_eq,decide_eq_false_iff_not];omega)
 by_cases qY:x.op=19\/x.op=20
 . have bD:Zk x=([3],[],[3],decide (x.n=0)):=by rcases qY with h|h<;>simp [Zk,h]
   repeat'(first|refine W1 ?_|omega|refine VG ?_ ?_<;>intro hg|refine VC ?_ ?_<;>intro hc)
   all_goals
    refine Z0 (Z1 (vs:=[(0,.I 3)]) rfl (Zo _)) rfl ?_;rintro t wq hN;have s_t:SlV X wq t [(3:Int)]:=hN.slv hX rfl rfl (by simp [maxLen]);have hT:=Z6.stp hN;clear hN;replace ab:=ab.up hT;replace hS:=hS.trans hT;replace hX:=λb hb=>Xi (hX b hb) hT.size;clear hT;refine Z0 (Z1 (vs:=[(0,.I 3)]) rfl (Zo _)) rfl ?_;rintro g wq hN;have s_g:SlV X wq g [(3:Int)]:=hN.slv hX rfl rfl (by simp [maxLen]);have hT:=Z6.stp hN;clear hN;replace ab:=ab.up hT;replace hS:=hS.trans hT;replace hX:=λb hb=>Xi (hX b hb) hT.size;replace s_t:=s_t.up hT;clear hT;refine W ?_;refine ZDr 10 [] [] [(0,0),(1,0),(2,0),(3,0),(4,1),(5,0),(6,0),(7,0),(8,0),(9,0)] (λw1 ae=>?_);replace ab:=ab.up ae;replace hS:=hS.trans ae;replace s_t:=s_t.up ae;replace s_g:=s_g.up ae;refine D ?_;refine W ?_;refine JB rfl rfl rfl rfl rfl ?_;refine JC bD ?_ (s_t) (Zi _ _) (s_g) hS;first|rfl|(simp only [decide_eq_decide];omega)|(symm;simp only [decide_eq_true_eq,decide_eq_false_iff_not];omega)|(simp only [decide_eq_true_eq,decide_eq_false_iff_not];omega)
 by_cases qZ:x.op=21\/x.op=22
 . have bD:Zk x=([3,3],[],[3],decide (x.n=0)):=by rcases qZ with h|h<;>simp [Zk,h]
   repeat'(first|refine W1 ?_|omega|refine VG ?_ ?_<;>intro hg|refine VC ?_ ?_<;>intro hc)
   all_goals
    refine Z0 (Z1 (vs:=[(0,.I 3),(1,.I 3)]) rfl (Jk _ _)) rfl ?_;rintro t wq hN;have s_t:SlV X wq t [(3:Int),(3:Int)]:=hN.slv hX rfl rfl (by simp [maxLen]);have hT:=Z6.stp hN;clear hN;replace ab:=ab.up hT;replace hS:=hS.trans hT;replace hX:=λb hb=>Xi (hX b hb) hT.size;clear hT;refine Z0 (Z1 (vs:=[(0,.I 3)]) rfl (Zo _)) rfl ?_;rintro g wq hN;have s_g:SlV X wq g [(3:Int)]:=hN.slv hX rfl rfl (by simp [maxLen]);have hT:=Z6.stp hN;clear hN;replace ab:=ab.up hT;replace hS:=hS.trans hT;replace hX:=λb hb=>Xi (hX b hb) hT.size;replace s_t:=s_t.up hT;clear hT;refine W ?_;refine ZDr 10 [] [] [(0,0),(1,0),(2,0),(3,0),(4,1),(5,0),(6,0),(7,0),(8,0),(9,0)] (λw1 ae=>?_);replace ab:=ab.up ae;replace hS:=hS.trans ae;replace s_t:=s_t.up ae;replace s_g:=s_g.up ae;refine D ?_;refine W ?_;refine JB rfl rfl rfl rfl rfl ?_;refine JC bD ?_ (s_t) (Zi _ _) (s_g) hS;first|rfl|(simp only [decide_eq_decide];omega)|(symm;simp only [decide_eq_true_eq,decide_eq_false_iff_not];omega)|(simp only [decide_eq_true_eq,decide_eq_false_iff_not];omega)
 by_cases rc:x.op=23
 . have bD:Zk x=([3,3],[],[1],decide (x.n=0)):=by simp [Zk,rc]
   repeat'(first|refine W1 ?_|omega|refine VG ?_ ?_<;>intro hg|refine VC ?_ ?_<;>intro hc)
   all_goals
    refine Z0 (Z1 (vs:=[(0,.I 3),(1,.I 3)]) rfl (Jk _ _)) rfl ?_;rintro t wq hN;have s_t:SlV X wq t [(3:Int),(3:Int)]:=hN.slv hX rfl rfl (by simp [maxLen]);have hT:=Z6.stp hN;clear hN;replace ab:=ab.up hT;replace hS:=hS.trans hT;replace hX:=λb hb=>Xi (hX b hb) hT.size;clear hT;refine Z0 (Z1 (vs:=[(0,.I 1)]) rfl (Zo _)) rfl ?_;rintro g wq hN;have s_g:SlV X wq g [(1:Int)]:=hN.slv hX rfl rfl (by simp [maxLen]);have hT:=Z6.stp hN;clear hN;replace ab:=ab.up hT;replace hS:=hS.trans hT;replace hX:=λb hb=>Xi (hX b hb) hT.size;replace s_t:=s_t.up hT;clear hT;refine W ?_;refine ZDr 10 [] [] [(0,0),(1,0),(2,0),(3,0),(4,1),(5,0),(6,0),(7,0),(8,0),(9,0)] (λw1 ae=>?_);replace ab:=ab.up ae;replace hS:=hS.trans ae;replace s_t:=s_t.up ae;replace s_g:=s_g.up ae;refine D ?_;refine W ?_;refine JB rfl rfl rfl rfl rfl ?_;refine JC bD ?_ (s_t) (Zi _ _) (s_g) hS;first|rfl|(simp only [decide_eq_decide];omega)|(symm;simp only [decide_eq_true_eq,decide_eq_false_iff_not];omega)|(simp only [decide_eq_true_eq,decide_eq_false_iff_not];omega)
 by_cases cq:x.op=24;have bD:Zk x=([],[],[],decide (x.n=0)):=by simp [Zk,cq]
 focus repeat'(first|refine W1 ?_|omega|refine VG ?_ ?_<;>intro hg|refine VC ?_ ?_<;>intro hc)
 refine ZDr 10 [] [] [(0,0),(1,0),(2,0),(3,0),(4,1),(5,0),(6,0),(7,0),(8,0),(9,0)] (λw1 ae=>?_);replace ab:=ab.up ae;replace hS:=hS.trans ae;refine D ?_;refine W ?_;refine JB rfl rfl rfl rfl rfl ?_;refine JC bD ?_ (Zi _ _) (Zi _ _) (Zi _ _) hS;first|rfl|(simp only [decide_eq_decide];omega)|(symm;simp only [decide_eq_true_eq,decide_eq_false_iff_not];omega)|(simp only [decide_eq_true_eq,decide_eq_false_iff_not];omega)
 have bD:Zk x=([],[],[],false):=by simp [Zk,h1,h2,h3,h4,bW,cV,h5,h8,h9,iC,nj,qY,qZ,rc,cq]
 repeat'(first|refine W1 ?_|omega|refine VG ?_ ?_<;>intro hg|refine VC ?_ ?_<;>intro hc)
 refine JB rfl rfl rfl rfl rfl ?_;refine JC bD ?_ (Zi _ _) (Zi _ _) (Zi _ _) hS;first|rfl|(simp only [decide_eq_decide];omega)|(symm;simp only [decide_eq_true_eq,decide_eq_false_iff_not];omega)|(simp only [decide_eq_true_eq,decide_eq_false_iff_not];omega)
abbrev Shp:=List Int
def ZZ (x:Ins) (s:Shp):Option Shp:=
 let e:=Zk x
 let k:=s.length - e.1.length
 if e.2.2.2=true/\e.1.length<=s.length/\(s.drop k=e.1\/e.2.1≠[]/\s.drop k=e.2.1)/\(s.take k++e.2.2.1).length<=16 then some (s.take k++e.2.2.1) else none
def Jh (st:List (Option Shp)) (t:Int) (sh:Shp):Option (List (Option Shp)):=
 if 0<=t/\t<st.length then
  match st.getD t.toNat none with
  | some s=>if s=sh then some st else none
  | none=>some (st.set t.toNat (some sh))
 else none
def Jr (st:List (Option Shp)) (i:Nat) (x:Ins):Option (List (Option Shp)):=
 match st.getD i none with
 | none=>none
 | some s=>
   match ZZ x s with
   | none=>none
   | some nx=>
     if x.op=24 then (if i+1=st.length/\s.length=1 then some st else none)
     else if x.op=13 then (if x.n > i then Jh st x.n nx else none)
     else if x.op=14 then (if x.n > i then (Jh st x.n nx).bind (λst'=>Jh st' ((i:Int)+1) nx) else none)
     else Jh st ((i:Int)+1) nx
def Z2U (code:List Ins):Nat->List (Option Shp)->Option (List (Option Shp))
 | 0,st=>some st
 | k+1,st=>(Z2U code k st).bind (λst'=>Jr st' k (code.getD k ⟨0,0⟩))
def Z1y (code:List Ins):Int×Int:=
 if code.length=0\/code.length > 200 then (0,22) else
  match Z2U code code.length ((some []) :: List.replicate (code.length - 1) none) with
  | none=>(0,22)
  | some st=>(((st.getD (code.length - 1) none).getD []).headD 0,0)
theorem Jc {st st':List (Option Shp)} {t:Int} {sh:Shp} (h:Jh st t sh=some st'):st'.length=st.length:=by
 unfold Jh at h;split at h;split at h;split at h;cases h;rfl;cases h;cases h;simp;cases h
end Go.Proofs.YteibicnbkggiiaaGreatDoor
namespace Go.Eng
open Go Go.RowKit Go.Proofs
theorem Row.slvX {α:Type} [Z5 α] {X:List Nat} {w} {base T:Nat} {v:Value} {xs:List α} (h:Row X w base T v xs) (hX:∀ b∈X,b∉ob v):SlV X w v xs:=by
 obtain ⟨css,hl,hr,ho⟩:=h;have hk:∀ c∈css,c.length=Z5.k α:=by
  intro c hc;obtain ⟨i,hi,rfl⟩:=Xv hc;exact Z5.len (hr i (by omega) hi)
 rcases ho.2 with ⟨rfl,hn⟩|⟨q,cap,cur,rfl,hb,hg,bN,bC,aV,ht⟩
 exact ⟨none,0,by rw [hn],by omega,by simp [maxLen],λ_=>rfl,λi hi=>by omega⟩;refine ⟨some ⟨q,0,none⟩,cap,rfl,bN,bC,λh=>by simp at h,λi hi=>?_⟩;refine ⟨q,0,css[i]'(by omega),rfl,(Xm.1 hg).1,λhx=>hX q hx (by simp [ob]),?_,λj u hu=>?_⟩;exact Z5.ext (hr i hi (by omega)) (Stp.refl [] w) (by simp) (λb hb=>.inl (by simp [hb]));have h1:=Z05 css hk i (by omega) j u hu;rw [<- ht,Yav] at h1;split at h1;have h2:cur[i * Z5.k α+j]?=some u:=by simpa using h1
 rw [XK,cell_of_row w q _ cur T (0,0) hg];exact h2;cases h1
end Go.Eng
namespace Go.Proofs.YteibicnbkggiiaaGreatDoor
open Go Go.Eng Go.RowKit
abbrev Z0o (st:List (Option Shp)):List (Sl Int):=st.map (λo=>⟨o.getD []⟩)
abbrev JF (st:List (Option Shp)):List Bool:=st.map Option.isSome
structure Vf (w:World) (bv base:Nat) (cv hv sv:Value) (code:List Ins) (st:List (Option Shp)):Prop where
 blk:Blk w bv 178 [cv,hv,sv]
 cod:SlV (bv :: (ob hv++ob sv)) w cv code
 shp:Row (bv :: ob sv) w base 22 hv (Z0o st)
 seen:Row [] w base 4 sv (JF st)
 nh:bv∉ob hv
 ns:bv∉ob sv
 hi:base<=w.heap.size
 apart:∀ b∈ob hv,b∉ob sv
 len:st.length=code.length
theorem Vf.up {w w':World} {bv base:Nat} {cv hv sv:Value} {code:List Ins} {st:List (Option Shp)} (h:Vf w bv base cv hv sv code st) (hS:Stp [] w w'):Vf w' bv base cv hv sv code st:=
 ⟨h.blk.up hS,h.cod.up hS,h.shp.up hS,h.seen.up hS,h.nh,h.ns,Xk h.hi hS.size,h.apart,h.len⟩
theorem Z3E (bv base:Nat) (cv hv sv uv:Value) (code:List Ins) (st:List (Option Shp)) (t:Int) (s:Shp) (w) (h:Vf w bv base cv hv sv code st) (ht:0<=t) (hs:SlV (bv :: (ob hv++ob sv)) w uv s) :
 CC 155 #[pQ bv,.I t,uv] w λr w'=>Stp (bv :: (ob hv++ob sv)) w w'/\r=.B (Jh st t s).isSome/\∀ st',Jh st t s=some st'->Vf w' bv base cv hv sv code st':=by
 have ab:=h.blk;have lH:=h.cod;have aW:=lH.max;have ai:=h.len;have lI:=h.nh;have cM:=h.ns;have iD:=h.shp.slvX (λb hb=>by
  rcases Xa.1 hb with rfl|hb
  exact lI;exact λcO=>h.apart b cO hb)
 have gu:=h.seen.slv0;have eR:(Z0o st).length=st.length:=by simp [Z0o]
 have dJ:(JF st).length=st.length:=by simp [JF]
 refine cW3 45 Tryz.func155 ?_;refine W ?_;by_cases hlt:t<code.length
 case neg=>
  have hr:Jh st t s=none:=by rw [Jh,if_neg (by omega)]
  refine RT ?_;exact ⟨Stp.refl _ _,by rw [hr];rfl,λst' h=>by rw [hr] at h;cases h⟩
 obtain ⟨k,rfl⟩:∃ k:Nat,t=(k:Int):=⟨t.toNat,by omega⟩
 have hk:k<st.length:=by omega
 have bp:k<(Z0o st).length:=by omega
 have cB:k<(JF st).length:=by omega
 have gF:(JF st)[k]=(st[k]).isSome:=by simp [JF]
 have kE:st.getD ((k:Int)).toNat none=st[k]:=by simp [List.getD,hk]
 cases ar:st[k] with
 | some s0=>
   have ee:(JF st)[k]=true:=by rw [gF,ar];rfl
   have lJ:Jh st (k:Int) s=if s0=s then some st else none:=by
    rw [Jh,if_pos (by omega),kE,ar]
   (refine QP ?_ ?_<;>intro hc)
   obtain ⟨u,am,eE⟩:=iD.sub bp;have oB:(Z0o st)[k].l=s0:=by simp [Z0o,ar]
   apply Za (Jd rfl rfl am) rfl;refine W ?_;refine CM (Zh rfl rfl) (Z4c _ _ _ _ _ (eE.wk (by simp)) (hs.wk (by simp))) ?_;rintro _ w2 ⟨rfl,hS⟩;refine W ?_;refine WR ?_;rw [oB];refine .mk ⟨hS.mn,?_,λst' h'=>?_⟩;rw [lJ];by_cases he:s0=s<;>simp [he];rw [lJ] at h';split at h';cases h';exact h.up hS;cases h';rw [ee] at hc;exact absurd hc (by simp)
 | none=>
   have ee:(JF st)[k]=false:=by rw [gF,ar];rfl
   have lJ:Jh st (k:Int) s=some (st.set k (some s)):=by
    rw [Jh,if_pos (by omega),kE,ar];simp
   (refine QP ?_ ?_<;>intro hc)
   rw [ee] at hc;exact absurd hc (by simp);refine WC_drawn 15 (ob hv++ob sv) [] [(0,0),(1,0),(2,0),(3,1),(4,0),(5,0),(6,0),(7,0),(8,1),(9,0),(10,0),(11,0),(12,2),(13,0),(14,2)] rfl mixed (by kernel_rfl) (by kernel_rfl) (by kernel_rfl) (λw1 ae=>?_);have nb:bv∉ob hv++ob sv:=λhb=>(Xe.1 hb).elim lI cM;replace ab:=ab.up ae;have oG:=gu.up ae;have re:=iD.up ae;have rs:=h.seen.up ae;have rh:=h.shp.up ae;refine D ?_
   try (refine WD_read rfl trivial (λw' aL=>Ji rfl rfl (ab.ext aL nb) rfl) rfl ?_)
   refine D ?_
   try (refine WD_read rfl trivial (λw' aL=>Ji rfl rfl (ab.ext aL nb) rfl) rfl ?_)
   refine D ?_;refine Z1O rfl trivial (Z39 (α:=Bool) (y':=true) (u:=.B true) rfl rfl rfl rfl rs cB) (λ_ _ h=>h.2.mono (by simp_all)) ?_;rintro _ w3 ⟨rs3,az⟩;replace rh:=rh.ext (X':=bv :: ob sv) az (λb hb=>⟨XX _ hb,λcO=>h.apart b cO hb⟩) (λ_ h=>.inl h);have rf:=rh.slvX (λb hb=>by
    rcases Xa.1 hb with rfl|hb
    exact lI;exact λcO=>h.apart b cO hb)
   have cj:Stp (bv :: (ob hv++ob sv)) w w3:=ae.mn.trans (az.mono (λb hb=>by simp [hb]));have eh:=hs.ext cj (λ_ h=>h) (λ_ h=>.inl h);refine D ?_;refine Z1O rfl trivial (Z39 (α:=Sl Int) (y':=⟨s⟩) (u:=uv) rfl rfl rfl ⟨uv,eh.cells,eh.wk (λb hb=>by simp at hb;rcases hb with h|h|h<;>simp [h])⟩ rh bp) (λ_ _ h=>h.2.mono (by simp_all)) ?_;rintro _ w4 ⟨rh4,aF⟩;refine D ?_;refine W ?_;refine WR ?_;have jP:Stp (bv :: (ob hv++ob sv)) w w4:=cj.trans (aF.mono (λb hb=>by simp [hb]));refine .mk ⟨jP,by rw [lJ];rfl,λst' h'=>?_⟩;rw [lJ] at h';cases h';have rs4:=rs3.keep aF (λb hb=>h.apart b hb);refine ⟨(ab.ext az cM).ext aF lI,h.cod.ext jP (λ_ h=>h) (λ_ h=>.inl h),?_,?_,lI,cM,Xk h.hi jP.size,h.apart,by simpa using h.len⟩;have e:Z0o (st.set k (some s))=(Z0o st).set k ⟨s⟩:=by simp [Z0o,List.map_set]
   rw [e];exact rh4;have e:JF (st.set k (some s))=(JF st).set k true:=by simp [JF,List.map_set]
   rw [e];exact rs4
def okS (s:Shp):Prop:=∀ k∈s,k=1\/k=2\/k=3
theorem Zie {s:Shp} (h:okS s) (k:Nat):okS (s.take k):=λa ha=>h a (Yao ha)
theorem ZlA {s t:Shp} (h:okS s) (h':okS t):okS (s++t):=λa ha=>(Xe.1 ha).elim (h a) (h' a)
theorem Zif {op n:Int} (h:¬ (1<=op/\op<=24)):Zk ⟨op,n⟩=([],[],[],false):=by
 have h1:∀ k:Int,1<=k->k<=24->¬ op=k:=λk h1 h2 e=>h (by omega)
 simp only [Zk];rw [if_neg (h1 1 (by decide) (by decide))];rw [if_neg (h1 2 (by decide) (by decide))];rw [if_neg (h1 3 (by decide) (by decide))];rw [if_neg (h1 4 (by decide) (by decide))];rw [if_neg (h1 13 (by decide) (by decide))];rw [if_neg (h1 14 (by decide) (by decide))];rw [if_neg (not_or.2 ⟨h1 5 (by decide) (by decide),(not_or.2 ⟨h1 6 (by decide) (by decide),(h1 7 (by decide) (by decide))⟩)⟩)];rw [if_neg (h1 8 (by decide) (by decide))];rw [if_neg (not_or.2 ⟨h1 9 (by decide) (by decide),(not_or.2 ⟨h1 10 (by decide) (by decide),(h1 11 (by decide) (by decide))⟩)⟩)];rw [if_neg (h1 12 (by decide) (by decide))];rw [if_neg (not_or.2 ⟨h1 15 (by decide) (by decide),(not_or.2 ⟨h1 16 (by decide) (by decide),(not_or.2 ⟨h1 17 (by decide) (by decide),(h1 18 (by decide) (by decide))⟩)⟩)⟩)];rw [if_neg (not_or.2 ⟨h1 19 (by decide) (by decide),(h1 20 (by decide) (by decide))⟩)];rw [if_neg (not_or.2 ⟨h1 21 (by decide) (by decide),(h1 22 (by decide) (by decide))⟩)];rw [if_neg (h1 23 (by decide) (by decide))];rw [if_neg (h1 24 (by decide) (by decide))]
def ZaB (st:List (Option Shp)):Prop:=∀ s,some s∈st->okS s
theorem Zf1 (x:Ins):okS (Zk x).2.2.1:=by
 obtain ⟨op,n⟩:=x;by_cases hr:1<=op/\op<=24;have hn:op=1\/op=2\/op=3\/op=4\/op=5\/op=6\/op=7\/op=8\/op=9\/op=10\/op=11\/op=12\/op=13\/op=14\/op=15\/op=16\/op=17\/op=18\/op=19\/op=20\/op=21\/op=22\/op=23\/op=24:=by omega
 rcases hn with rfl|rfl|rfl|rfl|rfl|rfl|rfl|rfl|rfl|rfl|rfl|rfl|rfl|rfl|rfl|rfl|rfl|rfl|rfl|rfl|rfl|rfl|rfl|rfl
 intro k hk;simp [Zk] at hk;omega;intro k hk;simp [Zk] at hk;omega;intro k hk;simp [Zk] at hk;omega;show okS [if n=0\/n=1 then 3 else 1];intro k hk;simp at hk;subst hk;split<;>simp;intro k hk;simp [Zk] at hk;omega;intro k hk;simp [Zk] at hk;omega;intro k hk;simp [Zk] at hk;omega;intro k hk;simp [Zk] at hk;omega;intro k hk;simp [Zk] at hk;omega;intro k hk;simp [Zk] at hk;omega;intro k hk;simp [Zk] at hk;omega;intro k hk;simp [Zk] at hk;omega;intro k hk;simp [Zk] at hk;intro k hk;simp [Zk] at hk;intro k hk;simp [Zk] at hk;omega;intro k hk;simp [Zk] at hk;omega;intro k hk;simp [Zk] at hk;omega;intro k hk;simp [Zk] at hk;omega;intro k hk;simp [Zk] at hk;omega;intro k hk;simp [Zk] at hk;omega;intro k hk;simp [Zk] at hk;omega;intro k hk;simp [Zk] at hk;omega;intro k hk;simp [Zk] at hk;omega;intro k hk;simp [Zk] at hk;rw [Zif hr];intro k hk;simp at hk
theorem ZlB {x:Ins} {s nx:Shp} (hs:okS s) (h:ZZ x s=some nx):okS nx:=by
 unfold ZZ at h;dsimp only at h;split at h;cases h;exact ZlA (Zie hs _) (Zf1 x);cases h
theorem Z4q {st st':List (Option Shp)} {t:Int} {nx:Shp} (ar:ZaB st) (hn:okS nx) (h:Jh st t nx=some st'):ZaB st':=by
 unfold Jh at h;split at h;split at h;split at h;cases h;exact ar;cases h;cases h;intro s hs;rcases List.mem_or_eq_of_mem_set hs with h|h
 exact ar s h;cases h;exact hn;cases h
theorem ZlC {st st':List (Option Shp)} {i:Nat} {x:Ins} (ar:ZaB st) (h:Jr st i x=some st'):ZaB st'/\st'.length=st.length:=by
 unfold Jr at h;split at h;cases h;rename_i s hs;have bM:okS s:=by
  refine ar s ?_;have hi:i<st.length:=Nat.lt_of_not_le λcK=>by simp [List.getD,Ya0.2 cK] at hs
  have:st.getD i none=st[i]:=by simp [List.getD,hi]
  rw [<- hs,this];exact Xc hi
 split at h;cases h;rename_i nx hn;have cF:=ZlB bM hn;split at h;split at h;cases h;exact ⟨ar,rfl⟩;cases h;split at h;split at h;exact ⟨Z4q ar cF h,Jc h⟩;cases h;split at h;split at h;obtain ⟨s1,h1,h2⟩:=X6.1 h;exact ⟨Z4q (Z4q ar cF h1) cF h2,by rw [Jc h2,Jc h1]⟩;cases h;exact ⟨Z4q ar cF h,Jc h⟩
theorem Z4d {st:List (Option Shp)} {t:Int} {nx:Shp} (h:¬ t<st.length):Jh st t nx=none:=if_neg (λh'=>h h'.2)
theorem Zig {code:List Ins} {st0:List (Option Shp)} (h0:ZaB st0):∀ k st,Z2U code k st0=some st->ZaB st/\st.length=st0.length
 | 0,st,h=>by cases h;exact ⟨h0,rfl⟩
 | k + 1, st, h => by
   obtain ⟨s1,h1,h2⟩:=X6.1 h;obtain ⟨a,b⟩:=Zig h0 k s1 h1;obtain ⟨c,d⟩:=ZlC a h2;exact ⟨c,by omega⟩
theorem Zih (p q:Option Addr) (l m c d:Nat) (w):(Instr.buildSlice 176 2 #[(0,.slice p l c),(1,.slice q m d)]).run Tryz.prog w=.ok (.slice (some ⟨w.heap.size,0,none⟩) 2 2) (w.alloc (.cells #[.slice p l c,.slice q m d] 22)):=by kernel_rfl
theorem Vf.shps {w} {bv base:Nat} {cv hv sv:Value} {code:List Ins} {st:List (Option Shp)} (h:Vf w bv base cv hv sv code st):SlV (bv :: ob sv) w hv (Z0o st):=
 h.shp.slvX (λb hb=>by
  rcases Xa.1 hb with rfl|hb
  exact h.nh;exact λcO=>h.apart b cO hb)
theorem Vf.bounds {w} {bv base:Nat} {cv hv sv:Value} {code:List Ins} {st:List (Option Shp)} (h:Vf w bv base cv hv sv code st):∀ b∈bv :: (ob hv++ob sv),b<w.heap.size:=λb hb=>by
 have:=h.blk.lt;simp only [Xa,Xe] at hb;rcases hb with rfl|hb|hb
 omega;exact (h.shp.ob_le b hb).2;exact (h.seen.ob_le b hb).2
theorem ZlD (x:Ins):(Zk x).1.length<=2/\(Zk x).2.1.length<=2/\(Zk x).2.2.1.length<=1:=by
 obtain ⟨op,n⟩:=x;by_cases hr:1<=op/\op<=24;have hn:op=1\/op=2\/op=3\/op=4\/op=5\/op=6\/op=7\/op=8\/op=9\/op=10\/op=11\/op=12\/op=13\/op=14\/op=15\/op=16\/op=17\/op=18\/op=19\/op=20\/op=21\/op=22\/op=23\/op=24:=by omega
 rcases hn with rfl|rfl|rfl|rfl|rfl|rfl|rfl|rfl|rfl|rfl|rfl|rfl|rfl|rfl|rfl|rfl|rfl|rfl|rfl|rfl|rfl|rfl|rfl|rfl<;>simp [Zk]
 rw [Zif hr];simp
theorem Zii (bv base:Nat) (cv hv sv:Value) (code:List Ins) (st:List (Option Shp)) (i:Nat) (w) (h:Vf w bv base cv hv sv code st) (hi:i<code.length) (hn:code.length<=1000) (fB:∀ s,some s∈st->s.length<=16) :
 CC 102 #[pQ bv,.I (i:Int)] w λr w'=>Stp (bv :: (ob hv++ob sv)) w w'/\r=.B (Jr st i code[i]).isSome/\∀ st',Jr st i code[i]=some st'->Vf w' bv base cv hv sv code st':=by
 have ai:=h.len;have bp:i<(Z0o st).length:=by simp [Z0o];omega
 have cB:i<(JF st).length:=by simp [JF];omega
 have lK:i<st.length:=by omega
 refine cW2 140 Tryz.func102 ?_;refine W ?_;refine ZeT 17 ([w.heap.size]) [] [(0,0),(1,0),(2,0),(3,1),(4,0),(5,0),(6,1),(7,0),(8,0),(9,0),(10,1),(11,0),(12,0),(13,1),(14,2),(15,2),(16,0)] rfl mixed (by kernel_rfl) (by kernel_rfl) (by kernel_rfl) (λw1 ae dw=>?_);replace h:=h.up ae;have fY:=h.bounds;have hX:∀ b∈bv :: (ob hv++ob sv),b∉[w.heap.size]:=λb hb cO=>by
  have:=fY b hb;simp at cO;omega
 obtain ⟨cbl,tB,cC⟩:Blk w1 bv 178 [cv,hv,sv]/\SlV [w.heap.size] w1 cv code/\SlV [w.heap.size] w1 hv (Z0o st):=⟨h.blk,h.cod.ext (Stp.refl [] _) (by simp) (λb hb=>.inr (by simp at hb;omega)),h.shps.ext (Stp.refl [] _) (by simp) (λb hb=>.inr (by simp at hb;omega))⟩
 have nb:bv∉[w.heap.size]:=hX bv (by simp);obtain ⟨u,am,eE⟩:=cC.sub bp;refine D ?_;refine WD_read rfl trivial (λw' aL=>Jd rfl rfl (Z1P cC bp aL am)) rfl ?_;refine D ?_;refine Z9 rfl trivial ZeU (λ_ _ h=>h.2.2.mn) rfl ?_;rintro _ w2 ⟨rfl,ab,ak⟩;rw [dw] at ab ⊢;refine Z1O rfl trivial (Zy (us:=Z2.enc code[i]) rfl rfl rfl rfl (Z2.one _) ab rfl) (λ_ _ h=>h.1) ?_;rintro _ w3 ⟨az,aM⟩;have cj:Stp [] w1 w3:=ak.ow az;replace h:=h.up cj;replace hS:=ae.trans cj;replace tB:=h.cod;replace cbl:=h.blk;replace cC:=h.shps;have dW:=h.seen.slv0;replace fY:=h.bounds;have lL:SlV [w.heap.size] w3 u (Z0o st)[i].l:=eE.ext (ak.mn.trans az) (by simp) (λ_ h=>.inl h);clear ab ae cj ak az eE am;refine D ?_;refine W ?_;refine CM (ZO rfl) (ZcC (w.heap.size :: bv :: (ob hv++ob sv)) code[i] _ (λb hb=>by rcases Xa.1 hb with rfl|hb;exact aM.lt;exact fY b hb)) ?_;rintro _ w4 ⟨va,vb,vc,rfl,sa,sb,sc,aF⟩;have dy:=lL.up aF;replace aM:=aM.up aF;replace h:=h.up aF;replace dW:=dW.up aF;replace hS:=hS.trans aF;replace cbl:=cbl.up aF;clear aF lL;have hM:Jr st i code[i]=Jr st i code[i]:=rfl
 conv at hM=>rhs;unfold Jr ZZ
 have kE:st.getD i none=st[i]:=by simp [List.getD,lK]
 have dL:(Z0o st)[i].l=(st[i]).getD []:=by simp [Z0o]
 have gF:(JF st)[i]=(st[i]).isSome:=by simp [JF]
 rw [kE] at hM;have oH:(Z0o st)[i].l.length<=16:=by
  rw [dL];cases ar:st[i] with
  | none=>simp
  | some s=>exact fB s (by rw [<- ar];exact Xc lK)
 obtain ⟨el1,el2,el3⟩:=ZlD code[i];generalize Zk code[i]=E at *;obtain ⟨ta,al,gi,ok⟩:=E;dsimp only at sa sb sc el1 el2 el3 hM;generalize jQ:(Z0o st)[i].l=s at *;refine W ?_
 refine Z6n (σ:=Bool) (λq=>[(0,pQ bv),(1,.I (i:Int)),(4,.B false),(5,.pointer (some ⟨w.heap.size,0,none⟩)),(6,u),(9,vc),(11,.I ((s.length:Int) - (ta.length:Int))),(75,.B q)])
  (λq w'=>Stp [] w4 w'/\q=! (decide (st[i].isSome=true/\ok=true/\ta.length<=s.length/\(s.drop (s.length - ta.length)=ta\/al≠[]/\s.drop (s.length - ta.length)=al)))) ?_ ?_
 . cases ok with
   | false=>
     refine QO ?_;exact QT true ⟨Stp.refl _ _,by simp⟩
   | true=>
     cases ar:st[i].isSome with
     | false=>
       rw [ar] at gF;repeat'(first|refine W1 ?_|omega|refine VG ?_ ?_<;>intro hg|refine VC ?_ ?_<;>intro hc)
       exact QT true ⟨Stp.refl _ _,by simp⟩;exact QT true ⟨Stp.refl _ _,by simp⟩;exact absurd (show (!(JF st)[i])=false by assumption) (by rw [gF];decide)
     | true=>
       rw [ar] at gF;by_cases hk:ta.length<=s.length
       case neg=>
        (refine QP ?_ ?_<;>intro hg)
        exact absurd (show (!(JF st)[i])=true by assumption) (by rw [gF];decide);exact QT true ⟨Stp.refl _ _,by simp [hk]⟩
       have bY:(s.length:Int) - (ta.length:Int)=((s.length - ta.length:Nat):Int):=by omega
       have sd:SlV [w.heap.size] w4 (slc u (s.length - ta.length) s.length 1) (s.drop (s.length - ta.length)):=by
        have:=dy.slc (l:=s.length - ta.length) (r:=s.length) (by omega) (by omega);rw [Xs] at this;exact this
       (refine QP ?_ ?_<;>intro hg)
       exact absurd (show (!(JF st)[i])=true by assumption) (by rw [gF];decide);refine Z46 rfl dy rfl bY (by omega) rfl ?_;refine W ?_;refine CM (Zh rfl rfl) (Z4c _ _ _ _ _ (sd.wk (by simp)) (sa.wk (by simp))) ?_;rintro _ w5 ⟨rfl,aC⟩;replace sb:=sb.up aC;replace dy:=dy.up aC;replace sd:=sd.up aC;repeat'(first|refine W1 ?_|omega|refine VG ?_ ?_<;>intro hg|refine VC ?_ ?_<;>intro hc)
       have h1:¬ s.drop (s.length - ta.length)=ta:=by assumption
       have h2:(al.length:Int)=0:=by assumption
       have h3:al=[]:=XQ.1 (by omega);exact QT true ⟨aC,by simp [h1,h3]⟩;have h1:¬ s.drop (s.length - ta.length)=ta:=by assumption
       have h2:¬ (al.length:Int)=0:=by assumption
       have h3:al≠[]:=λh=>h2 (by simp [h])
       refine Z46 rfl dy rfl bY (by omega) rfl ?_;refine W ?_;refine CM (Zh rfl rfl) (Z4c _ _ _ _ _ (sd.wk (by simp)) (sb.wk (by simp))) ?_;rintro _ w6 ⟨rfl,cG⟩;refine W ?_;refine QT _ ⟨aC.trans cG,?_⟩;by_cases h4:s.drop (s.length - ta.length)=al<;>simp [h1,h3,h4,hk];have h1:s.drop (s.length - ta.length)=ta:=Classical.not_not.1 (by assumption);exact QT false ⟨aC,by simp [h1,hk]⟩
 rintro q w5 ⟨aC,hq⟩
 try dsimp only at hq ⊢
 replace dy:=dy.up aC;replace sc:=sc.up aC;replace aM:=aM.up aC;replace h:=h.up aC;replace cbl:=cbl.up aC;replace hS:=hS.trans aC;clear aC;by_cases hC:st[i].isSome=true/\ok=true/\ta.length<=s.length/\(s.drop (s.length - ta.length)=ta\/al≠[]/\s.drop (s.length - ta.length)=al)
 case neg=>
  obtain rfl:q=true:=by rw [hq,decide_eq_false hC];rfl
  have ei:Jr st i code[i]=none:=by
   rw [hM];cases ar:st[i] with
   | none=>rfl
   | some s0=>
     obtain rfl:s=s0:=by rw [dL,ar];rfl
     dsimp only;rw [if_neg (λh=>hC ⟨by rw [ar];rfl,h.1,h.2.1,h.2.2.1⟩)]
  refine RT ?_;exact ⟨hS.mn,by rw [ei];rfl,λst' h=>by rw [ei] at h;cases h⟩
 obtain rfl:q=false:=by rw [hq,decide_eq_true hC];rfl
 obtain ⟨lM,aK,hk,tC⟩:=hC;have ar:st[i]=some s:=by
  cases ar:st[i] with
  | none=>rw [ar] at lM;cases lM
  | some s0=>rw [dL,ar];rfl
 rw [ar] at hM;dsimp only at hM;have bY:(s.length:Int) - (ta.length:Int)=((s.length - ta.length:Nat):Int):=by omega
 have sk:SlV [w.heap.size] w5 (slc u 0 (s.length - ta.length) 1) (s.take (s.length - ta.length)):=by
  have:=dy.slc (l:=0) (r:=s.length - ta.length) (by omega) (by omega);rw [Yb0] at this;exact this
 obtain ⟨p2,c2,jh⟩:=sk.len;obtain ⟨p3,c3,rfl⟩:=sc.len;refine W ?_;refine Zc3 rfl dy rfl bY (by omega) rfl ?_;rw [jh] at sk ⊢;refine W ?_;refine Z0 (Z1 (vs:=[(0,.slice p2 (s.take (s.length - ta.length)).length c2),(1,.slice p3 gi.length c3)]) rfl (Zih _ _ _ _ _ _)) rfl ?_;rintro bl w6 hN;have sbl:SlV [] w6 bl [(⟨s.take (s.length - ta.length)⟩:Sl Int),⟨gi⟩]:=hN.slvS (X:=[]) (by simp) rfl rfl (λi hi be=>match i,hi with|0,_=>sk.wk (by simp)|1,_=>sc.wk (by simp)) (by simp [maxLen]);have hT:=Z6.stp hN;clear hN;replace dy:=dy.up hT;replace aM:=aM.up hT;replace h:=h.up hT;replace cbl:=cbl.up hT;replace hS:=hS.trans hT;clear hT;refine CM (ZO rfl) (ZaA _ _ _ sbl (by simp) (by simp;omega)) ?_;rintro rv w7 ac;have oI:[(⟨s.take (s.length - ta.length)⟩:Sl Int),⟨gi⟩].flatMap Sl.l=s.take (s.length - ta.length)++gi:=by simp
 rw [oI] at ac;have aQ:=ac.2;have sr:=ac.slv h.bounds;replace dy:=dy.up aQ;replace aM:=aM.up aQ;replace h:=h.up aQ;replace cbl:=cbl.up aQ;replace hS:=hS.trans aQ;clear aQ ac;by_cases lN:(s.take (s.length - ta.length)++gi).length<=16
 case neg=>
  have ei:Jr st i code[i]=none:=by
   rw [hM,if_neg (λh=>lN h.2.2.2)]
  refine RT ?_;exact ⟨hS.mn,by rw [ei];rfl,λst' h=>by rw [ei] at h;cases h⟩
 rw [if_pos ⟨aK,hk,tC,lN⟩] at hM;dsimp only at hM;generalize s.take (s.length - ta.length)++gi=nx at *;have tD:=h.cod;by_cases cq:code[i].op=24;rw [if_pos cq] at hM
 (refine QP ?_ ?_<;>intro hg)
 refine WR ?_;by_cases eR:s.length=1;have hn:Jr st i code[i]=some st:=by rw [hM,if_pos ⟨by omega,eR⟩]
 exact .mk ⟨hS.mn,by rw [hn];congr 1;exact decide_eq_true (by omega),λst' h'=>by rw [hn] at h';cases h';exact h⟩;have hn:Jr st i code[i]=none:=by rw [hM,if_neg (λh=>eR h.2)]
 exact .mk ⟨hS.mn,by rw [hn];congr 1;exact decide_eq_false (by omega),λst' h'=>by rw [hn] at h';cases h'⟩;refine WR ?_;have hn:Jr st i code[i]=none:=by rw [hM,if_neg (λh=>by omega)]
 exact .mk ⟨hS.mn,by rw [hn];rfl,λst' h=>by rw [hn] at h;cases h⟩;rw [if_neg cq] at hM;by_cases bW:code[i].op=13;rw [if_pos bW] at hM;by_cases iw:code[i].n > (i:Int);rw [if_pos iw] at hM;refine QO ?_;refine CM (ZL rfl rfl rfl) (Z3E bv base cv hv sv _ code st code[i].n nx _ h (by omega) sr) ?_;rintro _ w8 ⟨bZ,rfl,hV⟩;refine W ?_;refine WR ?_;rw [<- hM] at hV;exact .mk ⟨hS.mn.trans bZ,by rw [hM],hV⟩;rw [if_neg iw] at hM;refine RT ?_;exact ⟨hS.mn,by rw [hM];rfl,λst' h=>by rw [hM] at h;cases h⟩;rw [if_neg bW] at hM;by_cases cV:code[i].op=14;rw [if_pos cV] at hM;by_cases iw:code[i].n > (i:Int)
 . rw [if_pos iw] at hM
   refine QO ?_;refine CM (ZL rfl rfl rfl) (Z3E bv base cv hv sv _ code st code[i].n nx _ h (by omega) sr) ?_;rintro _ w8 ⟨bZ,rfl,hV⟩;have sr8:=sr.ext (X':=bv :: (ob hv++ob sv)) bZ (λ_ h=>h) (λ_ h=>.inl h);cases hr:Jh st code[i].n nx with
   | none=>
     rw [hr] at hM;refine RT ?_;exact ⟨hS.mn.trans bZ,by rw [hM];rfl,λst' h=>by rw [hM] at h;cases h⟩
   | some st1=>
     rw [hr] at hM;have h8:=hV st1 hr;refine W ?_;refine CM (ZL rfl rfl rfl) (Z3E bv base cv hv sv _ code st1 ((i:Int)+1) nx _ h8 (by omega) sr8) ?_;rintro _ w9 ⟨fp,rfl,tE⟩;refine RT ?_;exact ⟨(hS.mn.trans bZ).trans fp,by rw [hM];rfl,λst' h=>tE st' (by rw [hM] at h;exact h)⟩
 rw [if_neg iw] at hM;refine RT ?_;exact ⟨hS.mn,by rw [hM];rfl,λst' h=>by rw [hM] at h;cases h⟩;rw [if_neg cV] at hM;refine QO ?_;refine CM (ZL rfl rfl rfl) (Z3E bv base cv hv sv _ code st ((i:Int)+1) nx _ h (by omega) sr) ?_;rintro _ w8 ⟨bZ,rfl,hV⟩;refine W ?_;refine WR ?_;rw [<- hM] at hV;exact .mk ⟨hS.mn.trans bZ,by rw [hM],hV⟩
theorem Ze0 (p q r:Option Addr) (l m k c d f:Nat) (w):(Instr.build 178 #[(0,.slice p l c),(1,.slice q m d),(2,.slice r k f)]).run Tryz.prog w=.ok (.agg #[.slice p l c,.slice q m d,.slice r k f]) w:=by kernel_rfl
theorem Zij {st st':List (Option Shp)} {i:Nat} {x:Ins} (h0:∀ s,some s∈st->s.length<=16) (h:Jr st i x=some st'):∀ s,some s∈st'->s.length<=16:=by
 have hr:∀ {st st':List (Option Shp)} {t:Int} {nx:Shp},(∀ s,some s∈st->s.length<=16)->nx.length<=16->Jh st t nx=some st'->∀ s,some s∈st'->s.length<=16:=by
  intro st st' t nx ar hn h;unfold Jh at h;split at h;split at h;split at h;cases h;exact ar;cases h;cases h;intro s hs;rcases List.mem_or_eq_of_mem_set hs with h|h
  exact ar s h;cases h;exact hn;cases h
 have hn:∀ {s nx:Shp},ZZ x s=some nx->nx.length<=16:=by
  intro s nx h;unfold ZZ at h;dsimp only at h;split at h;rename_i hc;cases h;exact hc.2.2.2;cases h
 unfold Jr at h;split at h;cases h;split at h;cases h;rename_i nx jE;have cF:=hn jE;split at h;split at h;cases h;exact h0;cases h;split at h;split at h;exact hr h0 cF h;cases h;split at h;split at h;obtain ⟨s1,h1,h2⟩:=X6.1 h;exact hr (hr h0 cF h1) cF h2;cases h;exact hr h0 cF h
theorem Z8l {code:List Ins} {st0:List (Option Shp)} {k:Nat} (h:Z2U code k st0=none):∀ m,k<=m->Z2U code m st0=none
 | 0, hm => by
   obtain rfl:k=0:=by omega
   exact h
 | m + 1, hm => by
   by_cases hk:k=m+1;subst hk;exact h;rw [Z2U,Z8l h m (by omega)];rfl
theorem Z6U {code:List Ins} {st0:List (Option Shp)}:∀ {k:Nat} {st:List (Option Shp)},Z2U code k st0=some st->st.length=st0.length
 | 0,st,h=>by cases h;rfl
 | k + 1, st, h => by
   obtain ⟨s1,h1,h2⟩:=X6.1 h;have e1:=Z6U h1;have e2:st.length=s1.length:=by
    unfold Jr at h2;split at h2;cases h2;split at h2;cases h2;split at h2;split at h2;cases h2;rfl;cases h2;split at h2;split at h2;exact Jc h2;cases h2;split at h2;split at h2;obtain ⟨s2,h3,h4⟩:=X6.1 h2;rw [Jc h4,Jc h3];cases h2;exact Jc h2
   omega
theorem Zf2 {st st':List (Option Shp)} {i:Nat} {x:Ins} (hi:i+1=st.length) (h:Jr st i x=some st'):st'=st/\∃ k,st.getD i none=some [k]:=by
 unfold Jr at h;cases hs:st.getD i none with
 | none=>rw [hs] at h;cases h
 | some s=>
   rw [hs] at h;dsimp only at h;split at h;cases h;rename_i nx hn;split at h;split at h;rename_i hc;cases h;obtain ⟨k,hk⟩:=Ybu.1 hc.2;exact ⟨rfl,k,by rw [hk]⟩;cases h;split at h;split at h;rw [Z4d (by omega)] at h;cases h;cases h;split at h;split at h;rw [Z4d (by omega)] at h;cases h;cases h;rw [Z4d (by omega)] at h;cases h
theorem Z6V (v:Value) (code:List Ins) (w) (hs:SlV [] w v code) :
 CC 66 #[v] w λr w'=>r=.tuple #[.I (Z1y code).1,.I (Z1y code).2]/\Stp [] w w':=by
 have aW:=hs.max;obtain ⟨p,c,rfl,-⟩:=id hs;refine cW1 49 Tryz.func66 ?_;refine W ?_;by_cases h0:code.length=0\/code.length > 200
 . have hM:Z1y code=(0,22):=if_pos h0
   repeat'(first|refine W1 ?_|omega|refine VG ?_ ?_<;>intro hg|refine VC ?_ ?_<;>intro hc)
   all_goals
    refine RU ?_;exact ⟨by rw [hM],Stp.refl _ _⟩
 refine QO ?_;have kM:0<code.length:=by omega
 have rg:code.length<=200:=by omega
 refine JG (σ:=Nat×Value×Value) (λq=>[(0,.slice p code.length c),(4,.pointer (some ⟨q.1,0,none⟩))]) (λq w'=>Vf w' q.1 w.heap.size (.slice p code.length c) q.2.1 q.2.2 code (List.replicate code.length none)/\w.heap.size<=q.1/\Stp [] w w') ?_ ?_;refine ZDr 10 [] [] [(0,0),(1,0),(2,0),(4,0),(5,0),(3,9),(6,2),(7,0),(8,2),(9,0)] (λw1 ae=>?_);have dw:=ae.size;refine D ?_;apply Z91;rfl;refine Z0O rfl trivial (Z0R (α:=Sl Int) (k:=code.length) (a0:=⟨[]⟩) rfl rfl (λX w=>⟨_,rfl,Zi _ _⟩) rfl rfl (by simp [maxLen];omega) (by omega)) (λ_ _ h=>h.2) rfl ?_;rintro hv w2 ⟨rh,ak⟩;refine D ?_;refine Z9 rfl trivial (Z0R (α:=Bool) (k:=code.length) (a0:=false) rfl rfl (λX w=>rfl) rfl rfl (by simp [maxLen];omega) (by omega)) (λ_ _ h=>h.2) rfl ?_;rintro sv w3 ⟨rs,az⟩;refine D ?_;obtain ⟨ph,ch,oJ⟩:∃ p c,hv=.slice p code.length c:=by
  have:=((rh []).slv0).len;simpa using this
 obtain ⟨ps,cs,ib⟩:∃ p c,sv=.slice p code.length c:=by
  have:=((rs []).slv0).len;simpa using this
 have hap:∀ b∈ob hv,b∉ob sv:=λb h1 h2=>by
  have:=(rh []).ob_le b h1;have:=(rs []).ob_le b h2;omega
 subst oJ ib;refine Z2Y rfl trivial (vs:=[(0,.slice p code.length c),(1,.slice ph code.length ch),(2,.slice ps code.length cs)]) rfl (Ze0 _ _ _ _ _ _ _ _ _) rfl ?_;refine Z9 rfl trivial (Zn rfl) (λ_ _ h=>h.choose_spec.2.2.2) rfl ?_;rintro _ w4 ⟨bv,rfl,iE,ab,aF⟩;have hS:=(ae.trans ak).trans (az.trans aF);have np:=ak.size;have tF:=az.size;refine D ?_;refine QT (bv,.slice ph code.length ch,.slice ps code.length cs) ⟨?_,by omega,hS⟩;have b1:∀ b∈ob (.slice ph code.length ch),w.heap.size<=b/\b<w3.heap.size:=λb h=>by have:=(rh []).ob_le b h;omega
 have b2:∀ b∈ob (.slice ps code.length cs),w.heap.size<=b/\b<w3.heap.size:=λb h=>by have:=(rs []).ob_le b h;omega
 have e1:Z0o (List.replicate code.length none)=List.replicate code.length ⟨[]⟩:=by simp [Z0o]
 have e2:JF (List.replicate code.length none)=List.replicate code.length false:=by simp [JF]
 refine ⟨ab,hs.ext hS (by simp) (λb hb=>.inr ?_),by rw [e1];exact ((rh _).lower ae.size).up (az.trans aF),by rw [e2];exact ((rs _).lower (Xk ae.size ak.size)).up aF,λh=>by have:=b1 bv h;omega,λh=>by have:=b2 bv h;omega,hS.size,hap,by simp⟩;simp only [Xa,Xe] at hb;rcases hb with rfl|h|h
 omega;exact (b1 b h).1;exact (b2 b h).1;refine Z0O rfl trivial (Z0R (α:=Bool) (k:=code.length) (a0:=false) rfl rfl (λX w=>rfl) rfl rfl (by simp [maxLen];omega) (by omega)) (λ_ _ h=>h.2) rfl ?_;rintro sv w2 ⟨rs,ak⟩;refine Z9 rfl trivial (Z0R (α:=Sl Int) (k:=code.length) (a0:=⟨[]⟩) rfl rfl (λX w=>⟨_,rfl,Zi _ _⟩) rfl rfl (by simp [maxLen];omega) (by omega)) (λ_ _ h=>h.2) rfl ?_;rintro hv w3 ⟨rh,az⟩;refine D ?_;obtain ⟨ph,ch,oJ⟩:∃ p c,hv=.slice p code.length c:=by
  have:=((rh []).slv0).len;simpa using this
 obtain ⟨ps,cs,ib⟩:∃ p c,sv=.slice p code.length c:=by
  have:=((rs []).slv0).len;simpa using this
 have hap:∀ b∈ob hv,b∉ob sv:=λb h1 h2=>by
  have:=(rh []).ob_le b h1;have:=(rs []).ob_le b h2;omega
 subst oJ ib;refine Z2Y rfl trivial (vs:=[(0,.slice p code.length c),(1,.slice ph code.length ch),(2,.slice ps code.length cs)]) rfl (Ze0 _ _ _ _ _ _ _ _ _) rfl ?_;refine Z9 rfl trivial (Zn rfl) (λ_ _ h=>h.choose_spec.2.2.2) rfl ?_;rintro _ w4 ⟨bv,rfl,iE,ab,aF⟩;have hS:=(ae.trans ak).trans (az.trans aF);have np:=ak.size;have tF:=az.size;refine D ?_;refine QT (bv,.slice ph code.length ch,.slice ps code.length cs) ⟨?_,by omega,hS⟩;have b1:∀ b∈ob (.slice ph code.length ch),w.heap.size<=b/\b<w3.heap.size:=λb h=>by have:=(rh []).ob_le b h;omega
 have b2:∀ b∈ob (.slice ps code.length cs),w.heap.size<=b/\b<w3.heap.size:=λb h=>by have:=(rs []).ob_le b h;omega
 have e1:Z0o (List.replicate code.length none)=List.replicate code.length ⟨[]⟩:=by simp [Z0o]
 have e2:JF (List.replicate code.length none)=List.replicate code.length false:=by simp [JF]
 refine ⟨ab,hs.ext hS (by simp) (λb hb=>.inr ?_),by rw [e1];exact ((rh _).lower (Xk ae.size ak.size)).up aF,by rw [e2];exact ((rs _).lower ae.size).up (az.trans aF),λh=>by have:=b1 bv h;omega,λh=>by have:=b2 bv h;omega,hS.size,hap,by simp⟩;simp only [Xa,Xe] at hb;rcases hb with rfl|h|h
 omega;exact (b1 b h).1;exact (b2 b h).1;rintro ⟨bv,hv,sv⟩ w2 ⟨h,iE,hS⟩;dsimp only at h iE ⊢;have ab:=h.blk;have dW:=h.seen.slv0;have cm:(JF (List.replicate code.length none)).length=code.length:=by simp [JF]
 have fw:0<(JF (List.replicate code.length none)).length:=by omega
 refine W ?_;refine Z8 (Z39 (α:=Bool) (y':=true) (u:=.B true) rfl rfl rfl rfl h.seen fw) ?_;rintro _ w3 ⟨rs3,az⟩;have cj:Stp (bv :: (ob hv++ob sv)) w2 w3:=az.mono (λb hb=>by simp [hb]);generalize gG:(some [] :: List.replicate (code.length - 1) none:List (Option Shp))=st0 at *;have dc:st0.length=code.length:=by rw [<- gG];simp;omega
 obtain ⟨m,hm⟩:∃ m,code.length=m+1:=⟨code.length - 1,by omega⟩
 have e1:Z0o st0=Z0o (List.replicate code.length none):=by rw [<- gG,hm];simp [Z0o,Ybj]
 have e2:JF st0=(JF (List.replicate code.length none)).set 0 true:=by rw [<- gG,hm];simp [JF,Ybj]
 have h3:Vf w3 bv w.heap.size (.slice p code.length c) hv sv code st0:=by
  refine ⟨h.blk.ext az h.ns,h.cod.ext cj (λ_ h=>h) (λ_ h=>.inl h),?_,?_,h.nh,h.ns,Xk h.hi az.size,h.apart,dc⟩;rw [e1];exact h.shp.ext (X':=bv :: ob sv) az (λb hb=>⟨XX _ hb,λcO=>h.apart b cO hb⟩) (λ_ h=>.inl h);rw [e2];exact rs3
 have hB:∀ b∈bv :: (ob hv++ob sv),w.heap.size<=b:=λb hb=>by
  simp only [Xa,Xe] at hb;rcases hb with rfl|hb|hb
  exact iE;exact (h.shp.ob_le b hb).1;exact (h.seen.ob_le b hb).1
 have aL:=hS.own cj (λb hb=>.inr (hB b hb));have oK:∀ s,some s∈st0->s.length<=16:=by
  intro s hs;rw [<- gG] at hs;simp at hs;rw [hs];simp
 have ji:Z1y code=match Z2U code code.length st0 with
  | none=>(0,22)
  | some st=>(((st.getD (code.length - 1) none).getD []).headD 0,0):=by
  rw [<- gG];exact if_neg h0
 clear dW ab h e1 e2 az cj rs3 hS;refine W ?_
 refine Zt (σ:=Nat×List (Option Shp)) (λq=>[(0,.slice p code.length c),(4,pQ bv),(29,.I (code.length:Int)),(30,.I (q.1:Int))])
  (λq w'=>q.1<=code.length/\Z2U code q.1 st0=some q.2/\Vf w' bv w.heap.size (.slice p code.length c) hv sv code q.2/\(∀ s,some s∈q.2->s.length<=16)/\Stp [] w w') (λq=>code.length - q.1) (0,st0) ⟨rfl,rfl,rfl,rfl,trivial⟩ ⟨Xu _,rfl,h3,oK,aL⟩ ?_
 rintro ⟨k,st⟩ w4 ⟨hk,aJ,h4,fB,aF⟩
 try dsimp only at hk aJ h4 fB ⊢
 by_cases hlt:k<code.length
 . refine QO ?_
   refine CM (Zh rfl rfl) (Zii bv w.heap.size _ hv sv code st k _ h4 hlt (by omega) fB) ?_;rintro _ w5 ⟨aC,rfl,hV⟩;replace aC:=aF.own aC (λb hb=>.inr (hB b hb));have nq:code.getD k ⟨0,0⟩=code[k]:=by simp [List.getD,hlt]
   have df:Z2U code (k+1) st0=Jr st k code[k]:=by rw [Z2U,aJ,X1,nq]
   cases ar:Jr st k code[k] with
   | none=>
     have hn:Z1y code=(0,22):=by rw [ji,Z8l (df.trans ar) code.length hlt]
     refine RT ?_;exact ⟨by rw [hn],aC⟩
   | some st1=>
     refine W ?_;exact QL (k+1,st1) ⟨hlt,df.trans ar,hV st1 ar,Zij fB ar,aC⟩ (XE hlt (XA k))
 obtain rfl:k=code.length:=by omega
 have tG:=Z6U aJ;have dg:∃ a,st.getD (code.length - 1) none=some [a]:=by
  rw [hm,Z2U] at aJ;obtain ⟨s1,r1,r2⟩:=X6.1 aJ;have eR:=Z6U r1;obtain ⟨rfl,a,ha⟩:=Zf2 (by omega) r2;exact ⟨a,by rw [hm];exact ha⟩
 obtain ⟨a,ha⟩:=dg;have tH:Z1y code=(a,0):=by rw [ji,aJ];dsimp only;rw [ha];rfl
 have ab:=h4.blk;have iD:=h4.shps;have tI:(Z0o st).length=code.length:=by simp [Z0o];omega
 have fI:m<(Z0o st).length:=by omega
 have bY:(code.length:Int) - 1=(m:Int):=by omega
 obtain ⟨u,am,eE⟩:=iD.sub fI;have dE:(Z0o st)[m].l=[a]:=by
  have:st.getD m none=some [a]:=by rw [<- ha,hm];rfl
  have h2:st.getD m none=st[m]'(by omega):=by simp [List.getD,show m<st.length by omega]
  have h5:(Z0o st)[m]=⟨(st[m]'(by omega)).getD []⟩:=by simp [Z0o]
  rw [h5,<- h2,this];rfl
 rw [dE] at eE;refine QO ?_;apply Za (Jd rfl rfl am) rfl;have fX:0 < [a].length:=by simp
 refine RT ?_;exact ⟨by rw [tH];rfl,aF⟩
open Go Go.Eng Go.RowKit Go.Proofs Go.ChangeShapes Go.WideShapes Go.Deep
theorem Zvi:ownKnob Tryz.prog.godebug=none:=by kernel_rfl
theorem ZuE:laidOutB Tryz.prog=true:=by kernel_rfl
section
variable {H:Type} {enc:TypeId×Value->H} {w:World} {base:Nat} {spare:Nat->Bool} {fJ:Bool}
theorem ZuF {r:Reach} {b0:Nat} {v:Value} {d:DataW H} {p:List MemPlace} (hv:Value.okWide Tryz.prog w r b0 3 v) (h:DataW.Trod enc Tryz.prog w base spare fJ 3 v d p):∃ z:Int,v=.I z/\I64 z:=by
 obtain ⟨z,rfl,_,_,hw⟩:=open_int Tryz.underlying3 hv h;exact ⟨z,rfl,by simpa [I64,Lit.wf,IntKind.min,IntKind.max,IntKind.signed,IntKind.bits] using hw⟩
theorem ZrT {r:Reach} {b0:Nat} {v:Value} {d:DataW H} {p:List MemPlace} (hv:Value.okWide Tryz.prog w r b0 22 v) (h:DataW.Trod enc Tryz.prog w base spare fJ 22 v d p) :
 ∃ l:List Int,SlV [] w v l/\(∀ x∈l,I64 x)/\Zln d=l.length:=by
 obtain ⟨fuel,h⟩:=h;obtain ⟨u,l,hu,hs,aK,eU⟩:=Zi4 Tryz.underlying22 (by kernel_rfl) Tryz.underlying3 h;obtain ⟨a,m,c,rfl⟩:=okWide_slice Tryz.underlying22 hv;have jR:Value.slice a m c=u:=by simpa [Value.cells] using hu
 subst jR;exact ⟨l,hs,aK,eU⟩
end
end Go.Proofs.YteibicnbkggiiaaGreatDoor
namespace Go.Eng
open Go Go.RowKit
variable {X:List Nat} {w w':World} {base T:Nat} {v:Value} {zs ys:List Int}
def Zik (w:World) (base T:Nat) (v:Value) (zs:List Int):Prop:=(v=.N/\zs=[])\/∃ g cap cur,v=.slice (some ⟨g,0,none⟩) zs.length cap/\base<=g/\w.heap[g]?=some (.cells cur T (0,0))/\zs.length<=cap/\cap<=maxLen/\cur.size=cap/\cur.toList.take zs.length=zs.map (Value.int .i64)
theorem Row.toI (h:Row X w base T v zs):Zik w base T v zs:=by
 obtain ⟨css,hl,hr,hx,ho⟩:=h;have hc:css=zs.map (λx=>[Value.int .i64 x]):=by
  apply Ya3 (by simpa using hl);intro i h1 h2;have:css[i]=[Value.int .i64 zs[i]]:=hr i (by omega) h1;simp [this]
 rcases ho with ⟨rfl,hn⟩|⟨g,cap,cur,rfl,hb,hg,bN,bC,aV,ht⟩
 exact .inl ⟨rfl,XQ.1 hn⟩
 . refine .inr ⟨g,cap,cur,rfl,hb,hg,bN,bC,by simpa [Z5.k,Z2.k] using aV,?_⟩
   have h2:cur.toList.take (zs.length * 1)=css.flatten:=ht;rw [Ya5] at h2;rw [h2,hc];clear h2 ht hx hr hl hc bN hg aV
   induction zs with
   | nil=>rfl
   | cons a l ih=>simp at ih ⊢;exact ih
theorem Zik.toRow (h:Zik w base T v zs):Row X w base T v zs:=by
 rcases h with ⟨rfl,rfl⟩|⟨g,cap,cur,rfl,hb,hg,bN,bC,aV,ht⟩
 exact Row.nil
 . refine ⟨zs.map (λx=>[Value.int .i64 x]),by simp,λi h1 h2=>by simp;rfl,?_⟩
   have hf:(zs.map (λx=>[Value.int .i64 x])).flatten=zs.map (Value.int .i64):=by
    clear ht bN
    induction zs with
    | nil=>rfl
    | cons a l ih=>simp at ih ⊢;exact ih
   rw [hf];refine ⟨by simp [Z5.k,Z2.k],.inr ⟨g,cap,cur,rfl,hb,hg,bN,bC,by simpa [Z5.k,Z2.k] using aV,by simpa [Z5.k,Z2.k] using ht⟩⟩
theorem Z9m {zs:List Int} (hs:zs.Pairwise (·<=·)):(Lib.compact zs).Pairwise (· < ·)/\∀ y,y∈Lib.compact zs↔y∈zs:=by
 have hd:∀ i j,i<=j->j<zs.length->zs.toArray[i]!<=zs.toArray[j]!:=by
  intro i j bR hj;rcases Nat.lt_or_eq_of_le bR with h|rfl
  have:=XZ.1 hs i j (by omega) hj h;simpa [getElem!_pos,hj,show i<zs.length by omega] using this;exact YaO _
 have key:∀ m,m<=zs.length->(Lib.compactUpTo zs.toArray m).Pairwise (· < ·)/\∀ y,y∈Lib.compactUpTo zs.toArray m↔∃ i,i<m/\y=zs.toArray[i]!:=by
  intro m
  induction m with
  | zero=>intro _;refine ⟨by simp [Lib.compactUpTo],λy=>by simp [Lib.compactUpTo]⟩
  | succ m ih=>
    intro hm;obtain ⟨i1,i2⟩:=ih (by omega);rw [Lib.compactUpTo_succ];by_cases hk:Lib.keeps zs.toArray m=true;rw [if_pos hk];refine ⟨Ybg.2 ⟨i1,List.pairwise_singleton _ _,λa ha b hb=>?_⟩,λy=>?_⟩;obtain ⟨i,hi,rfl⟩:=(i2 a).1 ha;rw [Xn.1 hb];have jS:m=0\/zs.toArray[m]!≠zs.toArray[m - 1]!:=by simpa [Lib.keeps] using hk
    have h1:=hd i (m - 1) (by omega) (by omega);have h2:=hd (m - 1) m (by omega) (by omega);have h3:=jS.resolve_left (by omega);omega;rw [Xe,i2,Xn];constructor;rintro (⟨i,hi,rfl⟩|rfl);exact ⟨i,by omega,rfl⟩;exact ⟨m,by omega,rfl⟩;rintro ⟨i,hi,rfl⟩;by_cases be:i<m;exact .inl ⟨i,be,rfl⟩;exact .inr (by rw [show i=m by omega]);rw [if_neg hk,XG];have jS:¬ (m=0\/zs.toArray[m]!≠zs.toArray[m - 1]!):=by simpa [Lib.keeps] using hk
    have qN:m≠0:=λh=>jS (.inl h);have he:zs.toArray[m]! = zs.toArray[m - 1]!:=Decidable.byContradiction λh=>jS (.inr h);refine ⟨i1,λy=>?_⟩;rw [i2];constructor;rintro ⟨i,hi,rfl⟩;exact ⟨i,by omega,rfl⟩;rintro ⟨i,hi,rfl⟩;by_cases be:i<m;exact ⟨i,be,rfl⟩;exact ⟨m - 1,by omega,by rw [show i=m by omega,he]⟩
 obtain ⟨h1,h2⟩:=key zs.length (Xq _);refine ⟨h1,λy=>?_⟩;show y∈Lib.compactUpTo zs.toArray zs.length↔_;rw [h2];constructor;rintro ⟨i,hi,rfl⟩;simp [getElem!_pos,hi];intro h;obtain ⟨i,hi,rfl⟩:=Xv h;exact ⟨i,hi,by simp [getElem!_pos,hi]⟩
def Z2P (zs:List Int):List Int:=Lib.compact (zs.mergeSort λx y=>decide (x<=y))
theorem Z2B (zs:List Int):(Z2P zs).Pairwise (· < ·)/\∀ y,y∈Z2P zs↔y∈zs:=by
 have hp:(zs.mergeSort λx y=>decide (x<=y)).Pairwise (·<=·):=by
  have:=List.pairwise_mergeSort (le:=λ(x y:Int)=>decide (x<=y)) (λa b c h1 h2=>by simp at *;omega) (λa b=>by simp;omega) zs;exact this.imp (λh=>by simpa using h)
 obtain ⟨h1,h2⟩:=Z9m hp;exact ⟨h1,λy=>by unfold Z2P;rw [h2];exact (List.mergeSort_perm zs _).mem_iff⟩
theorem ZaC {g q:Nat} {cur:Array Value} (os:Array Obj) (h:w.heap[g]?=some (.cells cur T (0,0))) (hl:ys.length<=cur.size) :
 Stp [g] w (Go.Sort.grow (Go.Sort.putRow (Value.int .i64) (Go.Sort.ahead w q) g 0 ys.toArray) os)/\
 ∃ cur',(Go.Sort.grow (Go.Sort.putRow (Value.int .i64) (Go.Sort.ahead w q) g 0 ys.toArray) os).heap[g]?=some (.cells cur' T (0,0))/\cur'.size=cur.size/\cur'.toList.take ys.length=ys.map (Value.int .i64):=by
 have hlt:g<w.heap.size:=(Xm.1 h).1;have hh:(Go.Sort.grow (Go.Sort.putRow (Value.int .i64) (Go.Sort.ahead w q) g 0 ys.toArray) os).heap=w.heap.modify g (Go.Sort.onCells (Go.Sort.putCells (Value.int .i64) 0 ys.toArray))++os:=rfl;refine ⟨⟨rfl,rfl,rfl,by rw [hh];simp,λb hb hn=>?_⟩,Go.Sort.putCells (Value.int .i64) 0 ys.toArray cur,?_,by simp [Go.Sort.putCells],?_⟩;rw [hh,X4 (by simpa using hb),Ya9,if_neg (by simp at hn;exact λe=>hn e.symm)];rw [hh,X4 (by simpa using hlt),Ya9,if_pos rfl,h];rfl;apply Ya3;simp [Go.Sort.putCells];omega;intro i h1 h2;have hi:i<ys.length:=by simpa using h2
 simp [Go.Sort.putCells,hi]
theorem Z8m {g:Nat} {cur:Array Value} (h:w.heap[g]?=some (.cells cur T (0,0))) (ht:cur.toList.take zs.length=zs.map (Value.int .i64)):Go.Sort.Holds (Value.int .i64) w g 0 zs.toArray:=by
 intro j hj;have eB:j<zs.length:=by simpa using hj
 have hc:cur[j]?=some (.I zs[j]):=by
  have h1:(cur.toList.take zs.length)[j]?=some (.I zs[j]):=by rw [ht];simp [eB]
  rw [Yav,if_pos eB] at h1;simpa using h1
 constructor;simp [World.cell?,h,hc,eB];simp [World.frozen?,h]
end Go.Eng
namespace Go.Proofs.YteibicnbkggiiaaGreatDoor
open Go Go.Eng Go.RowKit
theorem ZaD {X:List Nat} {base T:Nat} {v:Value} {zs:List Int} (w) (h:Row X w base T v zs) (br:zs.length<4611686018427387904) :
 CC 317 #[v] w λr w'=>r=.tuple #[]/\Row X w' base T v (zs.mergeSort λx y=>decide (x<=y))/\Stp (ob v) w w':=by
 rcases h.toI with ⟨rfl,rfl⟩|⟨g,cap,cur,rfl,hb,hg,bN,bC,aV,ht⟩
 refine (Tryz.slices_Sort_int_none none 0 w).mono ?_;rintro _ _ ⟨rfl,rfl⟩;exact .mk ⟨rfl,by simpa using Row.nil,Stp.refl _ _⟩;have hlt:g<w.heap.size:=(Xm.1 hg).1;refine (Tryz.slices_Sort_int g 0 cap zs w (Z8m hg ht) hlt br).mono ?_;rintro _ _ ⟨rfl,q,os,rfl⟩;have hl:(zs.mergeSort λx y=>decide (x<=y)).length=zs.length:=Ybx zs;obtain ⟨hS,cur',h1,h2,h3⟩:=ZaC (q:=q) os hg (ys:=zs.mergeSort λx y=>decide (x<=y)) (by omega);refine .mk ⟨rfl,Zik.toRow (.inr ⟨g,cap,cur',by rw [hl],hb,h1,by omega,bC,by omega,h3⟩),hS⟩
theorem Z5P {X:List Nat} {base T:Nat} {v:Value} {zs:List Int} (w) (h:Row X w base T v zs) (br:zs.length<=9223372036854775807) :
 CC 318 #[v] w λr w'=>Row X w' base T r (Lib.compact zs)/\Stp (ob v) w w'/\ob r=ob v:=by
 rcases h.toI with ⟨rfl,rfl⟩|⟨g,cap,cur,rfl,hb,hg,bN,bC,aV,ht⟩
 refine (Tryz.slices_Compact_int_empty none 0 w).mono ?_;rintro _ _ ⟨rfl,rfl⟩;exact .mk ⟨by rw [show Lib.compact ([]:List Int)=[] from rfl];exact Row.nil,Stp.refl _ _,rfl⟩;refine (Tryz.slices_Compact_int g 0 cap zs w (Z8m hg ht) br bN).mono ?_;rintro _ _ ⟨rfl,q,rfl⟩;have cn:(Lib.compact zs).length<=zs.length:=by
  unfold Lib.compact Lib.compactUpTo;rw [XB];exact Xk (X0 _ _) (by simp)
 have e:∀ W:World,W=Go.Sort.grow W #[]:=λW=>by simp [Go.Sort.grow]
 rw [e (Go.Sort.putRow _ _ _ _ _)];obtain ⟨hS,cur',h1,h2,h3⟩:=ZaC (q:=q) #[] hg (ys:=Lib.compact zs++List.replicate (zs.length - (Lib.compact zs).length) 0) (by simp;omega);refine .mk ⟨Zik.toRow (.inr ⟨g,cap,cur',rfl,hb,h1,by omega,bC,by omega,?_⟩),hS,rfl⟩;have h4:=congrArg (List.take (Lib.compact zs).length) h3;rw [YaU,Yap (by simp)] at h4;rw [h4];simp
theorem Z6W (s:Str) (y:Int):((ZK s).2.2=true/\y=(ZK s).1)↔∃ i,i<7/\s=Zd.getD i []/\y=(i:Int):=by
 by_cases h0:s=[100,97,121]
 subst h0;have e:ZK [100,97,121]=(0,3,true):=by decide +kernel
 have u:∀ i,i<7->[100,97,121]=Zd.getD i []->i=0:=by decide +kernel
 rw [e];constructor;rintro ⟨-,rfl⟩;exact ⟨0,by decide,by decide +kernel,rfl⟩;rintro ⟨i,hi,he,rfl⟩;rw [u i hi he];exact ⟨rfl,rfl⟩;by_cases h1:s=[115,101,114,118,101,100]
 subst h1;have e:ZK [115,101,114,118,101,100]=(1,3,true):=by decide +kernel
 have u:∀ i,i<7->[115,101,114,118,101,100]=Zd.getD i []->i=1:=by decide +kernel
 rw [e];constructor;rintro ⟨-,rfl⟩;exact ⟨1,by decide,by decide +kernel,rfl⟩;rintro ⟨i,hi,he,rfl⟩;rw [u i hi he];exact ⟨rfl,rfl⟩;by_cases h2:s=[101,120,116,114,97]
 subst h2;have e:ZK [101,120,116,114,97]=(2,1,true):=by decide +kernel
 have u:∀ i,i<7->[101,120,116,114,97]=Zd.getD i []->i=2:=by decide +kernel
 rw [e];constructor;rintro ⟨-,rfl⟩;exact ⟨2,by decide,by decide +kernel,rfl⟩;rintro ⟨i,hi,he,rfl⟩;rw [u i hi he];exact ⟨rfl,rfl⟩;by_cases h3:s=[98,121]
 subst h3;have e:ZK [98,121]=(3,1,true):=by decide +kernel
 have u:∀ i,i<7->[98,121]=Zd.getD i []->i=3:=by decide +kernel
 rw [e];constructor;rintro ⟨-,rfl⟩;exact ⟨3,by decide,by decide +kernel,rfl⟩;rintro ⟨i,hi,he,rfl⟩;rw [u i hi he];exact ⟨rfl,rfl⟩;by_cases h4:s=[116,111]
 subst h4;have e:ZK [116,111]=(4,1,true):=by decide +kernel
 have u:∀ i,i<7->[116,111]=Zd.getD i []->i=4:=by decide +kernel
 rw [e];constructor;rintro ⟨-,rfl⟩;exact ⟨4,by decide,by decide +kernel,rfl⟩;rintro ⟨i,hi,he,rfl⟩;rw [u i hi he];exact ⟨rfl,rfl⟩;by_cases h5:s=[99,111,117,114,116]
 subst h5;have e:ZK [99,111,117,114,116]=(5,1,true):=by decide +kernel
 have u:∀ i,i<7->[99,111,117,114,116]=Zd.getD i []->i=5:=by decide +kernel
 rw [e];constructor;rintro ⟨-,rfl⟩;exact ⟨5,by decide,by decide +kernel,rfl⟩;rintro ⟨i,hi,he,rfl⟩;rw [u i hi he];exact ⟨rfl,rfl⟩;by_cases h6:s=[97,109,111,117,110,116]
 subst h6;have e:ZK [97,109,111,117,110,116]=(6,1,true):=by decide +kernel
 have u:∀ i,i<7->[97,109,111,117,110,116]=Zd.getD i []->i=6:=by decide +kernel
 rw [e];constructor;rintro ⟨-,rfl⟩;exact ⟨6,by decide,by decide +kernel,rfl⟩;rintro ⟨i,hi,he,rfl⟩;rw [u i hi he];exact ⟨rfl,rfl⟩;constructor;rintro ⟨h,-⟩;exfalso;have hn:Zd.findIdx? (isS s)=none:=Yas.2 λx hx=>by
  simp only [Zd,Xa,Xo,or_false] at hx;rcases hx with rfl|rfl|rfl|rfl|rfl|rfl|rfl<;>simp only [isS,decide_eq_false_iff_not]<;>intro e<;>first|exact (absurd e h0)|exact (absurd e.symm h0)|exact (absurd e h1)|exact (absurd e.symm h1)|exact (absurd e h2)|exact (absurd e.symm h2)|exact (absurd e h3)|exact (absurd e.symm h3)|exact (absurd e h4)|exact (absurd e.symm h4)|exact (absurd e h5)|exact (absurd e.symm h5)|exact (absurd e h6)|exact (absurd e.symm h6)|skip
 simp [ZK,idx,hn] at h
 . rintro ⟨i,hi,he,-⟩
   exfalso
   match i,hi with
   | 0,_=>exact h0 he
   | 1,_=>exact h1 he
   | 2,_=>exact h2 he
   | 3,_=>exact h3 he
   | 4,_=>exact h4 he
   | 5,_=>exact h5 he
   | 6,_=>exact h6 he
theorem Zil (a o:Str) (k n:Int) (s:Str) (p:Option Addr) (l c:Nat) (k' n':Int) (s':Str) (p':Option Addr) (l' c':Nat) (w):(Instr.build 84 #[(0,str a),(2,str o),(3,.agg #[.I k,.I n,str s,.slice p l c]),(4,.agg #[.I k',.I n',str s',.slice p' l' c'])]).run Tryz.prog w=.ok (.agg #[str a,.I 0,str o,.I k,.I n,str s,.slice p l c,.I k',.I n',str s',.slice p' l' c',str [],str []]) w:=by kernel_rfl
theorem Z5e {x y:Nd} (h:Zg x≠0) (hy:y∈x.kids):Zg y≠0:=by
 intro h0;apply h;rw [Z0y];unfold Jl;split;rfl;rw [if_pos (by rw [<- h0];exact YaB hy)]
def Seg (C:List Ins) (p:Nat) (c:List Ins):Prop:=∃ A B,C=A++c++B/\A.length=p
theorem Seg.left {C a b:List Ins} {p:Nat} (h:Seg C p (a++b)):Seg C p a:=by
 obtain ⟨A,B,rfl,hp⟩:=h;exact ⟨A,b++B,by simp,hp⟩
theorem Seg.right {C a b:List Ins} {p:Nat} (h:Seg C p (a++b)):Seg C (p+a.length) b:=by
 obtain ⟨A,B,rfl,hp⟩:=h;exact ⟨A++a,B,by simp,by simp [hp]⟩
theorem Seg.at {C r:List Ins} {x:Ins} {p:Nat} (h:Seg C p (x :: r)):C.getD p ⟨0,0⟩=x:=by
 obtain ⟨A,B,rfl,hp⟩:=h;subst hp;simp
def Z4r (C:List Ins):Nat->Nat->List (Option Shp)->Option (List (Option Shp))
 | _,0,st=>some st
 | p,k+1,st=>(Jr st p (C.getD p ⟨0,0⟩)).bind (Z4r C (p+1) k)
theorem Z0Z (C:List Ins) (b:Nat):∀ (a p:Nat) (st:List (Option Shp)),Z4r C p (a+b) st=(Z4r C p a st).bind (Z4r C (p+a) b)
 | 0,p,st=>by simp [Z4r]
 | a + 1, p, st => by
   rw [show a+1+b=(a+b)+1 by omega,Z4r,Z4r];cases h:Jr st p (C.getD p ⟨0,0⟩) with
   | none=>rfl
   | some st'=>
     simp only [X1];rw [Z0Z C b a (p+1) st',show p+1+a=p+(a+1) by omega]
theorem Z3b (C:List Ins) (p:Nat) (st:List (Option Shp)):Z4r C p 1 st=Jr st p (C.getD p ⟨0,0⟩):=by
 rw [Z4r];cases Jr st p (C.getD p ⟨0,0⟩)<;>rfl
theorem Z8n (C:List Ins) (st:List (Option Shp)):∀ k:Nat,Z2U C k st=Z4r C 0 k st
 | 0=>rfl
 | k + 1 => by
   rw [Z2U,Z0Z,Z8n C st k];cases Z4r C 0 k st with
   | none=>rfl
   | some st'=>simp only [X1,XK];rw [Z3b]
def Z2e (C:List Ins) (p:Nat) (c:List Ins) (s s':Shp):Prop:=
 ∀ st : List (Option Shp), st.length = C.length -> p + c.length < C.length -> st[p]? = some (some s) -> (∀ i, p < i -> i < p + c.length -> st[i]? = some none)->
   (st[p+c.length]?=some none\/st[p+c.length]?=some (some s'))->
   ∃ st',Z4r C p c.length st=some st'/\st'.length=C.length/\st'[p+c.length]?=some (some s')/\∀ i,p+c.length<i->st'[i]?=st[i]?
theorem Z9n {st:List (Option Shp)} {t:Nat} {sh:Shp} (h:t<st.length) (h2:st[t]?=some none\/st[t]?=some (some sh)) :
 ∃ st',Jh st (t:Int) sh=some st'/\st'.length=st.length/\st'[t]?=some (some sh)/\∀ i,i≠t->st'[i]?=st[i]?:=by
 unfold Jh;rw [if_pos (by omega),Ybv,XS];rcases h2 with h2|h2
 rw [h2];exact ⟨_,rfl,by simp,by simp [h],λi hi=>List.getElem?_set_ne (λe=>hi e.symm)⟩;rw [h2];simp only [YaR,if_pos];exact ⟨_,rfl,rfl,h2,λ_ _=>rfl⟩
theorem Z2e.app {C a b:List Ins} {p:Nat} {s s1 s2:Shp} (ha:Z2e C p a s s1) (hb:Z2e C (p+a.length) b s1 s2) (h1:a≠[]) (h2:b≠[]):Z2e C p (a++b) s s2:=by
 intro st hl hlt h0 hn hq;have l1:=Yaf.2 h1;have l2:=Yaf.2 h2;simp only [Xb] at hlt hn hq ⊢;obtain ⟨st1,r1,e1,e2,e3⟩:=ha st hl (by omega) h0 (λi hi bI=>hn i hi (by omega)) (.inl (hn _ (by omega) (by omega)));obtain ⟨st2,r2,g1,g2,g3⟩:=hb st1 e1 (by omega) e2 (λi hi bI=>by rw [e3 i hi];exact hn i (by omega) (by omega)) (by rw [e3 _ (by omega),YaP];exact hq);refine ⟨st2,by rw [Z0Z,r1];exact r2,g1,by rw [<- YaP];exact g2,λi hi=>by rw [g3 i (by omega),e3 i (by omega)]⟩
theorem Z4s {C:List Ins} {p:Nat} {x:Ins} {s s':Shp} (hs:Seg C p [x]) (h1:x.op≠24) (h2:x.op≠13) (h3:x.op≠14) (hx:ZZ x s=some s'):Z2e C p [x] s s':=by
 intro st hl hlt h0 hn hq;simp only [Xf,Xh,XK] at hlt hq ⊢;obtain ⟨st',r1,r2,r3,r4⟩:=Z9n (st:=st) (t:=p+1) (sh:=s') (by omega) hq;refine ⟨st',?_,by omega,r3,λi hi=>r4 i (by omega)⟩;rw [Z3b,hs.at];unfold Jr;rw [XS,h0];simp only [YaR,hx];rw [if_neg h1,if_neg h2,if_neg h3];exact r1
def Z5Q (b:Nat):List Ins->Shp->Option Shp
 | [],s=>some s
 | x :: r, s => match ZZ x s with
   | none=>none
   | some s'=>if s'.length<=b then Z5Q b r s' else none
theorem Z1z {x:Ins} {ts r s:Shp} (h:ZZ x ts=some r) (hl:s.length+r.length<=16):ZZ x (s++ts)=some (s++r):=by
 unfold ZZ at h ⊢;dsimp only at h ⊢;split at h;rename_i hc;obtain ⟨c1,c2,c3,c4⟩:=hc;simp only [Xl] at h;have e1:(s++ts).length - (Zk x).1.length=s.length+(ts.length - (Zk x).1.length):=by rw [Xb];omega
 have e2:(s++ts).drop (s.length+(ts.length - (Zk x).1.length))=ts.drop (ts.length - (Zk x).1.length):=by
  rw [List.drop_append,List.drop_of_length_le (by omega),XW];congr 1;omega
 have e3:(s++ts).take (s.length+(ts.length - (Zk x).1.length))=s++ts.take (ts.length - (Zk x).1.length):=by
  rw [YaQ,XR (by omega),show s.length+(ts.length - (Zk x).1.length) - s.length=ts.length - (Zk x).1.length by omega]
 rw [e1,e2,e3];have e4:s++ts.take (ts.length - (Zk x).1.length)++(Zk x).2.2.1=s++r:=by rw [XI,h]
 rw [e4,if_pos ⟨c1,by rw [Xb];omega,c3,by rw [Xb];omega⟩];cases h
theorem Z8o {C:List Ins} (b:Nat):∀ (L:List Ins) (p:Nat) (s ts r:Shp),L≠[]->Seg C p L->(∀ x∈L,x.op≠24/\x.op≠13/\x.op≠14)->Z5Q b L ts=some r->s.length+b<=16->Z2e C p L (s++ts) (s++r)
 | [],_,_,_,_,h,_,_,_,_=>absurd rfl h
 | [x], p, s, ts, r, _, hs, ho, hf, hb => by
   obtain ⟨o1,o2,o3⟩:=ho x (by simp);unfold Z5Q at hf;cases hx:ZZ x ts with
   | none=>rw [hx] at hf;cases hf
   | some s1=>
     rw [hx] at hf;simp only at hf;split at hf;rename_i hl;simp only [Z5Q,Xl] at hf;subst hf;exact Z4s hs o1 o2 o3 (Z1z hx (by omega));cases hf
 | x :: y :: L, p, s, ts, r, _, hs, ho, hf, hb => by
   obtain ⟨o1,o2,o3⟩:=ho x (by simp);rw [Z5Q] at hf;cases hx:ZZ x ts with
   | none=>rw [hx] at hf;cases hf
   | some s1=>
     rw [hx] at hf;simp only at hf;split at hf;rename_i hl;have bU:Seg C p ([x]++(y :: L)):=hs;exact Z2e.app (a:=[x]) (Z4s bU.left o1 o2 o3 (Z1z hx (by omega))) (Z8o b (y :: L) _ s s1 r (by simp) bU.right (λz hz=>ho z (by simp [hz])) hf hb) (by simp) (by simp);cases hf
theorem Z9o {C Lc Ly Ln:List Ins} {p:Nat} {s s':Shp} (t1 t2:Int)
 (hs:Seg C p (Lc++[⟨14,t1⟩]++Ly++[⟨13,t2⟩]++Ln)) (oL:t1=((p+Lc.length+1+Ly.length+1:Nat):Int)) (jj:t2=((p+Lc.length+1+Ly.length+1+Ln.length:Nat):Int))
 (hc:Z2e C p Lc s (s++[2])) (hy:Z2e C (p+Lc.length+1) Ly s s') (hn:Z2e C (p+Lc.length+1+Ly.length+1) Ln s s') (h1:Lc≠[]) (h2:Ly≠[]) (h3:Ln≠[]) (hl:s.length<=16) (dM:s'.length<=16) :
 Z2e C p (Lc++[⟨14,t1⟩]++Ly++[⟨13,t2⟩]++Ln) s s':=by
 intro st ai hlt h0 aY hq;have l1:=Yaf.2 h1;have l2:=Yaf.2 h2;have l3:=Yaf.2 h3;have dc:(Lc++[(⟨14,t1⟩:Ins)]++Ly++[(⟨13,t2⟩:Ins)]++Ln).length=Lc.length+(1+(Ly.length+(1+Ln.length))):=by simp only [Xb,Xf,Xh];omega
 rw [dc] at hlt aY hq ⊢;have g14:C.getD (p+Lc.length) ⟨0,0⟩=⟨14,t1⟩:=(show Seg C (p+Lc.length) (⟨14,t1⟩ :: (Ly++[⟨13,t2⟩]++Ln)) from (show Seg C p (Lc++(⟨14,t1⟩ :: (Ly++[⟨13,t2⟩]++Ln))) by simpa using hs).right).at;have g13:C.getD (p+Lc.length+1+Ly.length) ⟨0,0⟩=⟨13,t2⟩:=by
  have h:=(show Seg C p ((Lc++[⟨14,t1⟩]++Ly)++(⟨13,t2⟩ :: Ln)) by simpa using hs).right.at;rw [<- h];congr 1;simp only [Xb,Xf,Xh];omega
 obtain ⟨st1,r1,e1,e2,e3⟩:=hc st ai (by omega) h0 (λi hi bI=>aY i hi (by omega)) (.inl (aY _ (by omega) (by omega)));have n14:ZZ ⟨14,t1⟩ (s++[2])=some s:=by
  have:=Z1z (x:=⟨14,t1⟩) (ts:=[2]) (r:=[]) (s:=s) (by simp [ZZ,Zk]) (by simpa using hl);simpa using this
 obtain ⟨st2,q1,q2,q3,q4⟩:=Z9n (st:=st1) (t:=p+Lc.length+1+Ly.length+1) (sh:=s) (by omega) (.inl (by rw [e3 _ (by omega)];exact aY _ (by omega) (by omega)));obtain ⟨st3,u1,u2,u3,u4⟩:=Z9n (st:=st2) (t:=p+Lc.length+1) (sh:=s) (by omega) (.inl (by rw [q4 _ (by omega),e3 _ (by omega)];exact aY _ (by omega) (by omega)));have s14:Z4r C (p+Lc.length) 1 st1=some st3:=by
  rw [Z3b,g14];unfold Jr;rw [XS,e2];simp only [YaR,n14];rw [if_neg (by simp),if_neg (by simp),if_pos trivial,if_pos (by omega),oL,q1];simp only [X1];rw [<- u1];congr 1
 obtain ⟨st4,v1,v2,v3,v4⟩:=hy st3 (by omega) (by omega) u3 (λi hi bI=>by rw [u4 i (by omega),q4 i (by omega),e3 i (by omega)];exact aY i (by omega) (by omega)) (.inl (by rw [u4 _ (by omega),q4 _ (by omega),e3 _ (by omega)];exact aY _ (by omega) (by omega)));have n13:ZZ ⟨13,t2⟩ s'=some s':=by
  simp [ZZ,Zk,dM]
 have lD:st4[p+Lc.length+1+Ly.length+1+Ln.length]?=st[p+(Lc.length+(1+(Ly.length+(1+Ln.length))))]?:=by
  rw [v4 _ (by omega),u4 _ (by omega),q4 _ (by omega),e3 _ (by omega)];congr 1;omega
 obtain ⟨st5,w1,w2,w3,w4⟩:=Z9n (st:=st4) (t:=p+Lc.length+1+Ly.length+1+Ln.length) (sh:=s') (by omega) (by rw [lD];exact hq);have s13:Z4r C (p+Lc.length+1+Ly.length) 1 st4=some st5:=by
  rw [Z3b,g13];unfold Jr;rw [XS,v3];simp only [YaR,n13];rw [if_neg (by simp),if_pos trivial,if_pos (by omega),jj,w1]
 obtain ⟨st6,x1,x2,x3,x4⟩:=hn st5 (by omega) (by omega) (by rw [w4 _ (by omega),v4 _ (by omega),u4 _ (by omega)];exact q3) (λi hi bI=>by rw [w4 i (by omega),v4 i (by omega),u4 i (by omega),q4 i (by omega),e3 i (by omega)];exact aY i (by omega) (by omega)) (.inr w3);refine ⟨st6,?_,x2,?_,λi hi=>by rw [x4 i (by omega),w4 i (by omega),v4 i (by omega),u4 i (by omega),q4 i (by omega),e3 i (by omega)]⟩;rw [Z0Z,r1,X1,Z0Z,s14,X1,Z0Z,v1,X1,Z0Z,s13,X1];exact x1;rw [<- x3];congr 1;omega
theorem ZlE {x:Sig} (h:Z32 x≠0):(x,Value.int .i64 (Z32 x))∈Z28:=by
 have hs:=Zai x;unfold Z32 ZeJ Z0t at *;cases hf:Z28.find? (λp=>decide (p.1=x)) with
 | none=>rw [hf] at h;simp at h
 | some p=>
   have h1:=X9 hf;have h2:=Ybo hf;simp only [decide_eq_true_eq] at h2;rw [hf] at hs;simp only at hs ⊢;exact (congrArg (·∈Z28) (Prod.ext h2 hs:p=(x,_))).mp h1
theorem Zf3 {x:Sig} (h:Z32 x≠0):∃ e∈Z28,x=e.1/\e.2=.I (Z32 x):=⟨_,ZlE h,rfl,rfl⟩
theorem Znc {ts:List Int} (h0:(0:Int)∉ts) (h3:ts.length<=3) (hn:ts≠[]) (h2:ts.getD 2 0=0):(ts.getD 1 0=0/\ts=[ts.getD 0 0])\/(ts.getD 1 0≠0/\ts=[ts.getD 0 0,ts.getD 1 0]):=by
 match ts,h3 with
 | [],_=>exact absurd rfl hn
 | [a],_=>left;exact ⟨rfl,rfl⟩
 | [a,b],_=>right;refine ⟨λhb=>h0 ?_,rfl⟩;simp at hb;simp [hb]
 | [a,b,c],_=>exact absurd (by simp at h2;simp [h2]) h0
theorem Z5R {k n:Int} {s:Str} {ts:List Int} (h:Jl k n s ts≠0) :
 (ts=[]/\Jl k n s ts=Z0x k n s)\/
 ((0:Int)∉ts/\ts.length<=3/\ts≠[]/\((k=9/\ts=[2,Jl k n s ts,Jl k n s ts])\/(k=6/\ts.getD 2 0=0/\Jl k n s ts=Z1v s (ts.getD 0 0) (ts.getD 1 0))\/(Jl k n s ts=Z32 ⟨k,s,ts.getD 0 0,ts.getD 1 0,ts.getD 2 0⟩))):=by
 unfold Jl at h ⊢;split at h;exact absurd rfl h;rename_i h3;split at h;exact absurd rfl h;rename_i h0;rw [if_neg h3,if_neg h0];split at h;rename_i he
 left;exact ⟨he,by rw [if_pos he]⟩;rename_i he
 right;rw [if_neg he];refine ⟨h0,by omega,he,?_⟩;split at h;exact absurd rfl h;rename_i hn;rw [if_neg hn];split at h
 . rename_i h9
   left;rw [if_pos h9];refine ⟨h9.1,?_⟩;obtain ⟨_,_,e2,e3⟩:=h9
   match ts,h3 with
   | [],_=>exact absurd rfl he
   | [a],_=>simp at e2 e3 h
   | [a,b],_=>simp at e2 e3 h;exact absurd e3 h
   | [a,b,c],_=>simp at e2 e3 ⊢;exact ⟨e2,e3.symm⟩
   | a :: b :: c :: d :: r,h3=>simp at h3
 rename_i h9;rw [if_neg h9];split at h;rename_i h6
 right;left;rw [if_pos h6];exact ⟨h6.1,h6.2,rfl⟩;rename_i h6
 right;right;rw [if_neg h6]
theorem ZlF {α:Type} {l:List α} (h:l.length=2):∃ a b,l=[a,b]:=by
 match l,h with
 | [a,b],_=>exact ⟨a,b,rfl⟩
theorem ZlG {α:Type} {l:List α} (h:l.length=3):∃ a b c,l=[a,b,c]:=by
 match l,h with
 | [a,b,c],_=>exact ⟨a,b,c,rfl⟩
theorem ZaE (x:Nd):Zg x≠0->∀ p,Ze x p≠[]:=by
 induction x using Nd.ind with
 | h k n s l ih=>
 intro ht p;have hk:∀ y∈l,Zg y≠0:=λy hy=>Z5e (x:=.mk k n s l) ht hy;rw [Ze];unfold Z1x;have hp:∀ p,l≠[]->Z1w k s (l.map Ze) p≠[]:=by
  intro p hl;unfold Z1w;cases l with
  | nil=>exact absurd rfl hl
  | cons y r=>
    have:=ih y (by simp) (hk y (by simp)) p;simp only [XD,Jm];intro h;simp only [Ybw] at h;exact this h.1.1.1
 split;simp;rename_i hl;have dM:l≠[]:=λh=>hl (by rw [h];rfl)
 split;unfold chC;simp;split;unfold chC;simp;split;unfold chC;simp;split;simp;exact hp p dM
theorem ZaF {C:List Ins}:∀ (l:List Nd),(∀ y∈l,∀ p s,Seg C p (Ze y p)->s.length+Zz y<=16->Z2e C p (Ze y p) s (s++[Zg y]))->(∀ y∈l,∀ p,Ze y p≠[])->
 ∀ p s,l≠[]->Seg C p (Jm (l.map Ze) p)->(∀ y∈l,s.length+(l.length - 1)+Zz y<=16)->Z2e C p (Jm (l.map Ze) p) s (s++l.map Zg)
 | [],_,_,_,_,h,_,_=>absurd rfl h
 | [y], hr, aX, p, s, _, hs, hb => by
   have e:Jm ([y].map Ze) p=Ze y p:=by simp [Jm]
   rw [e] at hs ⊢;exact hr y (by simp) p s hs (by have:=hb y (by simp);simpa using this)
 | y :: z :: l, hr, aX, p, s, _, hs, hb => by
   have e:Jm ((y :: z :: l).map Ze) p=Ze y p++Jm ((z :: l).map Ze) (p+(Ze y p).length):=by simp [Jm]
   rw [e] at hs ⊢;have h1:=hr y (by simp) p s hs.left (by have:=hb y (by simp);omega);have h2:=ZaF (z :: l) (λy hy=>hr y (by simp [hy])) (λy hy=>aX y (by simp [hy])) (p+(Ze y p).length) (s++[Zg y]) (by simp) hs.right (λw hw=>by
    have:=hb w (by simp [hw]);simp only [Xb,Xf,Xh] at this ⊢;omega)
   have h3:Jm ((z :: l).map Ze) (p+(Ze y p).length)≠[]:=by
    simp only [XD,Jm];intro h;simp only [Ybw] at h;exact aX z (by simp) _ h.1
   have:=Z2e.app h1 h2 (aX y (by simp) p) h3;simpa using this
theorem Z1A {C:List Ins} {l:List Nd} {L:List Ins} {p:Nat} {s ts r:Shp} (hr:∀ y∈l,∀ p s,Seg C p (Ze y p)->s.length+Zz y<=16->Z2e C p (Ze y p) s (s++[Zg y])) (aX:∀ y∈l,∀ p,Ze y p≠[])
 (cY:l.map Zg=ts) (hl:l≠[]) (hL:L≠[]) (hs:Seg C p (Jm (l.map Ze) p++L)) (hb:∀ y∈l,s.length+(l.length - 1)+Zz y<=16) (ho:∀ x∈L,x.op≠24/\x.op≠13/\x.op≠14) (hf:Z5Q 2 L ts=some r) (h2:s.length+2<=16) :
 Z2e C p (Jm (l.map Ze) p++L) s (s++r):=by
 have h1:=ZaF l hr aX p s hl hs.left hb;rw [cY] at h1;have h3:Jm (l.map Ze) p≠[]:=by
  cases l with
  | nil=>exact absurd rfl hl
  | cons y l=>
    simp only [XD,Jm];intro h;simp only [Ybw] at h;exact aX y (by simp) _ h.1
 exact Z2e.app h1 (Z8o 2 L _ s ts r hL hs.right ho hf h2) h3 hL
def Z3c (k:Int) (s:Str):List Ins:=(if k=8\/k=5/\s=[45] then [⟨8,0⟩] else [])++Z3P (opF s)
theorem Z2f (k:Int) (s:Str) (cs:List Cf) (p:Nat):Z1w k s cs p=Jm cs p++Z3c k s:=by unfold Z1w Z3c;rw [XI]
def okL (L:List Ins) (ts:List Int) (t:Int):Bool:=decide (L≠[]) && L.all (λx=>decide (x.op≠24/\x.op≠13/\x.op≠14)) && decide (Z5Q 2 L ts=some [t])
theorem Z4t {L:List Ins} {ts:List Int} {t:Int} (h:okL L ts t=true):L≠[]/\(∀ x∈L,x.op≠24/\x.op≠13/\x.op≠14)/\Z5Q 2 L ts=some [t]:=by
 unfold okL at h;simp only [Xd,decide_eq_true_eq,Xx] at h;exact ⟨h.1.1,h.1.2,h.2⟩
def Znd (e:Zcc):Bool:=
 match e.2 with
 | .I t=>decide (e.1.kind≠9) && decide (e.1.kind≠6) && decide (e.1.c=0) && okL (Z3c e.1.kind e.1.s) (if e.1.b=0 then [e.1.a] else [e.1.a,e.1.b]) t
 | _=>false
theorem ZlH:Z28.all Znd=true:=by decide +kernel
theorem Zim:Z0n.all (λs=>okL (Z3c 6 s++(if s=[45] then [⟨6,0⟩] else [])) [1,1] 1 && !decide (s=[97,110,100]) && !decide (s=[111,114]))=true:=by decide +kernel
theorem ZlI:Z1K.all (λs=>okL (Z3c 6 s) [1,1] 2 && okL (Z3c 6 s) [3,3] 2 && !decide (s=[97,110,100]) && !decide (s=[111,114]) && !decide (s=[45]))=true:=by decide +kernel
theorem Zf4 (C:List Ins) (x:Nd):Zg x≠0->∀ p s,Seg C p (Ze x p)->s.length+Zz x<=16->Z2e C p (Ze x p) s (s++[Zg x]):=by
 induction x using Nd.ind with
 | h k n s l ih=>
 intro ht p sh hs hb;have hk:∀ y∈l,Zg y≠0:=λy hy=>Z5e (x:=.mk k n s l) ht hy;have hr:∀ y∈l,∀ p s,Seg C p (Ze y p)->s.length+Zz y<=16->Z2e C p (Ze y p) s (s++[Zg y]):=λy hy=>ih y hy (hk y hy);have aX:∀ y∈l,∀ p,Ze y p≠[]:=λy hy=>ZaE y (hk y hy);have cp:∀ y∈l,Zz y+1<=Zz (.mk k n s l):=λy hy=>by have:=Zan (x:=.mk k n s l) hy;omega
 have hrange:=Z33 (.mk k n s l);have jT:Zg (.mk k n s l)=Jl k n s (l.map Zg):=Z0y _;rw [Ze] at hs ⊢;rw [jT] at ht hrange ⊢;rcases Z5R ht with ⟨he,hc⟩|⟨h0,h3,kM,hc⟩
 ·
   have hl:l=[]:=by simpa using he
   subst hl;unfold Z1x at hs ⊢;rw [if_pos (show (List.map Ze ([]:List Nd)).length=0 from rfl)] at hs ⊢;rw [hc] at ht ⊢;have ai:sh.length+1<=16:=by
    have:1<=Zz (.mk k n s []):=by rw [Z0k];omega
    omega
   refine Z4s hs ?_ ?_ ?_ ?_;unfold Z1e;split<;>(try split)<;>(try split)<;>simp;unfold Z1e;split<;>(try split)<;>(try split)<;>simp;unfold Z1e;split<;>(try split)<;>(try split)<;>simp;have cF:ZZ (Z1e k n s) []=some [Z0x k n s]:=by
    unfold Z0x at ht ⊢;unfold Z1e;by_cases k4:k=4;subst k4;rw [if_pos rfl] at ht ⊢;split at ht
    . rename_i hn
      rw [if_pos hn];have hf:((ZK s).2.1=3/\((ZK s).1=0\/(ZK s).1=1))\/((ZK s).2.1=1/\2<=(ZK s).1/\(ZK s).1<7):=by
       have h1:(ZK s).2.2=true:=by
        cases hb:(ZK s).2.2 with
        | true=>rfl
        | false=>exact absurd (Z57 hb) ht
       obtain ⟨i,hi,dW,_⟩:=(Z6W s (ZK s).1).1 ⟨h1,rfl⟩;subst dW
       match i,hi with
       | 0,_=>decide +kernel
       | 1,_=>decide +kernel
       | 2,_=>decide +kernel
       | 3,_=>decide +kernel
       | 4,_=>decide +kernel
       | 5,_=>decide +kernel
       | 6,_=>decide +kernel
      rw [if_neg (by decide),if_neg (by decide),if_neg (by decide)];rcases hf with ⟨e1,e2⟩|⟨e1,e2,e3⟩
      simp [ZZ,Zk,e1,e2];omega;simp [ZZ,Zk,e1];omega
    exact absurd rfl ht;rw [if_neg k4] at ht ⊢;split at ht;exact absurd rfl ht;rename_i bM;rw [if_neg bM];by_cases k1:k=1;rw [if_pos k1] at ht ⊢;rw [if_pos k1];split at ht;rename_i h;rw [if_pos h];simp [ZZ,Zk];omega;exact absurd rfl ht;rw [if_neg k1] at ht ⊢;rw [if_neg k1];by_cases k2:k=2;rw [if_pos k2] at ht ⊢;rw [if_pos k2];split at ht;rename_i h;rw [if_pos h];simp [ZZ,Zk];omega;exact absurd rfl ht;rw [if_neg k2] at ht ⊢;rw [if_neg k2];by_cases k3:k=3;rw [if_pos k3] at ht ⊢;rw [if_pos k3];split at ht;rename_i h;rw [if_pos h];simp [ZZ,Zk];omega;exact absurd rfl ht;rw [if_neg k3] at ht;exact absurd rfl ht
   have:=Z1z (s:=sh) cF (by simpa using ai);simpa using this
 . have hl:l≠[]:=λh=>kM (by rw [h];rfl)
   have ai:l.length<=3:=by simpa using h3
   have dc:¬ (l.map Ze).length=0:=by simpa using hl
   unfold Z1x at hs ⊢;rw [if_neg dc] at hs ⊢;rcases hc with ⟨h9,cY⟩|⟨h6,tJ,cW⟩|ri
   ·
     rw [if_pos h9] at hs ⊢;generalize Jl k n s (l.map Zg)=t at *;have gz:l.length=3:=by have:=congrArg List.length cY;simpa using this
     obtain ⟨a,b,c,rfl⟩:=ZlG gz;simp only [XD,Yaj,YbY,and_true] at cY;obtain ⟨ta,tb,tc⟩:=cY;simp only [XD,Yaj,YaD,YaE] at hs ⊢;unfold chC at hs ⊢;have na:=cp a (by simp);have nb:=cp b (by simp);have nc:=cp c (by simp);refine Z9o _ _ hs rfl rfl ?_ ?_ ?_ (aX a (by simp) _) (aX b (by simp) _) (aX c (by simp) _) (by omega) (by simp only [Xb,Xf,Xh];omega);rw [<- ta];exact hr a (by simp) p sh (by have:=hs.left.left.left.left;exact this) (by omega);rw [<- tb];have h2:=hs.left.left.right;simp only [Xb,Xf,Xh] at h2;exact hr b (by simp) _ sh h2 (by omega);rw [<- tc];have h2:=hs.right;simp only [Xb,Xf,Xh] at h2;have e:p+((Ze a p).length+(0+1)+(Ze b (p+(Ze a p).length+1)).length+(0+1))=p+(Ze a p).length+1+(Ze b (p+(Ze a p).length+1)).length+1:=by omega
     rw [e] at h2;exact hr c (by simp) _ sh h2 (by omega)
   ·
     subst h6;rw [if_neg (by decide)] at hs ⊢;rcases Znc h0 h3 kM tJ with ⟨dF,cY⟩|⟨dF,cY⟩
     exfalso;apply ht;rw [cW,dF];have lO:(l.map Zg).getD 0 0≠0:=λh=>h0 (by rw [cY,h];simp)
     unfold Z1v;split;rw [if_neg (by omega)];split;rw [if_neg (by omega)];split;rw [if_neg (by omega)];rfl;have dJ:l.length=2:=by have:=congrArg List.length cY;simpa using this
     obtain ⟨a,b,rfl⟩:=ZlF dJ;simp only [XD,Yaj,YaD,YaE] at cW;have na:=cp a (by simp);have nb:=cp b (by simp);have ra:=Z33 a;have iF:∀ y∈[a,b],sh.length+([a,b].length - 1)+Zz y<=16:=λy hy=>by
      have:=cp y hy;simp only [Xf,Xh];omega
     have h2:sh.length+2<=16:=by
      have:1<=Zz a:=by rw [Z0k];omega
      omega
     by_cases hA:s∈Z0n;have aK:=Xx.1 Zim s hA;simp only [Xd,Ybf,decide_eq_false_iff_not] at aK;obtain ⟨⟨aK,jU⟩,dG⟩:=aK;obtain ⟨o1,o2,o3⟩:=Z4t aK;have bK:Zg a=Zg b/\Zg a=1:=by
      unfold Z1v at cW;rw [if_pos hA] at cW;split at cW;assumption;exact absurd cW ht
     have oL:Jl 6 n s ([a,b].map Zg)=1:=by
      show Jl 6 n s [Zg a,Zg b]=1;rw [cW];unfold Z1v;rw [if_pos hA,if_pos bK]
     rw [oL];rw [if_neg (by intro h;exact jU h.2),if_neg (by intro h;exact dG h.2)] at hs ⊢;split at hs;rename_i hm;rw [if_pos hm];rw [Z2f,XI] at hs ⊢;rw [if_pos hm.2] at o1 o2 o3;exact Z1A hr aX (ts:=[1,1]) (by simp [bK.2,<- bK.1]) (by simp) o1 hs iF o2 o3 h2;rename_i hm;rw [if_neg hm];have lf:¬ s=[45]:=λh=>hm ⟨rfl,h⟩;rw [if_neg lf,XG] at o1 o2 o3;rw [Z2f] at hs ⊢;exact Z1A hr aX (ts:=[1,1]) (by simp [bK.2,<- bK.1]) (by simp) o1 hs iF o2 o3 h2;by_cases hC:s∈Z1K;have aK:=Xx.1 ZlI s hC;simp only [Xd,Ybf,decide_eq_false_iff_not] at aK;obtain ⟨⟨⟨⟨oM,oN⟩,jU⟩,dG⟩,tK⟩:=aK;have bK:Zg a=Zg b/\¬ Zg a=2:=by
      unfold Z1v at cW;rw [if_neg hA,if_pos hC] at cW;split at cW;assumption;exact absurd cW ht
     have jj:Jl 6 n s ([a,b].map Zg)=2:=by
      show Jl 6 n s [Zg a,Zg b]=2;rw [cW];unfold Z1v;rw [if_neg hA,if_pos hC,if_pos bK]
     rw [jj];rw [if_neg (by intro h;exact jU h.2),if_neg (by intro h;exact dG h.2),if_neg (by intro h;exact tK h.2),Z2f] at hs ⊢;have ka:=hk a (by simp);have bW:Zg a=1\/Zg a=3:=by omega
     rcases bW with h|h
     obtain ⟨o1,o2,o3⟩:=Z4t oM;exact Z1A hr aX (ts:=[1,1]) (by simp [h,<- bK.1]) (by simp) o1 hs iF o2 o3 h2;obtain ⟨o1,o2,o3⟩:=Z4t oN;exact Z1A hr aX (ts:=[3,3]) (by simp [h,<- bK.1]) (by simp) o1 hs iF o2 o3 h2;have hL:s∈Z0j:=by
      by_cases hL:s∈Z0j;exact hL;exfalso;apply ht;show Jl 6 n s [Zg a,Zg b]=0;rw [cW];unfold Z1v;rw [if_neg hA,if_neg hC,if_neg hL]
     have bK:Zg a=Zg b/\Zg a=2:=by
      unfold Z1v at cW;rw [if_neg hA,if_neg hC,if_pos hL] at cW;split at cW;assumption;exact absurd cW ht
     have jj:Jl 6 n s ([a,b].map Zg)=2:=by
      show Jl 6 n s [Zg a,Zg b]=2;rw [cW];unfold Z1v;rw [if_neg hA,if_neg hC,if_pos hL,if_pos bK]
     rw [jj];have hconst:∀ (z:Int) (q:Nat),(z=0\/z=1)->Seg C q [⟨2,z⟩]->Z2e C q [⟨2,z⟩] sh (sh++[2]):=λz q hz tL=>by
      have cF:ZZ ⟨2,z⟩ []=some [2]:=by simp [ZZ,Zk,hz]
      have:=Z1z (s:=sh) cF (by simp only [Xf,Xh];omega);rw [XG] at this;exact Z4s tL (by simp) (by simp) (by simp) this
     simp only [Z0j,Xa,Xo,or_false] at hL;rcases hL with hL|hL
     rw [if_pos ⟨rfl,hL⟩] at hs ⊢;simp only [XD,Yaj,YaD,YaE] at hs ⊢;unfold chC at hs ⊢;refine Z9o _ _ hs rfl rfl ?_ ?_ ?_ (aX a (by simp) _) (aX b (by simp) _) (by simp) (by omega) (by simp only [Xb,Xf,Xh];omega);have h1:=hr a (by simp) p sh hs.left.left.left.left (by omega);rw [bK.2] at h1;exact h1;have h2:=hs.left.left.right;simp only [Xb,Xf,Xh] at h2;have h1:=hr b (by simp) _ sh h2 (by omega);rw [<- bK.1,bK.2] at h1;exact h1;have h2:=hs.right;simp only [Xb,Xf,Xh] at h2;have e:p+((Ze a p).length+(0+1)+(Ze b (p+(Ze a p).length+1)).length+(0+1))=p+(Ze a p).length+1+(Ze b (p+(Ze a p).length+1)).length+1:=by omega
     rw [e] at h2;exact hconst 0 _ (.inl rfl) h2;have oO:¬ ((6:Int)=6/\s=[97,110,100]):=by rintro ⟨_,h⟩;rw [hL] at h;exact absurd h (by decide)
     rw [if_neg oO,if_pos ⟨rfl,hL⟩] at hs ⊢;simp only [XD,Yaj,YaD,YaE] at hs ⊢;unfold chC at hs ⊢;refine Z9o _ _ hs rfl rfl ?_ ?_ ?_ (aX a (by simp) _) (by simp) (aX b (by simp) _) (by omega) (by simp only [Xb,Xf,Xh];omega);have h1:=hr a (by simp) p sh hs.left.left.left.left (by omega);rw [bK.2] at h1;exact h1;have h2:=hs.left.left.right;simp only [Xb,Xf,Xh] at h2;exact hconst 1 _ (.inr rfl) h2;have h2:=hs.right;simp only [Xb,Xf,Xh] at h2;have e:p+((Ze a p).length+(0+1)+(0+1)+(0+1))=p+(Ze a p).length+1+(0+1)+1:=by omega
     rw [e] at h2;have h1:=hr b (by simp) _ sh h2 (by omega);rw [<- bK.1,bK.2] at h1;exact h1
   ·
     obtain ⟨e,he,gZ,cb⟩:=Zf3 (by rw [<- ri];exact ht);have aK:=Xx.1 ZlH e he;unfold Znd at aK;rw [cb] at aK;simp only [Xd,decide_eq_true_eq] at aK;obtain ⟨⟨⟨k9,k6⟩,gX⟩,jV⟩:=aK;rw [<- gZ] at k9 k6 gX jV;simp only at k9 k6 gX jV;obtain ⟨o1,o2,o3⟩:=Z4t jV;rw [if_neg k9,if_neg (by intro h;exact k6 h.1),if_neg (by intro h;exact k6 h.1),if_neg (by intro h;exact k6 h.1),Z2f] at hs ⊢;rw [ri];have cY:l.map Zg=(if (l.map Zg).getD 1 0=0 then [(l.map Zg).getD 0 0] else [(l.map Zg).getD 0 0,(l.map Zg).getD 1 0]):=by
      rcases Znc h0 h3 kM gX with ⟨h1,h2⟩|⟨h1,h2⟩
      rw [if_pos h1];exact h2;rw [if_neg h1];exact h2
     have dJ:l.length<=2:=by
      have:=congrArg List.length cY;rw [XB] at this;split at this<;>simp only [Xf,Xh] at this<;>omega
     have h2:sh.length+2<=16:=by
      cases l with
      | nil=>exact absurd rfl hl
      | cons y r=>
        have:=cp y (by simp);have:1<=Zz y:=by rw [Z0k];omega
        omega
     exact Z1A hr aX cY hl o1 hs (λy hy=>by have:=cp y hy;omega) o2 o3 h2
theorem Z8p (y:Nd) (ht:Zg y≠0) (hn:Zz y<=12) (hl:(JA y).length<=200):Z1y (JA y)=(Zg y,0):=by
 have aX:=ZaE y ht 0;have aZ:=Yaf.2 aX;unfold JA at hl ⊢;have ai:(Ze y 0++[(⟨24,0⟩:Ins)]).length=(Ze y 0).length+1:=by simp
 have hr:=Zf4 (Ze y 0++[⟨24,0⟩]) y ht 0 [] ⟨[],[⟨24,0⟩],by simp,rfl⟩ (by simp only [Xh];omega);obtain ⟨st,r1,r2,r3,_⟩:=hr ((some []) :: List.replicate ((Ze y 0++[(⟨24,0⟩:Ins)]).length - 1) none) (by simp) (by rw [ai];omega) (by simp) (λi hi bI=>by
  cases i with
  | zero=>omega
  | succ i=>
    rw [Ya2,Ybr,if_pos (by rw [ai];omega)]) (.inl (by
  rw [XK];obtain ⟨m,hm⟩:∃ m,(Ze y 0).length=m+1:=⟨(Ze y 0).length - 1,by omega⟩
  rw [hm,Ya2,Ybr,if_pos (by rw [ai];omega)]))
 rw [XK] at r3;rw [XW] at r3;unfold Z1y;rw [if_neg (by rw [ai] at hl ⊢;omega)];have aJ:Z2U (Ze y 0++[⟨24,0⟩]) (Ze y 0++[(⟨24,0⟩:Ins)]).length ((some []) :: List.replicate ((Ze y 0++[(⟨24,0⟩:Ins)]).length - 1) none)=some st:=by
  rw [Z8n]
  conv=>lhs;arg 3;rw [ai]
  rw [Z0Z,r1,X1,XK,Z3b];have hg:(Ze y 0++[(⟨24,0⟩:Ins)]).getD (Ze y 0).length ⟨0,0⟩=⟨24,0⟩:=by simp
  rw [hg];unfold Jr;rw [XS,r3];have cF:ZZ ⟨24,0⟩ [Zg y]=some [Zg y]:=by simp [ZZ,Zk]
  simp only [YaR,cF];rw [if_pos trivial,if_pos (by constructor<;>simp [r2])]
 rw [aJ];have e:(Ze y 0++[(⟨24,0⟩:Ins)]).length - 1=(Ze y 0).length:=by rw [ai];omega
 simp only [e];rw [XS,r3];rfl
structure Hol where
 kind:Int
 month:Int
 day:Int
 wd:Int
 nth:Int
 off:Int
 move:Int
 first:Int
 last:Int
structure Clo where
 lo:Int
 hi:Int
 known:Int
structure Cal where
 week:List Bool
 hols:List Hol
 clos:List Clo
def Zp (d:Int):Bool:=decide (0<=d/\d<=3652058)
def Z2Q (y:Int):Int:=
 let a:=y % 19
 let b:=y / 100
 let c:=y % 100
 let g:=(b - (b+8) / 25+1) / 3
 let h:=(19 * a+b - b / 4 - g+15) % 30
 let l:=(32+2 * (b % 4)+2 * (c / 4) - h - c % 4) % 7
 h+l - 7 * ((a+11 * h+22 * l) / 451)+114
def Z4u (y:Int):Int:=Z07 y (Z2Q y / 31) (Z2Q y % 31+1)
def Z3d (y m wd:Int):Int:=Z07 y m 1+(wd - Z07 y m 1 % 7+7) % 7
def ZlJ (h:Hol) (y:Int):Option Int:=
 if y<h.first\/h.last<y then none
 else if h.kind=1 then (if Z1N y h.month h.day then none else some (Z07 y h.month h.day))
 else if h.kind=2 then (if Z3d y h.month h.wd+7 * (h.nth - 1)<Z07 y h.month 1+ZG y h.month then some (Z3d y h.month h.wd+7 * (h.nth - 1)) else none)
 else if h.kind=3 then some (Z3d y h.month h.wd+(Z07 y h.month 1+ZG y h.month - 1 - Z3d y h.month h.wd) / 7 * 7)
 else if y<1583\/9999<y then none else some (Z4u y+h.off)
def Z3e (m d:Int):Int:=if m=1/\d % 7=5 then d+2 else if m=2/\d % 7=5 then d - 1 else if (m=1\/m=2)/\d % 7=6 then d+1 else d
def Z1S (h:Hol) (y:Int):Option Int:=(ZlJ h y).bind λd=>if Zp (Z3e h.move d) then some (Z3e h.move d) else none
structure Z3f (h:Hol):Prop where
 k1:1<=h.kind
 k2:h.kind<=4
 m1:0<=h.move
 m2:h.move<=2
 f1:1<=h.first
 l1:h.last<=9999
 month:h.kind≠4->1<=h.month/\h.month<=12
 day:h.kind=1->1<=h.day/\h.day<=31
 wd:h.kind=2\/h.kind=3->0<=h.wd/\h.wd<=6
 nth:h.kind=2->1<=h.nth/\h.nth<=5
 off:h.kind=4->-100<=h.off/\h.off<=100
def Z6X (l:List Hol) (d:Int):Bool:=
 Zp d && [(ofM d).y - 1,(ofM d).y,(ofM d).y+1].any λy=>l.any λh=>decide (Z1S h y=some d)
def ZaG (l:List Clo) (known d:Int):Bool:=l.any λx=>decide (x.known<=known/\x.lo<=d/\d<=x.hi)
def Ze1 (c:Cal) (known d:Int):Bool:=c.week.getD (d % 7).toNat false || ZaG c.clos known d || Z6X c.hols d
def Zr (c:Cal) (known d:Int):Bool:=Zp d && !Ze1 c known d
structure Zin (c:Cal):Prop where
 week:c.week.length=7
 hols:∀ h∈c.hols,Z3f h
 few:c.hols.length<=6
def Z3g (opn:Int->Bool) (step:Int):Nat->Int->Int×Int
 | 0,_=>(0,31)
 | k+1,d=>if Zp d=true then (if opn d=true then (d,0) else Z3g opn step k (d+step)) else (0,31)
def J6 (opn:Int->Bool) (step d:Int):Int×Int:=if Zp d=true then Z3g opn step 1001 d else (0,5)
def Z5f (opn:Int->Bool) (step:Int):Nat->Int->Int×Int
 | 0,d=>(d,0)
 | k+1,d=>if (J6 opn step (d+step)).2=0 then Z5f opn step k (J6 opn step (d+step)).1 else (0,31)
def Z5g (opn:Int->Bool) (d n:Int):Int×Int:=
 if Zp d=true then (if n < -1000\/1000<n then (0,2) else Z5f opn (if n<0 then -1 else 1) n.natAbs d) else (0,5)
def ZaH (d n:Int):Int×Int:=
 if n < -200000\/200000<n then (0,2) else if Zp d=true then
  (let m:=12 * (ofM d).y+(ofM d).m - 1+n
   if m<12\/120000<=m then (0,5) else (Z07 (m / 12) (m % 12+1) (min (ofM d).d (ZG (m / 12) (m % 12+1))),0))
 else (0,5)
def Z3h (b:Bool):Int:=if b=true then 1 else 0
def Z3R (n:Int):Int×Int:=if n < -2147483647\/2147483647<n then (0,5) else (n,0)
def ZaI (n:Int):Int×Int:=if n<0\/3652058<n then (0,5) else (n,0)
def ZcD (ev:List Int) (n:Int):Int×Int:=if n=1/\ev.getD 1 0=-1 then (0,32) else (ev.getD n.toNat 0,0)
def ZaJ (opn:Int->Bool) (op b:Int):Int×Int:=
 if op=8 then (-b,0) else if op=19 then J6 opn 1 b else if op=20 then J6 opn (-1) b else (1 - b,0)
def Z3i (opn:Int->Bool) (op a b:Int):Int×Int:=
 if op=5 then Z3R (a+b) else if op=6 then Z3R (a - b) else if op=7 then Z3R (a * b)
 else if op=9 then (Z3h (decide (a<b)),0) else if op=10 then (Z3h (decide (a<=b)),0) else if op=11 then (Z3h (decide (a=b)),0)
 else if op=15 then ZaI (a+b) else if op=16 then ZaI (a+7 * b) else if op=17 then ZaH a b else if op=18 then Z5g opn a b
 else if op=21 then (max a b,0) else if op=22 then (min a b,0) else (b - a,0)
def arM (op:Int):Nat:=if op=1\/op=2\/op=3\/op=4 then 0 else if op=8\/op=12\/op=19\/op=20 then 1 else 2
def JT (opn:Int->Bool) (ev:List Int) (x:Ins) (a b:Int):Int×Int:=
 if x.op=4 then ZcD ev x.n else if arM x.op=0 then (x.n,0) else if arM x.op=1 then ZaJ opn x.op b else Z3i opn x.op a b
abbrev Spn:=Int×Int
def JK (op a b r:Int):List Spn:=
 if op=19 then [(b,r)] else if op=20 then [(r,b)] else if op=18 then (if 0<b then [(a+1,r)] else if b<0 then [(r,a - 1)] else []) else []
def JN (st:List Int) (k:Nat):Int:=if k<st.length then st.getD (st.length - 1 - k) 0 else 0
def Z6a (opn:Int->Bool) (ev:List Int) (C:List Ins):Nat->Nat->List Int->List Spn->Int×List Spn×Int
 | 0,_,_,_=>(0,[],22)
 | f + 1, i, st, sp=>
   let x:=C.getD i ⟨0,0⟩
   let b:=JN st 0
   let a:=JN st 1
   if x.op=24 then (b,sp,0)
   else if x.op=13 then Z6a opn ev C f x.n.toNat st sp
   else if x.op=14 then Z6a opn ev C f (if b=0 then x.n.toNat else i+1) st.dropLast sp
   else if (JT opn ev x a b).2=0 then Z6a opn ev C f (i+1) (st.take (st.length - arM x.op)++[(JT opn ev x a b).1]) (sp++JK x.op a b (JT opn ev x a b).1)
   else (0,[],(JT opn ev x a b).2)
def Js (opn:Int->Bool) (ev:List Int) (C:List Ins):Int×List Spn×Int:=Z6a opn ev C C.length 0 [] []
def vOk (t v:Int):Prop:=(t=1/\-2147483647<=v/\v<=2147483647)\/(t=2/\(v=0\/v=1))\/(t=3/\0<=v/\v<=3652058)
structure ZcE (ev:List Int):Prop where
 len:ev.length=7
 day:0<=ev.getD 0 0/\ev.getD 0 0<=3652058
 served:-1<=ev.getD 1 0/\ev.getD 1 0<=3652058
 rest:∀ i,2<=i->i<7->-2147483647<=ev.getD i 0/\ev.getD i 0<=2147483647
def Z00 (s:Shp) (st:List Int):Prop:=s.length=st.length/\∀ i (h:i<s.length) (h':i<st.length),vOk s[i] st[i]
theorem ZC {d:Int}:Zp d=true↔0<=d/\d<=3652058:=by unfold Zp;simp
theorem ZaK (opn:Int->Bool) (step:Int):∀ (k:Nat) (d:Int),(Z3g opn step k d).2=0->Zp (Z3g opn step k d).1=true/\opn (Z3g opn step k d).1=true
 | 0,d,h=>by simp [Z3g] at h
 | k + 1, d, h => by
   unfold Z3g at h ⊢;split at h;rename_i h1;rw [if_pos h1];split at h;rename_i h2;rw [if_pos h2];exact ⟨h1,h2⟩;rename_i h2;rw [if_neg h2];exact ZaK opn step k _ h;simp at h
theorem Z3j {opn:Int->Bool} {step d:Int} (h:(J6 opn step d).2=0):Zp (J6 opn step d).1=true/\Zp d=true:=by
 unfold J6 at h ⊢;split at h;rename_i h1;rw [if_pos h1];exact ⟨(ZaK _ _ _ _ h).1,h1⟩;simp at h
theorem Ze2 (opn:Int->Bool) (step:Int):∀ (k:Nat) (d:Int),Zp d=true->(Z5f opn step k d).2=0->Zp (Z5f opn step k d).1=true
 | 0,d,hd,h=>hd
 | k + 1, d, hd, h => by
   unfold Z5f at h ⊢;split at h;rename_i h1;rw [if_pos h1];exact Ze2 opn step k _ (Z3j h1).1 h;simp at h
theorem ZlK {opn:Int->Bool} {d n:Int} (h:(Z5g opn d n).2=0):Zp (Z5g opn d n).1=true:=by
 unfold Z5g at h ⊢;split at h;rename_i h1;rw [if_pos h1];split at h;simp at h;rename_i h2;rw [if_neg h2];exact Ze2 _ _ _ _ h1 h;simp at h
theorem Z1B {y m d:Int} (hy:1<=y) (dO:y<=9999) (hm:1<=m) (ec:m<=12) (hd:1<=d) (jf:d<=ZG y m):0<=Z07 y m d/\Z07 y m d<=3652058:=by
 obtain ⟨k,hk⟩:∃ k:Nat,m=(k:Int)+1:=⟨(m - 1).toNat,by omega⟩
 subst hk;have hk:k<=11:=by omega
 rw [Z2a y d k hk];have h0:Z0A 1=0:=by decide
 have h1:=Z38 hy;have h2:=Z38 (show y+1<=10000 by omega);have h3:Z0A 10000=3652059:=by decide
 have gX:0<=Z1M y k:=by
  have:=Z3C (y:=y) (Xu k) (by omega);simpa [Z1M] using this
 have hc:Z1M y (k+1)=Z1M y k+ZG y ((k:Int)+1):=by simp [Z1M]
 have tM:=Z3C (y:=y) (show k+1<=12 by omega) (Xq _);have hs:=Z5N y;have iC:=ZuA y;omega
theorem ZlL {d n:Int} (h:(ZaH d n).2=0):Zp (ZaH d n).1=true:=by
 unfold ZaH at h ⊢;split at h;simp at h;rename_i h0;rw [if_neg h0];split at h;rename_i h1;rw [if_pos h1];dsimp only at h ⊢;split at h;simp at h;rename_i h2;rw [if_neg h2];rw [ZC] at h1 ⊢;obtain ⟨a1,a2,a3,a4,a5,a6,a7⟩:=Z9f h1.1 h1.2;generalize 12 * (ofM d).y+(ofM d).m - 1+n=m at h2;have hk:(m % 12).toNat<12:=by omega
 have hl:=Z1Q (y:=m / 12) hk;rw [show (((m % 12).toNat:Int))=m % 12 by omega] at hl;dsimp only;exact Z1B (by omega) (by omega) (by omega) (by omega) (by omega) (by omega);simp at h
theorem Z00.nil:Z00 [] []:=⟨rfl,λi h=>absurd h (Xy _)⟩
theorem Z00.one {t v:Int} (h:vOk t v):Z00 [t] [v]:=⟨rfl,λi hi _=>by
 have:i=0:=by simpa using hi
 subst this;exact h⟩
theorem Z00.app {s1 s2:Shp} {l1 l2:List Int} (h1:Z00 s1 l1) (h2:Z00 s2 l2):Z00 (s1++s2) (l1++l2):=by
 refine ⟨by simp [h1.1,h2.1],λi h h'=>?_⟩;by_cases hi:i<s1.length;rw [Yal hi,Yal (by rw [<- h1.1];exact hi)];exact h1.2 i hi _;have e:=h1.1;rw [Yar (by omega),Yar (by omega)];have:=h2.2 (i - s1.length) (by simp at h;omega) (by simp at h';omega);simpa [e] using this
theorem Z00.take {s:Shp} {l:List Int} (h:Z00 s l) (k:Nat):Z00 (s.take k) (l.take k):=
 ⟨by simp [h.1],λi hi be=>by simp at hi be ⊢;exact h.2 i _ _⟩
theorem Z00.drop {s:Shp} {l:List Int} (h:Z00 s l) (k:Nat):Z00 (s.drop k) (l.drop k):=
 ⟨by simp [h.1],λi hi be=>by simp at hi be ⊢;exact h.2 _ _ _⟩
theorem Z00.one_inv {t:Int} {l:List Int} (h:Z00 [t] l):∃ v,l=[v]/\vOk t v:=by
 match l,h with
 | [v],h=>exact ⟨v,rfl,h.2 0 (by simp) (by simp)⟩
 | [],h=>exact absurd h.1 (by simp)
 | _ :: _ :: _,h=>exact absurd h.1 (by simp)
theorem Z00.two_inv {t u:Int} {l:List Int} (h:Z00 [t,u] l):∃ a b,l=[a,b]/\vOk t a/\vOk u b:=by
 match l,h with
 | [a,b],h=>exact ⟨a,b,rfl,h.2 0 (by simp) (by simp),h.2 1 (by simp) (by simp)⟩
 | [],h=>exact absurd h.1 (by simp)
 | [_],h=>exact absurd h.1 (by simp)
 | _ :: _ :: _ :: _,h=>exact absurd h.1 (by simp)
theorem Z1p (l:List Int) (v:Int):JN (l++[v]) 0=v:=by
 unfold JN;simp
theorem J3 (l:List Int) (a b:Int):JN (l++[a,b]) 0=b/\JN (l++[a,b]) 1=a:=by
 unfold JN;constructor<;>simp [XS,YaT]
theorem ZlM {n:Int} (h:(Z3R n).2=0):vOk 1 (Z3R n).1:=by
 unfold Z3R at h ⊢;split at h;simp at h;rename_i h1;rw [if_neg h1];left;refine ⟨rfl,?_,?_⟩<;>dsimp only<;>omega
theorem ZlN {n:Int} (h:(ZaI n).2=0):vOk 3 (ZaI n).1:=by
 unfold ZaI at h ⊢;split at h;simp at h;rename_i h1;rw [if_neg h1];right;right;refine ⟨rfl,?_,?_⟩<;>dsimp only<;>omega
theorem Zra (b:Bool):vOk 2 (Z3h b):=by
 right;left;refine ⟨rfl,?_⟩;unfold Z3h;cases b<;>simp
theorem vOk.days {v:Int} (h:Zp v=true):vOk 3 v:=.inr (.inr ⟨rfl,ZC.1 h⟩)
theorem vOk.n {v:Int} (h:vOk 1 v):-2147483647<=v/\v<=2147483647:=by unfold vOk at h;omega
theorem vOk.b {v:Int} (h:vOk 2 v):v=0\/v=1:=by unfold vOk at h;omega
theorem vOk.d {v:Int} (h:vOk 3 v):0<=v/\v<=3652058:=by unfold vOk at h;omega
theorem Z6Y {x:Ins} (h:(Zk x).2.2.2=true):1<=x.op/\x.op<=24:=by
 by_cases h1:1<=x.op/\x.op<=24;exact h1
 . exfalso
   have:Zk x=([],[],[],false):=by
    unfold Zk
    repeat rw [if_neg (by omega)]
   rw [this] at h;simp at h
theorem Zrb {opn:Int->Bool} {ev:List Int} (cb:ZcE ev) {x:Ins} {ts vs:List Int} (hx:(Zk x).2.2.2=true) (cq:x.op≠24) (bW:x.op≠13) (cV:x.op≠14)
 (ht:ts=(Zk x).1\/(Zk x).2.1≠[]/\ts=(Zk x).2.1) (hs:Z00 ts vs) :
 ts.length=arM x.op/\(Zk x).1.length=arM x.op/\∀ st,((JT opn ev x (JN (st++vs) 1) (JN (st++vs) 0)).2=0->Z00 (Zk x).2.2.1 [(JT opn ev x (JN (st++vs) 1) (JN (st++vs) 0)).1]):=by
 have hr:=Z6Y hx;obtain ⟨op,n⟩:=x;dsimp only at *;have fW:op=1\/op=2\/op=3\/op=4\/op=5\/op=6\/op=7\/op=8\/op=9\/op=10\/op=11\/op=12\/op=15\/op=16\/op=17\/op=18\/op=19\/op=20\/op=21\/op=22\/op=23:=by omega
 rcases fW with rfl|rfl|rfl|rfl|rfl|rfl|rfl|rfl|rfl|rfl|rfl|rfl|rfl|rfl|rfl|rfl|rfl|rfl|rfl|rfl|rfl
 case inl|inr.inl|inr.inr.inl=>
  simp [Zk] at hx ht ⊢;subst ht;refine ⟨rfl,rfl,λst _=>Z00.one ?_⟩;simp [JT,arM,vOk];omega
 case inr.inr.inr.inl=>
  simp [Zk] at hx ht ⊢;subst ht;refine ⟨rfl,rfl,λst h=>Z00.one ?_⟩;simp only [JT,if_true] at h ⊢;unfold ZcD at h ⊢;split at h;simp at h;rename_i h1;rw [if_neg h1];dsimp only;have h0:=cb.day;have bU:=cb.served;by_cases fX:n=0\/n=1;rw [if_pos fX]
  right;right;rcases fX with rfl|rfl
  exact ⟨rfl,h0.1,h0.2⟩;refine ⟨rfl,?_,bU.2⟩;have:¬ ev.getD 1 0=-1:=λh=>h1 ⟨rfl,h⟩;show 0<=ev.getD 1 0;omega;rw [if_neg fX]
  left;exact ⟨rfl,cb.rest n.toNat (by omega) (by omega)⟩
 all_goals
  simp [Zk] at hx ht ⊢
  try subst hx
 all_goals
  first
  | (subst ht
     obtain ⟨b,rfl,hb⟩:=hs.one_inv;refine ⟨rfl,rfl,λst h=>Z00.one ?_⟩;simp only [Z1p] at h ⊢;simp [JT,arM,ZaJ,Z3i] at h ⊢;first
     | exact .days (Z3j h).1
     | (have:=hb.n;unfold vOk;omega)
     | (have:=hb.b;unfold vOk;omega))
  | (rcases ht with rfl | rfl <;>
     (obtain ⟨a,b,rfl,ha,hb⟩:=hs.two_inv
      refine ⟨rfl,rfl,λst h=>Z00.one ?_⟩;simp only [J3] at h ⊢;simp [JT,arM,ZaJ,Z3i] at h ⊢;exact Zra _))
  | (subst ht
     obtain ⟨a,b,rfl,ha,hb⟩:=hs.two_inv;refine ⟨rfl,rfl,λst h=>Z00.one ?_⟩;simp only [J3] at h ⊢;simp [JT,arM,ZaJ,Z3i] at h ⊢;first
     | exact ZlM h
     | exact ZlN h
     | exact .days (ZlL h)
     | exact .days (ZlK h)
     | (have:=ha.d;have:=hb.d;unfold vOk;omega))
theorem ZaL {opn:Int->Bool} {ev:List Int} (cb:ZcE ev) {x:Ins} {s nx:Shp} {st:List Int} (hn:ZZ x s=some nx) (cq:x.op≠24) (bW:x.op≠13) (cV:x.op≠14) (hs:Z00 s st)
 (he:(JT opn ev x (JN st 1) (JN st 0)).2=0):Z00 nx (st.take (st.length - arM x.op)++[(JT opn ev x (JN st 1) (JN st 0)).1]):=by
 unfold ZZ at hn;dsimp only at hn;split at hn;rename_i hc;obtain ⟨c1,c2,c3,c4⟩:=hc;simp only [Xl] at hn;subst hn;have cC:st=st.take (s.length - (Zk x).1.length)++st.drop (s.length - (Zk x).1.length):=(XN _ _).symm;obtain ⟨v1,v2,v3⟩:=Zrb (opn:=opn) cb c1 cq bW cV c3 (hs.drop _);have v4:=v3 (st.take (s.length - (Zk x).1.length));rw [<- cC] at v4;rw [<- v2,<- hs.1];exact (hs.take _).app (v4 he);cases hn
end Go.Proofs.YteibicnbkggiiaaGreatDoor
