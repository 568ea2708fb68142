/-
Merged by program out of own texts: Shl, Eng1, Eng2, Eng3, Eng4, Eng5, Eng6, Eng9a, Eng9, Eng11, Eng15, Eng7, Eng8, Eng16, Eng17.
-/
import Derived.Shelf.Small.Utf8
import Derived.Shelf.Small.Bits
import Derived.Shelf.Small.Strs
import Derived.Shelf.Small.Wraps
import Derived.Shelf.Strconv.Atoi
import Derived.Shelf.Strconv.Itoa0
import Derived.Shelf.Strconv.Itoa1
import Derived.Shelf.LaysM
import Derived.Shelf.Strconv.Itoa2
import Derived.Shelf.Strconv.Itoa3
import Derived.Shelf.Strconv.AtoiErrFast
import Derived.Shelf.Strconv.ParseIntEmpty
import Derived.Shelf.Strconv.AtoiFail
import Derived.Shelf.Strconv.Clone
import Derived.Shelf.Strconv.SyntaxError
import Derived.Shelf.LaysC
import Derived.Shelf.Strconv.ToError
import Derived.Shelf.Strconv.Lower
import Derived.Shelf.Strconv.ParseUint10
import Derived.Shelf.Strconv.ParseUint10Empty
import Derived.Shelf.Strconv.ParseUint10Any
import Derived.Shelf.Strconv.ParseInt10
import Derived.Shelf.Strconv.AtoiLong
import Derived.Shelf.Strconv.AtoiInnerAll
import Derived.Shelf.Strconv.RangeError
import Derived.Shelf.Strconv.ToErrorRange
import Derived.Shelf.Strconv.AtoiAll
import Derived.Shelf.Strconv.ErrVarAll
import Derived.Shelf.Strings.Search1
import Derived.Shelf.Strings.Search2
import Derived.Shelf.Strings.Search3
import Derived.Shelf.Strings.Shaped
import Derived.Shelf.Sort.Plain
import Derived.Shelf.Strings.Prefix
import Derived.Shelf.Strings.Runes
import Derived.Shelf.Slices.Turned
import Derived.Ground.Names2Prog
import Derived.Shelf.Slices.CompactI
import Derived.Shelf.Slices.SearchI
import Derived.Shelf.Slices.Cells
import Derived.Shelf.Slices.In.SortNone
import Derived.Test.YtjdjdoefppebkaaGreatDoorProg
import Derived.WalkKit
import Derived.WalkSpells
import Derived.WalkLawsBesides
import Derived.Shelf.Abstract
import Derived.Orders
import Derived.Laws.StructEq
import Derived.Laws.Small
import Derived.Deep.Slices
import Derived.Deep.Fields
import Derived.ChangeSame
import Derived.Below
import Derived.Carry
import Derived.ChangeOld
import Derived.ProofKit
import Derived.OpenShut
import Derived.SizedLaws
import Derived.HandedShaped
import Derived.LaidMore
import Derived.Stop.Joined
import Derived.SevenTiedAt
import Derived.MakeChecks
import Derived.Lib.ConvBytes
import Derived.Laws.AppendOwn
set_option linter.unusedVariables false
set_option linter.unusedSimpArgs false
namespace Go
abbrev Xa:=@Nat.lt_of_lt_of_le
abbrev Xb:=@List.length_append
abbrev Xc:=@List.length_cons
abbrev Xd:=@List.forall_mem_cons
abbrev Xe:=@List.length_nil
abbrev Xf:=@List.mem_cons
abbrev Xg:=@List.getElem_mem
abbrev Xh:=@Nat.le_trans
abbrev Xi:=@Bool.and_eq_true
abbrev Xj:=@Option.some.injEq
abbrev Xk:=@List.not_mem_nil
abbrev Xl:=@Array.getElem?_eq_some_iff
abbrev Xm:=@List.getD_cons_zero
abbrev Xn:=@List.map_cons
abbrev Xo:=@Nat.le_refl
abbrev Xp:=@List.cons_append
abbrev Xq:=@List.mem_singleton
abbrev Xr:=@List.append_assoc
abbrev Xs:=@List.getElem_of_mem
abbrev Xt:=@List.mem_append
abbrev Xu:=@List.take_succ_eq_append_getElem
abbrev Xv:=@List.map_nil
abbrev Xw:=@Array.getD_eq_getD_getElem?
abbrev Xx:=@List.getD_eq_getElem?_getD
abbrev Xy:=@Nat.zero_le
abbrev Xz:=@List.append_nil
abbrev XA:=@List.getElem?_eq_getElem
abbrev XB:=@List.take_of_length_le
abbrev XC:=@List.getElem?_eq_some_iff
abbrev XD:=@List.all_eq_true
abbrev XE:=@List.length_eq_zero_iff
abbrev XG:=@Bool.false_eq_true
abbrev XH:=@List.getD_cons_succ
abbrev XI:=@Nat.not_lt_zero
abbrev XJ:=@Option.some.inj
abbrev XK:=@List.mem_cons_of_mem
abbrev XL:=@List.take_length
abbrev XM:=@List.length_map
abbrev XN:=@List.getElem_append_right
abbrev XO:=@Nat.zero_add
abbrev XP:=@List.getElem_append_left
abbrev XQ:=@Option.bind_some
abbrev XR:=@List.length_take
abbrev XS:=@List.nil_append
abbrev XT:=@Nat.add_assoc
abbrev XU:=@Nat.le_of_ble_eq_true
abbrev XV:=@List.take_append_drop
abbrev XW:=@List.findIdx?_eq_some_iff_getElem
abbrev XX:=@List.length_pos_iff
abbrev XY:=@List.flatMap_cons
abbrev XZ:=@Nat.mul_le_mul_right
abbrev X0:=@Bool.eq_iff_iff
abbrev X1:=@List.find?_eq_some_iff_getElem
abbrev X2:=@List.findIdx?_eq_none_iff
abbrev X3:=@List.mem_of_find?_eq_some
abbrev X4:=@List.mem_map_of_mem
abbrev X5:=@Option.bind_eq_some_iff
abbrev X6:=@Nat.le_max_right
abbrev X7:=@List.flatten_cons
abbrev X8:=@Nat.succ_mul
abbrev X9:=@List.getElem?_append_left
abbrev Yaa:=@List.drop_eq_getElem_cons
abbrev Yab:=@Nat.eq_of_beq_eq_true
abbrev Yac:=@List.getElem?_take
abbrev Yad:=@List.find?_eq_none
abbrev Yae:=@Option.getD_some
abbrev Yaf:=@List.any_eq_true
abbrev Yag:=@List.length_set
abbrev Yah:=@Nat.le_max_left
abbrev Yai:=@List.take_succ_cons
abbrev Yaj:=@Nat.lt_or_ge
abbrev Yak:=@List.flatMap_nil
abbrev Yal:=@Array.getElem?_append_left
abbrev Yam:=@List.getElem?_append_right
abbrev Yan:=@Bool.beq_eq_decide_eq
abbrev Yao:=@Bool.or_eq_true
abbrev Yap:=@Nat.min_eq_left
abbrev Yaq:=@List.map_append
abbrev Yar:=@List.mem_of_mem_take
abbrev Yas:=@Array.getElem?_setIfInBounds_ne
abbrev Yat:=@Int.toNat_of_nonneg
abbrev Yau:=@List.take_append
abbrev Yav:=@List.getElem?_cons_succ
abbrev Yaw:=@Int.le_refl
abbrev Yax:=@List.mem_map
abbrev Yay:=@List.cons.injEq
abbrev Yaz:=@List.all_cons
abbrev YaA:=@List.size_toArray
abbrev YaB:=@List.take_take
abbrev YaC:=@List.getElem_map
abbrev YaD:=@Array.getElem?_eq_getElem
abbrev YaE:=@Array.length_toList
abbrev YaF:=@List.getElem_set_ne
abbrev YaG:=@List.takeWhile_cons
abbrev YaH:=@Option.map_some
abbrev YaI:=@List.findIdx?_cons
abbrev YaJ:=@Array.getElem?_eq_none
abbrev YaK:=@List.drop_eq_nil_of_le
abbrev YaL:=@Int.toNat_natCast
abbrev YaM:=@List.append_eq_nil_iff
abbrev YaN:=@List.length_eq_one_iff
abbrev YaO:=@List.getElem?_map
abbrev YaP:=@List.length_filter_le
abbrev YaQ:=@List.dropLast_eq_take
abbrev YaR:=@Array.getElem?_toList
abbrev YaS:=@Bool.and_true
abbrev YaT:=@List.cons.inj
abbrev YaU:=@List.find?_some
abbrev YaV:=@List.foldl_cons
abbrev YaW:=@List.flatMap_append
abbrev YaX:=@List.map_map
abbrev YaY:=@Int.emod_lt_of_pos
abbrev YaZ:=@List.mem_cons_self
abbrev Ya0:=@Nat.add_sub_cancel
abbrev Ya1:=@Int.emod_eq_of_lt
abbrev Ya2:=@List.getD_nil
abbrev Ya3:=@Bool.false_or
abbrev Ya4:=@List.length_drop
abbrev Ya5:=@Nat.lt_succ_self
abbrev Ya6:=@List.ext_getElem
abbrev Ya7:=@Nat.add_zero
abbrev Ya8:=@Nat.sub_self
abbrev Ya9:=@Int.emod_nonneg
abbrev Yba:=@List.set_append
abbrev Ybb:=@List.all_append
abbrev Ybc:=@List.take_left'
abbrev Ybd:=@List.drop_zero
abbrev Ybe:=@List.drop_take
abbrev Ybf:=@List.mem_range
abbrev Ybg:=@Bool.and_false
abbrev Ybh:=@List.take_zero
end Go
namespace Go.Proofs
open Go.Shelf
def Tryz.lays119_ren:Go.Shelf.Ren:=⟨fun|119=>300|n=>n,fun|21=>21|4=>4|n=>n,fun|n=>n⟩
theorem Tryz.lays119:Go.Proofs.Lays.n119 Tryz.prog Tryz.lays119_ren:={
 mixed:=by kernel_rfl
 f119:=Tryz.func300.trans (congrArg some (by kernel_rfl))
 t4:=Tryz.underlying4
 a4:=Tryz.isAgg4
 z4:=Tryz.sizeOf4
 v4:=Tryz.zeroValue4
 t21:=Tryz.underlying21
 a21:=Tryz.isAgg21
 z21:=Tryz.sizeOf21
 v21:=Tryz.zeroValue21 }
theorem Tryz.utf8_ValidRune (r:Int) (w:World) :
 Calls Tryz.prog 300 #[.int .i32 r] w fun e w'=>e=.returned (.bool (Lib.validRune r))∧w'=w:=Any.utf8_ValidRune Tryz.lays119 r w
def Tryz.lays137_ren:Go.Shelf.Ren:=⟨fun|137=>268|217=>299|266=>319|n=>n,fun|9=>9|5=>5|3=>3|n=>n,fun|n=>n⟩
theorem Tryz.lays137:Go.Proofs.Lays.n137 Tryz.prog Tryz.lays137_ren:={
 mixed:=by kernel_rfl
 f137:=Tryz.func268.trans (congrArg some (by kernel_rfl))
 f217:=Tryz.func299.trans (congrArg some (by kernel_rfl))
 f266:=Tryz.func319.trans (congrArg some (by kernel_rfl))
 t3:=Tryz.underlying3
 a3:=Tryz.isAgg3
 z3:=Tryz.sizeOf3
 v3:=Tryz.zeroValue3
 t5:=Tryz.underlying5
 a5:=Tryz.isAgg5
 z5:=Tryz.sizeOf5
 v5:=Tryz.zeroValue5
 t9:=Tryz.underlying9
 a9:=Tryz.isAgg9
 z9:=Tryz.sizeOf9
 v9:=Tryz.zeroValue9 }
open Go.RowKit in
theorem Tryz.strings_IndexByte (s:ByteArray) (c:Int) (w:World) :
 Calls Tryz.prog 268 #[.string s,.int .u8 c] w fun e w'=>e=.returned (.int .i64 (Lib.indexByte s.data.toList c.toNat.toUInt8))∧w'=w:=Any.strings_IndexByte Tryz.lays137 s c w
def Tryz.lays172_ren:Go.Shelf.Ren:=⟨fun|172=>271|244=>303|245=>304|247=>320|279=>321|280=>322|281=>323|282=>324|287=>334|316=>335|171=>337|205=>336|321=>351|322=>352|243=>353|246=>358|283=>361|284=>362|285=>363|286=>364|129=>250|317=>366|318=>367|319=>368|320=>369|337=>370|338=>371|n=>n,fun|9=>9|3=>3|75=>303|76=>304|4=>4|5=>5|167=>332|37=>238|0=>0|85=>333|2=>2|168=>335|53=>289|175=>350|46=>230|210=>354|127=>359|145=>362|143=>360|21=>21|171=>366|173=>368|212=>370|51=>287|20=>20|213=>371|232=>372|233=>373|80=>232|n=>n,fun|15=>4|16=>5|17=>6|18=>7|19=>8|n=>n⟩
def Tryz.laysC172_ren:Go.Shelf.Ren:=⟨fun|172=>271|244=>303|245=>304|247=>320|279=>321|280=>322|281=>323|282=>324|287=>334|316=>335|171=>337|205=>336|321=>351|322=>352|243=>353|246=>358|283=>361|284=>362|285=>363|286=>364|129=>250|317=>366|318=>367|319=>368|320=>369|337=>370|338=>371|n=>n,fun|9=>9|3=>3|75=>303|76=>304|4=>4|5=>5|167=>332|37=>238|0=>0|85=>333|2=>2|168=>335|53=>289|175=>350|46=>230|210=>354|127=>359|145=>362|143=>360|21=>21|171=>366|173=>368|212=>370|51=>287|20=>20|213=>371|232=>372|233=>373|80=>232|n=>n,fun|15=>4|16=>5|17=>6|18=>7|19=>8|n=>n⟩
theorem Tryz.laysC172:Go.Proofs.LaysC.n172 Tryz.prog Tryz.laysC172_ren:={
 mixed:=by kernel_rfl
 f129:=Tryz.func250.trans (congrArg some (by kernel_rfl))
 f171:=Tryz.func337.trans (congrArg some (by kernel_rfl))
 f172:=Tryz.func271.trans (congrArg some (by kernel_rfl))
 f205:=Tryz.func336.trans (congrArg some (by kernel_rfl))
 f243:=Tryz.func353.trans (congrArg some (by kernel_rfl))
 f244:=Tryz.func303.trans (congrArg some (by kernel_rfl))
 f245:=Tryz.func304.trans (congrArg some (by kernel_rfl))
 f246:=Tryz.func358.trans (congrArg some (by kernel_rfl))
 f247:=Tryz.func320.trans (congrArg some (by kernel_rfl))
 f279:=Tryz.func321.trans (congrArg some (by kernel_rfl))
 f280:=Tryz.func322.trans (congrArg some (by kernel_rfl))
 f281:=Tryz.func323.trans (congrArg some (by kernel_rfl))
 f282:=Tryz.func324.trans (congrArg some (by kernel_rfl))
 f283:=Tryz.func361.trans (congrArg some (by kernel_rfl))
 f284:=Tryz.func362.trans (congrArg some (by kernel_rfl))
 f285:=Tryz.func363.trans (congrArg some (by kernel_rfl))
 f286:=Tryz.func364.trans (congrArg some (by kernel_rfl))
 f287:=Tryz.func334.trans (congrArg some (by kernel_rfl))
 f316:=Tryz.func335.trans (congrArg some (by kernel_rfl))
 f317:=Tryz.func366.trans (congrArg some (by kernel_rfl))
 f318:=Tryz.func367.trans (congrArg some (by kernel_rfl))
 f319:=Tryz.func368.trans (congrArg some (by kernel_rfl))
 f320:=Tryz.func369.trans (congrArg some (by kernel_rfl))
 f321:=Tryz.func351.trans (congrArg some (by kernel_rfl))
 f322:=Tryz.func352.trans (congrArg some (by kernel_rfl))
 f337:=Tryz.func370.trans (congrArg some (by kernel_rfl))
 f338:=Tryz.func371.trans (congrArg some (by kernel_rfl))
 t0:=Tryz.underlying0
 a0:=Tryz.isAgg0
 z0:=Tryz.sizeOf0
 v0:=Tryz.zeroValue0
 t2:=Tryz.underlying2
 a2:=Tryz.isAgg2
 z2:=Tryz.sizeOf2
 v2:=Tryz.zeroValue2
 t3:=Tryz.underlying3
 a3:=Tryz.isAgg3
 z3:=Tryz.sizeOf3
 v3:=Tryz.zeroValue3
 t4:=Tryz.underlying4
 a4:=Tryz.isAgg4
 z4:=Tryz.sizeOf4
 v4:=Tryz.zeroValue4
 t5:=Tryz.underlying5
 a5:=Tryz.isAgg5
 z5:=Tryz.sizeOf5
 v5:=Tryz.zeroValue5
 t9:=Tryz.underlying9
 a9:=Tryz.isAgg9
 z9:=Tryz.sizeOf9
 v9:=Tryz.zeroValue9
 t20:=Tryz.underlying20
 a20:=Tryz.isAgg20
 z20:=Tryz.sizeOf20
 v20:=Tryz.zeroValue20
 t21:=Tryz.underlying21
 a21:=Tryz.isAgg21
 z21:=Tryz.sizeOf21
 v21:=Tryz.zeroValue21
 t37:=Tryz.underlying238
 a37:=Tryz.isAgg238
 z37:=Tryz.sizeOf238
 v37:=Tryz.zeroValue238
 t46:=Tryz.underlying230
 a46:=Tryz.isAgg230
 z46:=Tryz.sizeOf230
 v46:=Tryz.zeroValue230
 t51:=Tryz.underlying287
 a51:=Tryz.isAgg287
 z51:=Tryz.sizeOf287
 v51:=Tryz.zeroValue287
 t53:=Tryz.underlying289
 a53:=Tryz.isAgg289
 z53:=Tryz.sizeOf289
 v53:=Tryz.zeroValue289
 t75:=Tryz.underlying303
 a75:=Tryz.isAgg303
 z75:=Tryz.sizeOf303
 v75:=Tryz.zeroValue303
 t76:=Tryz.underlying304
 a76:=Tryz.isAgg304
 z76:=Tryz.sizeOf304
 v76:=Tryz.zeroValue304
 t85:=Tryz.underlying333
 a85:=Tryz.isAgg333
 z85:=Tryz.sizeOf333
 v85:=Tryz.zeroValue333
 t127:=Tryz.underlying359
 a127:=Tryz.isAgg359
 z127:=Tryz.sizeOf359
 v127:=Tryz.zeroValue359
 t143:=Tryz.underlying360
 a143:=Tryz.isAgg360
 z143:=Tryz.sizeOf360
 v143:=Tryz.zeroValue360
 t145:=Tryz.underlying362
 a145:=Tryz.isAgg362
 z145:=Tryz.sizeOf362
 v145:=Tryz.zeroValue362
 t167:=Tryz.underlying332
 a167:=Tryz.isAgg332
 z167:=Tryz.sizeOf332
 v167:=Tryz.zeroValue332
 t168:=Tryz.underlying335
 a168:=Tryz.isAgg335
 z168:=Tryz.sizeOf335
 v168:=Tryz.zeroValue335
 t171:=Tryz.underlying366
 a171:=Tryz.isAgg366
 z171:=Tryz.sizeOf366
 v171:=Tryz.zeroValue366
 t173:=Tryz.underlying368
 a173:=Tryz.isAgg368
 z173:=Tryz.sizeOf368
 v173:=Tryz.zeroValue368
 t175:=Tryz.underlying350
 a175:=Tryz.isAgg350
 z175:=Tryz.sizeOf350
 v175:=Tryz.zeroValue350
 t210:=Tryz.underlying354
 a210:=Tryz.isAgg354
 z210:=Tryz.sizeOf354
 v210:=Tryz.zeroValue354
 t212:=Tryz.underlying370
 a212:=Tryz.isAgg370
 z212:=Tryz.sizeOf370
 v212:=Tryz.zeroValue370
 t213:=Tryz.underlying371
 a213:=Tryz.isAgg371
 z213:=Tryz.sizeOf371
 t232:=Tryz.underlying372
 a232:=Tryz.isAgg372
 z232:=Tryz.sizeOf372
 v232:=Tryz.zeroValue372
 t233:=Tryz.underlying373
 a233:=Tryz.isAgg373
 z233:=Tryz.sizeOf373
 v233:=Tryz.zeroValue373
 g15:=by kernel_rfl
 g16:=by kernel_rfl
 g17:=by kernel_rfl
 g18:=by kernel_rfl
 g19:=by kernel_rfl
 t80:=Tryz.underlying232
 a80:=Tryz.isAgg232
 z80:=Tryz.sizeOf232
 v80:=Tryz.zeroValue232
 i0:=by kernel_rfl
 i2:=by kernel_rfl
 i3:=by kernel_rfl
 i4:=by kernel_rfl
 i5:=by kernel_rfl
 i9:=by kernel_rfl
 i20:=by kernel_rfl
 i21:=by kernel_rfl
 i37:=by kernel_rfl
 i46:=by kernel_rfl
 i51:=by kernel_rfl
 i53:=by kernel_rfl
 i75:=by kernel_rfl
 i76:=by kernel_rfl
 i80:=by kernel_rfl
 i85:=by kernel_rfl
 i127:=by kernel_rfl
 i143:=by kernel_rfl
 i145:=by kernel_rfl
 i167:=by kernel_rfl
 i168:=by kernel_rfl
 i171:=by kernel_rfl
 i173:=by kernel_rfl
 i175:=by kernel_rfl
 i210:=by kernel_rfl
 i212:=by kernel_rfl
 i232:=by kernel_rfl
 i233:=by kernel_rfl
 m15:=by kernel_rfl
 m16:=by kernel_rfl
 m17:=by kernel_rfl
 m18:=by kernel_rfl
 m19:=by kernel_rfl
 c0:=by kernel_rfl
 c2:=by kernel_rfl
 c3:=by kernel_rfl
 c4:=by kernel_rfl
 c5:=by kernel_rfl
 c9:=by kernel_rfl
 c20:=by kernel_rfl
 c21:=by kernel_rfl
 c37:=by kernel_rfl
 c46:=by kernel_rfl
 c51:=by kernel_rfl
 c53:=by kernel_rfl
 c75:=by kernel_rfl
 c76:=by kernel_rfl
 c80:=by kernel_rfl
 c85:=by kernel_rfl
 c127:=by kernel_rfl
 c143:=by kernel_rfl
 c145:=by kernel_rfl
 c167:=by kernel_rfl
 c168:=by kernel_rfl
 c171:=by kernel_rfl
 c173:=by kernel_rfl
 c175:=by kernel_rfl
 c210:=by kernel_rfl
 c212:=by kernel_rfl
 c213:=by kernel_rfl
 c232:=by kernel_rfl
 c233:=by kernel_rfl }
open Go.RowKit in
theorem Tryz.strconv_Atoi_ok (s:ByteArray) (hmax:s.size≤9223372036854775806) (v:Int) (h:Lib.atoiAll s.data.toList=.ok v) (w:World) :
 Calls Tryz.prog 271 #[.string s] w fun e w'=>e=.returned (.tuple #[.int .i64 v,.nilIface])∧(w'=w∨∃ t,w'=Lib.bytesWorld w 5 t):=Any.strconv_Atoi_ok Tryz.laysC172 s hmax v h w
open Go.RowKit in
theorem Tryz.strconv_Atoi_range (s:ByteArray) (hlim:s.size≤281474976710656) (h:Lib.atoiAll s.data.toList=.range) (ev:Value) (w:World) (hv:w.cell? ⟨5,0,none⟩=some ev) (hev:ev=.nilIface∨∃ te pe,ev=.iface te pe) :
 Calls Tryz.prog 271 #[.string s] w fun e w'=>∃ N,e=.returned (.tuple #[.int .i64 (Lib.atoiSat s.data.toList),.iface 335 (.pointer (some ⟨N,0,none⟩))])∧w.heap.size≤N∧w'.heap[N]?=some (.cells #[.string ⟨#[65,116,111,105]⟩,.string s,ev] 354 (0,0))∧Below w.heap.size w w':=Any.strconv_Atoi_range Tryz.laysC172 s hlim h ev w hv hev
def Tryz.lays219_ren:Go.Shelf.Ren:=⟨fun|219=>295|217=>299|225=>302|224=>301|267=>315|266=>319|314=>332|n=>n,fun|9=>9|3=>3|4=>4|5=>5|46=>230|146=>348|51=>287|n=>n,fun|1=>2|n=>n⟩
def Tryz.lays144_ren:Go.Shelf.Ren:=⟨fun|144=>176|143=>259|219=>295|217=>299|225=>302|224=>301|267=>315|266=>319|314=>332|n=>n,fun|9=>9|4=>4|3=>3|5=>5|46=>230|146=>348|51=>287|n=>n,fun|1=>2|n=>n⟩
theorem Tryz.lays144:Go.Proofs.Lays.n144 Tryz.prog Tryz.lays144_ren:={
 mixed:=by kernel_rfl
 f143:=Tryz.func259.trans (congrArg some (by kernel_rfl))
 f144:=Tryz.func176.trans (congrArg some (by kernel_rfl))
 f217:=Tryz.func299.trans (congrArg some (by kernel_rfl))
 f219:=Tryz.func295.trans (congrArg some (by kernel_rfl))
 f224:=Tryz.func301.trans (congrArg some (by kernel_rfl))
 f225:=Tryz.func302.trans (congrArg some (by kernel_rfl))
 f266:=Tryz.func319.trans (congrArg some (by kernel_rfl))
 f267:=Tryz.func315.trans (congrArg some (by kernel_rfl))
 f314:=Tryz.func332.trans (congrArg some (by kernel_rfl))
 t3:=Tryz.underlying3
 a3:=Tryz.isAgg3
 z3:=Tryz.sizeOf3
 v3:=Tryz.zeroValue3
 t4:=Tryz.underlying4
 a4:=Tryz.isAgg4
 z4:=Tryz.sizeOf4
 v4:=Tryz.zeroValue4
 t5:=Tryz.underlying5
 a5:=Tryz.isAgg5
 z5:=Tryz.sizeOf5
 v5:=Tryz.zeroValue5
 t9:=Tryz.underlying9
 a9:=Tryz.isAgg9
 z9:=Tryz.sizeOf9
 v9:=Tryz.zeroValue9
 t46:=Tryz.underlying230
 a46:=Tryz.isAgg230
 z46:=Tryz.sizeOf230
 v46:=Tryz.zeroValue230
 t51:=Tryz.underlying287
 a51:=Tryz.isAgg287
 z51:=Tryz.sizeOf287
 v51:=Tryz.zeroValue287
 t146:=Tryz.underlying348
 a146:=Tryz.isAgg348
 z146:=Tryz.sizeOf348
 v146:=Tryz.zeroValue348
 g1:=by kernel_rfl }
open Go.RowKit Go.Lib in
theorem Tryz.strings_Contains (s sub:ByteArray) (m:Int) (w:World) (hs:s.size<4294967281) (hm:w.cell? ⟨2,0,none⟩=some (.int .i64 m)) :
 Calls Tryz.prog 176 #[.string s,.string sub] w fun e w'=>e=.returned (.bool (Lib.contains s.data.toList sub.data.toList))∧w'=w:=Any.strings_Contains Tryz.lays144 s sub m w hs hm
def Tryz.laysM144_ren:Go.Shelf.Ren:=⟨fun|144=>176|143=>259|219=>295|217=>299|225=>302|224=>301|267=>315|266=>319|314=>332|n=>n,fun|9=>9|4=>4|3=>3|5=>5|46=>230|146=>348|51=>287|n=>n,fun|1=>2|n=>n⟩
theorem Tryz.laysM144:Go.Proofs.LaysM.n144 Tryz.prog Tryz.laysM144_ren:={
 mixed:=by kernel_rfl
 f143:=Tryz.func259.trans (congrArg some (by kernel_rfl))
 f144:=Tryz.func176.trans (congrArg some (by kernel_rfl))
 f217:=Tryz.func299.trans (congrArg some (by kernel_rfl))
 f219:=Tryz.func295.trans (congrArg some (by kernel_rfl))
 f224:=Tryz.func301.trans (congrArg some (by kernel_rfl))
 f225:=Tryz.func302.trans (congrArg some (by kernel_rfl))
 f266:=Tryz.func319.trans (congrArg some (by kernel_rfl))
 f267:=Tryz.func315.trans (congrArg some (by kernel_rfl))
 f314:=Tryz.func332.trans (congrArg some (by kernel_rfl))
 t3:=Tryz.underlying3
 a3:=Tryz.isAgg3
 z3:=Tryz.sizeOf3
 v3:=Tryz.zeroValue3
 t4:=Tryz.underlying4
 a4:=Tryz.isAgg4
 z4:=Tryz.sizeOf4
 v4:=Tryz.zeroValue4
 t5:=Tryz.underlying5
 a5:=Tryz.isAgg5
 z5:=Tryz.sizeOf5
 v5:=Tryz.zeroValue5
 t9:=Tryz.underlying9
 a9:=Tryz.isAgg9
 z9:=Tryz.sizeOf9
 v9:=Tryz.zeroValue9
 t46:=Tryz.underlying230
 a46:=Tryz.isAgg230
 z46:=Tryz.sizeOf230
 v46:=Tryz.zeroValue230
 t51:=Tryz.underlying287
 a51:=Tryz.isAgg287
 z51:=Tryz.sizeOf287
 v51:=Tryz.zeroValue287
 t146:=Tryz.underlying348
 a146:=Tryz.isAgg348
 z146:=Tryz.sizeOf348
 v146:=Tryz.zeroValue348
 g1:=by kernel_rfl
 i3:=by kernel_rfl
 i4:=by kernel_rfl
 i5:=by kernel_rfl
 i9:=by kernel_rfl
 i46:=by kernel_rfl
 i51:=by kernel_rfl
 i146:=by kernel_rfl
 m1:=by kernel_rfl
 s1_3:=fun w h=>Go.Proofs.cell_of_shapedOpen_int (zero:=#[.int .i64 0]) (t:=3) h (of_decide_eq_true (by kernel_rfl)) (by kernel_rfl) rfl (by kernel_rfl) (by kernel_rfl) Tryz.underlying3 }
def Tryz.lays189_ren:Go.Shelf.Ren:=⟨fun|189=>82|125=>163|257=>162|128=>249|129=>250|294=>240|295=>241|296=>242|297=>243|298=>244|299=>245|216=>246|300=>247|301=>248|328=>287|329=>288|330=>289|331=>290|332=>291|215=>217|343=>313|n=>n,fun|28=>22|3=>3|46=>230|0=>0|51=>287|53=>289|4=>4|183=>281|182=>280|131=>73|5=>5|9=>9|218=>314|222=>318|228=>330|229=>214|n=>n,fun|n=>n⟩
theorem Tryz.lays189:Go.Proofs.Lays.n189 Tryz.prog Tryz.lays189_ren:={
 mixed:=by kernel_rfl
 f125:=Tryz.func163.trans (congrArg some (by kernel_rfl))
 f128:=Tryz.func249.trans (congrArg some (by kernel_rfl))
 f129:=Tryz.func250.trans (congrArg some (by kernel_rfl))
 f189:=Tryz.func82.trans (congrArg some (by kernel_rfl))
 f215:=Tryz.func217.trans (congrArg some (by kernel_rfl))
 f216:=Tryz.func246.trans (congrArg some (by kernel_rfl))
 f257:=Tryz.func162.trans (congrArg some (by kernel_rfl))
 f294:=Tryz.func240.trans (congrArg some (by kernel_rfl))
 f295:=Tryz.func241.trans (congrArg some (by kernel_rfl))
 f296:=Tryz.func242.trans (congrArg some (by kernel_rfl))
 f297:=Tryz.func243.trans (congrArg some (by kernel_rfl))
 f298:=Tryz.func244.trans (congrArg some (by kernel_rfl))
 f299:=Tryz.func245.trans (congrArg some (by kernel_rfl))
 f300:=Tryz.func247.trans (congrArg some (by kernel_rfl))
 f301:=Tryz.func248.trans (congrArg some (by kernel_rfl))
 f328:=Tryz.func287.trans (congrArg some (by kernel_rfl))
 f329:=Tryz.func288.trans (congrArg some (by kernel_rfl))
 f330:=Tryz.func289.trans (congrArg some (by kernel_rfl))
 f331:=Tryz.func290.trans (congrArg some (by kernel_rfl))
 f332:=Tryz.func291.trans (congrArg some (by kernel_rfl))
 f343:=Tryz.func313.trans (congrArg some (by kernel_rfl))
 t0:=Tryz.underlying0
 a0:=Tryz.isAgg0
 z0:=Tryz.sizeOf0
 v0:=Tryz.zeroValue0
 t3:=Tryz.underlying3
 a3:=Tryz.isAgg3
 z3:=Tryz.sizeOf3
 v3:=Tryz.zeroValue3
 t4:=Tryz.underlying4
 a4:=Tryz.isAgg4
 z4:=Tryz.sizeOf4
 v4:=Tryz.zeroValue4
 t5:=Tryz.underlying5
 a5:=Tryz.isAgg5
 z5:=Tryz.sizeOf5
 v5:=Tryz.zeroValue5
 t9:=Tryz.underlying9
 a9:=Tryz.isAgg9
 z9:=Tryz.sizeOf9
 v9:=Tryz.zeroValue9
 t28:=Tryz.underlying22
 a28:=Tryz.isAgg22
 z28:=Tryz.sizeOf22
 v28:=Tryz.zeroValue22
 t46:=Tryz.underlying230
 a46:=Tryz.isAgg230
 z46:=Tryz.sizeOf230
 v46:=Tryz.zeroValue230
 t51:=Tryz.underlying287
 a51:=Tryz.isAgg287
 z51:=Tryz.sizeOf287
 v51:=Tryz.zeroValue287
 t53:=Tryz.underlying289
 a53:=Tryz.isAgg289
 z53:=Tryz.sizeOf289
 v53:=Tryz.zeroValue289
 t131:=Tryz.underlying73
 a131:=Tryz.isAgg73
 z131:=Tryz.sizeOf73
 v131:=Tryz.zeroValue73
 t182:=Tryz.underlying280
 a182:=Tryz.isAgg280
 z182:=Tryz.sizeOf280
 v182:=Tryz.zeroValue280
 t183:=Tryz.underlying281
 a183:=Tryz.isAgg281
 z183:=Tryz.sizeOf281
 v183:=Tryz.zeroValue281
 t218:=Tryz.underlying314
 a218:=Tryz.isAgg314
 z218:=Tryz.sizeOf314
 v218:=Tryz.zeroValue314
 t222:=Tryz.underlying318
 a222:=Tryz.isAgg318
 z222:=Tryz.sizeOf318
 v222:=Tryz.zeroValue318
 t228:=Tryz.underlying330
 a228:=Tryz.isAgg330
 z228:=Tryz.sizeOf330
 v228:=Tryz.zeroValue330
 t229:=Tryz.underlying214
 a229:=Tryz.isAgg214
 z229:=Tryz.sizeOf214
 v229:=Tryz.zeroValue214 }
open Go.Sort Go.RowKit in
theorem Tryz.slices_Sort_int (blk off cap:Nat) (zs:List Int) (w:World) (hH:Holds (Value.int .i64) w blk off zs.toArray) (hblk:blk<w.heap.size) (hsz:zs.length<4611686018427387904) :
 Calls Tryz.prog 82 #[.slice (some ⟨blk,off,none⟩) zs.length cap] w fun e w'=>
  e=.returned (.tuple #[])∧∃ n os,w'=grow (putRow (Value.int .i64) (Sort.ahead w n) blk off (zs.mergeSort fun x y=>decide (x≤y)).toArray) os:=Any.slices_Sort_int Tryz.lays189 blk off cap zs w hH hblk hsz
def Tryz.lays206_ren:Go.Shelf.Ren:=⟨fun|206=>298|n=>n,fun|9=>9|4=>4|3=>3|n=>n,fun|n=>n⟩
def Tryz.lays99_ren:Go.Shelf.Ren:=⟨fun|99=>267|206=>298|n=>n,fun|9=>9|4=>4|3=>3|n=>n,fun|n=>n⟩
theorem Tryz.lays99:Go.Proofs.Lays.n99 Tryz.prog Tryz.lays99_ren:={
 mixed:=by kernel_rfl
 f99:=Tryz.func267.trans (congrArg some (by kernel_rfl))
 f206:=Tryz.func298.trans (congrArg some (by kernel_rfl))
 t3:=Tryz.underlying3
 a3:=Tryz.isAgg3
 z3:=Tryz.sizeOf3
 v3:=Tryz.zeroValue3
 t4:=Tryz.underlying4
 a4:=Tryz.isAgg4
 z4:=Tryz.sizeOf4
 v4:=Tryz.zeroValue4
 t9:=Tryz.underlying9
 a9:=Tryz.isAgg9
 z9:=Tryz.sizeOf9
 v9:=Tryz.zeroValue9 }
open Go.RowKit Go.Lib in
theorem Tryz.strings_HasPrefix (s p:ByteArray) (w:World) :
 Calls Tryz.prog 267 #[.string s,.string p] w fun e w'=>e=.returned (.bool (Lib.hasPrefix s.data.toList p.data.toList))∧w'=w:=Any.strings_HasPrefix Tryz.lays99 s p w
def Tryz.lays151_ren:Go.Shelf.Ren:=⟨fun|151=>204|152=>269|137=>268|119=>300|224=>301|225=>302|217=>299|266=>319|n=>n,fun|9=>9|21=>21|4=>4|3=>3|5=>5|0=>0|46=>230|n=>n,fun|n=>n⟩
theorem Tryz.lays151:Go.Proofs.Lays.n151 Tryz.prog Tryz.lays151_ren:={
 mixed:=by kernel_rfl
 f119:=Tryz.func300.trans (congrArg some (by kernel_rfl))
 f137:=Tryz.func268.trans (congrArg some (by kernel_rfl))
 f151:=Tryz.func204.trans (congrArg some (by kernel_rfl))
 f152:=Tryz.func269.trans (congrArg some (by kernel_rfl))
 f217:=Tryz.func299.trans (congrArg some (by kernel_rfl))
 f224:=Tryz.func301.trans (congrArg some (by kernel_rfl))
 f225:=Tryz.func302.trans (congrArg some (by kernel_rfl))
 f266:=Tryz.func319.trans (congrArg some (by kernel_rfl))
 t0:=Tryz.underlying0
 a0:=Tryz.isAgg0
 z0:=Tryz.sizeOf0
 v0:=Tryz.zeroValue0
 t3:=Tryz.underlying3
 a3:=Tryz.isAgg3
 z3:=Tryz.sizeOf3
 v3:=Tryz.zeroValue3
 t4:=Tryz.underlying4
 a4:=Tryz.isAgg4
 z4:=Tryz.sizeOf4
 v4:=Tryz.zeroValue4
 t5:=Tryz.underlying5
 a5:=Tryz.isAgg5
 z5:=Tryz.sizeOf5
 v5:=Tryz.zeroValue5
 t9:=Tryz.underlying9
 a9:=Tryz.isAgg9
 z9:=Tryz.sizeOf9
 v9:=Tryz.zeroValue9
 t21:=Tryz.underlying21
 a21:=Tryz.isAgg21
 z21:=Tryz.sizeOf21
 v21:=Tryz.zeroValue21
 t46:=Tryz.underlying230
 a46:=Tryz.isAgg230
 z46:=Tryz.sizeOf230
 v46:=Tryz.zeroValue230 }
open Go.RowKit Go.Lib in
theorem Tryz.strings_ContainsRune_ascii (s:ByteArray) (r:Int) (w:World) (h0:0≤r) (h1:r<128) :
 Calls Tryz.prog 204 #[.string s,.int .i32 r] w fun e w'=>e=.returned (.bool (decide (0≤Lib.indexByte s.data.toList r.toNat.toUInt8)))∧w'=w:=Any.strings_ContainsRune_ascii Tryz.lays151 s r w h0 h1
def Tryz.laysNm220_ren:Go.Shelf.Ren:=⟨fun|20=>83|n=>n,fun|22=>22|3=>3|4=>4|0=>0|n=>n,fun|n=>n⟩
theorem Tryz.laysNm220:Go.Proofs.Lays2.n20 Tryz.prog Tryz.laysNm220_ren:={
 mixed:=by kernel_rfl
 f20:=Tryz.func83.trans (congrArg some (by kernel_rfl))
 t0:=Tryz.underlying0
 a0:=Tryz.isAgg0
 z0:=Tryz.sizeOf0
 v0:=Tryz.zeroValue0
 t3:=Tryz.underlying3
 a3:=Tryz.isAgg3
 z3:=Tryz.sizeOf3
 v3:=Tryz.zeroValue3
 t4:=Tryz.underlying4
 a4:=Tryz.isAgg4
 z4:=Tryz.sizeOf4
 v4:=Tryz.zeroValue4
 t22:=Tryz.underlying22
 a22:=Tryz.isAgg22
 z22:=Tryz.sizeOf22
 v22:=Tryz.zeroValue22
 i3:=by kernel_rfl }
open Go.RowKit Go.Lib Go.Sort in
theorem Tryz.slices_Compact_int (blk off cap:Nat) (zs:List Int) (w:World) (hH:Holds (Value.int .i64) w blk off zs.toArray) (hsz:zs.length≤9223372036854775807) (hcap:zs.length≤cap) :
 Calls Tryz.prog 83 #[.slice (some ⟨blk,off,none⟩) zs.length cap] w fun e w'=>e=.returned (.slice (some ⟨blk,off,none⟩) (Lib.compact zs).length cap)∧∃ q,w'=putRow (Value.int .i64) (Sort.ahead w q) blk off (Lib.compact zs++List.replicate (zs.length - (Lib.compact zs).length) 0).toArray:=Any.slices_Compact_int Tryz.laysNm220 blk off cap zs w hH hsz hcap
open Go.RowKit Go.Lib Go.Sort in
theorem Tryz.slices_Compact_int_empty (a:Option Addr) (cap:Nat) (w:World) :
 Calls Tryz.prog 83 #[.slice a 0 cap] w fun e w'=>e=.returned (.slice a 0 cap)∧w'=w:=Any.slices_Compact_int_empty Tryz.laysNm220 a cap w
open Go.RowKit Go.Sort in
theorem Tryz.slices_Sort_int_none (p:Option Addr) (cap:Nat) (w:World) :
 Calls Tryz.prog 82 #[.slice p 0 cap] w fun e w'=>e=.returned (.tuple #[])∧w'=w:=Any.slices_Sort_int_none Tryz.lays189 p cap w
end Go.Proofs
namespace Go.Eng
open Go Go.RowKit Go.Proofs
abbrev Env:=List (Nat×Value)
def look:Env→Nat→Option Value
 | [],_=>none
 | (k,v) :: r,t=>bif Nat.beq k t then some v else look r t
def ev (e:Env):Operand→Option Value
 | .tmp t=>look e t
 | .const v=>some v
 | .global g=>some (.pointer (some ⟨g,0,none⟩))
 | .func f=>some (.func (.func f) #[] #[])
structure Has (n:Nat) (e:Env) (a:Act):Prop where
 defers:a.defers=[]
 size:a.tmps.size=n
 vals:∀ t v,look e t=some v→a.tmps.getD t undef=v
section basics
variable {n:Nat} {e:Env} {a:Act}
theorem Has.ev {x:Operand} {v:Value} (h:Has n e a) (hx:ev e x=some v):a.eval x=v:=by
 cases x with
 | tmp t=>exact h.vals t v hx
 | const c=>simpa [Eng.ev,Act.eval] using hx
 | global g=>simpa [Eng.ev,Act.eval] using hx
 | func f=>simpa [Eng.ev,Act.eval] using hx
theorem Z28 (d:Nat) (v:Value) (e:Env) (t:Nat):look ((d,v) :: e) t=if d=t then some v else look e t:=by
 simp only [look]
 by_cases h:d=t
 subst h;simp
 · have:Nat.beq d t=false:=by
    cases hb:Nat.beq d t with
    | false=>rfl
    | true=>exact absurd (Yab hb) h
   simp [this,h]
theorem Has.put {d:Nat} {v:Value} (h:Has n e a) (hd:Nat.blt d n=true):Has n ((d,v) :: e) (a.put (some d) v):=by
 have hlt:d<a.tmps.size:=by rw [h.size];exact XU hd
 refine ⟨h.defers,by simp [Act.put,h.size],fun t u hu=>?_⟩
 rw [Z28] at hu
 simp only [Act.put]
 by_cases hdt:d=t
 subst hdt
 simp at hu
 subst hu
 simp [hlt]
 rw [if_neg hdt] at hu
 have:=h.vals t u hu
 simpa [Yas hdt] using this
theorem Has.weak {e':Env} (h:Has n e a) (hs:∀ t v,look e' t=some v→look e t=some v):Has n e' a:=
 ⟨h.defers,h.size,fun t v hv=>h.vals t v (hs t v hv)⟩
def Sub:Env→Env→Prop
 | [],_=>True
 | (k,v) :: r,e=>look e k=some v∧Sub r e
theorem Sub.look {e' e:Env} (h:Sub e' e):∀ t v,Eng.look e' t=some v→Eng.look e t=some v:=by
 induction e' with
 | nil=>intro t v hv;simp [Eng.look] at hv
 | cons p r ih=>
   intro t v hv
   obtain ⟨d,u⟩:=p
   rw [Z28] at hv
   by_cases hd:d=t
   subst hd;simp at hv;subst hv;exact h.1
   rw [if_neg hd] at hv;exact ih h.2 t v hv
theorem Has.sub {e':Env} (h:Has n e a) (hs:Sub e' e):Has n e' a:=h.weak hs.look
end basics
section judge
variable (P:Program) (n:Nat)
structure WQ (n:Nat) (Q:Exit→Act→World→Prop) (x:Exit) (e:Env) (w:World):Prop where
 h:∀ a,Has n e a→Q x a w
structure WC (c:Code) (Q:Exit→Act→World→Prop) (e:Env) (w:World):Prop where
 h:∀ a,Has n e a→c.wp P Q a w
structure WL (ops:Array Oper) (Q:Exit→Act→World→Prop) (l:List Oper) (e:Env) (w:World):Prop where
 h:∀ a,Has n e a→wpList P ops Q l a w
end judge
section rules
variable {P:Program} {n:Nat} {Q:Exit→Act→World→Prop} {e:Env} {w:World} {ops:Array Oper} {rest:List Oper}
theorem Z6W {x y:Code} (h:WC P n x (Exit.then (fun a w=>y.wp P Q a w) Q) e w):WC P n (x.seq y) Q e w:=
 ⟨fun a ha=>wp_seq (h.h a ha)⟩
theorem Z3l {y:Code} (h:WC P n y Q e w):WQ n (Exit.then (fun a w=>y.wp P Q a w) Q) .normal e w:=⟨fun a ha=>h.h a ha⟩
theorem Z1T {N:Act→World→Prop} (h:WQ n Q .ret e w):WQ n (Exit.then N Q) .ret e w:=⟨fun a ha=>h.h a ha⟩
theorem Z8V {N:Act→World→Prop} {i:Nat} (h:WQ n Q (.exit i) e w):WQ n (Exit.then N Q) (.exit i) e w:=⟨fun a ha=>h.h a ha⟩
theorem ZeR {i:Nat} (h:WQ n Q .normal e w):WQ n (Exit.inBlock i Q) .normal e w:=⟨fun a ha=>h.h a ha⟩
theorem Z8W {i:Nat} (h:WQ n Q .ret e w):WQ n (Exit.inBlock i Q) .ret e w:=⟨fun a ha=>h.h a ha⟩
theorem Z81 {i:Nat} (h:WQ n Q .normal e w):WQ n (Exit.inBlock i Q) (.exit i) e w:=by
 refine ⟨fun a ha=>?_⟩
 simp only [Exit.inBlock,if_true]
 exact h.h a ha
theorem Z9K {i j:Nat} (hij:Nat.beq i j=false) (h:WQ n Q (.exit i) e w):WQ n (Exit.inBlock j Q) (.exit i) e w:=by
 refine ⟨fun a ha=>?_⟩
 simp only [Exit.inBlock]
 rw [if_neg (Nat.ne_of_beq_eq_false hij)]
 exact h.h a ha
theorem Z6L (h:WQ n Q .normal e w):WC P n .skip Q e w:=⟨fun a ha=>wp_skip (h.h a ha)⟩
theorem Z6X (h:WQ n Q .ret e w):WC P n .ret Q e w:=⟨fun a ha=>wp_ret (h.h a ha)⟩
theorem Zh1 {i:Nat} (h:WQ n Q (.exit i) e w):WC P n (.exit i) Q e w:=⟨fun a ha=>wp_exit (h.h a ha)⟩
theorem ZeS {i:Nat} {c:Code} (h:WC P n c (Exit.inBlock i Q) e w):WC P n (.block i c) Q e w:=⟨fun a ha=>wp_block (h.h a ha)⟩
theorem Z23 {c:Operand} {x y:Code} (hc:ev e c=some (.bool true)) (h:WC P n x Q e w):WC P n (.cond c x y) Q e w:=
 ⟨fun a ha=>wp_cond_true (ha.ev hc) (h.h a ha)⟩
theorem Z1I {c:Operand} {x y:Code} (hc:ev e c=some (.bool false)) (h:WC P n y Q e w):WC P n (.cond c x y) Q e w:=
 ⟨fun a ha=>wp_cond_false (ha.ev hc) (h.h a ha)⟩
theorem Z6M {c:Operand} {x y:Code} {p:Prop} [Decidable p] (hc:ev e c=some (.bool (decide p))) (ht:p→WC P n x Q e w) (hf:¬ p→WC P n y Q e w):WC P n (.cond c x y) Q e w:=
 ⟨fun a ha=>wp_cond_split (ha.ev hc) (fun h=>(ht (of_decide_eq_true h)).h a ha) (fun h=>(hf (of_decide_eq_false h)).h a ha)⟩
theorem Z6Y {c:Operand} {x y:Code} {t:Bool} (hc:ev e c=some (.bool t)) (ht:t=true→WC P n x Q e w) (hf:t=false→WC P n y Q e w):WC P n (.cond c x y) Q e w:=
 ⟨fun a ha=>wp_cond_split (ha.ev hc) (fun h=>(ht h).h a ha) (fun h=>(hf h).h a ha)⟩
theorem Z2U {id:Nat} {l:List Oper} (h:WL P n l.toArray Q l e w):WC P n (.region id l.toArray false) Q e w:=
 ⟨fun a ha=>wp_region_lit (h.h a ha)⟩
theorem Z22 (h:WQ n Q .normal e w):WL P n ops Q [] e w:=⟨fun a ha=>wpList_nil (h.h a ha)⟩
theorem ZeT {x y:Code} {σ:Type} (env:σ→Env) (I:σ→World→Prop)
 (h:WC P n x (Exit.then (fun a w=>∃ s,Has n (env s) a∧I s w) Q) e w) (k:∀ s w,I s w→WC P n y Q (env s) w):WC P n (x.seq y) Q e w:=
 ⟨fun a ha => wp_seq (wp_mono (h.h a ha) (fun ex a w hq => by
   cases ex with
   | normal=>obtain ⟨s,h1,h2⟩:=hq;exact (k s w h2).h a h1
   | _=>exact hq))⟩
theorem Z1J {x y:Code} {σ:Type} (env:σ→Env) (I:σ→World→Prop)
 (h:WC P n x (Exit.then (fun a w=>∃ s,Has n (env s) a∧I s w) Q) e w) (k:∀ s w,I s w→WC P n y Q (env s) w):WC P n x (Exit.then (fun a w=>y.wp P Q a w) Q) e w:=
 ⟨fun a ha => wp_mono (h.h a ha) (fun ex a w hq => by
   cases ex with
   | normal=>obtain ⟨s,h1,h2⟩:=hq;exact (k s w h2).h a h1
   | _=>exact hq)⟩
theorem Z1K {x y:Code} {σ:Type} {i:Nat} (env:σ→Env) (I:σ→World→Prop)
 (h:WC P n x (Exit.inBlock i (Exit.then (fun a w=>∃ s,Has n (env s) a∧I s w) Q)) e w) (k:∀ s w,I s w→WC P n y Q (env s) w):WC P n x (Exit.inBlock i (Exit.then (fun a w=>y.wp P Q a w) Q)) e w:=
 ⟨fun a ha => wp_mono (h.h a ha) (fun ex a w hq => by
   cases ex with
   | normal=>obtain ⟨s,h1,h2⟩:=hq;exact (k s w h2).h a h1
   | exit j=>
     simp only [Exit.inBlock] at hq ⊢
     split
     rename_i hj
     rw [if_pos hj] at hq
     obtain ⟨s,h1,h2⟩:=hq
     exact (k s w h2).h a h1
     rename_i hj
     rw [if_neg hj] at hq
     exact hq
   | _=>exact hq)⟩
theorem ZI {σ:Type} {env:σ→Env} {I:σ→World→Prop} (s:σ) (hs:Sub (env s) e) (hI:I s w):WQ n (Exit.then (fun a w=>∃ s,Has n (env s) a∧I s w) Q) .normal e w:=
 ⟨fun a ha=>⟨s,ha.sub hs,hI⟩⟩
theorem ZD {c:Code} {σ:Type} (env:σ→Env) (I:σ→World→Prop) (μ:σ→Nat) (s₀:σ) (hs:Sub (env s₀) e) (hI:I s₀ w)
 (round:∀ s w,I s w→WC P n c (Exit.then (fun a' w'=>∃ s',Has n (env s') a'∧I s' w'∧μ s' < μ s) Q) (env s) w):WC P n (.loop c) Q e w:=by
 refine ⟨fun a ha=>?_⟩
 have key:∀ (k:Nat) (s:σ) (a:Act) (w:World),μ s≤k→Has n (env s) a→I s w→(Code.loop c).wp P Q a w:=by
  intro k s a w _ h1 h2
  refine wp_loop (fun a' w'=>∃ s',Has n (env s') a'∧I s' w') (fun a' w'=>Classical.epsilon (fun m=>∃ s',Has n (env s') a'∧I s' w'∧μ s'=m∧∀ s'',Has n (env s'') a'→I s'' w'→m≤μ s'')) ⟨s,h1,h2⟩ ?_
  intro a w ⟨s',h1',h2'⟩
  have hex:∀ a w,(∃ s',Has n (env s') a∧I s' w)→∃ m,∃ s',Has n (env s') a∧I s' w∧μ s'=m∧∀ s'',Has n (env s'') a→I s'' w→m≤μ s'':=by
   intro a w ⟨s',h1',h2'⟩
   have:∀ m,∀ s',μ s'=m→Has n (env s') a→I s' w→∃ m,∃ s',Has n (env s') a∧I s' w∧μ s'=m∧∀ s'',Has n (env s'') a→I s'' w→m≤μ s'':=by
    intro m
    induction m using Nat.strongRecOn with
    | _ m ih=>
      intro s' hm h1 h2
      by_cases hmin:∀ s'',Has n (env s'') a→I s'' w→m≤μ s''
      exact ⟨m,s',h1,h2,hm,hmin⟩
      have:∃ s'',Has n (env s'') a∧I s'' w∧μ s''<m:=by
       refine Classical.byContradiction fun hno=>hmin fun s'' h1 h2=>?_
       exact Nat.le_of_not_lt fun hlt=>hno ⟨s'',h1,h2,hlt⟩
      obtain ⟨s'',h1',h2',hlt⟩:=this
      exact ih _ hlt s'' rfl h1' h2'
   exact this _ s' rfl h1' h2'
  obtain ⟨s₁,g1,g2,g3,g4⟩:=Classical.epsilon_spec (hex a w ⟨s',h1',h2'⟩)
  have hr:=(round s₁ w g2).h a g1
  refine wp_mono hr (fun ex a' w' hq=>?_)
  cases ex with
  | normal=>
    obtain ⟨s₂,k1,k2,k3⟩:=hq
    refine ⟨⟨s₂,k1,k2⟩,?_⟩
    obtain ⟨s₃,m1,m2,m3,m4⟩:=Classical.epsilon_spec (hex a' w' ⟨s₂,k1,k2⟩)
    have:=m4 s₂ k1 k2
    rw [g3] at k3
    exact Nat.lt_of_le_of_lt this k3
  | _=>exact hq
 exact key (μ s₀) s₀ a w (Xo _) (ha.sub hs) hI
theorem Zr {σ:Type} {env:σ→Env} {I:σ→World→Prop} {μ:σ→Nat} {m:Nat} (s:σ) (hs:Sub (env s) e) (hI:I s w) (hm:μ s<m) :
 WQ n (Exit.then (fun a w=>∃ s,Has n (env s) a∧I s w∧μ s<m) Q) .normal e w:=
 ⟨fun a ha=>⟨s,ha.sub hs,hI,hm⟩⟩
structure PR (P:Program) (n:Nat) (o:Oper) (e:Env) (w:World) (v:Value):Prop where
 h:∀ a,Has n e a→(execOp a.eval o).run P w=.ok (.value v) w
theorem Z7 {d:Nat} {op:Op} {ty:TypeId} {pos:String} {af:Array Edge} {v:Value} (hp:PR P n ⟨some d,op,ty,pos,af,none⟩ e w v) (hd:Nat.blt d n=true)
 (k:WL P n ops Q rest ((d,v) :: e) w):WL P n ops Q (⟨some d,op,ty,pos,af,none⟩ :: rest) e w:=by
 refine ⟨fun a ha=>?_⟩
 refine wpList_plain rfl (fun K hK=>?_)
 unfold Oper.wp
 rw [hp.h a ha]
 exact hK _ _ ((k).h _ (ha.put hd))
structure OE (P:Program) (n:Nat) (o:Oper) (e:Env) (w:World) (G:Value→World→Prop):Prop where
 h:∀ a,Has n e a→∀ (Q:Exit→Act→World→Prop),o.wp P a w (fun a' w'=>∃ v,a'=a.put o.dst v∧G v w') Q
theorem Z3 {d:Nat} {op:Op} {ty:TypeId} {pos:String} {af:Array Edge} {G:Value→World→Prop} (hp:OE P n ⟨some d,op,ty,pos,af,none⟩ e w G) (hd:Nat.blt d n=true)
 (k:∀ v w',G v w'→WL P n ops Q rest ((d,v) :: e) w'):WL P n ops Q (⟨some d,op,ty,pos,af,none⟩ :: rest) e w:=by
 refine ⟨fun a ha=>?_⟩
 refine wpList_plain rfl (fun K hK=>?_)
 refine Oper.wp_mono ?_ (hp.h a ha Q)
 rintro a' w' ⟨v,rfl,hg⟩
 exact hK _ _ ((k v w' hg).h _ (ha.put hd))
theorem Z0 {op:Op} {ty:TypeId} {pos:String} {af:Array Edge} {G:Value→World→Prop} (hp:OE P n ⟨none,op,ty,pos,af,none⟩ e w G)
 (k:∀ v w',G v w'→WL P n ops Q rest e w'):WL P n ops Q (⟨none,op,ty,pos,af,none⟩ :: rest) e w:=by
 refine ⟨fun a ha=>?_⟩
 refine wpList_plain rfl (fun K hK=>?_)
 refine Oper.wp_mono ?_ (hp.h a ha Q)
 rintro a' w' ⟨v,rfl,hg⟩
 exact hK _ _ ((k v w' hg).h _ ha)
def yld (ops:Array Oper) (e:Env) (j:Nat):Option Value:=((ops[j]?).bind (·.dst)).bind (look e)
theorem Z6Z {ops:Array Oper} {a:Act} {j:Nat} {b:Bool} (ha:Has n e a) (h:yld ops e j=some (.bool b)):yielded ops a.tmps j=some b:=by
 unfold yld at h
 unfold yielded
 cases hd:(ops[j]?).bind (·.dst) with
 | none=>rw [hd] at h;simp at h
 | some d=>
   rw [hd] at h
   have:=ha.vals d _ h
   simp only [Xw] at this
   simp only [XQ]
   cases hx:a.tmps[d]? with
   | none=>rw [hx] at this;simp [undef] at this
   | some u=>rw [hx] at this;simp at this;subst this;simp
theorem Z59 {d:Option Nat} {op:Op} {ty:TypeId} {pos:String} {af:Array Edge} {j:Nat} {b:Bool} (hy:yld ops e j=some (.bool b))
 (k:WL P n ops Q (⟨d,op,ty,pos,af,none⟩ :: rest) e w):WL P n ops Q (⟨d,op,ty,pos,af,some (j,b)⟩ :: rest) e w:=by
 refine ⟨fun a ha=>?_⟩
 have hk:=k.h a ha
 have hw:Region.wanted ⟨d,op,ty,pos,af,some (j,b)⟩ (yielded ops a.tmps)=true:=by simp [Region.wanted,Z6Z ha hy]
 unfold wpList at hk ⊢
 rw [if_pos hw]
 rw [if_pos (by simp [Region.wanted])] at hk
 exact hk
def Zn7:Value→Bool→Bool
 | .bool c,b=>c != b
 | _,_=>true
def noB (ops:Array Oper) (e:Env):Option (Nat×Bool)→Bool
 | none=>false
 | some (j, b) => match yld ops e j with
   | some u=>Zn7 u b
   | none=>false
theorem Z3m {ops:Array Oper} {a:Act} {o:Oper} (ha:Has n e a) (h:noB ops e o.guard=true):Region.wanted o (yielded ops a.tmps)=false:=by
 unfold Region.wanted
 cases hg:o.guard with
 | none=>rw [hg] at h;cases h
 | some jb=>
   obtain ⟨j,b⟩:=jb
   rw [hg] at h
   simp only [noB] at h
   cases hy:yld ops e j with
   | none=>rw [hy] at h;cases h
   | some u=>
     rw [hy] at h
     unfold yld at hy
     show (yielded ops a.tmps j == some b)=false
     unfold yielded
     cases hd:(ops[j]?).bind (·.dst) with
     | none=>rw [hd] at hy;simp at hy
     | some d=>
       rw [hd] at hy
       simp only [XQ] at hy
       have:=ha.vals d _ hy
       simp only [Xw] at this
       simp only [XQ]
       cases hx:a.tmps[d]? with
       | none=>rfl
       | some z=>
         rw [hx] at this
         simp at this
         subst this
         cases z<;>first|rfl|(simp only [Zn7] at h;cases b<;>simp_all)
theorem Zh2 {d:Nat} {op:Op} {ty:TypeId} {pos:String} {af:Array Edge} {j:Nat} {b:Bool} (hy:noB ops e (some (j,b))=true) (hd:Nat.blt d n=true)
 (k:WL P n ops Q rest ((d,undef) :: e) w):WL P n ops Q (⟨some d,op,ty,pos,af,some (j,b)⟩ :: rest) e w:=by
 refine ⟨fun a ha=>?_⟩
 have hw:Region.wanted ⟨some d,op,ty,pos,af,some (j,b)⟩ (yielded ops a.tmps)=false:=Z3m ha hy
 unfold wpList
 rw [if_neg (by simp [hw])]
 exact k.h _ (ha.put hd)
def ZeU (ops:Array Oper) (j:Nat):Option Nat:=(ops[j]?).bind (·.dst)
theorem Has.same {a:Act} {d:Nat} {u v:Value} (ha:Has n e a) (h:look e d=some u) (huv:u=v):Has n ((d,v) :: e) a:=by
 subst huv
 refine ⟨ha.defers,ha.size,fun t x hx=>?_⟩
 rw [Z28] at hx
 by_cases hd:d=t
 subst hd;simp at hx;subst hx;exact ha.vals _ _ h
 rw [if_neg hd] at hx;exact ha.vals _ _ hx
theorem ZeV {d:Nat} {o:Option Nat} {op:Op} {ty:TypeId} {pos:String} {af:Array Edge} {j:Nat} {b:Bool} {p:Prop} [Decidable p] (hj:ZeU ops j=some d) (hy:look e d=some (.bool (decide p)))
 (ht:p→WL P n ops Q (⟨o,op,ty,pos,af,some (j,b)⟩ :: rest) ((d,.bool true) :: e) w) (hf:¬ p→WL P n ops Q (⟨o,op,ty,pos,af,some (j,b)⟩ :: rest) ((d,.bool false) :: e) w) :
 WL P n ops Q (⟨o,op,ty,pos,af,some (j,b)⟩ :: rest) e w:=by
 refine ⟨fun a ha=>?_⟩
 by_cases hp:p
 exact (ht hp).h a (ha.same hy (by simp [hp]))
 exact (hf hp).h a (ha.same hy (by simp [hp]))
end rules
def Z5N (l:List Value):Nat→Env
 | k=>match l with|[]=>[]|v :: r=>(k,v) :: Z5N r (k+1)
theorem Z6g (l:List Value):∀ (k t:Nat) (v:Value),look (Z5N l k) t=some v→k≤t∧l[t - k]?=some v:=by
 induction l with
 | nil=>intro k t v h;simp [Z5N,look] at h
 | cons x r ih=>
   intro k t v h
   simp only [Z5N] at h
   rw [Z28] at h
   by_cases hk:k=t
   subst hk;simp at h;simp [h]
   rw [if_neg hk] at h
   obtain ⟨h1,h2⟩:=ih (k+1) t v h
   refine ⟨by omega,?_⟩
   have:t - k=(t - (k+1))+1:=by omega
   rw [this]
   simpa using h2
theorem J4 {P:Program} {f:FuncId} {fn:Func} {c:Code} {args:Array Value} {w:World} {R:Ending→World→Prop} {n:Nat} (hf:P.funcs[f]?=some fn) (hb:fn.body=some c)
 (hn:fn.ntmps=n) (hs:Nat.ble args.size n=true) (h:WC P n c (bodyPost P fn R) (Z5N args.toList 0) w):Calls P f args w R:=by
 refine calls_of_wp hf hb (h.h _ ?_)
 rw [hn]
 have hle:args.size≤n:=XU hs
 refine ⟨rfl,by simp;omega,fun t v hv=>?_⟩
 obtain ⟨_,h2⟩:=Z6g _ _ _ _ hv
 simp only [Nat.sub_zero] at h2
 have hlt:t<args.size:=by
  have:=(XC.1 h2).1
  simpa using this
 have:args[t]?=some v:=by simpa using h2
 have h3:(args++Array.replicate (n - args.size) undef)[t]?=some v:=by
  rw [Yal hlt];exact this
 simp [Xw,h3]
theorem Zh3 {P:Program} {f:FuncId} {fn:Func} {c:Code} {w:World} {R:Ending→World→Prop} {n:Nat} (hf:P.funcs[f]?=some fn) (hb:fn.body=some c)
 (hn:fn.ntmps=n) (h:WC P n c (bodyPost P fn R) [] w):Calls P f #[] w R:=J4 hf hb hn rfl h
theorem Zh4 {P:Program} {f:FuncId} {fn:Func} {c:Code} {a0:Value} {w:World} {R:Ending→World→Prop} {n:Nat} (hf:P.funcs[f]?=some fn) (hb:fn.body=some c)
 (hn:fn.ntmps=n) (hs:Nat.ble 1 n=true) (h:WC P n c (bodyPost P fn R) [(0,a0)] w):Calls P f #[a0] w R:=J4 hf hb hn hs h
theorem Zh5 {P:Program} {f:FuncId} {fn:Func} {c:Code} {a0 a1:Value} {w:World} {R:Ending→World→Prop} {n:Nat} (hf:P.funcs[f]?=some fn) (hb:fn.body=some c)
 (hn:fn.ntmps=n) (hs:Nat.ble 2 n=true) (h:WC P n c (bodyPost P fn R) [(0,a0),(1,a1)] w):Calls P f #[a0,a1] w R:=J4 hf hb hn hs h
theorem Zh6 {P:Program} {f:FuncId} {fn:Func} {c:Code} {a0 a1 a2:Value} {w:World} {R:Ending→World→Prop} {n:Nat} (hf:P.funcs[f]?=some fn) (hb:fn.body=some c)
 (hn:fn.ntmps=n) (hs:Nat.ble 3 n=true) (h:WC P n c (bodyPost P fn R) [(0,a0),(1,a1),(2,a2)] w):Calls P f #[a0,a1,a2] w R:=J4 hf hb hn hs h
theorem Zh7 {P:Program} {f:FuncId} {fn:Func} {c:Code} {a0 a1 a2 a3:Value} {w:World} {R:Ending→World→Prop} {n:Nat} (hf:P.funcs[f]?=some fn) (hb:fn.body=some c)
 (hn:fn.ntmps=n) (hs:Nat.ble 4 n=true) (h:WC P n c (bodyPost P fn R) [(0,a0),(1,a1),(2,a2),(3,a3)] w):Calls P f #[a0,a1,a2,a3] w R:=J4 hf hb hn hs h
section post
variable {P:Program} {n:Nat} {fn:Func} {R:Ending→World→Prop} {e:Env} {w:World}
theorem Z4n (hr:fn.results=#[]) (h:R (.returned (.tuple #[])) w):WQ n (bodyPost P fn R) .ret e w:=
 ⟨fun a ha=>⟨ha.defers,_,results_none hr _ _ _,h⟩⟩
theorem Z4o (hr:fn.results=#[]) (h:R (.returned (.tuple #[])) w):WQ n (bodyPost P fn R) .normal e w:=
 ⟨fun a ha=>⟨ha.defers,_,results_none hr _ _ _,h⟩⟩
theorem Zh8 {t:Nat} {v:Value} (hr:fn.results=#[.tmp t]) (ht:look e t=some v) (h:R (.returned v) w):WQ n (bodyPost P fn R) .ret e w:=
 ⟨fun a ha=>⟨ha.defers,_,results_tmp hr _ _ _,by rw [ha.vals t v ht];exact h⟩⟩
theorem Zh9 {t u:Nat} {v x:Value} (hr:fn.results=#[.tmp t,.tmp u]) (ht:look e t=some v) (hu:look e u=some x) (h:R (.returned (.tuple #[v,x])) w):WQ n (bodyPost P fn R) .ret e w:=
 ⟨fun a ha=>⟨ha.defers,_,results_tmp2 hr _ _ _,by rw [ha.vals t v ht,ha.vals u x hu];exact h⟩⟩
theorem Zha {t u s:Nat} {v x y:Value} (hr:fn.results=#[.tmp t,.tmp u,.tmp s]) (ht:look e t=some v) (hu:look e u=some x) (hs:look e s=some y) (h:R (.returned (.tuple #[v,x,y])) w):WQ n (bodyPost P fn R) .ret e w:=
 ⟨fun a ha=>⟨ha.defers,.tuple #[v,x,y],by simp [results,hr];simpa [Xw] using And.intro (ha.vals t v ht) (And.intro (ha.vals u x hu) (ha.vals s y hs)),h⟩⟩
end post
theorem cW0 {P:Program} {f:FuncId} {fn:Func} {c:Code} {w:World} {R:Ending→World→Prop} (n:Nat) (hf:P.funcs[f]?=some fn) (h:WC P n c (bodyPost P fn R) [] w) (hb:fn.body=some c:=by exact rfl) (hn:fn.ntmps=n:=by exact rfl):Calls P f #[] w R:=J4 hf hb hn rfl h
theorem cW1 {P:Program} {f:FuncId} {fn:Func} {c:Code} {a0:Value} {w:World} {R:Ending→World→Prop} (n:Nat) (hf:P.funcs[f]?=some fn) (h:WC P n c (bodyPost P fn R) [(0,a0)] w) (hb:fn.body=some c:=by exact rfl) (hn:fn.ntmps=n:=by exact rfl) (hs:Nat.ble 1 n=true:=by exact rfl):Calls P f #[a0] w R:=J4 hf hb hn hs h
theorem cW2 {P:Program} {f:FuncId} {fn:Func} {c:Code} {a0 a1:Value} {w:World} {R:Ending→World→Prop} (n:Nat) (hf:P.funcs[f]?=some fn) (h:WC P n c (bodyPost P fn R) [(0,a0),(1,a1)] w) (hb:fn.body=some c:=by exact rfl) (hn:fn.ntmps=n:=by exact rfl) (hs:Nat.ble 2 n=true:=by exact rfl):Calls P f #[a0,a1] w R:=J4 hf hb hn hs h
theorem cW3 {P:Program} {f:FuncId} {fn:Func} {c:Code} {a0 a1 a2:Value} {w:World} {R:Ending→World→Prop} (n:Nat) (hf:P.funcs[f]?=some fn) (h:WC P n c (bodyPost P fn R) [(0,a0),(1,a1),(2,a2)] w) (hb:fn.body=some c:=by exact rfl) (hn:fn.ntmps=n:=by exact rfl) (hs:Nat.ble 3 n=true:=by exact rfl):Calls P f #[a0,a1,a2] w R:=J4 hf hb hn hs h
theorem cW4 {P:Program} {f:FuncId} {fn:Func} {c:Code} {a0 a1 a2 a3:Value} {w:World} {R:Ending→World→Prop} (n:Nat) (hf:P.funcs[f]?=some fn) (h:WC P n c (bodyPost P fn R) [(0,a0),(1,a1),(2,a2),(3,a3)] w) (hb:fn.body=some c:=by exact rfl) (hn:fn.ntmps=n:=by exact rfl) (hs:Nat.ble 4 n=true:=by exact rfl):Calls P f #[a0,a1,a2,a3] w R:=J4 hf hb hn hs h
theorem cW5 {P:Program} {f:FuncId} {fn:Func} {c:Code} {a0 a1 a2 a3 a4:Value} {w:World} {R:Ending→World→Prop} (n:Nat) (hf:P.funcs[f]?=some fn) (h:WC P n c (bodyPost P fn R) [(0,a0),(1,a1),(2,a2),(3,a3),(4,a4)] w) (hb:fn.body=some c:=by exact rfl) (hn:fn.ntmps=n:=by exact rfl) (hs:Nat.ble 5 n=true:=by exact rfl):Calls P f #[a0,a1,a2,a3,a4] w R:=J4 hf hb hn hs h
theorem cW6 {P:Program} {f:FuncId} {fn:Func} {c:Code} {a0 a1 a2 a3 a4 a5:Value} {w:World} {R:Ending→World→Prop} (n:Nat) (hf:P.funcs[f]?=some fn) (h:WC P n c (bodyPost P fn R) [(0,a0),(1,a1),(2,a2),(3,a3),(4,a4),(5,a5)] w) (hb:fn.body=some c:=by exact rfl) (hn:fn.ntmps=n:=by exact rfl) (hs:Nat.ble 6 n=true:=by exact rfl):Calls P f #[a0,a1,a2,a3,a4,a5] w R:=J4 hf hb hn hs h
theorem cW7 {P:Program} {f:FuncId} {fn:Func} {c:Code} {a0 a1 a2 a3 a4 a5 a6:Value} {w:World} {R:Ending→World→Prop} (n:Nat) (hf:P.funcs[f]?=some fn) (h:WC P n c (bodyPost P fn R) [(0,a0),(1,a1),(2,a2),(3,a3),(4,a4),(5,a5),(6,a6)] w) (hb:fn.body=some c:=by exact rfl) (hn:fn.ntmps=n:=by exact rfl) (hs:Nat.ble 7 n=true:=by exact rfl):Calls P f #[a0,a1,a2,a3,a4,a5,a6] w R:=J4 hf hb hn hs h
theorem cW8 {P:Program} {f:FuncId} {fn:Func} {c:Code} {a0 a1 a2 a3 a4 a5 a6 a7:Value} {w:World} {R:Ending→World→Prop} (n:Nat) (hf:P.funcs[f]?=some fn) (h:WC P n c (bodyPost P fn R) [(0,a0),(1,a1),(2,a2),(3,a3),(4,a4),(5,a5),(6,a6),(7,a7)] w) (hb:fn.body=some c:=by exact rfl) (hn:fn.ntmps=n:=by exact rfl) (hs:Nat.ble 8 n=true:=by exact rfl):Calls P f #[a0,a1,a2,a3,a4,a5,a6,a7] w R:=J4 hf hb hn hs h
theorem cW9 {P:Program} {f:FuncId} {fn:Func} {c:Code} {a0 a1 a2 a3 a4 a5 a6 a7 a8:Value} {w:World} {R:Ending→World→Prop} (n:Nat) (hf:P.funcs[f]?=some fn) (h:WC P n c (bodyPost P fn R) [(0,a0),(1,a1),(2,a2),(3,a3),(4,a4),(5,a5),(6,a6),(7,a7),(8,a8)] w) (hb:fn.body=some c:=by exact rfl) (hn:fn.ntmps=n:=by exact rfl) (hs:Nat.ble 9 n=true:=by exact rfl):Calls P f #[a0,a1,a2,a3,a4,a5,a6,a7,a8] w R:=J4 hf hb hn hs h
class Und (P:Program) (t:Nat) (d:outParam TypeDesc):Prop where
 h:P.underlying t=some d
class Siz (P:Program) (t:Nat) (k:outParam Nat):Prop where
 h:(P.info? t).map (·.size)=some k
class Zer (P:Program) (t:Nat) (z:outParam Value):Prop where
 h:(P.info? t).bind (·.zero)=some z
class Byt (P:Program) (t:Nat) (k:outParam Nat):Prop where
 h:(P.info? t).map (·.bytes)=some k
class Fld (P:Program) (t i:Nat) (off:outParam Nat):Prop where
 h:∃ fs f k,P.underlying t=some (.struct fs)∧fs[i]?=some f∧f.offset=off∧(P.info? f.type).map (·.size)=some (k+1)
class Fun (P:Program) (f:Nat) (fn:outParam Func):Prop where
 h:P.funcs[f]?=some fn
 enters:Enters P f
theorem Siz.run {P:Program} {t k:Nat} [h:Siz P t k] (w:World):(sizeOf t).run P w=.ok k w:=by
 have:=h.h
 cases hi:P.info? t with
 | none=>simp [hi] at this
 | some i=>rw [hi] at this;simp at this;simp [sizeOf,typeInfo,hi,this]
theorem Zer.run {P:Program} {t:Nat} {z:Value} [h:Zer P t z] (w:World):(zeroValue t).run P w=.ok z w:=by
 have:=h.h
 cases hi:P.info? t with
 | none=>simp [hi] at this
 | some i=>rw [hi] at this;simp at this;simp [zeroValue,typeInfo,hi,this]
def JX:TypeDesc→Bool
 | .struct _|.array _ _=>true
 | _=>false
theorem Und.isAgg {P:Program} {t:Nat} {d:TypeDesc} [h:Und P t d] (w:World):(Go.isAgg t).run P w=.ok (JX d) w:=by
 cases d<;>simp [Go.isAgg,run_underlying h.h,JX]
section rules
variable {P:Program} {n:Nat} {e:Env} {w:World} {d:Option Nat} {ty:TypeId} {pos:String} {af:Array Edge} {g:Option (Nat×Bool)}
theorem ZU {x:Operand} {v:Value} (hx:ev e x=some v):PR P n ⟨d,.move x,ty,pos,af,g⟩ e w v:=⟨fun a ha=>by simp [execOp,ha.ev hx]⟩
theorem Z4p {x:Operand} {v:Value} (hx:ev e x=some v):PR P n ⟨d,.assign x,ty,pos,af,g⟩ e w v:=⟨fun a ha=>by simp [execOp,ha.ev hx]⟩
theorem Z8h {c x y:Operand} {v:Value} (hc:ev e c=some (.bool true)) (hx:ev e x=some v):PR P n ⟨d,.pick c x y,ty,pos,af,g⟩ e w v:=
 ⟨fun a ha=>by simp [execOp,ha.ev hc,ha.ev hx,asBool]⟩
theorem Z8i {c x y:Operand} {v:Value} (hc:ev e c=some (.bool false)) (hx:ev e y=some v):PR P n ⟨d,.pick c x y,ty,pos,af,g⟩ e w v:=
 ⟨fun a ha=>by simp [execOp,ha.ev hc,ha.ev hx,asBool]⟩
theorem ZeW {x:Operand} (hx:ev e x=some (.bool true)) {t:TypeId}:PR P n ⟨d,.unOp .not t x,ty,pos,af,g⟩ e w (.bool false):=
 ⟨fun a ha=>by simp [execOp,ha.ev hx,Op.unary]⟩
theorem ZeX {x:Operand} (hx:ev e x=some (.bool false)) {t:TypeId}:PR P n ⟨d,.unOp .not t x,ty,pos,af,g⟩ e w (.bool true):=
 ⟨fun a ha=>by simp [execOp,ha.ev hx,Op.unary]⟩
def I64 (z:Int):Prop:=-9223372036854775808≤z∧z≤9223372036854775807
theorem Z0j {z:Int} (h:I64 z):IntKind.i64.wrap z=z:=by
 unfold I64 at h
 rw [IntKind.wrap_i64]
 omega
section arith
variable {x y:Operand} {a b:Int} {t u:TypeId}
theorem Zbx (hx:ev e x=some (.int .i64 a)) (hy:ev e y=some (.int .i64 b)) (hr:I64 (a+b)):PR P n ⟨d,.binOp .add t x y u,ty,pos,af,g⟩ e w (.int .i64 (a+b)):=
 ⟨fun c ha=>by simp only [execOp,ha.ev hx,ha.ev hy];simp [go_sem,Op.intArith,Z0j hr]⟩
theorem Z3R (hx:ev e x=some (.int .i64 a)) (hy:ev e y=some (.int .i64 b)) (hr:I64 (a - b)):PR P n ⟨d,.binOp .sub t x y u,ty,pos,af,g⟩ e w (.int .i64 (a - b)):=
 ⟨fun c ha=>by simp only [execOp,ha.ev hx,ha.ev hy];simp [go_sem,Op.intArith,Z0j hr]⟩
theorem Zjg (hx:ev e x=some (.int .i64 a)) (hy:ev e y=some (.int .i64 b)) (hr:I64 (a * b)):PR P n ⟨d,.binOp .mul t x y u,ty,pos,af,g⟩ e w (.int .i64 (a * b)):=
 ⟨fun c ha=>by simp only [execOp,ha.ev hx,ha.ev hy];simp [go_sem,Op.intArith,Z0j hr]⟩
theorem Zjh (hx:ev e x=some (.int .i64 a)) (hr:I64 (- a)):PR P n ⟨d,.unOp .neg t x,ty,pos,af,g⟩ e w (.int .i64 (- a)):=
 ⟨fun c ha=>by simp only [execOp,ha.ev hx];simp [go_sem,Op.unary,Op.intArith,Z0j hr]⟩
theorem Zji (hx:ev e x=some (.int .i64 a)) (hy:ev e y=some (.int .i64 b)) (hb:b≠0) (hr:I64 (a.tmod b)):PR P n ⟨d,.binOp .rem t x y u,ty,pos,af,g⟩ e w (.int .i64 (a.tmod b)):=
 ⟨fun c ha=>by simp only [execOp,ha.ev hx,ha.ev hy];simp [go_sem,Op.intDiv,hb];try rw [Z0j hr]⟩
theorem Zjj (hx:ev e x=some (.int .i64 a)) (hy:ev e y=some (.int .i64 b)) (hb:b≠0) (hr:I64 (a.tdiv b)):PR P n ⟨d,.binOp .quo t x y u,ty,pos,af,g⟩ e w (.int .i64 (a.tdiv b)):=
 ⟨fun c ha=>by simp only [execOp,ha.ev hx,ha.ev hy];simp [go_sem,Op.intDiv,hb];try rw [Z0j hr]⟩
theorem ZcB (hx:ev e x=some (.int .i64 a)) (hy:ev e y=some (.int .i64 b)) (h0:0≤a) (hb:0<b) (hr:I64 a):PR P n ⟨d,.binOp .rem t x y u,ty,pos,af,g⟩ e w (.int .i64 (a % b)):=by
 have h1:a.tmod b=a % b:=Int.tmod_eq_emod_of_nonneg h0
 rw [← h1]
 refine Zji hx hy (by omega) ?_
 rw [h1]
 have:=Ya9 a (show b≠0 by omega)
 have h2:a % b≤a:=by
  by_cases hab:a<b
  rw [Ya1 h0 hab];exact Yaw _
  have:=YaY a hb;omega
 unfold I64 at hr ⊢
 omega
theorem ZcC (hx:ev e x=some (.int .i64 a)) (hy:ev e y=some (.int .i64 b)) (h0:0≤a) (hb:0<b) (hr:I64 a):PR P n ⟨d,.binOp .quo t x y u,ty,pos,af,g⟩ e w (.int .i64 (a / b)):=by
 have h1:a.tdiv b=a / b:=Int.tdiv_eq_ediv_of_nonneg h0
 rw [← h1]
 refine Zjj hx hy (by omega) ?_
 rw [h1]
 have:=Int.ediv_nonneg h0 (Int.le_of_lt hb)
 have h2:a / b≤a:=Int.ediv_le_self _ h0
 unfold I64 at hr ⊢
 omega
variable {k:IntKind}
theorem ZeY (hx:ev e x=some (.int k a)) (hy:ev e y=some (.int k b)):PR P n ⟨d,.binOp .lss t x y u,ty,pos,af,g⟩ e w (.bool (decide (a<b))):=
 ⟨fun c ha=>by simp only [execOp,ha.ev hx,ha.ev hy];simp [go_sem]⟩
theorem ZeZ (hx:ev e x=some (.int k a)) (hy:ev e y=some (.int k b)):PR P n ⟨d,.binOp .leq t x y u,ty,pos,af,g⟩ e w (.bool (decide (a≤b))):=
 ⟨fun c ha=>by simp only [execOp,ha.ev hx,ha.ev hy];simp [go_sem]⟩
theorem Zf0 (hx:ev e x=some (.int k a)) (hy:ev e y=some (.int k b)):PR P n ⟨d,.binOp .gtr t x y u,ty,pos,af,g⟩ e w (.bool (decide (b<a))):=
 ⟨fun c ha=>by simp only [execOp,ha.ev hx,ha.ev hy];simp [go_sem]⟩
theorem Zjk (hx:ev e x=some (.int k a)) (hy:ev e y=some (.int k b)):PR P n ⟨d,.binOp .geq t x y u,ty,pos,af,g⟩ e w (.bool (decide (b≤a))):=
 ⟨fun c ha=>by simp only [execOp,ha.ev hx,ha.ev hy];simp [go_sem]⟩
theorem Zf1 (hx:ev e x=some (.int k a)) (hy:ev e y=some (.int k b)):PR P n ⟨d,.binOp .eql t x y u,ty,pos,af,g⟩ e w (.bool (decide (a=b))):=
 ⟨fun c ha=>by simp only [execOp,ha.ev hx,ha.ev hy];simp [go_sem];exact Yan a b⟩
theorem Zf2 (hx:ev e x=some (.int k a)) (hy:ev e y=some (.int k b)):PR P n ⟨d,.binOp .neq t x y u,ty,pos,af,g⟩ e w (.bool (decide (¬ a=b))):=
 ⟨fun c ha=>by simp only [execOp,ha.ev hx,ha.ev hy];simp [go_sem];rw [bne,Yan]⟩
theorem Zhb {p q:Bool} [hu:Und P t .bool] (hx:ev e x=some (.bool p)) (hy:ev e y=some (.bool q)):PR P n ⟨d,.binOp .eql t x y u,ty,pos,af,g⟩ e w (.bool (decide (p=q))):=
 ⟨fun c ha=>by simp only [execOp,ha.ev hx,ha.ev hy];simp [go_sem,binOp,run_equal_bool w t p q hu.h];cases p<;>cases q<;>rfl⟩
theorem Zhc {p q:Bool} [hu:Und P t .bool] (hx:ev e x=some (.bool p)) (hy:ev e y=some (.bool q)):PR P n ⟨d,.binOp .neq t x y u,ty,pos,af,g⟩ e w (.bool (decide (¬ p=q))):=
 ⟨fun c ha=>by simp only [execOp,ha.ev hx,ha.ev hy];simp [go_sem,binOp,run_equal_bool w t p q hu.h];cases p<;>cases q<;>rfl⟩
end arith
theorem Z70 {x:Operand} {vs:Array Value} {i:Nat} {v:Value} (hx:ev e x=some (.tuple vs)) (hv:vs[i]?=some v):PR P n ⟨d,.extract x i,ty,pos,af,g⟩ e w v:=
 ⟨fun a ha=>by simp [execOp,ha.ev hx,Instr.extract,hv]⟩
theorem Zjl {x:Operand} {t:TypeId} {el:TypeId} [hu:Und P t (.slice el)] {p:Option Addr} {l c:Nat} (hx:ev e x=some (.slice p l c)) :
 PR P n ⟨d,.call { callee:=.builtin .len,args:=#[x],argTypes:=#[t] },ty,pos,af,g⟩ e w (.int .i64 (l:Int)):=
 ⟨fun a ha => by
   have:=run_len_slice (P:=P) w t ty p l c (by rw [hu.h,Program.elem,hu.h])
   simp [execOp,resolve,invoke,builtin,ha.ev hx,this,goInt]⟩
theorem Z6h {t i off:Nat} [h:Fld P t i off] (b o:Nat) (w:World):(Instr.fieldAt t (.pointer (some ⟨b,o,none⟩)) i).run P w=.ok (.pointer (some ⟨b,o+off,none⟩)) w:=by
 obtain ⟨fs,f,k,h1,h2,rfl,h3⟩:=h.h
 have:Siz P f.type (k+1):=⟨h3⟩
 simp [Instr.fieldAt,run_underlying h1,h2,Instr.sureAddr,fieldPlace,Siz.run,Addr.add_lit]
theorem JQ {x:Operand} {t:TypeId} {b o i off:Nat} [hf:Fld P t i off] (hx:ev e x=some (.pointer (some ⟨b,o,none⟩))):PR P n ⟨d,.fieldAddr t x i,ty,pos,af,g⟩ e w (.pointer (some ⟨b,o+off,none⟩)):=
 ⟨fun a ha=>by simp [execOp,ha.ev hx,Z6h]⟩
theorem Z2V {x:Operand} {t:TypeId} {D:TypeDesc} {ad:Addr} {v:Value} [hu:Und P t D] (hA:JX D=false) (hx:ev e x=some (.pointer (some ad))) (hc:w.cell? ad=some v) :
 PR P n ⟨d,.load t x,ty,pos,af,g⟩ e w v:=
 ⟨fun a ha=>by simp [execOp,ha.ev hx,Instr.loadAt,Instr.sureAddr,loadVar,Und.isAgg,hA,hc]⟩
theorem Z3S {x:Operand} {t:TypeId} {D:TypeDesc} {b o k:Nat} {cs:List Value} [hu:Und P t D] (hA:JX D=true) [hs:Siz P t k] (hx:ev e x=some (.pointer (some ⟨b,o,none⟩)))
 (hl:cs.length=k) (hc:∀ j u,cs[j]?=some u→w.cell? ⟨b,o+j,none⟩=some u) :
 PR P n ⟨d,.load t x,ty,pos,af,g⟩ e w (.agg cs.toArray):=
 ⟨fun a ha => by
   have:=run_loadCells_list (P:=P) w ⟨b,o,none⟩ cs (fun j v h=>by rw [Addr.add_lit];exact hc j v h)
   rw [hl] at this
   simp [execOp,ha.ev hx,Instr.loadAt,Instr.sureAddr,loadVar,Und.isAgg,hA,Siz.run,this]⟩
theorem Z8X {f:Nat} {x:Operand} {v:Value} (hx:ev e x=some v):PR P n ⟨d,.makeFunc (.func f) #[] #[x],ty,pos,af,g⟩ e w (.func (.func f) #[] #[v]):=
 ⟨fun a ha=>by simp [execOp,Instr.makeFunc,ha.ev hx]⟩
theorem Z8Y {f:Nat} {x y:Operand} {v u:Value} (hx:ev e x=some v) (hy:ev e y=some u):PR P n ⟨d,.makeFunc (.func f) #[] #[x,y],ty,pos,af,g⟩ e w (.func (.func f) #[] #[v,u]):=
 ⟨fun a ha=>by simp [execOp,Instr.makeFunc,ha.ev hx,ha.ev hy]⟩
def Ret (G:Value→World→Prop) (r:Ending) (w':World):Prop:=∃ v,r=.returned v∧G v w'
theorem Ret.mk {G:Value→World→Prop} {v:Value} {w':World} (h:G v w'):Ret G (.returned v) w':=⟨v,rfl,h⟩
theorem Calls.ret {P:Program} {f:FuncId} {args:Array Value} {w:World} {G G':Value→World→Prop} (h:Calls P f args w (Ret G)) (hg:∀ v w',G v w'→G' v w'):Calls P f args w (Ret G'):=
 h.mono fun _ _ ⟨v,h1,h2⟩=>⟨v,h1,hg _ _ h2⟩
theorem Z5 {f:Nat} {fn:Func} {xs:Array Operand} {ts:Array TypeId} {vs:Array Value} {G:Value→World→Prop} {c:Operand} [hf:Fun P f fn] (hc:ev e c=some (.func (.func f) #[] #[]))
 (hv:∀ a,Has n e a→xs.map a.eval=vs) (h:Calls P f vs w (Ret G)) :
 OE P n ⟨d,.call { callee:=.value c,args:=xs,argTypes:=ts },ty,pos,af,g⟩ e w G:=
 ⟨fun a ha Q => by
   have he:(execOp a.eval ⟨d,.call { callee:=.value c,args:=xs,argTypes:=ts },ty,pos,af,g⟩).run P w=.ok (.enter f vs) w:=by
    simp only [execOp,resolve,ha.ev hc,Deferred.ofValue,hv a ha]
    simp [invoke]
    exact hf.enters vs w
   unfold Oper.wp
   rw [he]
   simp only [Oper.upon]
   refine h.mono ?_
   rintro r w' ⟨v,rfl,hg⟩
   exact ⟨v,rfl,hg⟩⟩
theorem Z3T {f:Nat} {fn:Func} {xs:Array Operand} {ts:Array TypeId} {vs cap us:Array Value} {G:Value→World→Prop} {c:Operand} [hf:Fun P f fn] (hc:ev e c=some (.func (.func f) #[] cap))
 (hv:∀ a,Has n e a→xs.map a.eval=vs) (hu:vs++cap=us) (h:Calls P f us w (Ret G)) :
 OE P n ⟨d,.call { callee:=.value c,args:=xs,argTypes:=ts },ty,pos,af,g⟩ e w G:=
 ⟨fun a ha Q => by
   have he:(execOp a.eval ⟨d,.call { callee:=.value c,args:=xs,argTypes:=ts },ty,pos,af,g⟩).run P w=.ok (.enter f us) w:=by
    simp only [execOp,resolve,ha.ev hc,Deferred.ofValue,hv a ha]
    simp [invoke,hu]
    exact hf.enters us w
   unfold Oper.wp
   rw [he]
   simp only [Oper.upon]
   refine h.mono ?_
   rintro r w' ⟨v,rfl,hg⟩
   exact ⟨v,rfl,hg⟩⟩
theorem Z4O:∀ a,Has n e a→(#[]:Array Operand).map a.eval=#[]:=fun a ha=>by simp
theorem Zp {x:Operand} {v:Value} (hx:ev e x=some v):∀ a,Has n e a→#[x].map a.eval=#[v]:=fun a ha=>by simp [ha.ev hx]
theorem Z9 {x y:Operand} {v u:Value} (hx:ev e x=some v) (hy:ev e y=some u):∀ a,Has n e a→#[x,y].map a.eval=#[v,u]:=fun a ha=>by simp [ha.ev hx,ha.ev hy]
theorem ZH {x y z:Operand} {v u s:Value} (hx:ev e x=some v) (hy:ev e y=some u) (hz:ev e z=some s):∀ a,Has n e a→#[x,y,z].map a.eval=#[v,u,s]:=fun a ha=>by simp [ha.ev hx,ha.ev hy,ha.ev hz]
theorem Z3n {x y z k:Operand} {v u s r:Value} (hx:ev e x=some v) (hy:ev e y=some u) (hz:ev e z=some s) (hk:ev e k=some r):∀ a,Has n e a→#[x,y,z,k].map a.eval=#[v,u,s,r]:=
 fun a ha=>by simp [ha.ev hx,ha.ev hy,ha.ev hz,ha.ev hk]
end rules
theorem mkF {P:Program} {f:Nat} {fn:Func} {c:Code} (h:P.funcs[f]?=some fn) (h2:(fn.name == "runtime.NumGoroutine")=false:=by kernel_rfl) (h3:fn.body=some c:=by exact rfl):Fun P f fn:=⟨h,enters_of h h2 h3⟩
theorem uM {P:Program} {t:Nat} {d:TypeDesc} (h:P.underlying t=some d):Und P t d:=⟨h⟩
structure Stp (S:List Nat) (w w':World):Prop where
 os:w'.os=w.os
 tape:w'.tape=w.tape
 output:w'.output=w.output
 size:w.heap.size≤w'.heap.size
 block:∀ b,b<w.heap.size→b∉S→w'.heap[b]?=w.heap[b]?
theorem Stp.refl (S:List Nat) (w:World):Stp S w w:=⟨rfl,rfl,rfl,Xo _,fun _ _ _=>rfl⟩
theorem Stp.trans {S:List Nat} {a b c:World} (h:Stp S a b) (k:Stp S b c):Stp S a c:=
 ⟨k.os.trans h.os,k.tape.trans h.tape,k.output.trans h.output,Xh h.size k.size,fun i hi hn=>(k.block i (Xa hi h.size) hn).trans (h.block i hi hn)⟩
theorem Stp.mono {S S':List Nat} {a b:World} (h:Stp S a b) (hs:∀ x∈S,x∈S'):Stp S' a b:=⟨h.os,h.tape,h.output,h.size,fun i hi hn=>h.block i hi (fun hx=>hn (hs i hx))⟩
theorem Stp.own {S S':List Nat} {a b c:World} (h:Stp S a b) (k:Stp S' b c) (hs:∀ x∈S',x∈S∨a.heap.size≤x):Stp S a c:=
 ⟨k.os.trans h.os, k.tape.trans h.tape, k.output.trans h.output, Xh h.size k.size, fun i hi hn => (k.block i (Xa hi h.size) (fun hx => by
   rcases hs i hx with h1|h1
   exact hn h1
   omega)).trans (h.block i hi hn)⟩
theorem Stp.below {a b:World} (h:Stp [] a b):Below a.heap.size a b:=⟨h.os,h.tape,h.output,h.size,fun i hi=>h.block i hi (by simp)⟩
theorem Stp.of_below {a b:World} (h:Below a.heap.size a b):Stp [] a b:=⟨h.os,h.tape,h.output,h.size,fun i hi _=>h.block i hi⟩
theorem Stp.cell {S:List Nat} {w w':World} (h:Stp S w w') {b o:Nat} {v:Value} (hb:b∉S) (hc:w.cell? ⟨b,o,none⟩=some v):w'.cell? ⟨b,o,none⟩=some v:=by
 have hlt:b<w.heap.size:=block_lt_of_cell (a:=⟨b,o,none⟩) hc
 rw [← hc]
 exact World.cell?_of_block (w:=w) (h.block b hlt hb)
theorem Stp.drew (S:List Nat) (w:World):Stp S w w.drew:=⟨rfl,rfl,rfl,Xo _,fun _ _ _=>rfl⟩
theorem Stp.alloc (S:List Nat) (w:World) (o:Obj):Stp S w (w.alloc o):=⟨rfl,rfl,rfl,by simp,fun k hk _=>Below.heap_alloc w o k hk⟩
theorem Stp.of_grown {w w':World} {row:Option Nat} (h:w.grownBy w' row):Stp row.toList w w':=
 ⟨h.os,h.tape,h.output,h.size,fun k hk hn=>h.block k hk (fun e=>hn (by simp [← e]))⟩
class Zf (α:Type) where
 k:Nat
 rep:List Nat→World→α→List Value→Prop
 len:∀ {X:List Nat} {w:World} {x:α} {cs:List Value},rep X w x cs→cs.length=k
 one:∀ {X:List Nat} {w:World} {x:α} {cs:List Value},rep X w x cs→∀ u∈cs,u.oneCell'=true
 ext:∀ {X S X':List Nat} {w w':World} {x:α} {cs:List Value},rep X w x cs→Stp S w w'→(∀ b∈S,b∈X)→(∀ b∈X',b∈X∨w.heap.size≤b)→rep X' w' x cs
class Zi (α:Type) where
 k:Nat
 enc:α→List Value
 len:∀ x,(enc x).length=k
 one:∀ x,∀ u∈enc x,u.oneCell'=true
instance {α:Type} [Zi α]:Zf α where
 k:=Zi.k α
 rep:=fun _ _ x cs=>cs=Zi.enc x
 len:=fun h=>h ▸ Zi.len _
 one:=fun h=>h ▸ Zi.one _
 ext:=fun h _ _ _=>h
instance:Zi Int where
 k:=1
 enc:=fun x=>[.int .i64 x]
 len:=fun _=>rfl
 one:=by intro x u hu;simp at hu;subst hu;rfl
instance:Zi Bool where
 k:=1
 enc:=fun x=>[.bool x]
 len:=fun _=>rfl
 one:=by intro x u hu;simp at hu;subst hu;rfl
def SlV {α:Type} [Zf α] (X:List Nat) (w:World) (v:Value) (xs:List α):Prop:=
 ∃ (p : Option Addr) (c : Nat), v = .slice p xs.length c ∧ xs.length ≤ c ∧ c ≤ maxLen ∧ (p = none → c = 0)∧
   ∀ i (h:i<xs.length),∃ b o cs,p=some ⟨b,o,none⟩∧b<w.heap.size∧b∉X∧Zf.rep X w xs[i] cs∧∀ j u,cs[j]?=some u→w.cell? ⟨b,o+i * Zf.k α+j,none⟩=some u
theorem SlV.ext {α:Type} [Zf α] {X S X':List Nat} {w w':World} {v:Value} {xs:List α} (h:SlV X w v xs) (hS:Stp S w w') (h1:∀ b∈S,b∈X) (h2:∀ b∈X',b∈X∨w.heap.size≤b):SlV X' w' v xs:=by
 obtain ⟨p,c,hv,hl,hm,hn,hc⟩:=h
 refine ⟨p,c,hv,hl,hm,hn,fun i hi=>?_⟩
 obtain ⟨b,o,cs,hp,hb,hx,hr,hcell⟩:=hc i hi
 refine ⟨b,o,cs,hp,Xa hb hS.size,fun hbx=>?_,Zf.ext hr hS h1 h2,fun j u hu=>hS.cell (fun hbs=>hx (h1 b hbs)) (hcell j u hu)⟩
 rcases h2 b hbx with h|h
 exact hx h
 omega
theorem SlV.up {α:Type} [Zf α] {X:List Nat} {w w':World} {v:Value} {xs:List α} (h:SlV X w v xs) (hS:Stp [] w w'):SlV X w' v xs:=
 h.ext hS (by simp) (fun b hb=>.inl hb)
theorem SlV.len {α:Type} [Zf α] {X:List Nat} {w:World} {v:Value} {xs:List α} (h:SlV X w v xs):∃ p c,v=.slice p xs.length c:=let ⟨p,c,hv,_⟩:=h;⟨p,c,hv⟩
theorem SlV.cells {α:Type} [Zf α] {X:List Nat} {w:World} {v:Value} {xs:List α} (h:SlV X w v xs):v.cells.toList=[v]:=by
 obtain ⟨p,c,rfl⟩:=h.len
 rfl
theorem SlV.one {α:Type} [Zf α] {X:List Nat} {w:World} {v:Value} {xs:List α} (h:SlV X w v xs):v.oneCell'=true:=by
 obtain ⟨p,c,rfl⟩:=h.len
 rfl
theorem SlV.max {α:Type} [Zf α] {X:List Nat} {w:World} {v:Value} {xs:List α} (h:SlV X w v xs):xs.length≤9223372036854775807:=by
 obtain ⟨p,c,hv,hl,hm,_⟩:=h
 simp only [maxLen] at hm
 omega
def ZL (v:Value) (i k j:Nat):Addr:=
 match v with
 | .slice (some a) _ _=>⟨a.block,a.off+i * k+j,none⟩
 | _=>⟨0,0,none⟩
def Blk (w:World) (b:Nat) (T:TypeId) (cs:List Value):Prop:=w.heap[b]?=some (.cells cs.toArray T (0,0))
theorem Blk.lt {w:World} {b T:Nat} {cs:List Value} (h:Blk w b T cs):b<w.heap.size:=(Xl.1 h).1
theorem Blk.ext {w w':World} {S:List Nat} {b T:Nat} {cs:List Value} (h:Blk w b T cs) (hS:Stp S w w') (hb:b∉S):Blk w' b T cs:=by
 unfold Blk at *
 rw [hS.block b (Blk.lt h) hb]
 exact h
theorem Blk.up {w w':World} {b T:Nat} {cs:List Value} (h:Blk w b T cs) (hS:Stp [] w w'):Blk w' b T cs:=h.ext hS (by simp)
theorem Blk.cell {w:World} {b T:Nat} {cs:List Value} (h:Blk w b T cs) {j:Nat} {u:Value} (hu:cs[j]?=some u):w.cell? ⟨b,j,none⟩=some u:=by
 unfold Blk at h
 simp [World.cell?,h,hu]
section rules
variable {P:Program} {n:Nat} {e:Env} {w:World} {d:Option Nat} {ty:TypeId} {pos:String} {af:Array Edge} {g:Option (Nat×Bool)}
theorem ZcD {α:Type} [Zf α] {X:List Nat} {xs:List α} {v:Value} {x:Operand} {t:TypeId} {el:TypeId} {w₀:World} [hu:Und P t (.slice el)] (hx:ev e x=some v) (hs:SlV X w₀ v xs) :
 PR P n ⟨d,.call { callee:=.builtin .len,args:=#[x],argTypes:=#[t] },ty,pos,af,g⟩ e w (.int .i64 (xs.length:Int)):=by
 obtain ⟨p,c,rfl⟩:=hs.len
 exact Zjl hx
theorem Zby {α:Type} [Zf α] {X:List Nat} {xs:List α} {v:Value} {x y:Operand} {t:TypeId} {el k:Nat} [hu:Und P t (.slice el)] [hk:Siz P el k] {z:Int} {i:Nat} {w₀:World}
 (hx:ev e x=some v) (hs:SlV X w₀ v xs) (hy:ev e y=some (.int .i64 z)) (hz:z=(i:Int)) (hi:i<xs.length) :
 PR P n ⟨d,.indexAddr t x y,ty,pos,af,g⟩ e w (.pointer (some (ZL v i k 0))):=by
 refine ⟨fun a ha=>?_⟩
 obtain ⟨p,c,rfl,hl,hm,hn,hc⟩:=hs
 obtain ⟨b,o,cs,rfl,_⟩:=hc i hi
 subst hz
 have h0:(0:Int)≤(i:Int)∧(i:Int)<(xs.length:Int):=by omega
 have hr:(Instr.indexAt t (.slice (some ⟨b,o,none⟩) xs.length c) (.int .i64 (i:Int))).run P w=.ok (.pointer (some ⟨b,o+i * k,none⟩)) w:=by
  simp only [Instr.indexAt,asIntOf]
  simp [run_underlying hu.h,Siz.run,Addr.add_lit,hi]
 simp [execOp,ha.ev hx,ha.ev hy,hr,ZL]
theorem Z6i {x:Operand} {t:TypeId} {v:Value} {i k j m off:Nat} [hf:Fld P t m off] (hx:ev e x=some (.pointer (some (ZL v i k j))))
 (hv:∃ p l c,v=.slice (some p) l c):PR P n ⟨d,.fieldAddr t x m,ty,pos,af,g⟩ e w (.pointer (some (ZL v i k (j+off)))):=by
 obtain ⟨p,l,c,rfl⟩:=hv
 exact ⟨fun a ha=>by simp [execOp,ha.ev hx,ZL,Z6h,XT]⟩
theorem SlV.isSome {α:Type} [Zf α] {X:List Nat} {v:Value} {xs:List α} {i:Nat} (h:SlV X w v xs) (hi:i<xs.length):∃ p l c,v=.slice (some p) l c:=by
 obtain ⟨p,c,rfl,_,_,_,hc⟩:=h
 obtain ⟨b,o,cs,rfl,_⟩:=hc i hi
 exact ⟨_,_,_,rfl⟩
theorem SlV.cell {α:Type} [Zf α] {X:List Nat} {v:Value} {xs:List α} {i:Nat} (h:SlV X w v xs) (hi:i<xs.length):∃ cs,Zf.rep X w xs[i] cs∧∀ j u,cs[j]?=some u→w.cell? (ZL v i (Zf.k α) j)=some u:=by
 obtain ⟨p,c,rfl,_,_,_,hc⟩:=h
 obtain ⟨b,o,cs,rfl,_,_,hr,hcell⟩:=hc i hi
 exact ⟨cs,hr,fun j u hu=>by simpa [ZL] using hcell j u hu⟩
theorem SlV.cellF {α:Type} [Zi α] {X:List Nat} {v:Value} {xs:List α} {i:Nat} (h:SlV X w v xs) (hi:i<xs.length) {j:Nat} {u:Value} (hu:(Zi.enc xs[i])[j]?=some u):w.cell? (ZL v i (Zi.k α) j)=some u:=by
 obtain ⟨cs,hr,hc⟩:=h.cell hi
 have hr':cs=Zi.enc xs[i]:=hr
 subst hr'
 exact hc j u hu
theorem Z4P {α:Type} [Zi α] {X:List Nat} {xs:List α} {v u:Value} {i j k:Nat} {x:Operand} {t:TypeId} {D:TypeDesc} [hu:Und P t D] (hA:JX D=false) (hx:ev e x=some (.pointer (some (ZL v i k j))))
 (hs:SlV X w v xs) (hi:i<xs.length) (hk:k=Zi.k α) (hc:(Zi.enc xs[i])[j]?=some u):PR P n ⟨d,.load t x,ty,pos,af,g⟩ e w u:=
 Z2V hA hx (by subst hk;exact hs.cellF hi hc)
theorem Z9L {α:Type} [Zi α] {X:List Nat} {xs:List α} {v:Value} {us:List Value} {i j k m:Nat} {x:Operand} {t:TypeId} {D:TypeDesc} [hu:Und P t D] (hA:JX D=true) [hsz:Siz P t m] (hx:ev e x=some (.pointer (some (ZL v i k j))))
 (hs:SlV X w v xs) (hi:i<xs.length) (hk:k=Zi.k α) (hl:us.length=m) (hc:((Zi.enc xs[i]).drop j).take m=us):PR P n ⟨d,.load t x,ty,pos,af,g⟩ e w (.agg us.toArray):=by
 obtain ⟨p,l,c,hv⟩:=hs.isSome hi
 have hcell:=fun (q:Nat) (u:Value) (h:(Zi.enc xs[i])[q]?=some u)=>hs.cellF hi h
 subst hv
 refine Z3S hA hx hl (fun q u hq=>?_)
 have h1:(Zi.enc xs[i])[j+q]?=some u:=by
  rw [← hc,Yac] at hq
  split at hq
  simpa using hq
  cases hq
 have:=hcell (j+q) u h1
 subst hk
 simpa [ZL,XT] using this
theorem Z6j {α:Type} [Zi α] {X:List Nat} {xs:List α} {v:Value} {i k:Nat} {x:Operand} {t:TypeId} {D:TypeDesc} [hu:Und P t D] (hA:JX D=true) [hsz:Siz P t k] (hx:ev e x=some (.pointer (some (ZL v i k 0))))
 (hs:SlV X w v xs) (hi:i<xs.length) (hk:k=Zi.k α):PR P n ⟨d,.load t x,ty,pos,af,g⟩ e w (.agg (Zi.enc xs[i]).toArray):=
 Z9L hA hx hs hi hk (by rw [hk];exact Zi.len _) (by rw [Ybd,XB (by rw [hk,Zi.len];exact Xo _)])
theorem ZP {b T o:Nat} {cs:List Value} {u:Value} {x:Operand} {t:TypeId} {D:TypeDesc} [hu:Und P t D] (hA:JX D=false) (hx:ev e x=some (.pointer (some ⟨b,o,none⟩))) (hb:Blk w b T cs) (hc:cs[o]?=some u) :
 PR P n ⟨d,.load t x,ty,pos,af,g⟩ e w u:=Z2V hA hx (hb.cell hc)
theorem Je {b T o m:Nat} {cs us:List Value} {x:Operand} {t:TypeId} {D:TypeDesc} [hu:Und P t D] (hA:JX D=true) [hsz:Siz P t m] (hx:ev e x=some (.pointer (some ⟨b,o,none⟩))) (hb:Blk w b T cs)
 (hl:us.length=m) (hc:(cs.drop o).take m=us):PR P n ⟨d,.load t x,ty,pos,af,g⟩ e w (.agg us.toArray):=by
 refine Z3S hA hx hl (fun q u hq=>hb.cell ?_)
 rw [← hc,Yac] at hq
 split at hq
 simpa using hq
 cases hq
theorem J8 {b T m:Nat} {cs:List Value} {x:Operand} {t:TypeId} {D:TypeDesc} [hu:Und P t D] (hA:JX D=true) [hsz:Siz P t m] (hx:ev e x=some (.pointer (some ⟨b,0,none⟩))) (hb:Blk w b T cs)
 (hl:cs.length=m):PR P n ⟨d,.load t x,ty,pos,af,g⟩ e w (.agg cs.toArray):=
 Je hA hx hb hl (by rw [Ybd,XB (by omega)])
def Zbz (w:World) (T:TypeId) (cs:List Value) (v:Value) (w':World):Prop:=∃ b,v=.pointer (some ⟨b,0,none⟩)∧w.heap.size≤b∧Blk w' b T cs∧Stp [] w w'
theorem Zf3 (w:World) (T:TypeId) (cs:List Value):Zbz w T cs (.pointer (some ⟨w.heap.size,0,none⟩)) (w.alloc (.cells cs.toArray T)):=
 ⟨_,rfl,Xo _,heap_alloc_new w _,Stp.alloc _ _ _⟩
theorem Z0q {o:Oper} {G:Value→World→Prop} {v:Value} {w':World} (h:∀ a,Has n e a→(execOp a.eval o).run P w=.ok (.value v) w') (hg:G v w'):OE P n o e w G:=
 ⟨fun a ha Q=>by unfold Oper.wp;rw [h a ha];exact ⟨v,rfl,hg⟩⟩
theorem Z5a {o:Oper} {G:Value→World→Prop} {w':World} (h:∀ a,Has n e a→(execOp a.eval o).run P w=.ok .skip w') (hg:G undef w'):OE P n o e w G:=
 ⟨fun a ha Q=>by unfold Oper.wp;rw [h a ha];exact ⟨undef,rfl,hg⟩⟩
theorem OE.mono {o:Oper} {G G':Value→World→Prop} (h:OE P n o e w G) (hg:∀ v w',G v w'→G' v w'):OE P n o e w G':=
 ⟨fun a ha Q=>Oper.wp_mono (fun a' w' ⟨v,h1,h2⟩=>⟨v,h1,hg v w' h2⟩) (h.h a ha Q)⟩
theorem Z6 {t:TypeId} {z:Value} [hz:Zer P t z]:OE P n ⟨d,.alloc t,ty,pos,af,g⟩ e w (Zbz w t z.cells.toList):=
 Z0q (v:=.pointer (some ⟨w.heap.size,0,none⟩)) (w':=w.alloc (.cells z.cells t)) (fun a ha=>by
  simp [execOp,Instr.alloc,Zer.run,newVar,newRow,newObj];rfl) (by simpa using Zf3 w t z.cells.toList)
theorem Zs {t:TypeId} {x:Operand} {v:Value} (hx:ev e x=some v):OE P n ⟨d,.box t x,ty,pos,af,g⟩ e w (Zbz w t v.cells.toList):=
 Z0q (v:=.pointer (some ⟨w.heap.size,0,none⟩)) (w':=w.alloc (.cells v.cells t)) (fun a ha=>by
  simp [execOp,Instr.box,ha.ev hx,newVar,newRow,newObj];rfl) (by simpa using Zf3 w t v.cells.toList)
theorem Z4Q (w:World) (b:Nat) (cs:Array Value):Stp [b] w (w.setRow b cs):=
 ⟨rfl,rfl,rfl,by simp,fun k hk hn=>setRow_other w b k cs (by simpa using hn)⟩
theorem Z1g {b T o m t:Nat} {cs us:List Value} {x y:Operand} {u:Value} [hsz:Siz P t m] (hx:ev e x=some (.pointer (some ⟨b,o,none⟩))) (hy:ev e y=some u) (hu:u.cells.toList=us) (hm:us.length=m) (h1:∀ c∈us,c.oneCell'=true)
 (hb:Blk w b T cs) (hl:o+us.length≤cs.length):OE P n ⟨d,.store t x y,ty,pos,af,g⟩ e w (fun _ w'=>Stp [b] w w'∧Blk w' b T (cs.take o++us++cs.drop (o+us.length))):=by
 have hst:=run_storeCells_at P b o T us 0 cs.toArray w hb (by simpa using hl) h1
 refine Z5a (w':=w.setRow b (cs.take o++us++cs.drop (o+us.length)).toArray) (fun a ha=>?_) ⟨Z4Q _ _ _,setRow_heap w b cs.toArray _ T (0,0) hb⟩
 have hcs:u.cells.size=m:=by rw [← hm,← hu,YaE]
 simp only [Ya7] at hst
 simp [execOp,ha.ev hx,ha.ev hy,Instr.storeAt,Instr.sureAddr,storeVar,Siz.run,hcs,hu,hst]
theorem Z1 {b T m t:Nat} {cs us:List Value} {x y:Operand} {u:Value} [hsz:Siz P t m] (hx:ev e x=some (.pointer (some ⟨b,0,none⟩))) (hy:ev e y=some u) (hu:u.cells.toList=us) (hm:us.length=m) (h1:∀ c∈us,c.oneCell'=true)
 (hb:Blk w b T cs) (hl:us.length=cs.length):OE P n ⟨d,.store t x y,ty,pos,af,g⟩ e w (fun _ w'=>Stp [b] w w'∧Blk w' b T us):=
 (Z1g hx hy hu hm h1 hb (by omega)).mono (fun _ w' ⟨h2,h3⟩=>⟨h2,by simpa [hl] using h3⟩)
theorem Zj {b T o t:Nat} {cs:List Value} {x y:Operand} {u:Value} [hsz:Siz P t 1] (hx:ev e x=some (.pointer (some ⟨b,o,none⟩))) (hy:ev e y=some u) (hu:u.cells.toList=[u]) (h1:u.oneCell'=true)
 (hb:Blk w b T cs) (hl:o<cs.length):OE P n ⟨d,.store t x y,ty,pos,af,g⟩ e w (fun _ w'=>Stp [b] w w'∧Blk w' b T (cs.set o u)):=
 (Z1g hx hy hu rfl (by simpa using h1) hb (by simp; omega)).mono (fun _ w' ⟨h2, h3⟩ => ⟨h2, by
   rw [List.set_eq_take_append_cons_drop,if_pos hl]
   simpa using h3⟩)
end rules
def ob:Value→List Nat
 | .slice (some a) _ _=>[a.block]
 | _=>[]
theorem Zf4 (v:Value):v.ownBlock.toList=ob v:=by
 cases v<;>try rfl
 rename_i a _ _
 cases a<;>rfl
def Row {α:Type} [Zf α] (X:List Nat) (w:World) (base T:Nat) (v:Value) (xs:List α):Prop:=
 ∃ css:List (List Value),css.length=xs.length∧(∀ i (h:i<xs.length) (h':i<css.length),Zf.rep (ob v++X) w xs[i] css[i])∧w.ownsRow base T (Zf.k α) v xs.length css.flatten
section row
variable {α:Type} [Zf α] {X:List Nat} {w w':World} {base T:Nat} {v:Value} {xs:List α}
theorem Row.nil:Row (α:=α) X w base T (.slice none 0 0) []:=
 ⟨[],rfl,fun i h=>absurd h (XI _),by simpa using World.ownsRow_nil w base T (Zf.k α)⟩
theorem Row.ob_le (h:Row X w base T v xs):∀ b∈ob v,base≤b∧b<w.heap.size:=by
 obtain ⟨css,_,_,ho⟩:=h
 intro b hb
 rw [← Zf4] at hb
 exact ho.lt b (by simpa using hb)
theorem Row.ext {S X':List Nat} (h:Row X w base T v xs) (hS:Stp S w w') (h1:∀ b∈S,b∈X∧b∉ob v) (h2:∀ b∈X',b∈X∨w.heap.size≤b):Row X' w' base T v xs:=by
 obtain ⟨css,hl,hr,ho⟩:=h
 refine ⟨css,hl,fun i hi hi'=>Zf.ext (hr i hi hi') hS (fun b hb=>by simp [(h1 b hb).1]) (fun b hb=>?_),?_⟩
 simp only [Xt] at hb ⊢
 rcases hb with hb|hb
 exact .inl (.inl hb)
 rcases h2 b hb with h|h
 exact .inl (.inr h)
 exact .inr h
 refine ⟨ho.1,?_⟩
 rcases ho.2 with hn|⟨q,cap,cur,rfl,hb,hg,rest⟩
 exact .inl hn
 refine .inr ⟨q,cap,cur,rfl,hb,?_,rest⟩
 rw [hS.block q (Xl.1 hg).1 (fun hq=>(h1 q hq).2 (by simp [ob]))]
 exact hg
theorem Row.up (h:Row X w base T v xs) (hS:Stp [] w w'):Row X w' base T v xs:=h.ext hS (by simp) (fun b hb=>.inl hb)
theorem Z1x {k:Nat}:∀ (css:List (List Value)),(∀ c∈css,c.length=k)→∀ (i:Nat) (hi:i<css.length) (j:Nat) (u:Value),css[i][j]?=some u→css.flatten[i * k+j]?=some u
 | [],_,i,hi,_,_,_=>absurd hi (XI _)
 | c :: r, hk, 0, _, j, u, hu => by
   have hj:j<c.length:=(XC.1 hu).1
   simp only [X7,Nat.zero_mul,XO]
   rw [X9 hj]
   exact hu
 | c :: r, hk, i + 1, hi, j, u, hu => by
   have ih:=Z1x r (fun c hc=>hk c (by simp [hc])) i (by simpa using hi) j u (by simpa using hu)
   have hc:=hk c (by simp)
   simp only [X7]
   rw [Yam (by rw [hc,X8];omega),hc]
   rw [show (i+1) * k+j - k=i * k+j by rw [X8];omega]
   exact ih
theorem Row.slv (h:Row X w base T v xs) (hX:∀ b∈X,b<base):SlV X w v xs:=by
 obtain ⟨css,hl,hr,ho⟩:=h
 have hk:∀ c∈css,c.length=Zf.k α:=by
  intro c hc
  obtain ⟨i,hi,rfl⟩:=Xs hc
  exact Zf.len (hr i (by omega) hi)
 rcases ho.2 with ⟨rfl,hn⟩|⟨q,cap,cur,rfl,hb,hg,hnc,hcm,hcs,ht⟩
 exact ⟨none,0,by rw [hn],by omega,by simp [maxLen],fun _=>rfl,fun i hi=>by omega⟩
 refine ⟨some ⟨q,0,none⟩,cap,rfl,hnc,hcm,fun h=>by simp at h,fun i hi=>?_⟩
 refine ⟨q,0,css[i]'(by omega),rfl,(Xl.1 hg).1,fun hx=>by have:=hX q hx;omega,?_,fun j u hu=>?_⟩
 exact Zf.ext (hr i hi (by omega)) (Stp.refl [] w) (by simp) (fun b hb=>.inl (by simp [hb]))
 have h1:=Z1x css hk i (by omega) j u hu
 rw [← ht,Yac] at h1
 split at h1
 have h2:cur[i * Zf.k α+j]?=some u:=by simpa using h1
 rw [XO,cell_of_row w q _ cur T (0,0) hg]
 exact h2
 cases h1
theorem Z8Z {P:Program} {t ty e size bytes:Nat} {i:TypeInfo} {z:Value} (ht:P.underlying t=some (.slice e)) (hi:P.info? e=some i) (hz:i.zero=some z)
 (hsize:i.size=size) (hby:i.bytes=bytes) {v:Value} {n:Nat} {cs:List Value} (hown:w.ownsRow base e size v n cs)
 {a:Addr} {m c:Nat} {news:List Value} (hl:news.length=m * size) (hnews:∀ j u,news[j]?=some u→w.cell? (a.add j)=some u) (h1:∀ u∈news,u.oneCell'=true)
 (h63:n+m≤maxLen) (hbytes:(n+m) * bytes≤140737488355328) {v':Value} {w':World} (hr:(Builtin.append_ #[t,t] ty #[v,.slice (some a) m c]).run P w=.ok v' w') :
 ∀ b∈ob v',b∈ob v∨w.heap.size≤b:=by
 subst hsize
 subst hby
 have hsmall:n+m≤9223372036854775807:=by simp only [maxLen] at h63;omega
 rcases hown.2 with ⟨rfl,rfl⟩|⟨q,cap,cur,rfl,hbg,hg,hnc,hcm,hcs,htake⟩
 by_cases hm:m=0
 subst hm
 have hn:news=[]:=List.eq_nil_of_length_eq_zero (by simpa using hl)
 subst hn
 have:(Builtin.append_ #[t,t] ty #[.slice none 0 0,.slice (some a) 0 c]).run P w=.ok (.slice none 0 0) w:=by
  simp [Builtin.append_,run_underlying ht,sizeOf,typeInfo,hi,Builtin.lenOf,Builtin.firstCells,loadCells,loadCellsFrom]
 rw [this] at hr
 cases hr
 simp [ob]
 have h:=run_append_nil (P:=P) w t ty e i z ht hi hz a m c news hl hnews (by omega) (by omega) (by have hb:=hbytes;simp only [XO] at hb;omega)
 rw [h] at hr
 cases hr
 simp [ob]
 by_cases hroom:n+m≤cap
 have hfit:n * i.size+news.length≤cur.size:=by rw [hl,hcs,← Nat.add_mul];exact XZ _ hroom
 have h:=run_append_room (P:=P) w t ty e i ht hi q n cap cur hg a m c news hl hnews h1 hroom hfit
 rw [h] at hr
 cases hr
 simp [ob]
 have holds:∀ j u,cs[j]?=some u→w.cell? ((⟨q,0,none⟩:Addr).add j)=some u:=hown.cells (g:=q) rfl
 have h:=run_append_grow (P:=P) w t ty e i z ht hi hz ⟨q,0,none⟩ n cap cs hown.1 holds a m c news hl hnews (by omega) (by omega) (growslice_fits (by omega) hbytes)
 rw [h] at hr
 cases hr
 simp [ob]
def Z9M (X:List Nat) (w:World) (base T:Nat) (v:Value) (xs ys:List α) (v':Value) (w':World):Prop:=
 Row X w' base T v' (xs++ys)∧Stp (ob v) w w'∧∀ b∈ob v',b∈ob v∨w.heap.size≤b
theorem Z05 {P:Program} {n:Nat} {e:Env} {d:Option Nat} {ty:TypeId} {pos:String} {af:Array Edge} {g:Option (Nat×Bool)} {x y:Operand} {t bytes:Nat} {u:Value} {z:Value} {ys:List α}
 [ht:Und P t (.slice T)] [hk:Siz P T (Zf.k α)] [hb:Byt P T bytes] [hz:Zer P T z] (hzs:z.cells.size=Zf.k α) (hpos:0<Zf.k α)
 (hx:ev e x=some v) (hy:ev e y=some u) (hrow:Row X w base T v xs) (hys:SlV (ob v++X) w u ys) (hbytes:(xs.length+ys.length) * bytes≤140737488355328) (hlen:xs.length+ys.length≤maxLen) (hbase:base≤w.heap.size) :
 OE P n ⟨d,.call { callee:=.builtin .append,args:=#[x,y],argTypes:=#[t,t] },ty,pos,af,g⟩ e w (Z9M X w base T v xs ys):=by
 obtain ⟨i,hi,hi1,hi2,hi3⟩:∃ i,P.info? T=some i∧i.size=Zf.k α∧i.bytes=bytes∧i.zero=some z:=by
  have a1:=hk.h
  have a2:=hb.h
  have a3:=hz.h
  cases hi:P.info? T with
  | none=>simp [hi] at a1
  | some i=>exact ⟨i,rfl,by simpa [hi] using a1,by simpa [hi] using a2,by simpa [hi] using a3⟩
 have hrow0:=hrow
 obtain ⟨css,hl,hr,ho⟩:=hrow
 obtain ⟨p,c,rfl,hyl,hym,hyn,hyc⟩:=hys
 have hsrc:∃ dss:List (List Value),dss.length=ys.length∧(∀ j (h:j<ys.length) (h':j<dss.length),Zf.rep (ob v++X) w ys[j] dss[j]∧∃ b o,p=some ⟨b,o,none⟩∧∀ q u,dss[j][q]?=some u→w.cell? ⟨b,o+j * Zf.k α+q,none⟩=some u):=by
  have:∀ j:Fin ys.length,∃ ds:List Value,Zf.rep (ob v++X) w ys[j] ds∧∃ b o,p=some ⟨b,o,none⟩∧∀ q u,ds[q]?=some u→w.cell? ⟨b,o+j * Zf.k α+q,none⟩=some u:=by
   intro j
   obtain ⟨b,o,cs,h1,h2,h3,h4,h5⟩:=hyc j j.2
   exact ⟨cs,h4,b,o,h1,h5⟩
  obtain ⟨f,hf⟩:=Classical.axiomOfChoice this
  refine ⟨List.ofFn f,by simp,fun j h h'=>?_⟩
  have:=hf ⟨j,h⟩
  simpa using this
 obtain ⟨dss,hdl,hd⟩:=hsrc
 have hdk:∀ c∈dss,c.length=Zf.k α:=by
  intro c hc
  obtain ⟨q,hq,rfl⟩:=Xs hc
  exact Zf.len (hd q (by omega) hq).1
 have hflen:∀ (l:List (List Value)),(∀ c∈l,c.length=Zf.k α)→l.flatten.length=l.length * Zf.k α:=by
  intro l
  induction l with
  | nil=>intro _;simp
  | cons c r ih=>intro h;simp only [X7,Xb,Xc,X8];rw [ih (fun c hc=>h c (by simp [hc])),h c (by simp)];omega
 have hone:∀ u∈dss.flatten,u.oneCell'=true:=by
  intro u hu
  obtain ⟨c,hc,huc⟩:=List.mem_flatten.1 hu
  obtain ⟨q,hq,rfl⟩:=Xs hc
  exact Zf.one (hd q (by omega) hq).1 u huc
 have fin:∀ (v':Value) (w':World),w'.ownsRow base T (Zf.k α) v' (xs.length+ys.length) (css.flatten++dss.flatten)→Stp (ob v) w w'→(∀ b∈ob v',b∈ob v∨w.heap.size≤b)→Z9M X w base T v xs ys v' w':=by
  intro v' w' ho' hS hb'
  have hX:∀ b∈ob v'++X,b∈ob v++X∨w.heap.size≤b:=by
   intro b hb
   simp only [Xt] at hb ⊢
   rcases hb with hb|hb
   rcases hb' b hb with h|h
   exact .inl (.inl h)
   exact .inr h
   exact .inl (.inr hb)
  have hSX:∀ b∈ob v,b∈ob v++X:=fun b hb=>by simp [hb]
  refine ⟨⟨css++dss,by simp [hl,hdl],fun i hi hi'=>?_,?_⟩,hS,hb'⟩
  by_cases hlt:i<xs.length
  rw [XP hlt,XP (by omega)]
  exact Zf.ext (hr i hlt (by omega)) hS hSX hX
  have hi2:i<xs.length+ys.length:=by simpa using hi
  rw [XN (by omega),XN (by omega)]
  have:=Zf.ext (hd (i - xs.length) (by omega) (by omega)).1 hS hSX hX
  simpa [hl] using this
  rw [List.flatten_append]
  simpa using ho'
 cases p with
 | none=>
   have hy0:ys.length=0:=by
    cases hys:ys with
    | nil=>rfl
    | cons y r=>
      obtain ⟨b,o,cs,hp,_⟩:=hyc 0 (by simp [hys])
      simp at hp
   have hc0:c=0:=hyn rfl
   subst hc0
   have hd0:dss=[]:=List.eq_nil_of_length_eq_zero (by omega)
   subst hd0
   have hrun:=run_append_owned_none (P:=P) w base t ty T i (Zf.k α) ht.h hi v xs.length css.flatten ho
   refine Z0q (v:=v) (w':=w) (fun a ha=>?_) (fin v w (by simpa [hy0] using ho) (Stp.refl _ _) (fun b hb=>.inl hb))
   rw [hy0] at hy
   simp [execOp,resolve,invoke,builtin,ha.ev hx,ha.ev hy,hrun]
 | some a=>
   have hnews:∀ j u,dss.flatten[j]?=some u→w.cell? (a.add j)=some u:=by
    intro j u hj
    have hjl:j<dss.flatten.length:=(XC.1 hj).1
    rw [hflen dss hdk] at hjl
    have hq:j / Zf.k α<dss.length:=(Nat.div_lt_iff_lt_mul hpos).2 hjl
    obtain ⟨h1,b,o,hp,hcell⟩:=hd (j / Zf.k α) (by omega) hq
    simp only [Xj] at hp
    subst hp
    have hmod:j % Zf.k α<Zf.k α:=Nat.mod_lt _ hpos
    have hj2:j / Zf.k α * Zf.k α+j % Zf.k α=j:=by rw [Nat.mul_comm];exact Nat.div_add_mod j _
    have hlk:dss[j / Zf.k α].length=Zf.k α:=hdk _ (Xg hq)
    have hat:dss[j / Zf.k α][j % Zf.k α]?=some (dss[j / Zf.k α][j % Zf.k α]'(by omega)):=XA (by omega)
    have h2:=Z1x dss hdk _ hq _ _ hat
    rw [hj2,hj] at h2
    have h3:=hcell _ _ hat
    rw [Addr.add_lit]
    rw [XT,hj2] at h3
    rw [h3,h2]
   have hl2:dss.flatten.length=ys.length * Zf.k α:=by rw [hflen dss hdk,hdl]
   obtain ⟨v',w',hrun,h2,h3,h4⟩:=run_append_own (P:=P) w base t ty T i z (Zf.k α) bytes ht.h hi hi3 hi1 hi2 hzs hpos v xs.length css.flatten ho a ys.length c dss.flatten hl2 hnews hone hlen hbytes hbase
   have hblk:=Z8Z (P:=P) ht.h hi hi3 hi1 hi2 ho hl2 hnews hone hlen hbytes hrun
   have hS:Stp (ob v) w w':=by rw [← Zf4];exact Stp.of_grown h3
   refine Z0q (v:=v') (w':=w') (fun a ha=>?_) (fin v' w' h2 hS hblk)
   simp [execOp,resolve,invoke,builtin,ha.ev hx,ha.ev hy,hrun]
end row
section any
variable {P:Program} {ops:Array Oper} {md:Region.Mode} {S:List Nat} {Lt:Nat→Bool}
theorem Zjm {o:Oper} {a:Act} {w:World} {K:Act→World→Prop} {Q:Exit→Act→World→Prop} (h:o.wp P a w K (fun _ _ _=>False)):o.wp P a w K Q:=by
 unfold Oper.wp at *
 generalize (execOp a.eval o).run P w=r at *
 cases r with
 | ok n w'=>
   cases n<;>simp only [Oper.upon] at h ⊢
   case enter f args=>
    refine Calls.mono h (fun e w'' he=>?_)
    cases e with
    | returned v=>exact he
    | panicked c=>exact he.elim
    | outgrown=>obtain ⟨_,_,hf⟩:=he;exact hf.elim
   all_goals exact h
 | halt x w'=>cases x<;>simp only [Oper.upon] at h
theorem Zf5 {i:Nat} {K:Act→World→Prop} {Q:Exit→Act→World→Prop} {a:Act} {w:World} (h:wpOp P ops (fun _ _ _=>False) i K a w):wpOp P ops Q i K a w:=by
 unfold wpOp at *
 cases ho:ops[i]? with
 | none=>simp only [ho] at h ⊢;exact h
 | some o=>
   simp only [ho] at h ⊢
   split
   rename_i hw
   simp only [hw,if_true] at h
   rcases h with h|⟨_,_,_,hf⟩
   exact .inl (Zjm h)
   exact hf.elim
   rename_i hw;simp only [hw] at h;exact h
def Z1y (P:Program) (md:Region.Mode) (ops:Array Oper) (S:List Nat) (Lt:Nat→Bool) (Z:Act→World→Prop):Nat→Array Bool→Act→World→Prop
 | 0,listed,a,w=>Region.ready md ops listed=[]∧Z a w
 | fuel + 1, listed, a, w=>
   (Region.ready md ops listed=[]→Z a w)∧
   ∀ i∈Region.ready md ops listed,wpOp P ops (fun _ _ _=>False) i (fun a' w'=>(Stp S w w'∨Lt i=true)∧Z1y P md ops S Lt Z fuel (listed.setIfInBounds i true) a' w') a w
theorem Z3o {Z:Act→World→Prop} {Q:Exit→Act→World→Prop} (hZ:∀ a w,Z a w→Q .normal a w):∀ (fuel:Nat) (listed:Array Bool) (a:Act) (w:World),
 Z1y P md ops S Lt Z fuel listed a w→wpAny P md ops Q fuel listed a w
 | 0,_,_,_,h=>⟨h.1,hZ _ _ h.2⟩
 | fuel+1,_,_,_,h=>⟨fun h0=>hZ _ _ (h.1 h0),fun i hi=>wpOp_mono (fun a' w' hk=>Z3o hZ fuel _ a' w' hk.2) (Zf5 (h.2 i hi))⟩
def YE (P:Program) (ops:Array Oper) (R:World→World→Prop) (o:Oper) (v:Value) (a:Act) (w:World):Prop:=
 (Region.wanted o (yielded ops a.tmps)=true∧∀ w',R w w'→(execOp a.eval o).run P w'=.ok (.value v) w')∨
 (Region.wanted o (yielded ops a.tmps)=false∧v=undef)
theorem YE.same {R:World→World→Prop} {o:Oper} {v:Value} {a a':Act} {w:World} (hy:YE P ops R o v a w) (he:execOp a'.eval o=execOp a.eval o)
 (hw:Region.wanted o (yielded ops a'.tmps)=Region.wanted o (yielded ops a.tmps)):YE P ops R o v a' w:=by
 unfold YE at *
 rw [he,hw]
 exact hy
theorem Z6N {Z:Act→World→Prop} {R:World→World→Prop} (hR0:∀ w,R w w) (hRt:∀ a b c,R a b→R b c→R a c) {i:Nat} {oi:Oper} {v:Value} (hi:ops[i]?=some oi)
 (hRs:∀ j oj,ops[j]?=some oj→(∀ e∈oj.after,Region.binds md e=true→e.on≠i)→j≠i→∀ w w',(Stp S w w'∨Lt j=true)→R w w')
 (hsel:∀ (j:Nat) (o:Oper) cs b,ops[j]?=some o→o.op≠.select cs b) :
 ∀ (fuel : Nat) (listed : Array Bool) (a : Act) (w : World),
   (∀ j oj,ops[j]?=some oj→j≠i→listed.getD j true=false→(∀ e∈oj.after,Region.binds md e=true→e.on≠i)→oi.apart ops oj=true)→
   (Stp S w w∨Lt i=true→True)→i∈Region.ready md ops listed→YE P ops R oi v a w→
   Z1y P md ops S Lt Z fuel (listed.setIfInBounds i true) (a.put oi.dst v) w→Z1y P md ops S Lt Z (fuel+1) listed a w:=by
 have now:∀ (fuel:Nat) (listed:Array Bool) (a:Act) (w:World),YE P ops R oi v a w→Z1y P md ops S Lt Z fuel (listed.setIfInBounds i true) (a.put oi.dst v) w→
  wpOp P ops (fun _ _ _=>False) i (fun a' w'=>(Stp S w w'∨Lt i=true)∧Z1y P md ops S Lt Z fuel (listed.setIfInBounds i true) a' w') a w:=by
  intro fuel listed a w hy H
  unfold wpOp
  simp only [hi]
  rcases hy with ⟨hw,hv⟩|⟨hw,rfl⟩
  simp only [hw,if_true,Oper.wp,hv w (hR0 w),Oper.upon];exact .inl ⟨.inl (Stp.refl _ _),H⟩
  simp only [hw,XG,if_false];exact ⟨.inl (Stp.refl _ _),H⟩
 intro fuel
 induction fuel with
 | zero=>
   intro listed a w _ _ hr hy H
   refine ⟨fun h=>(by rw [h] at hr;cases hr),fun j hj=>?_⟩
   by_cases hji:j=i
   subst hji;exact now _ _ _ _ hy H
   have:=ready_mono hj hji
   rw [H.1] at this
   cases this
 | succ fuel ih=>
   intro listed a w hfree hx hr hy H
   refine ⟨fun h=>(by rw [h] at hr;cases hr),fun j hj=>?_⟩
   by_cases hji:j=i
   subst hji;exact now _ _ _ _ hy H
   have h1:=H.2 j (ready_mono hj hji)
   obtain ⟨hjun,oj,hoj,hall⟩:=mem_ready.1 hj
   have hnot:∀ e∈oj.after,Region.binds md e=true→e.on≠i:=fun e he hb heq=>by
    have h1:=hall e he hb
    have h0:=(mem_ready.1 hr).1
    rw [heq] at h1
    rcases Yaj i listed.size with h'|h'
    simp [h'] at h0 h1;rw [h0] at h1;cases h1
    simp [YaJ h'] at h1
   have hap:=hfree j oj hoj hji hjun hnot
   obtain ⟨p1,p2,p3⟩:=Oper.apart_spec hap
   have keep:∀ (a:Act),YE P ops R oi v a w→∀ u,YE P ops R oi v (a.put oj.dst u) w:=fun a hy u=>
    hy.same (execOp_put oi (fun cs b=>hsel i oi cs b hi) a oj.dst u p3) (wanted_put oi a oj.dst u p3)
   have keepD:∀ (a:Act) d,YE P ops R oi v a w→YE P ops R oi v { a with defers:=d :: a.defers } w:=fun a d hy=>hy.same rfl rfl
   have later:∀ (a:Act) w',(Stp S w w'∨Lt j=true)→YE P ops R oi v a w→YE P ops R oi v a w':=fun a w' hs hy=>by
    rcases hy with ⟨hw,hv⟩|hw
    exact .inl ⟨hw,fun w'' h''=>hv w'' (hRt _ _ _ (hRs j oj hoj hnot hji w w' hs) h'')⟩
    exact .inr hw
   have hfree':∀ k ok,ops[k]?=some ok→k≠i→(listed.setIfInBounds j true).getD k true=false→
    (∀ e∈ok.after,Region.binds md e=true→e.on≠i)→oi.apart ops ok=true:=fun k ok hk hki hun hno=>by
    refine hfree k ok hk hki ?_ hno
    by_cases hjk:j=k
    subst hjk;exact hjun
    rw [getD_set_ne true hjk] at hun;exact hun
   have fin:∀ a' w',YE P ops R oi v a' w→(Stp S w w'∨Lt j=true)∧Z1y P md ops S Lt Z fuel ((listed.setIfInBounds i true).setIfInBounds j true) (a'.put oi.dst v) w'→
    (Stp S w w'∨Lt j=true)∧Z1y P md ops S Lt Z (fuel+1) (listed.setIfInBounds j true) a' w':=by
    rintro a' w' hy' ⟨hs,hk⟩
    refine ⟨hs,ih _ a' w' hfree' (fun _=>trivial) (ready_mono hr (Ne.symm hji)) (later a' w' hs hy') ?_⟩
    rw [Array.setIfInBounds_comm _ _ hji]
    exact hk
   have hsj:∀ cs b,oj.op≠.select cs b:=fun cs b=>hsel j oj cs b hoj
   unfold wpOp at *
   simp only [hoj] at *
   rw [wanted_put oj a oi.dst v p1] at h1
   split
   · rename_i hw
     simp only [hw,if_true] at h1
     rcases h1 with h1|⟨_,_,_,hf⟩
     case inr=>exact hf.elim
     refine .inl ?_
     unfold Oper.wp at *
     rw [execOp_put oj hsj a oi.dst v p1] at h1
     generalize (execOp a.eval oj).run P w=r at *
     cases r with
     | ok n w'=>
       cases n<;>simp only [Oper.upon] at h1 ⊢
       case value u=>exact fin _ _ (keep a hy u) (by rw [← Act.put_comm a v u p2];exact h1)
       case skip=>exact fin _ _ (keep a hy _) (by rw [← Act.put_comm a v undef p2];exact h1)
       case defer d=>
        refine fin _ _ (keep _ (keepD a d hy) _) ?_
        rw [← Act.put_comm _ v undef p2,← Act.put_defers]
        exact h1
       case enter f args=>
        refine Calls.mono h1 fun e w'' he=>?_
        cases e with
        | returned u=>exact fin _ _ (keep a hy u) (by rw [← Act.put_comm a v u p2];exact he)
        | panicked c=>exact he
        | outgrown=>exact he
       case row row args=>exact Rows.mono h1 fun u w'' he=>fin _ _ (keep a hy u) (by rw [← Act.put_comm a v u p2];exact he)
     | halt x w'=>
       cases x<;>simp only [Oper.upon] at h1
   rename_i hw
   simp only [hw] at h1
   exact fin _ _ (keep a hy _) (by rw [← Act.put_comm a v undef p2];exact h1)
end any
def ZcE (ops:Array Oper) (Lt:List Nat) (i:Nat):Bool:=
 Lt.all fun j=>j == i || (match ops[j]? with|some oj=>oj.after.any (fun e=>Region.binds .any e && e.on == i)|none=>true)
def bits (m:Nat):List Nat:=(List.range 64).filter (fun j=>m.testBit j)
def Zdn:List Nat→List (List Nat)
 | []=>[[]]
 | x :: r=>Zdn r++(Zdn r).map (x :: ·)
def lst (listed:Array Bool) (is rem:List Nat):Array Bool:=Array.ofFn (n:=listed.size) fun j=>listed[j] || (is.contains j.val && !rem.contains j.val)
def wt:List (Nat×Nat)→Nat
 | []=>0
 | (_,k) :: r=>(if k<100000 then 1 else (bits (k - 100000)).length)+wt r
theorem Z0X {i k:Nat} {r:List (Nat×Nat)} (h:k<100000):wt ((i,k) :: r)=wt r+1:=by simp [wt,h];omega
def Jd (ops:Array Oper) (Lt:List Nat):List (Nat×Nat)→Option Nat→Array Bool→Bool
 | [],sk,listed=>sk.isNone && (Region.ready .any ops listed).isEmpty
 | (i,0) :: r,sk,listed=>(Region.ready .any ops listed).contains i && Region.free .any ops listed i && Jd ops Lt r sk (listed.setIfInBounds i true)
 | (i,1) :: r,sk,listed=>(Region.ready .any ops listed).contains i && Region.free .any ops listed i && ZcE ops Lt i && Jd ops Lt r sk (listed.setIfInBounds i true)
 | (i,2) :: r,sk,listed=>if sk=some i then Jd ops Lt r none listed else Region.ready .any ops listed == [i] && Jd ops Lt r sk (listed.setIfInBounds i true)
 | (i, q + 3) :: r, sk, listed => if sk = some q ∧ q + 3 < 100000 then (Region.ready .any ops listed == [i] && Jd ops Lt r sk (listed.setIfInBounds i true)) else sk.isNone && if q + 3 < 100000 then (Region.ready .any ops listed == [i, q] && Jd ops Lt r none (listed.setIfInBounds i true) && Region.ready .any ops (listed.setIfInBounds q true) == [i] && Jd ops Lt r (some q) ((listed.setIfInBounds q true).setIfInBounds i true))
   else (Zdn (bits (q+3 - 100000))).all (fun rem=>rem.isEmpty || Region.ready .any ops (lst listed (bits (q+3 - 100000)) rem) == rem) && Jd ops Lt r none (lst listed (bits (q+3 - 100000)) [])
def Z06 (ops:Array Oper) (Lt:List Nat) (ord:List (Nat×Nat)) (listed:Array Bool):Bool:=Jd ops Lt ord none listed
def Z4R (q:Nat):List (Nat×Nat)→List (Nat×Nat)
 | []=>[]
 | (i,2) :: r=>if i=q then r else (i,2) :: Z4R q r
 | (i,0) :: r=>(i,0) :: Z4R q r
 | (i,1) :: r=>(i,1) :: Z4R q r
 | (i,k+3) :: r=>if k=q∧k+3<100000 then (i,2) :: Z4R q r else (i,k+3) :: Z4R q r
theorem Z2f {ops:Array Oper} {Lt:List Nat} {q:Nat}:∀ (r:List (Nat×Nat)) (listed:Array Bool),Jd ops Lt r (some q) listed=true→Jd ops Lt (Z4R q r) none listed=true∧wt r=wt (Z4R q r)+1
 | [],listed,h=>by simp [Jd] at h
 | (i, 0) :: r, listed, h => by
   simp only [Jd,Xi] at h
   obtain ⟨h1,h2⟩:=Z2f r _ h.2
   simp only [Z4R,Jd,Xi]
   exact ⟨⟨h.1,h1⟩,by simp [wt,h2];omega⟩
 | (i, 1) :: r, listed, h => by
   simp only [Jd,Xi] at h
   obtain ⟨h1,h2⟩:=Z2f r _ h.2
   simp only [Z4R,Jd,Xi]
   exact ⟨⟨h.1,h1⟩,by simp [wt,h2];omega⟩
 | (i, 2) :: r, listed, h => by
   by_cases e:i=q
   subst e
   simp only [Jd,if_pos] at h
   simp only [Z4R,if_pos]
   exact ⟨h,by simp [wt];omega⟩
   have e':¬ (some q=some i):=by simpa using fun h=>e h.symm
   simp only [Jd,if_neg e',Xi] at h
   obtain ⟨h1,h2⟩:=Z2f r _ h.2
   simp only [Z4R,if_neg e,Jd]
   refine ⟨?_,by simp [wt,h2];omega⟩
   rw [if_neg (by simp)]
   simp only [Xi]
   exact ⟨h.1,h1⟩
 | (i, k + 3) :: r, listed, h => by
   by_cases e:k=q∧k+3<100000
   simp only [Jd] at h
   rw [if_pos ⟨by rw [e.1],e.2⟩] at h
   simp only [Xi] at h
   obtain ⟨h1,h2⟩:=Z2f r _ h.2
   simp only [Z4R,if_pos e,Jd]
   refine ⟨?_,by rw [Z0X e.2,Z0X (by decide),h2]⟩
   rw [if_neg (by simp)]
   simp only [Xi]
   exact ⟨h.1,h1⟩
   simp only [Jd] at h
   rw [if_neg (fun h'=>e ⟨(XJ h'.1).symm,h'.2⟩)] at h
   simp at h
structure WD (P:Program) (n:Nat) (ops:Array Oper) (S:List Nat) (Lt:List Nat) (Q:Exit→Act→World→Prop) (ord:List (Nat×Nat)) (e:Env) (w:World):Prop where
 h:∀ listed:Array Bool,Region.noSelect ops=true→Z06 ops Lt ord listed=true→∀ a,Has n e a→Z1y P .any ops S (fun j=>Lt.contains j) (fun a w=>Q .normal a w) (wt ord) listed a w
section rules
variable {P:Program} {n:Nat} {Q:Exit→Act→World→Prop} {e:Env} {w:World} {ops:Array Oper} {S:List Nat} {Lt:List Nat} {rest:List (Nat×Nat)}
theorem Z2g {id:Nat} {l:List Oper} (m:Nat) (S:List Nat) (Lt:List Nat) (ord:List (Nat×Nat)) (hlm:l.length=m) (hm:P.follows .mixedOrders=true) (hs:Region.noSelect l.toArray=true) (hl:Nat.beq (wt ord) l.length=true)
 (hB:Z06 l.toArray Lt ord (Array.replicate m false)=true)
 (h:∀ w',Stp [] w w'→WD P n l.toArray S Lt Q ord e w'):WC P n (.region id l.toArray true) Q e w:=by
 subst hlm
 refine ⟨fun a ha=>wp_region_any hm ?_⟩
 have h1:=(h { w with drawn:=w.drawn+1 } (Stp.drew [] w)).h _ hs hB a ha
 have h2:=Z3o (Q:=Q) (fun a w hz=>hz) _ _ _ _ h1
 rw [Yab hl] at h2
 simpa using h2
theorem Z3p (h:WQ n Q .normal e w):WD P n ops S Lt Q [] e w:=
 ⟨fun _ _ hB a ha=>⟨by simpa [Z06,Jd] using hB,h.h a ha⟩⟩
def ZR (ops:Array Oper) (e:Env):Option (Nat×Bool)→Prop
 | none=>True
 | some (j,b)=>yld ops e j=some (.bool b)
theorem Z07 {o:Oper} {a:Act} (ha:Has n e a) (hg:ZR ops e o.guard):Region.wanted o (yielded ops a.tmps)=true:=by
 unfold Region.wanted
 cases hgd:o.guard with
 | none=>rfl
 | some jb=>
   obtain ⟨j,b⟩:=jb
   rw [hgd] at hg
   simp [Z6Z ha hg]
theorem Z9N {i d:Nat} {o:Oper} {v:Value} (hi:ops[i]?=some o) (hd:o.dst=some d) (hY:∀ a,Has n e a→YE P ops (fun _ _=>True) o v a w) (hdn:Nat.blt d n=true)
 (k:WD P n ops S Lt Q rest ((d,v) :: e) w):WD P n ops S Lt Q ((i,0) :: rest) e w:=by
 refine ⟨fun listed hs hB a ha=>?_⟩
 simp only [Z06,Jd,Xi] at hB
 obtain ⟨⟨h1,h2⟩,h3⟩:=hB
 have hk:=k.h _ hs h3 _ (ha.put (v:=v) hdn)
 rw [← hd] at hk
 rw [Z0X (by decide)]
 exact Z6N (R:=fun _ _=>True) (fun _=>trivial) (fun _ _ _ _ _=>trivial) hi (fun _ _ _ _ _ _ _ _=>trivial) (Region.noSelect_spec hs) _ _ _ _ (Region.free_spec hi h2) (fun _=>trivial) (by simpa using h1) (hY a ha) hk
theorem Z4S {i j:Nat} {oj:Oper} (hb:ZcE ops Lt i=true) (hj:ops[j]?=some oj) (hn:∀ e∈oj.after,Region.binds .any e=true→e.on≠i) (hji:j≠i):Lt.contains j=false:=by
 cases hc:Lt.contains j with
 | false=>rfl
 | true=>
   have hm:j∈Lt:=by simpa using hc
   have:=(XD.1 hb) j hm
   simp only [hj,Yao,beq_iff_eq,hji,false_or] at this
   obtain ⟨e,he,hbe⟩:=Array.any_eq_true'.1 this
   simp only [Xi,beq_iff_eq] at hbe
   exact absurd hbe.2 (hn e he hbe.1)
theorem Z9O {i d:Nat} {o:Oper} {v:Value} (hi:ops[i]?=some o) (hd:o.dst=some d) (hY:∀ a,Has n e a→YE P ops (Stp S) o v a w) (hdn:Nat.blt d n=true)
 (k:WD P n ops S Lt Q rest ((d,v) :: e) w):WD P n ops S Lt Q ((i,1) :: rest) e w:=by
 refine ⟨fun listed hs hB a ha=>?_⟩
 simp only [Z06,Jd,Xi] at hB
 obtain ⟨⟨⟨h1,h2⟩,hb⟩,h3⟩:=hB
 have hk:=k.h _ hs h3 _ (ha.put (v:=v) hdn)
 rw [← hd] at hk
 rw [Z0X (by decide)]
 refine Z6N (R:=Stp S) (fun w=>Stp.refl _ w) (fun _ _ _ h k=>h.trans k) hi (fun j oj hj hn hji w w' hs=>?_) (Region.noSelect_spec hs) _ _ _ _ (Region.free_spec hi h2) (fun _=>trivial) (by simpa using h1) (hY a ha) hk
 rcases hs with hs|hs
 exact hs
 rw [Z4S hb hj hn hji] at hs;cases hs
variable {i d:Nat} {op:Op} {ty:TypeId} {pos:String} {af:Array Edge} {gd:Option (Nat×Bool)} {v:Value}
theorem ZE (hi:ops[i]?=some ⟨some d,op,ty,pos,af,gd⟩) (hg:ZR ops e gd) (hp:∀ w',PR P n ⟨some d,op,ty,pos,af,gd⟩ e w' v) (hdn:Nat.blt d n=true)
 (k:WD P n ops S Lt Q rest ((d,v) :: e) w):WD P n ops S Lt Q ((i,0) :: rest) e w:=
 Z9N hi rfl (fun a ha=>.inl ⟨Z07 ha hg,fun w' _=>(hp w').h a ha⟩) hdn k
theorem ZN (hi:ops[i]?=some ⟨some d,op,ty,pos,af,gd⟩) (hg:ZR ops e gd) (hp:∀ w',Stp S w w'→PR P n ⟨some d,op,ty,pos,af,gd⟩ e w' v) (hdn:Nat.blt d n=true)
 (k:WD P n ops S Lt Q rest ((d,v) :: e) w):WD P n ops S Lt Q ((i,1) :: rest) e w:=
 Z9O hi rfl (fun a ha=>.inl ⟨Z07 ha hg,fun w' hw=>(hp w' hw).h a ha⟩) hdn k
theorem Zf6 (hi:ops[i]?=some ⟨some d,op,ty,pos,af,gd⟩) (hg:noB ops e gd=true) (hdn:Nat.blt d n=true)
 (k:WD P n ops S Lt Q rest ((d,undef) :: e) w):WD P n ops S Lt Q ((i,0) :: rest) e w:=
 Z9N hi rfl (fun a ha=>.inr ⟨Z3m ha hg,rfl⟩) hdn k
theorem Zf7 (hi:ops[i]?=some ⟨some d,op,ty,pos,af,gd⟩) (hg:noB ops e gd=true) (hdn:Nat.blt d n=true)
 (k:WD P n ops S Lt Q rest ((d,undef) :: e) w):WD P n ops S Lt Q ((i,1) :: rest) e w:=
 Z9O hi rfl (fun a ha=>.inr ⟨Z3m ha hg,rfl⟩) hdn k
structure WD1 (P:Program) (n:Nat) (ops:Array Oper) (S:List Nat) (Lt:List Nat) (Q:Exit→Act→World→Prop) (i:Nat) (ord:List (Nat×Nat)) (e:Env) (w:World):Prop where
 h : ∀ listed : Array Bool, Region.noSelect ops = true → Z06 ops Lt ord (listed.setIfInBounds i true) = true → ∀ a, Has n e a→
   wpOp P ops (fun _ _ _=>False) i (fun a' w'=>(Stp S w w'∨Lt.contains i=true)∧Z1y P .any ops S (fun j=>Lt.contains j) (fun a w=>Q .normal a w) (wt ord) (listed.setIfInBounds i true) a' w') a w
theorem Zf8 {o:Oper} {dst:Option Nat} {G:Value→World→Prop} (hi:ops[i]?=some o) (hdst:o.dst=dst) (hg:ZR ops e o.guard) (hp:OE P n o e w (fun v w'=>(Stp S w w'∨Lt.contains i=true)∧G v w'))
 (k:∀ v w' a',G v w'→∀ a,Has n e a→a'=a.put dst v→∃ e',Has n e' a'∧WD P n ops S Lt Q rest e' w'):WD1 P n ops S Lt Q i rest e w:=by
 refine ⟨fun listed hs h3 a ha=>?_⟩
 unfold wpOp
 simp only [hi]
 rw [if_pos (Z07 ha hg)]
 refine .inl (Oper.wp_mono ?_ (hp.h a ha _))
 rintro a' w' ⟨v,rfl,hs',hG⟩
 obtain ⟨e',he',hk⟩:=k v w' (a.put o.dst v) hG a ha (by rw [hdst])
 exact ⟨hs',hk.h _ hs h3 _ he'⟩
theorem Zf9 (h:WD1 P n ops S Lt Q i rest e w):WD P n ops S Lt Q ((i,2) :: rest) e w:=by
 refine ⟨fun listed hs hB a ha=>?_⟩
 simp only [Z06,Jd] at hB
 rw [if_neg (by simp)] at hB
 simp only [Xi,beq_iff_eq] at hB
 obtain ⟨h1,h3⟩:=hB
 rw [Z0X (by decide)]
 refine ⟨fun h0=>absurd (h1 ▸ h0) (by simp),fun j hj=>?_⟩
 rw [h1] at hj
 obtain rfl:j=i:=by simpa using hj
 exact h.h _ hs h3 a ha
theorem Zjn {q:Nat} (hq:Nat.blt (q+3) 100000=true) (h1:WD1 P n ops S Lt Q i rest e w) (h2:WD1 P n ops S Lt Q q ((i,2) :: Z4R q rest) e w):WD P n ops S Lt Q ((i,q+3) :: rest) e w:=by
 refine ⟨fun listed hs hB a ha=>?_⟩
 have hq':q+3<100000:=XU hq
 simp only [Z06,Jd] at hB
 rw [if_neg (by simp),if_pos hq'] at hB
 simp only [Xi,beq_iff_eq] at hB
 obtain ⟨_,⟨⟨hr,hr1⟩,hr2⟩,h3⟩:=hB
 obtain ⟨h4,h5⟩:=Z2f _ _ h3
 have hw:wt ((i,q+3) :: rest)=wt rest+1:=Z0X hq'
 rw [hw]
 refine ⟨fun h0=>absurd (hr ▸ h0) (by simp),fun j hj=>?_⟩
 rw [hr] at hj
 have c2:Z06 ops Lt ((i,2) :: Z4R q rest) (listed.setIfInBounds q true)=true:=by
  simp only [Z06,Jd]
  rw [if_neg (by simp)]
  simp only [Xi,beq_iff_eq]
  exact ⟨hr2,h4⟩
 have hw2:wt rest=wt ((i,2) :: Z4R q rest):=by rw [Z0X (by decide),h5]
 have hj':j=i∨j=q:=by simpa using hj
 rcases hj' with rfl|rfl
 exact h1.h _ hs hr1 a ha
 rw [hw2]
 exact h2.h _ hs c2 a ha
theorem Z71:∀ {is rem:List Nat},rem.Sublist is→rem∈Zdn is
 | [],rem,h=>by simp at h;simp [Zdn,h]
 | x :: r, rem, h => by
   simp only [Zdn,Xt,Yax]
   cases h with
   | cons _ h=>exact .inl (Z71 h)
   | cons_cons _ h=>exact .inr ⟨_,Z71 h,rfl⟩
theorem Zhd (listed:Array Bool) (is:List Nat):lst listed is is=listed:=by
 apply Array.ext
 simp [lst]
 intro j h1 h2
 simp only [lst,Array.getElem_ofFn]
 cases is.contains j<;>simp
theorem Zfa {listed:Array Bool} {is rem:List Nat} {j:Nat} (hn:rem.Nodup) (hr:rem.Sublist is) (hj:j∈rem):(lst listed is rem).setIfInBounds j true=lst listed is (rem.erase j):=by
 apply Array.ext
 simp [lst]
 intro m h1 h2
 have hm:m<listed.size:=by simpa [lst] using h2
 rw [Array.getElem_setIfInBounds]
 simp only [lst,Array.getElem_ofFn]
 by_cases e:j=m
 subst e
 have h3:is.contains j=true:=by simpa using hr.subset hj
 have h4:(rem.erase j).contains j=false:=by
  have:=hn.not_mem_erase (a:=j)
  simpa using this
 simp only [h3,h4,if_true,Bool.not_false,YaS,Bool.or_true]
 rw [if_neg e]
 have:(rem.erase j).contains m=rem.contains m:=by
  rw [X0]
  simp only [List.contains_iff_mem]
  exact List.mem_erase_of_ne (fun h=>e h.symm)
 rw [this]
 simpa [lst] using hm
theorem Zjo {q:Nat} (is:List Nat) (J:List Nat→World→Prop) (hq:Nat.ble 100000 (q+3)=true) (his:bits (q+3 - 100000)=is) (hnd:is.Nodup) (h0:J is w)
 (step:∀ rem j w',rem.Sublist is→j∈rem→J rem w'→∃ o,ops[j]?=some o∧o.dst=none∧ZR ops e o.guard∧OE P n o e w' (fun _ w''=>(Stp S w' w''∨Lt.contains j=true)∧J (rem.erase j) w''))
 (fin:∀ w',J [] w'→WD P n ops S Lt Q rest e w'):WD P n ops S Lt Q ((i,q+3) :: rest) e w:=by
 refine ⟨fun listed hs hB a ha=>?_⟩
 have hq':¬ q+3<100000:=Nat.not_lt.2 (XU hq)
 have hw:wt ((i,q+3) :: rest)=is.length+wt rest:=by simp only [wt];rw [if_neg hq',his]
 rw [hw]
 simp only [Z06,Jd] at hB
 rw [if_neg (by simp),if_neg hq',his] at hB
 simp only [Xi] at hB
 obtain ⟨_,hall,hrest⟩:=hB
 have hready:∀ rem:List Nat,rem.Sublist is→0<rem.length→Region.ready .any ops (lst listed is rem)=rem:=fun rem hr h0=>by
  have:=XD.1 hall rem (Z71 hr)
  cases rem with
  | nil=>simp at h0
  | cons x r=>simpa using this
 have key:∀ (k:Nat) (rem:List Nat),rem.length=k→rem.Sublist is→∀ w' a,Has n e a→J rem w'→Z1y P .any ops S (fun j=>Lt.contains j) (fun a w=>Q .normal a w) (k+wt rest) (lst listed is rem) a w':=by
  intro k
  induction k with
  | zero=>
    intro rem hl hr w' a ha hJ
    obtain rfl:=XE.1 hl
    rw [XO]
    exact (fin w' hJ).h _ hs hrest a ha
  | succ k ih=>
    intro rem hl hr w' a ha hJ
    rw [show k+1+wt rest=(k+wt rest)+1 by omega]
    refine ⟨fun h=>?_,fun j hj=>?_⟩
    rw [hready rem hr (by omega)] at h
    subst h
    simp at hl
    rw [hready rem hr (by omega)] at hj
    obtain ⟨o,hi,hdst,hg,hp⟩:=step rem j w' hr hj hJ
    unfold wpOp
    simp only [hi]
    rw [if_pos (Z07 ha hg)]
    refine .inl (Oper.wp_mono ?_ (hp.h a ha _))
    rintro a' w'' ⟨v,rfl,hs',hJ'⟩
    refine ⟨hs',?_⟩
    rw [Zfa (hr.nodup hnd) hr hj,hdst]
    exact ih _ (by rw [List.length_erase_of_mem hj];omega) (List.erase_sublist.trans hr) w'' _ ha hJ'
 have:=key is.length is rfl (List.Sublist.refl _) w a ha h0
 rwa [Zhd] at this
theorem Z6O {o:Oper} {dst:Option Nat} {G:Value→World→Prop} (hi:ops[i]?=some o) (hdst:o.dst=dst) (hg:ZR ops e o.guard) (hp:OE P n o e w (fun v w'=>(Stp S w w'∨Lt.contains i=true)∧G v w'))
 (k:∀ v w' a',G v w'→∀ a,Has n e a→a'=a.put dst v→∃ e',Has n e' a'∧WD P n ops S Lt Q rest e' w'):WD P n ops S Lt Q ((i,2) :: rest) e w:=
 Zf9 (Zf8 hi hdst hg hp k)
theorem Zfb (hi:ops[i]?=some ⟨some d,op,ty,pos,af,gd⟩) (hg:noB ops e gd=true) (hdn:Nat.blt d n=true)
 (k:WD P n ops S Lt Q rest ((d,undef) :: e) w):WD P n ops S Lt Q ((i,2) :: rest) e w:=by
 refine Zf9 ⟨fun listed hs h3 a ha=>?_⟩
 unfold wpOp
 simp only [hi]
 have hw:=Z3m (o:=⟨some d,op,ty,pos,af,gd⟩) ha hg
 rw [if_neg (by simp [hw])]
 exact ⟨.inl (Stp.refl _ _),k.h _ hs h3 _ (ha.put (v:=undef) hdn)⟩
theorem ZcF {G:Value→World→Prop} (hi:ops[i]?=some ⟨some d,op,ty,pos,af,gd⟩) (hg:ZR ops e gd) (hp:OE P n ⟨some d,op,ty,pos,af,gd⟩ e w G) (hG:∀ v w',G v w'→Stp S w w') (hdn:Nat.blt d n=true)
 (k:∀ v w',G v w'→WD P n ops S Lt Q rest ((d,v) :: e) w'):WD1 P n ops S Lt Q i rest e w:=
 Zf8 (G:=G) hi rfl hg (hp.mono fun v w' h=>⟨.inl (hG v w' h),h⟩) (fun v w' a' h a ha e=>⟨_,by rw [e];exact ha.put hdn,k v w' h⟩)
theorem Zb {G:Value→World→Prop} (hi:ops[i]?=some ⟨some d,op,ty,pos,af,gd⟩) (hg:ZR ops e gd) (hp:OE P n ⟨some d,op,ty,pos,af,gd⟩ e w G) (hG:∀ v w',G v w'→Stp S w w') (hdn:Nat.blt d n=true)
 (k:∀ v w',G v w'→WD P n ops S Lt Q rest ((d,v) :: e) w'):WD P n ops S Lt Q ((i,2) :: rest) e w:=
 Z6O (G:=G) hi rfl hg (hp.mono fun v w' h=>⟨.inl (hG v w' h),h⟩) (fun v w' a' h a ha e=>⟨_,by rw [e];exact ha.put hdn,k v w' h⟩)
theorem ZG {G:Value→World→Prop} (hi:ops[i]?=some ⟨none,op,ty,pos,af,gd⟩) (hg:ZR ops e gd) (hp:OE P n ⟨none,op,ty,pos,af,gd⟩ e w G) (hG:∀ v w',G v w'→Stp S w w')
 (k:∀ v w',G v w'→WD P n ops S Lt Q rest e w'):WD P n ops S Lt Q ((i,2) :: rest) e w:=
 Z6O (G:=G) hi rfl hg (hp.mono fun v w' h=>⟨.inl (hG v w' h),h⟩) (fun v w' a' h a ha e=>⟨_,by rw [e];exact ha,k v w' h⟩)
theorem Z6P {G:Value→World→Prop} (hi:ops[i]?=some ⟨some d,op,ty,pos,af,gd⟩) (hg:ZR ops e gd) (hp:OE P n ⟨some d,op,ty,pos,af,gd⟩ e w G) (hL:Lt.contains i=true) (hdn:Nat.blt d n=true)
 (k:∀ v w',G v w'→WD P n ops S Lt Q rest ((d,v) :: e) w'):WD P n ops S Lt Q ((i,2) :: rest) e w:=
 Z6O (G:=G) hi rfl hg (hp.mono fun v w' h=>⟨.inr hL,h⟩) (fun v w' a' h a ha e=>⟨_,by rw [e];exact ha.put hdn,k v w' h⟩)
theorem JR {G:Value→World→Prop} (hi:ops[i]?=some ⟨none,op,ty,pos,af,gd⟩) (hg:ZR ops e gd) (hp:OE P n ⟨none,op,ty,pos,af,gd⟩ e w G) (hL:Lt.contains i=true)
 (k:∀ v w',G v w'→WD P n ops S Lt Q rest e w'):WD P n ops S Lt Q ((i,2) :: rest) e w:=
 Z6O (G:=G) hi rfl hg (hp.mono fun v w' h=>⟨.inr hL,h⟩) (fun v w' a' h a ha e=>⟨_,by rw [e];exact ha,k v w' h⟩)
theorem Zfc {ord:List (Nat×Nat)} {j:Nat} {p:Prop} [Decidable p] (hy:look e j=some (.bool (decide p)))
 (ht:p→WD P n ops S Lt Q ord ((j,.bool true) :: e) w) (hf:¬ p→WD P n ops S Lt Q ord ((j,.bool false) :: e) w):WD P n ops S Lt Q ord e w:=by
 refine ⟨fun listed hs hB a ha=>?_⟩
 by_cases hp:p
 exact (ht hp).h _ hs hB a (ha.same hy (by simp [hp]))
 exact (hf hp).h _ hs hB a (ha.same hy (by simp [hp]))
theorem Z0r {i q j d:Nat} {b:Bool} {o:Oper} {p:Prop} [Decidable p] (hi:ops[i]?=some o) (hg:o.guard=some (j,b)) (hj:ZeU ops j=some d) (hy:look e d=some (.bool (decide p)))
 (ht:p→WD P n ops S Lt Q ((i,q) :: rest) ((d,.bool true) :: e) w) (hf:¬ p→WD P n ops S Lt Q ((i,q) :: rest) ((d,.bool false) :: e) w):WD P n ops S Lt Q ((i,q) :: rest) e w:=
 Zfc hy ht hf
theorem JY {i q j d:Nat} {b:Bool} {o:Oper} {t:Bool} (hi:ops[i]?=some o) (hg:o.guard=some (j,b)) (hj:ZeU ops j=some d) (hy:look e d=some (.bool t))
 (ht:t=true→WD P n ops S Lt Q ((i,q) :: rest) ((d,.bool true) :: e) w) (hf:t=false→WD P n ops S Lt Q ((i,q) :: rest) ((d,.bool false) :: e) w):WD P n ops S Lt Q ((i,q) :: rest) e w:=by
 refine ⟨fun listed hs hB a ha=>?_⟩
 cases t
 exact (hf rfl).h _ hs hB a (ha.same hy rfl)
 exact (ht rfl).h _ hs hB a (ha.same hy rfl)
end rules
theorem ZDr {P:Program} {n:Nat} {Q:Exit→Act→World→Prop} {e:Env} {w:World} {id:Nat} {l:List Oper} (m:Nat) (S:List Nat) (Lt:List Nat) (ord:List (Nat×Nat)) (h:∀ w',Stp [] w w'→WD P n l.toArray S Lt Q ord e w') (hlm:l.length=m:=by exact rfl) (hm:P.follows .mixedOrders=true:=by kernel_rfl) (hs:Region.noSelect l.toArray=true:=by kernel_rfl) (hl:Nat.beq (wt ord) l.length=true:=by kernel_rfl)
 (hB:Z06 l.toArray Lt ord (Array.replicate m false)=true:=by kernel_rfl):WC P n (.region id l.toArray true) Q e w:=Z2g m S Lt ord hlm hm hs hl hB h
theorem Z6k {k:Nat}:∀ (l:List (List Value)),(∀ c∈l,c.length=k)→l.flatten.length=l.length * k
 | [],_=>by simp
 | c :: r, h => by
   simp only [X7,Xb,Xc,X8]
   rw [Z6k r (fun c hc=>h c (by simp [hc])),h c (by simp)]
   omega
theorem Z3U {k:Nat}:∀ (css:List (List Value)),(∀ c∈css,c.length=k)→∀ (i:Nat),i<css.length→∀ (cs:List Value),
 (css.set i cs).flatten=css.flatten.take (i * k)++cs++css.flatten.drop (i * k+k)
 | [],_,i,hi,_=>absurd hi (XI _)
 | c :: r, hk, 0, _, cs => by
   have hc:=hk c (by simp)
   simp [hc]
 | c :: r, hk, i + 1, hi, cs => by
   have hc:=hk c (by simp)
   have ih:=Z3U r (fun c hc=>hk c (by simp [hc])) i (by simpa using hi) cs
   simp only [List.set_cons_succ,X7,ih,X8]
   rw [Yau,List.drop_append,hc]
   rw [XB (l:=c) (by omega),show c.drop (i * k+k+k)=[] from YaK (by omega)]
   rw [show i * k+k - k=i * k by omega,show i * k+k+k - k=i * k+k by omega]
   simp [Xr]
theorem Z3q {k:Nat}:∀ (css:List (List Value)),(∀ c∈css,c.length=k)→∀ (i:Nat) (hi:i<css.length) (j:Nat) (hj:j<k) (u:Value),
 (css.set i (css[i].set j u)).flatten=css.flatten.set (i * k+j) u
 | [],_,i,hi,_,_,_=>absurd hi (XI _)
 | c :: r, hk, 0, _, j, hj, u => by
   have hc:=hk c (by simp)
   simp [hc,hj]
 | c :: r, hk, i + 1, hi, j, hj, u => by
   have hc:=hk c (by simp)
   have ih:=Z3q r (fun c hc=>hk c (by simp [hc])) i (by simpa using hi) j hj u
   simp only [List.set_cons_succ,X7,List.getElem_cons_succ,ih,X8]
   rw [Yba,if_neg (by omega),hc]
   rw [show i * k+k+j - k=i * k+j by omega]
section row
variable {α:Type} [Zf α] {X:List Nat} {w w':World} {base T:Nat} {v:Value} {xs:List α}
variable {P:Program} {n:Nat} {e:Env} {d:Option Nat} {ty:TypeId} {pos:String} {af:Array Edge} {g:Option (Nat×Bool)}
theorem Row.isSome (h:Row X w base T v xs) {i:Nat} (hi:i<xs.length):∃ q l c,v=.slice (some ⟨q,0,none⟩) l c:=by
 obtain ⟨css,hl,hr,ho⟩:=h
 rcases ho.2 with ⟨rfl,hn⟩|⟨q,cap,cur,rfl,hb,hg,hnc,hcm,hcs,ht⟩
 omega
 exact ⟨_,_,_,rfl⟩
theorem Z72 {i k:Nat} {t:TypeId} {x y:Operand} {u:Value} {y':α} [hsz:Siz P t k] (hx:ev e x=some (.pointer (some (ZL v i k 0)))) (hy:ev e y=some u) (hk:k=Zf.k α)
 (hr':Zf.rep (ob v++X) w y' u.cells.toList) (hrow:Row X w base T v xs) (hX:∀ b∈X,b<base) (hi:i<xs.length) :
 OE P n ⟨d,.store t x y,ty,pos,af,g⟩ e w (fun _ w'=>Row X w' base T v (xs.set i y')∧Stp (ob v) w w'):=by
 have hrow0:=hrow
 obtain ⟨css,hl,hr,ho⟩:=hrow
 have hlen:∀ c∈css,c.length=Zf.k α:=by
  intro c hc
  obtain ⟨q,hq,rfl⟩:=Xs hc
  exact Zf.len (hr q (by omega) hq)
 rcases ho.2 with ⟨rfl,hn⟩|⟨q,cap,cur,rfl,hb,hg,hnc,hcm,hcs,ht⟩
 omega
 subst hk
 have hul:u.cells.toList.length=Zf.k α:=Zf.len hr'
 have hfit:i * Zf.k α+u.cells.toList.length≤cur.size:=by
  rw [hul,hcs,← X8]
  exact XZ _ (by omega)
 have hst:=run_storeCells_at P q (i * Zf.k α) T u.cells.toList 0 cur w hg (by simpa using hfit) (Zf.one hr')
 simp only [Ya7] at hst
 have hus:u.cells.size=Zf.k α:=by simpa using hul
 have hSt:Stp [q] w (w.setRow q (cur.toList.take (i * Zf.k α)++u.cells.toList++cur.toList.drop (i * Zf.k α+u.cells.toList.length)).toArray):=Z4Q _ _ _
 refine Z5a (w':=w.setRow q (cur.toList.take (i * Zf.k α)++u.cells.toList++cur.toList.drop (i * Zf.k α+u.cells.toList.length)).toArray) (fun a ha=>?_) ⟨⟨css.set i u.cells.toList,by simp [hl],fun j hj hj'=>?_,?_,.inr ⟨q,cap,_,by simp,hb,setRow_heap w q cur _ T (0,0) hg,by simpa using hnc,hcm,?_,?_⟩⟩,hSt⟩
 have hel:ZL (.slice (some ⟨q,0,none⟩) xs.length cap) i (Zf.k α) 0=⟨q,i * Zf.k α,none⟩:=by simp [ZL]
 rw [hel] at hx
 simp [execOp,ha.ev hx,ha.ev hy,Instr.storeAt,Instr.sureAddr,storeVar,Siz.run,hus,hst]
 have hS1:∀ b∈[q],b∈ob (.slice (some ⟨q,0,none⟩) xs.length cap)++X:=by simp [ob]
 by_cases hij:i=j
 subst hij
 simp only [List.getElem_set_self]
 exact Zf.ext hr' hSt hS1 (fun b hb=>.inl hb)
 simp only [YaF hij]
 exact Zf.ext (hr j (by simpa using hj) (by simpa using hj')) hSt hS1 (fun b hb=>.inl hb)
 rw [Z3U css hlen i (by omega)]
 have h1:=ho.1
 simp only [Xb,XR,Ya4,Yag,hul,h1]
 have:(i+1) * Zf.k α≤xs.length * Zf.k α:=XZ _ (by omega)
 rw [X8] at this
 omega
 simp only [YaA,Xb,XR,Ya4,YaE,hul,hcs]
 rw [hul,hcs] at hfit
 omega
 rw [Z3U css hlen i (by omega),← ht]
 have h2:(i+1) * Zf.k α≤xs.length * Zf.k α:=XZ _ (by omega)
 rw [X8] at h2
 have h3:i * Zf.k α≤cur.toList.length:=by simp [hcs];exact Xh (by omega) (XZ _ hnc)
 simp only [Yag,hul]
 rw [Yau,Yau,YaB,YaB,Ybe]
 simp only [Xb,XR,hul]
 rw [Yap h3,XB (l:=u.cells.toList) (by rw [hul];omega)]
 rw [Nat.min_eq_right (by omega:i * Zf.k α≤xs.length * Zf.k α),Yap (by omega:i * Zf.k α≤xs.length * Zf.k α)]
theorem Z5O {β:Type} [Zi β] {xs:List β} {i j k:Nat} {t:TypeId} {x y:Operand} {u:Value} {y':β} [hsz:Siz P t 1] (hx:ev e x=some (.pointer (some (ZL v i k j)))) (hy:ev e y=some u) (hk:k=Zi.k β)
 (hu:u.cells.toList=[u]) (h1:u.oneCell'=true) (hrow:Row X w base T v xs) (hi:i<xs.length) (hj:j<Zi.k β) (hr':Zi.enc y'=(Zi.enc xs[i]).set j u) :
 OE P n ⟨d,.store t x y,ty,pos,af,g⟩ e w (fun _ w'=>Row X w' base T v (xs.set i y')∧Stp (ob v) w w'):=by
 obtain ⟨css,hl,hr,ho⟩:=hrow
 have hlen:∀ c∈css,c.length=Zf.k β:=by
  intro c hc
  obtain ⟨q,hq,rfl⟩:=Xs hc
  exact Zf.len (hr q (by omega) hq)
 have hkk:Zf.k β=Zi.k β:=rfl
 rcases ho.2 with ⟨rfl,hn⟩|⟨q,cap,cur,rfl,hb,hg,hnc,hcm,hcs,ht⟩
 omega
 subst hk
 have hlt:i * Zi.k β+j<xs.length * Zi.k β:=by
  have:(i+1) * Zi.k β≤xs.length * Zi.k β:=XZ _ (by omega)
  rw [X8] at this
  omega
 have hfit:i * Zi.k β+j+[u].length≤cur.size:=by
  rw [hcs,hkk]
  have:=XZ (Zi.k β) hnc
  simp only [List.length_singleton]
  omega
 have hst:=run_storeCells_at P q (i * Zi.k β+j) T [u] 0 cur w hg (by simpa using hfit) (by simpa using h1)
 simp only [Ya7] at hst
 have hus:u.cells.size=1:=by rw [← YaE,hu];rfl
 have hSt:Stp [q] w (w.setRow q (cur.toList.take (i * Zi.k β+j)++[u]++cur.toList.drop (i * Zi.k β+j+[u].length)).toArray):=Z4Q _ _ _
 have hcsi:css[i]'(by omega)=Zi.enc xs[i]:=hr i hi (by omega)
 refine Z5a (w':=w.setRow q (cur.toList.take (i * Zi.k β+j)++[u]++cur.toList.drop (i * Zi.k β+j+[u].length)).toArray) (fun a ha=>?_) ⟨⟨css.set i ((css[i]'(by omega)).set j u),by simp [hl],fun m hm hm'=>?_,?_,.inr ⟨q,cap,_,by simp,hb,setRow_heap w q cur _ T (0,0) hg,by simpa using hnc,hcm,?_,?_⟩⟩,hSt⟩
 have hel:ZL (.slice (some ⟨q,0,none⟩) xs.length cap) i (Zi.k β) j=⟨q,i * Zi.k β+j,none⟩:=by simp [ZL]
 rw [hel] at hx
 simp [execOp,ha.ev hx,ha.ev hy,Instr.storeAt,Instr.sureAddr,storeVar,Siz.run,hus,hu,hst]
 by_cases hij:i=m
 subst hij
 simp only [List.getElem_set_self]
 show _=Zi.enc y'
 rw [hcsi,hr']
 simp only [YaF hij]
 exact hr m (by simpa using hm) (by simpa using hm')
 rw [Z3q css hlen i (by omega) j hj]
 simpa using ho.1
 simp only [YaA,Xb,XR,Ya4,YaE]
 omega
 rw [Z3q css hlen i (by omega) j hj,← ht]
 have hsz:i * Zi.k β+j<cur.toList.length:=by simp;simp at hfit;omega
 simp only [Yag,hkk]
 rw [show cur.toList.take (i * Zi.k β+j)++[u]++cur.toList.drop (i * Zi.k β+j+[u].length)=cur.toList.set (i * Zi.k β+j) u by
  rw [List.set_eq_take_append_cons_drop,if_pos hsz];simp]
 rw [List.take_set]
def slc (v:Value) (l h k:Nat):Value:=
 match v with
 | .slice a _ c=>.slice (if c=l then a else a.map (·.add (l * k))) (h - l) (c - l)
 | v=>v
theorem SlV.slc (h:SlV X w v xs) {l r:Nat} (hl:l≤r) (hr:r≤xs.length):SlV X w (slc v l r (Zf.k α)) ((xs.take r).drop l):=by
 obtain ⟨p,c,rfl,hlen,hm,hn,hc⟩:=h
 have hlen2:((xs.take r).drop l).length=r - l:=by simp;omega
 refine ⟨if c=l then p else p.map (·.add (l * Zf.k α)),c - l,by simp [Eng.slc,hlen2],by omega,by omega,?_,fun i hi=>?_⟩
 intro hp
 split at hp
 omega
 · cases p with
   | none=>have:=hn rfl;omega
   | some a=>simp at hp
 have hi2:l+i<xs.length:=by omega
 obtain ⟨b,o,cs,rfl,hb,hx,hrep,hcell⟩:=hc (l+i) hi2
 refine ⟨b,o+l * Zf.k α,cs,?_,hb,hx,by simpa using hrep,fun j u hu=>?_⟩
 rw [if_neg (by omega)]
 simp [Addr.add_lit]
 have:=hcell j u hu
 rw [show o+l * Zf.k α+i * Zf.k α+j=o+(l+i) * Zf.k α+j by rw [Nat.add_mul];omega]
 exact this
theorem Z73 {t el k:Nat} {x hi:Operand} {r:Nat} {b:Int} [hu:Und P t (.slice el)] [hk:Siz P el k] {w₀:World} (hx:ev e x=some v) (hs:SlV X w₀ v xs) (hb:ev e hi=some (.int .i64 b))
 (hbr:b=(r:Int)) (hrx:r≤xs.length):PR P n ⟨d,.slice t x none (some hi) none,ty,pos,af,g⟩ e w (slc v 0 r k):=by
 refine ⟨fun act ha'=>?_⟩
 obtain ⟨p,c,rfl,hlen,hm,hn,hc⟩:=hs
 subst hbr
 simp [execOp,ha'.ev hx,ha'.ev hb,Instr.sliceAt,run_underlying hu.h,Instr.slice,Instr.sliceBounds,Instr.sliceBound,asIntOf,Siz.run,Eng.slc,show r≤c by omega]
theorem ZbA {t el k:Nat} {x lo:Operand} {l:Nat} {a:Int} [hu:Und P t (.slice el)] [hk:Siz P el k] {w₀:World} (hx:ev e x=some v) (hs:SlV X w₀ v xs) (ha:ev e lo=some (.int .i64 a))
 (hal:a=(l:Int)) (hlx:l≤xs.length):PR P n ⟨d,.slice t x (some lo) none none,ty,pos,af,g⟩ e w (slc v l xs.length k):=by
 refine ⟨fun act ha'=>?_⟩
 obtain ⟨p,c,rfl,hlen,hm,hn,hc⟩:=hs
 subst hal
 simp [execOp,ha'.ev hx,ha'.ev ha,Instr.sliceAt,run_underlying hu.h,Instr.slice,Instr.sliceBounds,Instr.sliceBound,asIntOf,Siz.run,Eng.slc,hlx]
theorem Z5b {k:Nat}:∀ (css:List (List Value)),(∀ c∈css,c.length=k)→∀ (i:Nat),(css.take i).flatten=css.flatten.take (i * k)
 | [],_,i=>by simp
 | c :: r,hk,0=>by simp
 | c :: r, hk, i + 1 => by
   have hc:=hk c (by simp)
   have ih:=Z5b r (fun c hc=>hk c (by simp [hc])) i
   simp only [Yai,X7,ih,X8]
   rw [Yau,hc,XB (l:=c) (by omega),show i * k+k - k=i * k by omega]
theorem Zfd (v:Value) (r k:Nat):ob (slc v 0 r k)=ob v:=by
 cases v<;>try rfl
 rename_i a l c
 cases a with
 | none=>simp [slc,ob]
 | some a=>by_cases hc:c=0<;>simp [slc,ob,hc,Addr.add]
theorem Row.cut (h:Row X w base T v xs) {r:Nat} (hr:r≤xs.length):Row X w base T (slc v 0 r (Zf.k α)) (xs.take r):=by
 obtain ⟨css,hl,hrep,ho⟩:=h
 have hlen:∀ c∈css,c.length=Zf.k α:=by
  intro c hc
  obtain ⟨q,hq,rfl⟩:=Xs hc
  exact Zf.len (hrep q (by omega) hq)
 refine ⟨css.take r,by simp [hl],fun i hi hi'=>?_,?_,?_⟩
 rw [Zfd]
 simp only [List.getElem_take]
 exact hrep i (by simp at hi;omega) (by simp at hi';omega)
 rw [Z6k _ (fun c hc=>hlen c (Yar hc))]
 simp [hl]
 rcases ho.2 with ⟨rfl,hn⟩|⟨q,cap,cur,rfl,hb,hg,hnc,hcm,hcs,ht⟩
 exact .inl ⟨by simp [Eng.slc];omega,by simp;omega⟩
 refine .inr ⟨q,cap,cur,?_,hb,hg,by simp;omega,hcm,hcs,?_⟩
 simp [Eng.slc,Addr.add,XR,Yap hr]
 rw [Z5b css hlen,← ht,YaB,XR,Yap hr]
 congr 1
 have:=XZ (Zf.k α) hr
 omega
end row
section misc
variable {P:Program} {n:Nat} {e:Env} {w:World} {d:Option Nat} {ty:TypeId} {pos:String} {af:Array Edge} {g:Option (Nat×Bool)}
def Z1L (e:Env):List (Nat×Operand)→Option (List (Nat×Value))
 | []=>some []
 | (i, x) :: r => match ev e x, Z1L e r with
   | some v,some l=>some ((i,v) :: l)
   | _,_=>none
theorem Has.parts {a:Act} (ha:Has n e a):∀ {l:List (Nat×Operand)} {vs:List (Nat×Value)},Z1L e l=some vs→l.map (fun (p:Nat×Operand)=>(p.1,a.eval p.2))=vs
 | [],vs,h=>by simp [Z1L] at h;simp [h]
 | (i, x) :: r, vs, h => by
   simp only [Z1L] at h
   cases hx:Eng.ev e x with
   | none=>simp [hx] at h
   | some v=>
     cases hr:Z1L e r with
     | none=>simp [hx,hr] at h
     | some l=>
       simp [hx,hr] at h
       subst h
       simp [ha.ev hx,Has.parts ha hr]
theorem Z0A {t:TypeId} {l:List (Nat×Operand)} {vs:List (Nat×Value)} {u:Value} (hv:Z1L e l=some vs) (hb:∀ w,(Instr.build t vs.toArray).run P w=.ok u w):PR P n ⟨d,.build t l.toArray,ty,pos,af,g⟩ e w u:=
 ⟨fun a ha => by
   have h1:=ha.parts hv
   have h2:l.toArray.map (fun (x:Nat×Operand)=>match x with|(i,x)=>(i,a.eval x))=vs.toArray:=by
    rw [List.map_toArray]
    exact congrArg List.toArray h1
   simp only [execOp]
   rw [h2]
   simp [hb]⟩
def Zc (w:World) (T:TypeId) (len:Nat) (cs:List Value) (v:Value) (w':World):Prop:=∃ b,v=.slice (some ⟨b,0,none⟩) len len∧w.heap.size≤b∧Blk w' b T cs∧Stp [] w w'
theorem Z2 {t T len:Nat} {l:List (Nat×Operand)} {vs:List (Nat×Value)} {cs:List Value} (hv:Z1L e l=some vs)
 (hb:∀ w:World,(Instr.buildSlice t len vs.toArray).run P w=.ok (.slice (some ⟨w.heap.size,0,none⟩) len len) (w.alloc (.cells cs.toArray T))) :
 OE P n ⟨d,.buildSlice t len l.toArray,ty,pos,af,g⟩ e w (Zc w T len cs):=
 Z0q (v:=.slice (some ⟨w.heap.size,0,none⟩) len len) (w':=w.alloc (.cells cs.toArray T)) (fun a ha=>by
  have h1:=ha.parts hv
  have h2:l.toArray.map (fun (x:Nat×Operand)=>match x with|(i,x)=>(i,a.eval x))=vs.toArray:=by
   rw [List.map_toArray]
   exact congrArg List.toArray h1
  simp only [execOp]
  rw [h2]
  simp [hb w]) ⟨w.heap.size,rfl,Xo _,heap_alloc_new w _,Stp.alloc _ _ _⟩
theorem Zc.slv {β:Type} [Zi β] {X:List Nat} {T len:Nat} {cs:List Value} {v:Value} {w':World} {ys:List β} (h:Zc w T len cs v w') (hX:∀ b∈X,b<w.heap.size) (hl:len=ys.length) (hc:cs=ys.flatMap Zi.enc) (hm:ys.length≤maxLen):SlV X w' v ys:=by
 obtain ⟨b,rfl,hb,hblk,hS⟩:=h
 subst hl
 refine ⟨some ⟨b,0,none⟩,ys.length,rfl,Xo _,hm,fun h=>by simp at h,fun i hi=>⟨b,0,Zi.enc ys[i],rfl,hblk.lt,fun hx=>by have:=hX b hx;omega,rfl,fun j u hu=>?_⟩⟩
 subst hc
 refine hblk.cell ?_
 have hk:∀ c∈ys.map Zi.enc,c.length=Zi.k β:=by
  intro c hc
  obtain ⟨y,_,rfl⟩:=Yax.1 hc
  exact Zi.len y
 have:=Z1x (ys.map Zi.enc) hk i (by simpa using hi) j u (by simpa using hu)
 rw [List.flatMap_def,XO]
 exact this
theorem Zhe {x y:Operand} {t u:TypeId} {p q:Value} {c:Prop} [Decidable c] (hx:ev e x=some p) (hy:ev e y=some q) (hg:∀ w,(eqGuard .neq t x y p q).run P w=.ok () w) (h:∀ w,(binOp .neq t p q).run P w=.ok (.bool (decide (¬ c))) w) :
 PR P n ⟨d,.binOp .neq t x y u,ty,pos,af,g⟩ e w (.bool (decide (¬ c))):=⟨fun a ha=>by simp only [execOp,ha.ev hx,ha.ev hy];simp [h,hg]⟩
end misc
section post
variable {P:Program} {n:Nat} {fn:Func} {R:Ending→World→Prop} {e:Env} {w:World} {Q:Exit→Act→World→Prop}
theorem Z0B {t b T m:Nat} {D:TypeDesc} {cs:List Value} [hu:Und P t D] (hA:JX D=true) [hs:Siz P t m] (hb:Blk w b T cs) (hl:cs.length=m):(loadVar t ⟨b,0,none⟩).run P w=.ok (.agg cs.toArray) w:=by
 have:=run_loadCells_list (P:=P) w ⟨b,0,none⟩ cs (fun j v h=>by rw [Addr.add_lit,XO];exact hb.cell h)
 rw [hl] at this
 simp [loadVar,Und.isAgg,hA,Siz.run,this]
theorem Zu {t b T T' m:Nat} {D:TypeDesc} {cs:List Value} (hr:fn.results=#[.cell t T']) [hu:Und P T' D] (hA:JX D=true) [hs:Siz P T' m] (ht:look e t=some (.pointer (some ⟨b,0,none⟩))) (hb:Blk w b T cs) (hl:cs.length=m)
 (h:R (.returned (.agg cs.toArray)) w):WQ n (bodyPost P fn R) .ret e w:=
 ⟨fun a ha => ⟨ha.defers, .agg cs.toArray, by
   have h1:=ha.vals _ _ ht
   rw [Xw] at h1
   simp [results,hr,h1,asAddr,Z0B hA hb hl],h⟩⟩
theorem J5 {t b T T' m s:Nat} {D:TypeDesc} {cs:List Value} {v:Value} (hr:fn.results=#[.cell t T',.tmp s]) [hu:Und P T' D] (hA:JX D=true) [hs:Siz P T' m] (ht:look e t=some (.pointer (some ⟨b,0,none⟩))) (hb:Blk w b T cs) (hl:cs.length=m)
 (hv:look e s=some v) (h:R (.returned (.tuple #[.agg cs.toArray,v])) w):WQ n (bodyPost P fn R) .ret e w:=
 ⟨fun a ha => ⟨ha.defers, .tuple #[.agg cs.toArray, v], by
   have h1:=ha.vals _ _ ht
   have h2:=ha.vals _ _ hv
   rw [Xw] at h1 h2
   simp [results,hr,h1,h2,asAddr,Z0B hA hb hl],h⟩⟩
end post
theorem Zj1 {P:Program} {n:Nat} {o:Oper} {e:Env} {w:World} {v:Value} (h:PR P n o e w v):OE P n o e w (fun u w'=>u=v∧w'=w):=Z0q h.h ⟨rfl,rfl⟩
section
variable {P:Program} {n:Nat} {Q:Exit→Act→World→Prop} {e:Env} {w:World} {ops:Array Oper} {S:List Nat} {Lt:List Nat} {rest:List Oper} {ord:List (Nat×Nat)} {d₀ i₀:Nat} {ty:TypeId} {pos:String} {af:Array Edge} {gd:Option (Nat×Bool)}
theorem Z5c {x:Operand} {v:Value} (hx:ev e x=some v) (hdn:Nat.blt d₀ n=true) (kk:WL P n ops Q rest ((d₀,v) :: e) w):WL P n ops Q (⟨some d₀,.move x,ty,pos,af,none⟩ :: rest) e w:=by
 refine Z7 (v:=v) ?_ hdn kk
 apply ZU<;>assumption
theorem Z90 {x:Operand} {v:Value} (hi₀:ops[i₀]?=some ⟨some d₀,.move x,ty,pos,af,gd⟩) (hg₀:ZR ops e gd) (hx:ev e x=some v) (hdn:Nat.blt d₀ n=true) (kk:WD P n ops S Lt Q ord ((d₀,v) :: e) w):WD P n ops S Lt Q ((i₀,0) :: ord) e w:=by
 refine ZE (v:=v) hi₀ hg₀ (fun w'=>?_) hdn kk
 apply ZU<;>assumption
theorem Z2W {x:Operand} {v:Value} (hx:ev e x=some v) (hdn:Nat.blt d₀ n=true) (kk:WL P n ops Q rest ((d₀,v) :: e) w):WL P n ops Q (⟨some d₀,.assign x,ty,pos,af,none⟩ :: rest) e w:=by
 refine Z7 (v:=v) ?_ hdn kk
 apply Z4p<;>assumption
theorem Zdo {x:Operand} {v:Value} (hi₀:ops[i₀]?=some ⟨some d₀,.assign x,ty,pos,af,gd⟩) (hg₀:ZR ops e gd) (hx:ev e x=some v) (hdn:Nat.blt d₀ n=true) (kk:WD P n ops S Lt Q ord ((d₀,v) :: e) w):WD P n ops S Lt Q ((i₀,0) :: ord) e w:=by
 refine ZE (v:=v) hi₀ hg₀ (fun w'=>?_) hdn kk
 apply Z4p<;>assumption
theorem Zdp {c x y:Operand} {v:Value} (hc:ev e c=some (.bool true)) (hx:ev e x=some v) (hdn:Nat.blt d₀ n=true) (kk:WL P n ops Q rest ((d₀,v) :: e) w):WL P n ops Q (⟨some d₀,.pick c x y,ty,pos,af,none⟩ :: rest) e w:=by
 refine Z7 (v:=v) ?_ hdn kk
 apply Z8h<;>assumption
theorem Zdq {c x y:Operand} {v:Value} (hi₀:ops[i₀]?=some ⟨some d₀,.pick c x y,ty,pos,af,gd⟩) (hg₀:ZR ops e gd) (hc:ev e c=some (.bool true)) (hx:ev e x=some v) (hdn:Nat.blt d₀ n=true) (kk:WD P n ops S Lt Q ord ((d₀,v) :: e) w):WD P n ops S Lt Q ((i₀,0) :: ord) e w:=by
 refine ZE (v:=v) hi₀ hg₀ (fun w'=>?_) hdn kk
 apply Z8h<;>assumption
theorem Zdr {c x y:Operand} {v:Value} (hc:ev e c=some (.bool false)) (hx:ev e y=some v) (hdn:Nat.blt d₀ n=true) (kk:WL P n ops Q rest ((d₀,v) :: e) w):WL P n ops Q (⟨some d₀,.pick c x y,ty,pos,af,none⟩ :: rest) e w:=by
 refine Z7 (v:=v) ?_ hdn kk
 apply Z8i<;>assumption
theorem Zds {c x y:Operand} {v:Value} (hi₀:ops[i₀]?=some ⟨some d₀,.pick c x y,ty,pos,af,gd⟩) (hg₀:ZR ops e gd) (hc:ev e c=some (.bool false)) (hx:ev e y=some v) (hdn:Nat.blt d₀ n=true) (kk:WD P n ops S Lt Q ord ((d₀,v) :: e) w):WD P n ops S Lt Q ((i₀,0) :: ord) e w:=by
 refine ZE (v:=v) hi₀ hg₀ (fun w'=>?_) hdn kk
 apply Z8i<;>assumption
theorem Zfe {t:TypeId} {x:Operand} (hx:ev e x=some (.bool true))  (hdn:Nat.blt d₀ n=true) (kk:WL P n ops Q rest ((d₀,(.bool false)) :: e) w):WL P n ops Q (⟨some d₀,.unOp .not t x,ty,pos,af,none⟩ :: rest) e w:=by
 refine Z7 (v:=(.bool false)) ?_ hdn kk
 apply ZeW<;>assumption
theorem Zff {t:TypeId} {x:Operand} (hx:ev e x=some (.bool false))  (hdn:Nat.blt d₀ n=true) (kk:WL P n ops Q rest ((d₀,(.bool true)) :: e) w):WL P n ops Q (⟨some d₀,.unOp .not t x,ty,pos,af,none⟩ :: rest) e w:=by
 refine Z7 (v:=(.bool true)) ?_ hdn kk
 apply ZeX<;>assumption
theorem Zjp {x y:Operand} {t u:TypeId} {a b:Int} (hx:ev e x=some (.int .i64 a)) (hy:ev e y=some (.int .i64 b)) (hr:I64 (a+b)) (hdn:Nat.blt d₀ n=true) (kk:WL P n ops Q rest ((d₀,(.int .i64 (a+b))) :: e) w):WL P n ops Q (⟨some d₀,.binOp .add t x y u,ty,pos,af,none⟩ :: rest) e w:=by
 refine Z7 (v:=(.int .i64 (a+b))) ?_ hdn kk
 apply Zbx<;>assumption
theorem Zjq {x y:Operand} {t u:TypeId} {a b:Int} (hi₀:ops[i₀]?=some ⟨some d₀,.binOp .add t x y u,ty,pos,af,gd⟩) (hg₀:ZR ops e gd) (hx:ev e x=some (.int .i64 a)) (hy:ev e y=some (.int .i64 b)) (hr:I64 (a+b)) (hdn:Nat.blt d₀ n=true) (kk:WD P n ops S Lt Q ord ((d₀,(.int .i64 (a+b))) :: e) w):WD P n ops S Lt Q ((i₀,0) :: ord) e w:=by
 refine ZE (v:=(.int .i64 (a+b))) hi₀ hg₀ (fun w'=>?_) hdn kk
 apply Zbx<;>assumption
theorem Zjr {x y:Operand} {t u:TypeId} {a b:Int} (hx:ev e x=some (.int .i64 a)) (hy:ev e y=some (.int .i64 b)) (hr:I64 (a - b)) (hdn:Nat.blt d₀ n=true) (kk:WL P n ops Q rest ((d₀,(.int .i64 (a - b))) :: e) w):WL P n ops Q (⟨some d₀,.binOp .sub t x y u,ty,pos,af,none⟩ :: rest) e w:=by
 refine Z7 (v:=(.int .i64 (a - b))) ?_ hdn kk
 apply Z3R<;>assumption
theorem Zjs {x y:Operand} {t u:TypeId} {a b:Int} (hi₀:ops[i₀]?=some ⟨some d₀,.binOp .sub t x y u,ty,pos,af,gd⟩) (hg₀:ZR ops e gd) (hx:ev e x=some (.int .i64 a)) (hy:ev e y=some (.int .i64 b)) (hr:I64 (a - b)) (hdn:Nat.blt d₀ n=true) (kk:WD P n ops S Lt Q ord ((d₀,(.int .i64 (a - b))) :: e) w):WD P n ops S Lt Q ((i₀,0) :: ord) e w:=by
 refine ZE (v:=(.int .i64 (a - b))) hi₀ hg₀ (fun w'=>?_) hdn kk
 apply Z3R<;>assumption
theorem Zjt {x y:Operand} {t u:TypeId} {a b:Int} (hx:ev e x=some (.int .i64 a)) (hy:ev e y=some (.int .i64 b)) (hr:I64 (a * b)) (hdn:Nat.blt d₀ n=true) (kk:WL P n ops Q rest ((d₀,(.int .i64 (a * b))) :: e) w):WL P n ops Q (⟨some d₀,.binOp .mul t x y u,ty,pos,af,none⟩ :: rest) e w:=by
 refine Z7 (v:=(.int .i64 (a * b))) ?_ hdn kk
 apply Zjg<;>assumption
theorem Zju {x:Operand} {t:TypeId} {a:Int} (hx:ev e x=some (.int .i64 a)) (hr:I64 (- a)) (hdn:Nat.blt d₀ n=true) (kk:WL P n ops Q rest ((d₀,(.int .i64 (- a))) :: e) w):WL P n ops Q (⟨some d₀,.unOp .neg t x,ty,pos,af,none⟩ :: rest) e w:=by
 refine Z7 (v:=(.int .i64 (- a))) ?_ hdn kk
 apply Zjh<;>assumption
theorem Zhf {x y:Operand} {t u:TypeId} {a b:Int} (hx:ev e x=some (.int .i64 a)) (hy:ev e y=some (.int .i64 b)) (h0:0≤a) (hb:0<b) (hr:I64 a) (hdn:Nat.blt d₀ n=true) (kk:WL P n ops Q rest ((d₀,(.int .i64 (a % b))) :: e) w):WL P n ops Q (⟨some d₀,.binOp .rem t x y u,ty,pos,af,none⟩ :: rest) e w:=by
 refine Z7 (v:=(.int .i64 (a % b))) ?_ hdn kk
 apply ZcB<;>assumption
theorem Zhg {x y:Operand} {t u:TypeId} {a b:Int} (hi₀:ops[i₀]?=some ⟨some d₀,.binOp .rem t x y u,ty,pos,af,gd⟩) (hg₀:ZR ops e gd) (hx:ev e x=some (.int .i64 a)) (hy:ev e y=some (.int .i64 b)) (h0:0≤a) (hb:0<b) (hr:I64 a) (hdn:Nat.blt d₀ n=true) (kk:WD P n ops S Lt Q ord ((d₀,(.int .i64 (a % b))) :: e) w):WD P n ops S Lt Q ((i₀,0) :: ord) e w:=by
 refine ZE (v:=(.int .i64 (a % b))) hi₀ hg₀ (fun w'=>?_) hdn kk
 apply ZcB<;>assumption
theorem Zhh {x y:Operand} {t u:TypeId} {a b:Int} (hx:ev e x=some (.int .i64 a)) (hy:ev e y=some (.int .i64 b)) (h0:0≤a) (hb:0<b) (hr:I64 a) (hdn:Nat.blt d₀ n=true) (kk:WL P n ops Q rest ((d₀,(.int .i64 (a / b))) :: e) w):WL P n ops Q (⟨some d₀,.binOp .quo t x y u,ty,pos,af,none⟩ :: rest) e w:=by
 refine Z7 (v:=(.int .i64 (a / b))) ?_ hdn kk
 apply ZcC<;>assumption
theorem Zhi {x y:Operand} {t u:TypeId} {a b:Int} (hi₀:ops[i₀]?=some ⟨some d₀,.binOp .quo t x y u,ty,pos,af,gd⟩) (hg₀:ZR ops e gd) (hx:ev e x=some (.int .i64 a)) (hy:ev e y=some (.int .i64 b)) (h0:0≤a) (hb:0<b) (hr:I64 a) (hdn:Nat.blt d₀ n=true) (kk:WD P n ops S Lt Q ord ((d₀,(.int .i64 (a / b))) :: e) w):WD P n ops S Lt Q ((i₀,0) :: ord) e w:=by
 refine ZE (v:=(.int .i64 (a / b))) hi₀ hg₀ (fun w'=>?_) hdn kk
 apply ZcC<;>assumption
theorem Z91 {x y:Operand} {t u:TypeId} {a b:Int} {k:IntKind} (hx:ev e x=some (.int k a)) (hy:ev e y=some (.int k b)) (hdn:Nat.blt d₀ n=true) (kk:WL P n ops Q rest ((d₀,(.bool (decide (a<b)))) :: e) w):WL P n ops Q (⟨some d₀,.binOp .lss t x y u,ty,pos,af,none⟩ :: rest) e w:=by
 refine Z7 (v:=(.bool (decide (a<b)))) ?_ hdn kk
 apply ZeY<;>assumption
theorem Zjv {x y:Operand} {t u:TypeId} {a b:Int} {k:IntKind} (hi₀:ops[i₀]?=some ⟨some d₀,.binOp .lss t x y u,ty,pos,af,gd⟩) (hg₀:ZR ops e gd) (hx:ev e x=some (.int k a)) (hy:ev e y=some (.int k b)) (hdn:Nat.blt d₀ n=true) (kk:WD P n ops S Lt Q ord ((d₀,(.bool (decide (a<b)))) :: e) w):WD P n ops S Lt Q ((i₀,0) :: ord) e w:=by
 refine ZE (v:=(.bool (decide (a<b)))) hi₀ hg₀ (fun w'=>?_) hdn kk
 apply ZeY<;>assumption
theorem Zjw {x y:Operand} {t u:TypeId} {a b:Int} {k:IntKind} (hx:ev e x=some (.int k a)) (hy:ev e y=some (.int k b)) (hdn:Nat.blt d₀ n=true) (kk:WL P n ops Q rest ((d₀,(.bool (decide (a≤b)))) :: e) w):WL P n ops Q (⟨some d₀,.binOp .leq t x y u,ty,pos,af,none⟩ :: rest) e w:=by
 refine Z7 (v:=(.bool (decide (a≤b)))) ?_ hdn kk
 apply ZeZ<;>assumption
theorem Zjx {x y:Operand} {t u:TypeId} {a b:Int} {k:IntKind} (hi₀:ops[i₀]?=some ⟨some d₀,.binOp .leq t x y u,ty,pos,af,gd⟩) (hg₀:ZR ops e gd) (hx:ev e x=some (.int k a)) (hy:ev e y=some (.int k b)) (hdn:Nat.blt d₀ n=true) (kk:WD P n ops S Lt Q ord ((d₀,(.bool (decide (a≤b)))) :: e) w):WD P n ops S Lt Q ((i₀,0) :: ord) e w:=by
 refine ZE (v:=(.bool (decide (a≤b)))) hi₀ hg₀ (fun w'=>?_) hdn kk
 apply ZeZ<;>assumption
theorem Z92 {x y:Operand} {t u:TypeId} {a b:Int} {k:IntKind} (hx:ev e x=some (.int k a)) (hy:ev e y=some (.int k b)) (hdn:Nat.blt d₀ n=true) (kk:WL P n ops Q rest ((d₀,(.bool (decide (b<a)))) :: e) w):WL P n ops Q (⟨some d₀,.binOp .gtr t x y u,ty,pos,af,none⟩ :: rest) e w:=by
 refine Z7 (v:=(.bool (decide (b<a)))) ?_ hdn kk
 apply Zf0<;>assumption
theorem Zjy {x y:Operand} {t u:TypeId} {a b:Int} {k:IntKind} (hi₀:ops[i₀]?=some ⟨some d₀,.binOp .gtr t x y u,ty,pos,af,gd⟩) (hg₀:ZR ops e gd) (hx:ev e x=some (.int k a)) (hy:ev e y=some (.int k b)) (hdn:Nat.blt d₀ n=true) (kk:WD P n ops S Lt Q ord ((d₀,(.bool (decide (b<a)))) :: e) w):WD P n ops S Lt Q ((i₀,0) :: ord) e w:=by
 refine ZE (v:=(.bool (decide (b<a)))) hi₀ hg₀ (fun w'=>?_) hdn kk
 apply Zf0<;>assumption
theorem Zjz {x y:Operand} {t u:TypeId} {a b:Int} {k:IntKind} (hx:ev e x=some (.int k a)) (hy:ev e y=some (.int k b)) (hdn:Nat.blt d₀ n=true) (kk:WL P n ops Q rest ((d₀,(.bool (decide (b≤a)))) :: e) w):WL P n ops Q (⟨some d₀,.binOp .geq t x y u,ty,pos,af,none⟩ :: rest) e w:=by
 refine Z7 (v:=(.bool (decide (b≤a)))) ?_ hdn kk
 apply Zjk<;>assumption
theorem ZjA {x y:Operand} {t u:TypeId} {a b:Int} {k:IntKind} (hx:ev e x=some (.int k a)) (hy:ev e y=some (.int k b)) (hdn:Nat.blt d₀ n=true) (kk:WL P n ops Q rest ((d₀,(.bool (decide (a=b)))) :: e) w):WL P n ops Q (⟨some d₀,.binOp .eql t x y u,ty,pos,af,none⟩ :: rest) e w:=by
 refine Z7 (v:=(.bool (decide (a=b)))) ?_ hdn kk
 apply Zf1<;>assumption
theorem ZjB {x y:Operand} {t u:TypeId} {a b:Int} {k:IntKind} (hi₀:ops[i₀]?=some ⟨some d₀,.binOp .eql t x y u,ty,pos,af,gd⟩) (hg₀:ZR ops e gd) (hx:ev e x=some (.int k a)) (hy:ev e y=some (.int k b)) (hdn:Nat.blt d₀ n=true) (kk:WD P n ops S Lt Q ord ((d₀,(.bool (decide (a=b)))) :: e) w):WD P n ops S Lt Q ((i₀,0) :: ord) e w:=by
 refine ZE (v:=(.bool (decide (a=b)))) hi₀ hg₀ (fun w'=>?_) hdn kk
 apply Zf1<;>assumption
theorem Zfg {x y:Operand} {t u:TypeId} {a b:Int} {k:IntKind} (hx:ev e x=some (.int k a)) (hy:ev e y=some (.int k b)) (hdn:Nat.blt d₀ n=true) (kk:WL P n ops Q rest ((d₀,(.bool (decide (¬ a=b)))) :: e) w):WL P n ops Q (⟨some d₀,.binOp .neq t x y u,ty,pos,af,none⟩ :: rest) e w:=by
 refine Z7 (v:=(.bool (decide (¬ a=b)))) ?_ hdn kk
 apply Zf2<;>assumption
theorem ZjC {x y:Operand} {t u:TypeId} {a b:Int} {k:IntKind} (hi₀:ops[i₀]?=some ⟨some d₀,.binOp .neq t x y u,ty,pos,af,gd⟩) (hg₀:ZR ops e gd) (hx:ev e x=some (.int k a)) (hy:ev e y=some (.int k b)) (hdn:Nat.blt d₀ n=true) (kk:WD P n ops S Lt Q ord ((d₀,(.bool (decide (¬ a=b)))) :: e) w):WD P n ops S Lt Q ((i₀,0) :: ord) e w:=by
 refine ZE (v:=(.bool (decide (¬ a=b)))) hi₀ hg₀ (fun w'=>?_) hdn kk
 apply Zf2<;>assumption
theorem Zhj {x y:Operand} {t u:TypeId} {p q:Bool} [hu:Und P t .bool] (hi₀:ops[i₀]?=some ⟨some d₀,.binOp .eql t x y u,ty,pos,af,gd⟩) (hg₀:ZR ops e gd) (hx:ev e x=some (.bool p)) (hy:ev e y=some (.bool q)) (hdn:Nat.blt d₀ n=true) (kk:WD P n ops S Lt Q ord ((d₀,(.bool (decide (p=q)))) :: e) w):WD P n ops S Lt Q ((i₀,0) :: ord) e w:=by
 refine ZE (v:=(.bool (decide (p=q)))) hi₀ hg₀ (fun w'=>?_) hdn kk
 apply Zhb<;>assumption
theorem ZcG {x y:Operand} {t u:TypeId} {p q:Bool} [hu:Und P t .bool] (hx:ev e x=some (.bool p)) (hy:ev e y=some (.bool q)) (hdn:Nat.blt d₀ n=true) (kk:WL P n ops Q rest ((d₀,(.bool (decide (¬ p=q)))) :: e) w):WL P n ops Q (⟨some d₀,.binOp .neq t x y u,ty,pos,af,none⟩ :: rest) e w:=by
 refine Z7 (v:=(.bool (decide (¬ p=q)))) ?_ hdn kk
 apply Zhc<;>assumption
theorem ZbB {x:Operand} {vs:Array Value} {i:Nat} {v:Value} (hx:ev e x=some (.tuple vs)) (hv:vs[i]?=some v) (hdn:Nat.blt d₀ n=true) (kk:WL P n ops Q rest ((d₀,v) :: e) w):WL P n ops Q (⟨some d₀,.extract x i,ty,pos,af,none⟩ :: rest) e w:=by
 refine Z7 (v:=v) ?_ hdn kk
 apply Z70<;>assumption
theorem ZbC {x:Operand} {vs:Array Value} {i:Nat} {v:Value} (hi₀:ops[i₀]?=some ⟨some d₀,.extract x i,ty,pos,af,gd⟩) (hg₀:ZR ops e gd) (hx:ev e x=some (.tuple vs)) (hv:vs[i]?=some v) (hdn:Nat.blt d₀ n=true) (kk:WD P n ops S Lt Q ord ((d₀,v) :: e) w):WD P n ops S Lt Q ((i₀,0) :: ord) e w:=by
 refine ZE (v:=v) hi₀ hg₀ (fun w'=>?_) hdn kk
 apply Z70<;>assumption
theorem Z93 {x:Operand} {t:TypeId} {b o i off:Nat} [hf:Fld P t i off] (hx:ev e x=some (.pointer (some ⟨b,o,none⟩))) (hdn:Nat.blt d₀ n=true) (kk:WL P n ops Q rest ((d₀,(.pointer (some ⟨b,o+off,none⟩))) :: e) w):WL P n ops Q (⟨some d₀,.fieldAddr t x i,ty,pos,af,none⟩ :: rest) e w:=by
 refine Z7 (v:=(.pointer (some ⟨b,o+off,none⟩))) ?_ hdn kk
 apply JQ<;>assumption
theorem JG {x:Operand} {t:TypeId} {b o i off:Nat} [hf:Fld P t i off] (hi₀:ops[i₀]?=some ⟨some d₀,.fieldAddr t x i,ty,pos,af,gd⟩) (hg₀:ZR ops e gd) (hx:ev e x=some (.pointer (some ⟨b,o,none⟩))) (hdn:Nat.blt d₀ n=true) (kk:WD P n ops S Lt Q ord ((d₀,(.pointer (some ⟨b,o+off,none⟩))) :: e) w):WD P n ops S Lt Q ((i₀,0) :: ord) e w:=by
 refine ZE (v:=(.pointer (some ⟨b,o+off,none⟩))) hi₀ hg₀ (fun w'=>?_) hdn kk
 apply JQ<;>assumption
theorem Zfh {x:Operand} {t:TypeId} {D:TypeDesc} {ad:Addr} {v:Value} [hu:Und P t D] (hA:JX D=false) (hx:ev e x=some (.pointer (some ad))) (hc:w.cell? ad=some v) (hdn:Nat.blt d₀ n=true) (kk:WL P n ops Q rest ((d₀,v) :: e) w):WL P n ops Q (⟨some d₀,.load t x,ty,pos,af,none⟩ :: rest) e w:=by
 refine Z7 (v:=v) ?_ hdn kk
 apply Z2V<;>assumption
theorem Z94 {f:Nat} {x:Operand} {v:Value} (hx:ev e x=some v) (hdn:Nat.blt d₀ n=true) (kk:WL P n ops Q rest ((d₀,(.func (.func f) #[] #[v])) :: e) w):WL P n ops Q (⟨some d₀,.makeFunc (.func f) #[] #[x],ty,pos,af,none⟩ :: rest) e w:=by
 refine Z7 (v:=(.func (.func f) #[] #[v])) ?_ hdn kk
 apply Z8X<;>assumption
theorem Z95 {f:Nat} {x y:Operand} {v u:Value} (hx:ev e x=some v) (hy:ev e y=some u) (hdn:Nat.blt d₀ n=true) (kk:WL P n ops Q rest ((d₀,(.func (.func f) #[] #[v,u])) :: e) w):WL P n ops Q (⟨some d₀,.makeFunc (.func f) #[] #[x,y],ty,pos,af,none⟩ :: rest) e w:=by
 refine Z7 (v:=(.func (.func f) #[] #[v,u])) ?_ hdn kk
 apply Z8Y<;>assumption
theorem Zhk {α:Type} [Zf α] {X:List Nat} {xs:List α} {v:Value} {x:Operand} {t:TypeId} {el:TypeId} {w₀:World} [hu:Und P t (.slice el)] (hx:ev e x=some v) (hs:SlV X w₀ v xs) (hdn:Nat.blt d₀ n=true) (kk:WL P n ops Q rest ((d₀,(.int .i64 (xs.length:Int))) :: e) w):WL P n ops Q (⟨some d₀,.call { callee:=.builtin .len,args:=#[x],argTypes:=#[t] },ty,pos,af,none⟩ :: rest) e w:=by
 refine Z7 (v:=(.int .i64 (xs.length:Int))) ?_ hdn kk
 apply ZcD (α:=α)<;>assumption
theorem Zhl {α:Type} [Zf α] {X:List Nat} {xs:List α} {v:Value} {x:Operand} {t:TypeId} {el:TypeId} {w₀:World} [hu:Und P t (.slice el)] (hi₀:ops[i₀]?=some ⟨some d₀,.call { callee:=.builtin .len,args:=#[x],argTypes:=#[t] },ty,pos,af,gd⟩) (hg₀:ZR ops e gd) (hx:ev e x=some v) (hs:SlV X w₀ v xs) (hdn:Nat.blt d₀ n=true) (kk:WD P n ops S Lt Q ord ((d₀,(.int .i64 (xs.length:Int))) :: e) w):WD P n ops S Lt Q ((i₀,0) :: ord) e w:=by
 refine ZE (v:=(.int .i64 (xs.length:Int))) hi₀ hg₀ (fun w'=>?_) hdn kk
 apply ZcD (α:=α)<;>assumption
theorem Z5P {α:Type} [Zf α] {X:List Nat} {xs:List α} {v:Value} {x y:Operand} {t:TypeId} {el k:Nat} [hu:Und P t (.slice el)] [hk:Siz P el k] {z:Int} {i:Nat} {w₀:World} (hx:ev e x=some v) (hs:SlV X w₀ v xs) (hy:ev e y=some (.int .i64 z)) (hz:z=(i:Int)) (hi:i<xs.length) (hdn:Nat.blt d₀ n=true) (kk:WL P n ops Q rest ((d₀,(.pointer (some (ZL v i k 0)))) :: e) w):WL P n ops Q (⟨some d₀,.indexAddr t x y,ty,pos,af,none⟩ :: rest) e w:=by
 refine Z7 (v:=(.pointer (some (ZL v i k 0)))) ?_ hdn kk
 apply Zby (α:=α)<;>assumption
theorem ZjD {α:Type} [Zf α] {X:List Nat} {xs:List α} {v:Value} {x y:Operand} {t:TypeId} {el k:Nat} [hu:Und P t (.slice el)] [hk:Siz P el k] {z:Int} {i:Nat} {w₀:World} (hi₀:ops[i₀]?=some ⟨some d₀,.indexAddr t x y,ty,pos,af,gd⟩) (hg₀:ZR ops e gd) (hx:ev e x=some v) (hs:SlV X w₀ v xs) (hy:ev e y=some (.int .i64 z)) (hz:z=(i:Int)) (hi:i<xs.length) (hdn:Nat.blt d₀ n=true) (kk:WD P n ops S Lt Q ord ((d₀,(.pointer (some (ZL v i k 0)))) :: e) w):WD P n ops S Lt Q ((i₀,0) :: ord) e w:=by
 refine ZE (v:=(.pointer (some (ZL v i k 0)))) hi₀ hg₀ (fun w'=>?_) hdn kk
 apply Zby (α:=α)<;>assumption
theorem Z9P {x:Operand} {t:TypeId} {v:Value} {i k j m off:Nat} [hf:Fld P t m off] (hi₀:ops[i₀]?=some ⟨some d₀,.fieldAddr t x m,ty,pos,af,gd⟩) (hg₀:ZR ops e gd) (hx:ev e x=some (.pointer (some (ZL v i k j)))) (hv:∃ p l c,v=.slice (some p) l c) (hdn:Nat.blt d₀ n=true) (kk:WD P n ops S Lt Q ord ((d₀,(.pointer (some (ZL v i k (j+off))))) :: e) w):WD P n ops S Lt Q ((i₀,0) :: ord) e w:=by
 refine ZE (v:=(.pointer (some (ZL v i k (j+off))))) hi₀ hg₀ (fun w'=>?_) hdn kk
 apply Z6i<;>assumption
theorem ZbD {α:Type} [Zi α] {X:List Nat} {xs:List α} {v u:Value} {i j k:Nat} {x:Operand} {t:TypeId} {D:TypeDesc} [hu:Und P t D] (hA:JX D=false) (hx:ev e x=some (.pointer (some (ZL v i k j)))) (hs:SlV X w v xs) (hi:i<xs.length) (hk:k=Zi.k α) (hc:(Zi.enc xs[i])[j]?=some u) (hdn:Nat.blt d₀ n=true) (kk:WL P n ops Q rest ((d₀,u) :: e) w):WL P n ops Q (⟨some d₀,.load t x,ty,pos,af,none⟩ :: rest) e w:=by
 refine Z7 (v:=u) ?_ hdn kk
 apply Z4P (α:=α)<;>assumption
theorem Z9Q {α:Type} [Zi α] {X:List Nat} {xs:List α} {v:Value} {i k:Nat} {x:Operand} {t:TypeId} {D:TypeDesc} [hu:Und P t D] (hA:JX D=true) [hsz:Siz P t k] (hx:ev e x=some (.pointer (some (ZL v i k 0)))) (hs:SlV X w v xs) (hi:i<xs.length) (hk:k=Zi.k α) (hdn:Nat.blt d₀ n=true) (kk:WL P n ops Q rest ((d₀,(.agg (Zi.enc xs[i]).toArray)) :: e) w):WL P n ops Q (⟨some d₀,.load t x,ty,pos,af,none⟩ :: rest) e w:=by
 refine Z7 (v:=(.agg (Zi.enc xs[i]).toArray)) ?_ hdn kk
 apply Z6j (α:=α)<;>assumption
theorem Z6l {b T o:Nat} {cs:List Value} {u:Value} {x:Operand} {t:TypeId} {D:TypeDesc} [hu:Und P t D] (hA:JX D=false) (hx:ev e x=some (.pointer (some ⟨b,o,none⟩))) (hb:Blk w b T cs) (hc:cs[o]?=some u) (hdn:Nat.blt d₀ n=true) (kk:WL P n ops Q rest ((d₀,u) :: e) w):WL P n ops Q (⟨some d₀,.load t x,ty,pos,af,none⟩ :: rest) e w:=by
 refine Z7 (v:=u) ?_ hdn kk
 apply ZP<;>assumption
theorem Z96 {b T m:Nat} {cs:List Value} {x:Operand} {t:TypeId} {D:TypeDesc} [hu:Und P t D] (hA:JX D=true) [hsz:Siz P t m] (hx:ev e x=some (.pointer (some ⟨b,0,none⟩))) (hb:Blk w b T cs) (hl:cs.length=m) (hdn:Nat.blt d₀ n=true) (kk:WL P n ops Q rest ((d₀,(.agg cs.toArray)) :: e) w):WL P n ops Q (⟨some d₀,.load t x,ty,pos,af,none⟩ :: rest) e w:=by
 refine Z7 (v:=(.agg cs.toArray)) ?_ hdn kk
 apply J8<;>assumption
theorem ZbE {α:Type} [Zf α] {X:List Nat} {v:Value} {xs:List α} {t el k:Nat} {x lo:Operand} {l:Nat} {a:Int} [hu:Und P t (.slice el)] [hk:Siz P el k] {w₀:World} (hx:ev e x=some v) (hs:SlV X w₀ v xs) (ha:ev e lo=some (.int .i64 a)) (hal:a=(l:Int)) (hlx:l≤xs.length) (hdn:Nat.blt d₀ n=true) (kk:WL P n ops Q rest ((d₀,(slc v l xs.length k)) :: e) w):WL P n ops Q (⟨some d₀,.slice t x (some lo) none none,ty,pos,af,none⟩ :: rest) e w:=by
 refine Z7 (v:=(slc v l xs.length k)) ?_ hdn kk
 apply ZbA (α:=α)<;>assumption
theorem Ze {t:TypeId} {l:List (Nat×Operand)} {vs:List (Nat×Value)} {u:Value} (hv:Z1L e l=some vs) (hb:∀ w,(Instr.build t vs.toArray).run P w=.ok u w) (hdn:Nat.blt d₀ n=true) (kk:WL P n ops Q rest ((d₀,u) :: e) w):WL P n ops Q (⟨some d₀,.build t l.toArray,ty,pos,af,none⟩ :: rest) e w:=by
 refine Z7 (v:=u) ?_ hdn kk
 apply Z0A<;>assumption
theorem Z74 {t:TypeId} {l:List (Nat×Operand)} {vs:List (Nat×Value)} {u:Value} (hi₀:ops[i₀]?=some ⟨some d₀,.build t l.toArray,ty,pos,af,gd⟩) (hg₀:ZR ops e gd) (hv:Z1L e l=some vs) (hb:∀ w,(Instr.build t vs.toArray).run P w=.ok u w) (hdn:Nat.blt d₀ n=true) (kk:WD P n ops S Lt Q ord ((d₀,u) :: e) w):WD P n ops S Lt Q ((i₀,0) :: ord) e w:=by
 refine ZE (v:=u) hi₀ hg₀ (fun w'=>?_) hdn kk
 apply Z0A<;>assumption
theorem Zhm {x y:Operand} {t u:TypeId} {p q:Value} {c:Prop} [Decidable c] (hi₀:ops[i₀]?=some ⟨some d₀,.binOp .neq t x y u,ty,pos,af,gd⟩) (hg₀:ZR ops e gd) (hx:ev e x=some p) (hy:ev e y=some q) (hg:∀ w,(eqGuard .neq t x y p q).run P w=.ok () w) (h:∀ w,(binOp .neq t p q).run P w=.ok (.bool (decide (¬ c))) w) (hdn:Nat.blt d₀ n=true) (kk:WD P n ops S Lt Q ord ((d₀,(.bool (decide (¬ c)))) :: e) w):WD P n ops S Lt Q ((i₀,0) :: ord) e w:=by
 refine ZE (v:=(.bool (decide (¬ c)))) hi₀ hg₀ (fun w'=>?_) hdn kk
 apply Zhe<;>assumption
theorem ZjE {t:TypeId} {x:Operand} {y:Operand} (h:WL P n ops Q (⟨some d₀,.indexAddr t x y,ty,pos,af,none⟩ :: rest) e w):WL P n ops Q (⟨some d₀,.indexAddr t x y,ty,pos,af,none⟩ :: rest) e w:=h
theorem Zhn {t:TypeId} {x:Operand} (h:WL P n ops Q (⟨some d₀,.load t x,ty,pos,af,none⟩ :: rest) e w):WL P n ops Q (⟨some d₀,.load t x,ty,pos,af,none⟩ :: rest) e w:=h
theorem ZjF {t:TypeId} {x:Operand} (h:WL P n ops Q (⟨some d₀,.call { callee:=.builtin .len,args:=#[x],argTypes:=#[t] },ty,pos,af,none⟩ :: rest) e w):WL P n ops Q (⟨some d₀,.call { callee:=.builtin .len,args:=#[x],argTypes:=#[t] },ty,pos,af,none⟩ :: rest) e w:=h
end
section
variable {P:Program} {n:Nat} {Q:Exit→Act→World→Prop} {e:Env} {w:World} {ops:Array Oper} {S:List Nat} {Lt:List Nat} {ord:List (Nat×Nat)} {d₀ i₀:Nat} {ty:TypeId} {pos:String} {af:Array Edge} {gd:Option (Nat×Bool)}
theorem Jh {b T o:Nat} {cs:List Value} {u:Value} {x:Operand} {t:TypeId} {D:TypeDesc} [hu:Und P t D] (hi₀:ops[i₀]?=some ⟨some d₀,.load t x,ty,pos,af,gd⟩) (hg₀:ZR ops e gd) (hA:JX D=false) (hx:ev e x=some (.pointer (some ⟨b,o,none⟩))) (hb:Blk w b T cs) (hn:b∉S) (hc:cs[o]?=some u) (hdn:Nat.blt d₀ n=true) (kk:WD P n ops S Lt Q ord ((d₀,u) :: e) w):WD P n ops S Lt Q ((i₀,1) :: ord) e w:=
 ZN hi₀ hg₀ (fun w' hS=>ZP hA hx (hb.ext hS hn) hc) hdn kk
theorem Z3r {b T m:Nat} {cs:List Value} {x:Operand} {t:TypeId} {D:TypeDesc} [hu:Und P t D] [hsz:Siz P t m] (hi₀:ops[i₀]?=some ⟨some d₀,.load t x,ty,pos,af,gd⟩) (hg₀:ZR ops e gd) (hA:JX D=true) (hx:ev e x=some (.pointer (some ⟨b,0,none⟩))) (hb:Blk w b T cs) (hn:b∉S) (hl:cs.length=m) (hdn:Nat.blt d₀ n=true) (kk:WD P n ops S Lt Q ord ((d₀,.agg cs.toArray) :: e) w):WD P n ops S Lt Q ((i₀,1) :: ord) e w:=
 ZN hi₀ hg₀ (fun w' hS=>J8 hA hx (hb.ext hS hn) hl) hdn kk
theorem ZbF {α:Type} [Zi α] {X:List Nat} {xs:List α} {v u:Value} {i j k:Nat} {x:Operand} {t:TypeId} {D:TypeDesc} [hu:Und P t D] (hi₀:ops[i₀]?=some ⟨some d₀,.load t x,ty,pos,af,gd⟩) (hg₀:ZR ops e gd) (hA:JX D=false) (hx:ev e x=some (.pointer (some (ZL v i k j))))
 (hs:SlV X w v xs) (hn:∀ b∈S,b∈X) (hi:i<xs.length) (hk:k=Zi.k α) (hc:(Zi.enc xs[i])[j]?=some u) (hdn:Nat.blt d₀ n=true) (kk:WD P n ops S Lt Q ord ((d₀,u) :: e) w):WD P n ops S Lt Q ((i₀,1) :: ord) e w:=
 ZN hi₀ hg₀ (fun w' hS=>Z4P hA hx (hs.ext hS hn (fun _ h=>.inl h)) hi hk hc) hdn kk
theorem Z9R {α:Type} [Zi α] {X:List Nat} {xs:List α} {v:Value} {i k:Nat} {x:Operand} {t:TypeId} {D:TypeDesc} [hu:Und P t D] [hsz:Siz P t k] (hi₀:ops[i₀]?=some ⟨some d₀,.load t x,ty,pos,af,gd⟩) (hg₀:ZR ops e gd) (hA:JX D=true) (hx:ev e x=some (.pointer (some (ZL v i k 0))))
 (hs:SlV X w v xs) (hn:∀ b∈S,b∈X) (hi:i<xs.length) (hk:k=Zi.k α) (hdn:Nat.blt d₀ n=true) (kk:WD P n ops S Lt Q ord ((d₀,.agg (Zi.enc xs[i]).toArray) :: e) w):WD P n ops S Lt Q ((i₀,1) :: ord) e w:=
 ZN hi₀ hg₀ (fun w' hS=>Z6j hA hx (hs.ext hS hn (fun _ h=>.inl h)) hi hk) hdn kk
end
abbrev Str:=List UInt8
abbrev str (s:Str):Value:=.string ⟨s.toArray⟩
theorem Zho (a b:Str):((⟨a.toArray⟩:ByteArray).toList == (⟨b.toArray⟩:ByteArray).toList)=decide (a=b):=by
 rw [ByteArray.toList_eq,ByteArray.toList_eq]
 simp only [Yan]
theorem Z0C (a:Str):(⟨a.toArray⟩:ByteArray).size=a.length:=by simp [ByteArray.size]
theorem Z3V (a:Str) (i j:Nat):(⟨a.toArray⟩:ByteArray).extract i j=⟨((a.take j).drop i).toArray⟩:=by
 apply ByteArray.ext
 simp [ByteArray.data_extract,Ybe]
theorem ZbG (a b:Str):(⟨a.toArray⟩++⟨b.toArray⟩:ByteArray)=⟨(a++b).toArray⟩:=by
 apply ByteArray.ext
 simp [ByteArray.data_append]
def Z0e (a:Str) (i:Nat):Int:=((a.getD i 0).toNat:Int)
theorem byte_at {a:Str} {i:Nat} (h:i<a.length):Z0e a i=(a[i].toNat:Int):=by simp [Z0e,List.getD,h]
theorem Z75 (a:Str) (i:Nat):0≤Z0e a i∧Z0e a i<256:=by
 unfold Z0e
 have:=(a.getD i 0).toNat_lt
 omega
instance:Zi Str where
 k:=1
 enc:=fun x=>[str x]
 len:=fun _=>rfl
 one:=by intro x u hu;simp at hu;subst hu;rfl
section rules
variable {P:Program} {n:Nat} {e:Env} {w:World} {d:Option Nat} {ty:TypeId} {pos:String} {af:Array Edge} {g:Option (Nat×Bool)}
theorem ZcH {t u:TypeId} {x y:Operand} {a b:Str} [hu:Und P t .string] (hx:ev e x=some (str a)) (hy:ev e y=some (str b)):PR P n ⟨d,.binOp .eql t x y u,ty,pos,af,g⟩ e w (.bool (decide (a=b))):=
 ⟨fun c ha=>by simp only [execOp,ha.ev hx,ha.ev hy];simp [go_sem,binOp,Op.stringOp];rw [Yan]⟩
theorem Zhp {t u:TypeId} {x y:Operand} {a b:Str} [hu:Und P t .string] (hx:ev e x=some (str a)) (hy:ev e y=some (str b)):PR P n ⟨d,.binOp .neq t x y u,ty,pos,af,g⟩ e w (.bool (decide (¬ a=b))):=
 ⟨fun c ha=>by simp only [execOp,ha.ev hx,ha.ev hy];simp [go_sem,binOp,Op.stringOp];by_cases h:a=b<;>simp [h]⟩
theorem Z1h {t u:TypeId} {x y:Operand} {a b:Str} [hu:Und P t .string] (hx:ev e x=some (str a)) (hy:ev e y=some (str b)) (hl:a.length+b.length≤9223372036854775807):PR P n ⟨d,.binOp .add t x y u,ty,pos,af,g⟩ e w (str (a++b)):=
 ⟨fun c ha => by
   simp only [execOp,ha.ev hx,ha.ev hy]
   simp [go_sem,binOp,Op.stringOp,ZbG]
   omega⟩
theorem Zhq {x:Operand} {t:TypeId} {a:Str} [hu:Und P t .string] (hx:ev e x=some (str a)) :
 PR P n ⟨d,.call { callee:=.builtin .len,args:=#[x],argTypes:=#[t] },ty,pos,af,g⟩ e w (.int .i64 (a.length:Int)):=
 ⟨fun c ha => by
   have:=run_len_string (P:=P) w t ty ⟨a.toArray⟩ hu.h
   simp [execOp,resolve,invoke,builtin,ha.ev hx,this,goInt,Z0C]⟩
theorem Z8j {t:TypeId} {x y:Operand} {a:Str} {z:Int} {i:Nat} [hu:Und P t .string] (hx:ev e x=some (str a)) (hy:ev e y=some (.int .i64 z)) (hz:z=(i:Int)) (hi:i<a.length):PR P n ⟨d,.index t x y,ty,pos,af,g⟩ e w (.int .u8 (Z0e a i)):=
 ⟨fun c ha => by
   subst hz
   have h1:(0:Int)≤(i:Int)∧((i:Int)<((⟨a.toArray⟩:ByteArray).size:Int)):=by rw [Z0C];omega
   have:=run_index_string (P:=P) w t ⟨a.toArray⟩ .i64 (i:Int) hu.h
   rw [dif_pos h1] at this
   simp only [execOp,ha.ev hx,ha.ev hy]
   simp [this,Z0e,List.getD,hi]
   rfl⟩
theorem Z3s {t:TypeId} {x lo hi:Operand} {a:Str} {p q:Int} {l r:Nat} [hu:Und P t .string] (hx:ev e x=some (str a)) (h1:ev e lo=some (.int .i64 p)) (h2:ev e hi=some (.int .i64 q)) (hp:p=(l:Int)) (hq:q=(r:Int)) (hlr:l≤r) (hr:r≤a.length) :
 PR P n ⟨d,.slice t x (some lo) (some hi) none,ty,pos,af,g⟩ e w (str ((a.take r).drop l)):=
 ⟨fun c ha => by
   subst hp;subst hq
   have:=run_slice_string (P:=P) w t ⟨a.toArray⟩ .i64 .i64 (l:Int) (r:Int) hu.h (by omega) (by omega) (by rw [Z0C];omega)
   simp only [execOp,ha.ev hx,ha.ev h1,ha.ev h2,Option.map]
   simp [Instr.sliceAt,run_underlying hu.h,this,Z3V]⟩
theorem Z6m {t:TypeId} {x lo:Operand} {a:Str} {p:Int} {l:Nat} [hu:Und P t .string] (hx:ev e x=some (str a)) (h1:ev e lo=some (.int .i64 p)) (hp:p=(l:Int)) (hl:l≤a.length) :
 PR P n ⟨d,.slice t x (some lo) none none,ty,pos,af,g⟩ e w (str (a.drop l)):=
 ⟨fun c ha => by
   subst hp
   have:=run_slice_string_l (P:=P) (t:=t) (s:=⟨a.toArray⟩) w hu.h .i64 (l:Int) (by omega) (by rw [Z0C];omega)
   simp only [execOp,ha.ev hx,ha.ev h1,Option.map]
   simp [Instr.sliceAt,run_underlying hu.h,this,Z3V,Z0C]⟩
theorem Z9S {t:TypeId} {x hi:Operand} {a:Str} {q:Int} {r:Nat} [hu:Und P t .string] (hx:ev e x=some (str a)) (h2:ev e hi=some (.int .i64 q)) (hq:q=(r:Int)) (hr:r≤a.length) :
 PR P n ⟨d,.slice t x none (some hi) none,ty,pos,af,g⟩ e w (str (a.take r)):=
 ⟨fun c ha => by
   subst hq
   have:=run_slice_string_h (P:=P) (t:=t) (s:=⟨a.toArray⟩) w hu.h .i64 (r:Int) (by omega) (by rw [Z0C];omega)
   simp only [execOp,ha.ev hx,ha.ev h2,Option.map]
   simp [Instr.sliceAt,run_underlying hu.h,this,Z3V]⟩
theorem Z2D {x:Operand} {b:Addr} (hx:ev e x=some (.pointer (some b))):PR P n ⟨d,.nilCheck x,ty,pos,af,g⟩ e w (.pointer (some b)):=
 ⟨fun a ha=>by simp [execOp,ha.ev hx]⟩
theorem Z9T {t:TypeId} {x:Operand} {p:Prop} {i:Decidable p} (hx:ev e x=some (.bool (decide p))):PR P n ⟨d,.unOp .not t x,ty,pos,af,g⟩ e w (.bool (decide (¬ p))):=
 ⟨fun a ha=>by simp [execOp,ha.ev hx,Op.unary]⟩
theorem ZcI {t el len k:Nat} {x y:Operand} {b o i:Nat} {z:Int} [hu:Und P t (.array len el)] [hk:Siz P el k] (hx:ev e x=some (.pointer (some ⟨b,o,none⟩))) (hy:ev e y=some (.int .i64 z)) (hz:z=(i:Int)) (hi:i<len) :
 PR P n ⟨d,.indexAddr t x y,ty,pos,af,g⟩ e w (.pointer (some ⟨b,o+i * k,none⟩)):=
 ⟨fun a ha => by
   subst hz
   have h0:(0:Int)≤(i:Int)∧(i:Int)<(len:Int):=by omega
   have hr:(Instr.indexAt t (.pointer (some ⟨b,o,none⟩)) (.int .i64 (i:Int))).run P w=.ok (.pointer (some ⟨b,o+i * k,none⟩)) w:=by
    simp only [Instr.indexAt,asIntOf]
    simp [run_underlying hu.h,Instr.sureAddr,Siz.run,Addr.add_lit,hi]
   simp [execOp,ha.ev hx,ha.ev hy,hr]⟩
theorem Z8k {t el len k:Nat} {x:Operand} {b:Nat} [hu:Und P t (.array len el)] [hk:Siz P el k] (hx:ev e x=some (.pointer (some ⟨b,0,none⟩))) :
 PR P n ⟨d,.slice t x none none none,ty,pos,af,g⟩ e w (.slice (some ⟨b,0,none⟩) len len):=
 ⟨fun a ha => by
   have hr:(Instr.sliceAt t (.pointer (some ⟨b,0,none⟩)) none none none).run P w=.ok (.slice (some ⟨b,0,none⟩) len len) w:=by
    simp [Instr.sliceAt,Instr.sureAddr,run_underlying hu.h,Instr.sliceBounds,Siz.run,Addr.add]
   simp [execOp,ha.ev hx,hr]⟩
theorem ZjG {x y:Operand} {ts:Array TypeId} {a b:Int} (hx:ev e x=some (.int .i64 a)) (hy:ev e y=some (.int .i64 b)) :
 PR P n ⟨d,.call { callee:=.builtin .max,args:=#[x,y],argTypes:=ts },ty,pos,af,g⟩ e w (.int .i64 (max a b)):=
 ⟨fun c ha => by
   have hm:(if b > a then b else a)=max a b:=by omega
   simp [execOp,resolve,invoke,builtin,ha.ev hx,ha.ev hy,run_max_int2,hm]⟩
theorem Zfi {x y:Operand} {ts:Array TypeId} {a b:Int} (hx:ev e x=some (.int .i64 a)) (hy:ev e y=some (.int .i64 b)) :
 PR P n ⟨d,.call { callee:=.builtin .min,args:=#[x,y],argTypes:=ts },ty,pos,af,g⟩ e w (.int .i64 (min a b)):=
 ⟨fun c ha => by
   have hm:(if b<a then b else a)=min a b:=by omega
   simp [execOp,resolve,invoke,builtin,ha.ev hx,ha.ev hy,run_min_int2,hm]⟩
end rules
section
variable {P:Program} {n:Nat} {Q:Exit→Act→World→Prop} {e:Env} {w:World} {ops:Array Oper} {S:List Nat} {Lt:List Nat} {rest:List Oper} {ord:List (Nat×Nat)} {d₀ i₀:Nat} {ty:TypeId} {pos:String} {af:Array Edge} {gd:Option (Nat×Bool)}
theorem Zhr {t u:TypeId} {x y:Operand} {a b:Str} [hu:Und P t .string] (hx:ev e x=some (str a)) (hy:ev e y=some (str b)) (hdn:Nat.blt d₀ n=true) (kk:WL P n ops Q rest ((d₀,(.bool (decide (a=b)))) :: e) w):WL P n ops Q (⟨some d₀,.binOp .eql t x y u,ty,pos,af,none⟩ :: rest) e w:=by
 refine Z7 (v:=(.bool (decide (a=b)))) ?_ hdn kk
 apply ZcH<;>assumption
theorem Zhs {t u:TypeId} {x y:Operand} {a b:Str} [hu:Und P t .string] (hi₀:ops[i₀]?=some ⟨some d₀,.binOp .eql t x y u,ty,pos,af,gd⟩) (hg₀:ZR ops e gd) (hx:ev e x=some (str a)) (hy:ev e y=some (str b)) (hdn:Nat.blt d₀ n=true) (kk:WD P n ops S Lt Q ord ((d₀,(.bool (decide (a=b)))) :: e) w):WD P n ops S Lt Q ((i₀,0) :: ord) e w:=by
 refine ZE (v:=(.bool (decide (a=b)))) hi₀ hg₀ (fun w'=>?_) hdn kk
 apply ZcH<;>assumption
theorem Zht {t u:TypeId} {x y:Operand} {a b:Str} [hu:Und P t .string] (hx:ev e x=some (str a)) (hy:ev e y=some (str b)) (hdn:Nat.blt d₀ n=true) (kk:WL P n ops Q rest ((d₀,(.bool (decide (¬ a=b)))) :: e) w):WL P n ops Q (⟨some d₀,.binOp .neq t x y u,ty,pos,af,none⟩ :: rest) e w:=by
 refine Z7 (v:=(.bool (decide (¬ a=b)))) ?_ hdn kk
 apply Zhp<;>assumption
theorem ZQ {t u:TypeId} {x y:Operand} {a b:Str} [hu:Und P t .string] (hx:ev e x=some (str a)) (hy:ev e y=some (str b)) (hl:a.length+b.length≤9223372036854775807) (hdn:Nat.blt d₀ n=true) (kk:WL P n ops Q rest ((d₀,(str (a++b))) :: e) w):WL P n ops Q (⟨some d₀,.binOp .add t x y u,ty,pos,af,none⟩ :: rest) e w:=by
 refine Z7 (v:=(str (a++b))) ?_ hdn kk
 apply Z1h<;>assumption
theorem Zhu {x:Operand} {t:TypeId} {a:Str} [hu:Und P t .string] (hx:ev e x=some (str a)) (hdn:Nat.blt d₀ n=true) (kk:WL P n ops Q rest ((d₀,(.int .i64 (a.length:Int))) :: e) w):WL P n ops Q (⟨some d₀,.call { callee:=.builtin .len,args:=#[x],argTypes:=#[t] },ty,pos,af,none⟩ :: rest) e w:=by
 refine Z7 (v:=(.int .i64 (a.length:Int))) ?_ hdn kk
 apply Zhq<;>assumption
theorem JD {t:TypeId} {x y:Operand} {a:Str} {z:Int} {i:Nat} [hu:Und P t .string] (hx:ev e x=some (str a)) (hy:ev e y=some (.int .i64 z)) (hz:z=(i:Int)) (hi:i<a.length) (hdn:Nat.blt d₀ n=true) (kk:WL P n ops Q rest ((d₀,(.int .u8 (Z0e a i))) :: e) w):WL P n ops Q (⟨some d₀,.index t x y,ty,pos,af,none⟩ :: rest) e w:=by
 refine Z7 (v:=(.int .u8 (Z0e a i))) ?_ hdn kk
 apply Z8j<;>assumption
theorem Zdt {t:TypeId} {x y:Operand} {a:Str} {z:Int} {i:Nat} [hu:Und P t .string] (hi₀:ops[i₀]?=some ⟨some d₀,.index t x y,ty,pos,af,gd⟩) (hg₀:ZR ops e gd) (hx:ev e x=some (str a)) (hy:ev e y=some (.int .i64 z)) (hz:z=(i:Int)) (hi:i<a.length) (hdn:Nat.blt d₀ n=true) (kk:WD P n ops S Lt Q ord ((d₀,(.int .u8 (Z0e a i))) :: e) w):WD P n ops S Lt Q ((i₀,0) :: ord) e w:=by
 refine ZE (v:=(.int .u8 (Z0e a i))) hi₀ hg₀ (fun w'=>?_) hdn kk
 apply Z8j<;>assumption
theorem Z5d {t:TypeId} {x lo hi:Operand} {a:Str} {p q:Int} {l r:Nat} [hu:Und P t .string] (hx:ev e x=some (str a)) (h1:ev e lo=some (.int .i64 p)) (h2:ev e hi=some (.int .i64 q)) (hp:p=(l:Int)) (hq:q=(r:Int)) (hlr:l≤r) (hr:r≤a.length) (hdn:Nat.blt d₀ n=true) (kk:WL P n ops Q rest ((d₀,(str ((a.take r).drop l))) :: e) w):WL P n ops Q (⟨some d₀,.slice t x (some lo) (some hi) none,ty,pos,af,none⟩ :: rest) e w:=by
 refine Z7 (v:=(str ((a.take r).drop l))) ?_ hdn kk
 apply Z3s<;>assumption
theorem Z9U {t:TypeId} {x lo:Operand} {a:Str} {p:Int} {l:Nat} [hu:Und P t .string] (hx:ev e x=some (str a)) (h1:ev e lo=some (.int .i64 p)) (hp:p=(l:Int)) (hl:l≤a.length) (hdn:Nat.blt d₀ n=true) (kk:WL P n ops Q rest ((d₀,(str (a.drop l))) :: e) w):WL P n ops Q (⟨some d₀,.slice t x (some lo) none none,ty,pos,af,none⟩ :: rest) e w:=by
 refine Z7 (v:=(str (a.drop l))) ?_ hdn kk
 apply Z6m<;>assumption
theorem Z9V {t:TypeId} {x lo:Operand} {a:Str} {p:Int} {l:Nat} [hu:Und P t .string] (hi₀:ops[i₀]?=some ⟨some d₀,.slice t x (some lo) none none,ty,pos,af,gd⟩) (hg₀:ZR ops e gd) (hx:ev e x=some (str a)) (h1:ev e lo=some (.int .i64 p)) (hp:p=(l:Int)) (hl:l≤a.length) (hdn:Nat.blt d₀ n=true) (kk:WD P n ops S Lt Q ord ((d₀,(str (a.drop l))) :: e) w):WD P n ops S Lt Q ((i₀,0) :: ord) e w:=by
 refine ZE (v:=(str (a.drop l))) hi₀ hg₀ (fun w'=>?_) hdn kk
 apply Z6m<;>assumption
theorem Z0D {t:TypeId} {x hi:Operand} {a:Str} {q:Int} {r:Nat} [hu:Und P t .string] (hx:ev e x=some (str a)) (h2:ev e hi=some (.int .i64 q)) (hq:q=(r:Int)) (hr:r≤a.length) (hdn:Nat.blt d₀ n=true) (kk:WL P n ops Q rest ((d₀,(str (a.take r))) :: e) w):WL P n ops Q (⟨some d₀,.slice t x none (some hi) none,ty,pos,af,none⟩ :: rest) e w:=by
 refine Z7 (v:=(str (a.take r))) ?_ hdn kk
 apply Z9S<;>assumption
theorem Z9W {x:Operand} {b:Addr} (hx:ev e x=some (.pointer (some b))) (hdn:Nat.blt d₀ n=true) (kk:WL P n ops Q rest ((d₀,(.pointer (some b))) :: e) w):WL P n ops Q (⟨some d₀,.nilCheck x,ty,pos,af,none⟩ :: rest) e w:=by
 refine Z7 (v:=(.pointer (some b))) ?_ hdn kk
 apply Z2D<;>assumption
theorem Z9X {x:Operand} {b:Addr} (hi₀:ops[i₀]?=some ⟨some d₀,.nilCheck x,ty,pos,af,gd⟩) (hg₀:ZR ops e gd) (hx:ev e x=some (.pointer (some b))) (hdn:Nat.blt d₀ n=true) (kk:WD P n ops S Lt Q ord ((d₀,(.pointer (some b))) :: e) w):WD P n ops S Lt Q ((i₀,0) :: ord) e w:=by
 refine ZE (v:=(.pointer (some b))) hi₀ hg₀ (fun w'=>?_) hdn kk
 apply Z2D<;>assumption
theorem Zfj {t:TypeId} {x:Operand} {p:Prop} {i:Decidable p} (hx:ev e x=some (.bool (decide p))) (hdn:Nat.blt d₀ n=true) (kk:WL P n ops Q rest ((d₀,(.bool (decide (¬ p)))) :: e) w):WL P n ops Q (⟨some d₀,.unOp .not t x,ty,pos,af,none⟩ :: rest) e w:=by
 refine Z7 (v:=(.bool (decide (¬ p)))) ?_ hdn kk
 apply Z9T<;>assumption
theorem Zfk {t:TypeId} {x:Operand} {p:Prop} {i:Decidable p} (hi₀:ops[i₀]?=some ⟨some d₀,.unOp .not t x,ty,pos,af,gd⟩) (hg₀:ZR ops e gd) (hx:ev e x=some (.bool (decide p))) (hdn:Nat.blt d₀ n=true) (kk:WD P n ops S Lt Q ord ((d₀,(.bool (decide (¬ p)))) :: e) w):WD P n ops S Lt Q ((i₀,0) :: ord) e w:=by
 refine ZE (v:=(.bool (decide (¬ p)))) hi₀ hg₀ (fun w'=>?_) hdn kk
 apply Z9T<;>assumption
theorem Z1i {t el len k:Nat} {x y:Operand} {b o i:Nat} {z:Int} [hu:Und P t (.array len el)] [hk:Siz P el k] (hx:ev e x=some (.pointer (some ⟨b,o,none⟩))) (hy:ev e y=some (.int .i64 z)) (hz:z=(i:Int)) (hi:i<len) (hdn:Nat.blt d₀ n=true) (kk:WL P n ops Q rest ((d₀,(.pointer (some ⟨b,o+i * k,none⟩))) :: e) w):WL P n ops Q (⟨some d₀,.indexAddr t x y,ty,pos,af,none⟩ :: rest) e w:=by
 refine Z7 (v:=(.pointer (some ⟨b,o+i * k,none⟩))) ?_ hdn kk
 apply ZcI<;>assumption
theorem Zhv {t el len k:Nat} {x y:Operand} {b o i:Nat} {z:Int} [hu:Und P t (.array len el)] [hk:Siz P el k] (hi₀:ops[i₀]?=some ⟨some d₀,.indexAddr t x y,ty,pos,af,gd⟩) (hg₀:ZR ops e gd) (hx:ev e x=some (.pointer (some ⟨b,o,none⟩))) (hy:ev e y=some (.int .i64 z)) (hz:z=(i:Int)) (hi:i<len) (hdn:Nat.blt d₀ n=true) (kk:WD P n ops S Lt Q ord ((d₀,(.pointer (some ⟨b,o+i * k,none⟩))) :: e) w):WD P n ops S Lt Q ((i₀,0) :: ord) e w:=by
 refine ZE (v:=(.pointer (some ⟨b,o+i * k,none⟩))) hi₀ hg₀ (fun w'=>?_) hdn kk
 apply ZcI<;>assumption
theorem Zdu {t el len k:Nat} {x:Operand} {b:Nat} [hu:Und P t (.array len el)] [hk:Siz P el k] (hx:ev e x=some (.pointer (some ⟨b,0,none⟩))) (hdn:Nat.blt d₀ n=true) (kk:WL P n ops Q rest ((d₀,(.slice (some ⟨b,0,none⟩) len len)) :: e) w):WL P n ops Q (⟨some d₀,.slice t x none none none,ty,pos,af,none⟩ :: rest) e w:=by
 refine Z7 (v:=(.slice (some ⟨b,0,none⟩) len len)) ?_ hdn kk
 apply Z8k<;>assumption
theorem ZjH {x y:Operand} {ts:Array TypeId} {a b:Int} (hx:ev e x=some (.int .i64 a)) (hy:ev e y=some (.int .i64 b)) (hdn:Nat.blt d₀ n=true) (kk:WL P n ops Q rest ((d₀,(.int .i64 (max a b))) :: e) w):WL P n ops Q (⟨some d₀,.call { callee:=.builtin .max,args:=#[x,y],argTypes:=ts },ty,pos,af,none⟩ :: rest) e w:=by
 refine Z7 (v:=(.int .i64 (max a b))) ?_ hdn kk
 apply ZjG<;>assumption
theorem ZjI {x y:Operand} {ts:Array TypeId} {a b:Int} (hx:ev e x=some (.int .i64 a)) (hy:ev e y=some (.int .i64 b)) (hdn:Nat.blt d₀ n=true) (kk:WL P n ops Q rest ((d₀,(.int .i64 (min a b))) :: e) w):WL P n ops Q (⟨some d₀,.call { callee:=.builtin .min,args:=#[x,y],argTypes:=ts },ty,pos,af,none⟩ :: rest) e w:=by
 refine Z7 (v:=(.int .i64 (min a b))) ?_ hdn kk
 apply Zfi<;>assumption
theorem ZjJ {x y:Operand} {ts:Array TypeId} {a b:Int} (hi₀:ops[i₀]?=some ⟨some d₀,.call { callee:=.builtin .min,args:=#[x,y],argTypes:=ts },ty,pos,af,gd⟩) (hg₀:ZR ops e gd) (hx:ev e x=some (.int .i64 a)) (hy:ev e y=some (.int .i64 b)) (hdn:Nat.blt d₀ n=true) (kk:WD P n ops S Lt Q ord ((d₀,(.int .i64 (min a b))) :: e) w):WD P n ops S Lt Q ((i₀,0) :: ord) e w:=by
 refine ZE (v:=(.int .i64 (min a b))) hi₀ hg₀ (fun w'=>?_) hdn kk
 apply Zfi<;>assumption
structure WO (P:Program) (n:Nat) (ops:Array Oper) (S:List Nat) (Lt:List Nat) (Q:Exit→Act→World→Prop) (o:Oper) (i q:Nat) (ord:List (Nat×Nat)) (e:Env) (w:World):Prop where
 h:ops[i]?=some o→WD P n ops S Lt Q ((i,q) :: ord) e w
theorem Z0R {o:Oper} {i q:Nat} (hi:ops[i]?=some o) (h:WO P n ops S Lt Q o i q ord e w):WD P n ops S Lt Q ((i,q) :: ord) e w:=h.h hi
theorem Zfl {op:Op} {jb:Nat×Bool} (hg:noB ops e (some jb)=true) (hdn:Nat.blt d₀ n=true) (kk:WD P n ops S Lt Q ord ((d₀,undef) :: e) w):WO P n ops S Lt Q ⟨some d₀,op,ty,pos,af,some jb⟩ i₀ 0 ord e w:=⟨fun hi=>Zf6 hi hg hdn kk⟩
theorem Zfm {op:Op} {jb:Nat×Bool} (hg:noB ops e (some jb)=true) (hdn:Nat.blt d₀ n=true) (kk:WD P n ops S Lt Q ord ((d₀,undef) :: e) w):WO P n ops S Lt Q ⟨some d₀,op,ty,pos,af,some jb⟩ i₀ 1 ord e w:=⟨fun hi=>Zf7 hi hg hdn kk⟩
theorem Zfn {op:Op} {jb:Nat×Bool} (hg:noB ops e (some jb)=true) (hdn:Nat.blt d₀ n=true) (kk:WD P n ops S Lt Q ord ((d₀,undef) :: e) w):WO P n ops S Lt Q ⟨some d₀,op,ty,pos,af,some jb⟩ i₀ 2 ord e w:=⟨fun hi=>Zfb hi hg hdn kk⟩
theorem Zhw {x:Operand} {v:Value} (hg₀:ZR ops e gd) (hx:ev e x=some v) (hdn:Nat.blt d₀ n=true) (kk:WD P n ops S Lt Q ord ((d₀,v) :: e) w):WO P n ops S Lt Q ⟨some d₀,.move x,ty,pos,af,gd⟩ i₀ 0 ord e w:=⟨fun hi₀=>Z90 hi₀ hg₀ hx hdn kk⟩
theorem Zdv {x:Operand} {v:Value} (hg₀:ZR ops e gd) (hx:ev e x=some v) (hdn:Nat.blt d₀ n=true) (kk:WD P n ops S Lt Q ord ((d₀,v) :: e) w):WO P n ops S Lt Q ⟨some d₀,.assign x,ty,pos,af,gd⟩ i₀ 0 ord e w:=⟨fun hi₀=>Zdo hi₀ hg₀ hx hdn kk⟩
theorem Zdw {c x y:Operand} {v:Value} (hg₀:ZR ops e gd) (hc:ev e c=some (.bool true)) (hx:ev e x=some v) (hdn:Nat.blt d₀ n=true) (kk:WD P n ops S Lt Q ord ((d₀,v) :: e) w):WO P n ops S Lt Q ⟨some d₀,.pick c x y,ty,pos,af,gd⟩ i₀ 0 ord e w:=⟨fun hi₀=>Zdq hi₀ hg₀ hc hx hdn kk⟩
theorem Zdx {c x y:Operand} {v:Value} (hg₀:ZR ops e gd) (hc:ev e c=some (.bool false)) (hx:ev e y=some v) (hdn:Nat.blt d₀ n=true) (kk:WD P n ops S Lt Q ord ((d₀,v) :: e) w):WO P n ops S Lt Q ⟨some d₀,.pick c x y,ty,pos,af,gd⟩ i₀ 0 ord e w:=⟨fun hi₀=>Zds hi₀ hg₀ hc hx hdn kk⟩
theorem ZjK {x y:Operand} {t u:TypeId} {a b:Int} (hg₀:ZR ops e gd) (hx:ev e x=some (.int .i64 a)) (hy:ev e y=some (.int .i64 b)) (hr:I64 (a+b)) (hdn:Nat.blt d₀ n=true) (kk:WD P n ops S Lt Q ord ((d₀,(.int .i64 (a+b))) :: e) w):WO P n ops S Lt Q ⟨some d₀,.binOp .add t x y u,ty,pos,af,gd⟩ i₀ 0 ord e w:=⟨fun hi₀=>Zjq hi₀ hg₀ hx hy hr hdn kk⟩
theorem ZbH {x y:Operand} {t u:TypeId} {a b:Int} (hg₀:ZR ops e gd) (hx:ev e x=some (.int .i64 a)) (hy:ev e y=some (.int .i64 b)) (hr:I64 (a - b)) (hdn:Nat.blt d₀ n=true) (kk:WD P n ops S Lt Q ord ((d₀,(.int .i64 (a - b))) :: e) w):WO P n ops S Lt Q ⟨some d₀,.binOp .sub t x y u,ty,pos,af,gd⟩ i₀ 0 ord e w:=⟨fun hi₀=>Zjs hi₀ hg₀ hx hy hr hdn kk⟩
theorem Zhx {x y:Operand} {t u:TypeId} {a b:Int} (hg₀:ZR ops e gd) (hx:ev e x=some (.int .i64 a)) (hy:ev e y=some (.int .i64 b)) (h0:0≤a) (hb:0<b) (hr:I64 a) (hdn:Nat.blt d₀ n=true) (kk:WD P n ops S Lt Q ord ((d₀,(.int .i64 (a % b))) :: e) w):WO P n ops S Lt Q ⟨some d₀,.binOp .rem t x y u,ty,pos,af,gd⟩ i₀ 0 ord e w:=⟨fun hi₀=>Zhg hi₀ hg₀ hx hy h0 hb hr hdn kk⟩
theorem Zhy {x y:Operand} {t u:TypeId} {a b:Int} (hg₀:ZR ops e gd) (hx:ev e x=some (.int .i64 a)) (hy:ev e y=some (.int .i64 b)) (h0:0≤a) (hb:0<b) (hr:I64 a) (hdn:Nat.blt d₀ n=true) (kk:WD P n ops S Lt Q ord ((d₀,(.int .i64 (a / b))) :: e) w):WO P n ops S Lt Q ⟨some d₀,.binOp .quo t x y u,ty,pos,af,gd⟩ i₀ 0 ord e w:=⟨fun hi₀=>Zhi hi₀ hg₀ hx hy h0 hb hr hdn kk⟩
theorem ZjL {x y:Operand} {t u:TypeId} {a b:Int} {k:IntKind} (hg₀:ZR ops e gd) (hx:ev e x=some (.int k a)) (hy:ev e y=some (.int k b)) (hdn:Nat.blt d₀ n=true) (kk:WD P n ops S Lt Q ord ((d₀,(.bool (decide (a<b)))) :: e) w):WO P n ops S Lt Q ⟨some d₀,.binOp .lss t x y u,ty,pos,af,gd⟩ i₀ 0 ord e w:=⟨fun hi₀=>Zjv hi₀ hg₀ hx hy hdn kk⟩
theorem ZjM {x y:Operand} {t u:TypeId} {a b:Int} {k:IntKind} (hg₀:ZR ops e gd) (hx:ev e x=some (.int k a)) (hy:ev e y=some (.int k b)) (hdn:Nat.blt d₀ n=true) (kk:WD P n ops S Lt Q ord ((d₀,(.bool (decide (a≤b)))) :: e) w):WO P n ops S Lt Q ⟨some d₀,.binOp .leq t x y u,ty,pos,af,gd⟩ i₀ 0 ord e w:=⟨fun hi₀=>Zjx hi₀ hg₀ hx hy hdn kk⟩
theorem ZjN {x y:Operand} {t u:TypeId} {a b:Int} {k:IntKind} (hg₀:ZR ops e gd) (hx:ev e x=some (.int k a)) (hy:ev e y=some (.int k b)) (hdn:Nat.blt d₀ n=true) (kk:WD P n ops S Lt Q ord ((d₀,(.bool (decide (b<a)))) :: e) w):WO P n ops S Lt Q ⟨some d₀,.binOp .gtr t x y u,ty,pos,af,gd⟩ i₀ 0 ord e w:=⟨fun hi₀=>Zjy hi₀ hg₀ hx hy hdn kk⟩
theorem ZjO {x y:Operand} {t u:TypeId} {a b:Int} {k:IntKind} (hg₀:ZR ops e gd) (hx:ev e x=some (.int k a)) (hy:ev e y=some (.int k b)) (hdn:Nat.blt d₀ n=true) (kk:WD P n ops S Lt Q ord ((d₀,(.bool (decide (a=b)))) :: e) w):WO P n ops S Lt Q ⟨some d₀,.binOp .eql t x y u,ty,pos,af,gd⟩ i₀ 0 ord e w:=⟨fun hi₀=>ZjB hi₀ hg₀ hx hy hdn kk⟩
theorem ZjP {x y:Operand} {t u:TypeId} {a b:Int} {k:IntKind} (hg₀:ZR ops e gd) (hx:ev e x=some (.int k a)) (hy:ev e y=some (.int k b)) (hdn:Nat.blt d₀ n=true) (kk:WD P n ops S Lt Q ord ((d₀,(.bool (decide (¬ a=b)))) :: e) w):WO P n ops S Lt Q ⟨some d₀,.binOp .neq t x y u,ty,pos,af,gd⟩ i₀ 0 ord e w:=⟨fun hi₀=>ZjC hi₀ hg₀ hx hy hdn kk⟩
theorem Zhz {x y:Operand} {t u:TypeId} {p q:Bool} [hu:Und P t .bool] (hg₀:ZR ops e gd) (hx:ev e x=some (.bool p)) (hy:ev e y=some (.bool q)) (hdn:Nat.blt d₀ n=true) (kk:WD P n ops S Lt Q ord ((d₀,(.bool (decide (p=q)))) :: e) w):WO P n ops S Lt Q ⟨some d₀,.binOp .eql t x y u,ty,pos,af,gd⟩ i₀ 0 ord e w:=⟨fun hi₀=>Zhj hi₀ hg₀ hx hy hdn kk⟩
theorem ZbI {x:Operand} {vs:Array Value} {i:Nat} {v:Value} (hg₀:ZR ops e gd) (hx:ev e x=some (.tuple vs)) (hv:vs[i]?=some v) (hdn:Nat.blt d₀ n=true) (kk:WD P n ops S Lt Q ord ((d₀,v) :: e) w):WO P n ops S Lt Q ⟨some d₀,.extract x i,ty,pos,af,gd⟩ i₀ 0 ord e w:=⟨fun hi₀=>ZbC hi₀ hg₀ hx hv hdn kk⟩
theorem Z97 {x:Operand} {t:TypeId} {b o i off:Nat} [hf:Fld P t i off] (hg₀:ZR ops e gd) (hx:ev e x=some (.pointer (some ⟨b,o,none⟩))) (hdn:Nat.blt d₀ n=true) (kk:WD P n ops S Lt Q ord ((d₀,(.pointer (some ⟨b,o+off,none⟩))) :: e) w):WO P n ops S Lt Q ⟨some d₀,.fieldAddr t x i,ty,pos,af,gd⟩ i₀ 0 ord e w:=⟨fun hi₀=>JG hi₀ hg₀ hx hdn kk⟩
theorem ZhA {α:Type} [Zf α] {X:List Nat} {xs:List α} {v:Value} {x:Operand} {t:TypeId} {el:TypeId} {w₀:World} [hu:Und P t (.slice el)] (hg₀:ZR ops e gd) (hx:ev e x=some v) (hs:SlV X w₀ v xs) (hdn:Nat.blt d₀ n=true) (kk:WD P n ops S Lt Q ord ((d₀,(.int .i64 (xs.length:Int))) :: e) w):WO P n ops S Lt Q ⟨some d₀,.call { callee:=.builtin .len,args:=#[x],argTypes:=#[t] },ty,pos,af,gd⟩ i₀ 0 ord e w:=⟨fun hi₀=>Zhl hi₀ hg₀ hx hs hdn kk⟩
theorem Z1j {α:Type} [Zf α] {X:List Nat} {xs:List α} {v:Value} {x y:Operand} {t:TypeId} {el k:Nat} [hu:Und P t (.slice el)] [hk:Siz P el k] {z:Int} {i:Nat} {w₀:World} (hg₀:ZR ops e gd) (hx:ev e x=some v) (hs:SlV X w₀ v xs) (hy:ev e y=some (.int .i64 z)) (hz:z=(i:Int)) (hi:i<xs.length) (hdn:Nat.blt d₀ n=true) (kk:WD P n ops S Lt Q ord ((d₀,(.pointer (some (ZL v i k 0)))) :: e) w):WO P n ops S Lt Q ⟨some d₀,.indexAddr t x y,ty,pos,af,gd⟩ i₀ 0 ord e w:=⟨fun hi₀=>ZjD hi₀ hg₀ hx hs hy hz hi hdn kk⟩
theorem Z9Y {x:Operand} {t:TypeId} {v:Value} {i k j m off:Nat} [hf:Fld P t m off] (hg₀:ZR ops e gd) (hx:ev e x=some (.pointer (some (ZL v i k j)))) (hv:∃ p l c,v=.slice (some p) l c) (hdn:Nat.blt d₀ n=true) (kk:WD P n ops S Lt Q ord ((d₀,(.pointer (some (ZL v i k (j+off))))) :: e) w):WO P n ops S Lt Q ⟨some d₀,.fieldAddr t x m,ty,pos,af,gd⟩ i₀ 0 ord e w:=⟨fun hi₀=>Z9P hi₀ hg₀ hx hv hdn kk⟩
theorem Z2X {t:TypeId} {l:List (Nat×Operand)} {vs:List (Nat×Value)} {u:Value} (hg₀:ZR ops e gd) (hv:Z1L e l=some vs) (hb:∀ w,(Instr.build t vs.toArray).run P w=.ok u w) (hdn:Nat.blt d₀ n=true) (kk:WD P n ops S Lt Q ord ((d₀,u) :: e) w):WO P n ops S Lt Q ⟨some d₀,.build t l.toArray,ty,pos,af,gd⟩ i₀ 0 ord e w:=⟨fun hi₀=>Z74 hi₀ hg₀ hv hb hdn kk⟩
theorem ZhB {x y:Operand} {t u:TypeId} {p q:Value} {c:Prop} [Decidable c] (hg₀:ZR ops e gd) (hx:ev e x=some p) (hy:ev e y=some q) (hg:∀ w,(eqGuard .neq t x y p q).run P w=.ok () w) (h:∀ w,(binOp .neq t p q).run P w=.ok (.bool (decide (¬ c))) w) (hdn:Nat.blt d₀ n=true) (kk:WD P n ops S Lt Q ord ((d₀,(.bool (decide (¬ c)))) :: e) w):WO P n ops S Lt Q ⟨some d₀,.binOp .neq t x y u,ty,pos,af,gd⟩ i₀ 0 ord e w:=⟨fun hi₀=>Zhm hi₀ hg₀ hx hy hg h hdn kk⟩
theorem Z98 {b T o:Nat} {cs:List Value} {u:Value} {x:Operand} {t:TypeId} {D:TypeDesc} [hu:Und P t D] (hg₀:ZR ops e gd) (hA:JX D=false) (hx:ev e x=some (.pointer (some ⟨b,o,none⟩))) (hb:Blk w b T cs) (hn:b∉S) (hc:cs[o]?=some u) (hdn:Nat.blt d₀ n=true) (kk:WD P n ops S Lt Q ord ((d₀,u) :: e) w):WO P n ops S Lt Q ⟨some d₀,.load t x,ty,pos,af,gd⟩ i₀ 1 ord e w:=⟨fun hi₀=>Jh hi₀ hg₀ hA hx hb hn hc hdn kk⟩
theorem Z82 {b T m:Nat} {cs:List Value} {x:Operand} {t:TypeId} {D:TypeDesc} [hu:Und P t D] [hsz:Siz P t m] (hg₀:ZR ops e gd) (hA:JX D=true) (hx:ev e x=some (.pointer (some ⟨b,0,none⟩))) (hb:Blk w b T cs) (hn:b∉S) (hl:cs.length=m) (hdn:Nat.blt d₀ n=true) (kk:WD P n ops S Lt Q ord ((d₀,.agg cs.toArray) :: e) w):WO P n ops S Lt Q ⟨some d₀,.load t x,ty,pos,af,gd⟩ i₀ 1 ord e w:=⟨fun hi₀=>Z3r hi₀ hg₀ hA hx hb hn hl hdn kk⟩
theorem Z9Z {α:Type} [Zi α] {X:List Nat} {xs:List α} {v u:Value} {i j k:Nat} {x:Operand} {t:TypeId} {D:TypeDesc} [hu:Und P t D] (hg₀:ZR ops e gd) (hA:JX D=false) (hx:ev e x=some (.pointer (some (ZL v i k j)))) (hs:SlV X w v xs) (hn:∀ b∈S,b∈X) (hi:i<xs.length) (hk:k=Zi.k α) (hc:(Zi.enc xs[i])[j]?=some u) (hdn:Nat.blt d₀ n=true) (kk:WD P n ops S Lt Q ord ((d₀,u) :: e) w):WO P n ops S Lt Q ⟨some d₀,.load t x,ty,pos,af,gd⟩ i₀ 1 ord e w:=⟨fun hi₀=>ZbF hi₀ hg₀ hA hx hs hn hi hk hc hdn kk⟩
theorem Z99 {α:Type} [Zi α] {X:List Nat} {xs:List α} {v:Value} {i k:Nat} {x:Operand} {t:TypeId} {D:TypeDesc} [hu:Und P t D] [hsz:Siz P t k] (hg₀:ZR ops e gd) (hA:JX D=true) (hx:ev e x=some (.pointer (some (ZL v i k 0)))) (hs:SlV X w v xs) (hn:∀ b∈S,b∈X) (hi:i<xs.length) (hk:k=Zi.k α) (hdn:Nat.blt d₀ n=true) (kk:WD P n ops S Lt Q ord ((d₀,.agg (Zi.enc xs[i]).toArray) :: e) w):WO P n ops S Lt Q ⟨some d₀,.load t x,ty,pos,af,gd⟩ i₀ 1 ord e w:=⟨fun hi₀=>Z9R hi₀ hg₀ hA hx hs hn hi hk hdn kk⟩
theorem ZhC {t u:TypeId} {x y:Operand} {a b:Str} [hu:Und P t .string] (hg₀:ZR ops e gd) (hx:ev e x=some (str a)) (hy:ev e y=some (str b)) (hdn:Nat.blt d₀ n=true) (kk:WD P n ops S Lt Q ord ((d₀,(.bool (decide (a=b)))) :: e) w):WO P n ops S Lt Q ⟨some d₀,.binOp .eql t x y u,ty,pos,af,gd⟩ i₀ 0 ord e w:=⟨fun hi₀=>Zhs hi₀ hg₀ hx hy hdn kk⟩
theorem Zdy {t:TypeId} {x y:Operand} {a:Str} {z:Int} {i:Nat} [hu:Und P t .string] (hg₀:ZR ops e gd) (hx:ev e x=some (str a)) (hy:ev e y=some (.int .i64 z)) (hz:z=(i:Int)) (hi:i<a.length) (hdn:Nat.blt d₀ n=true) (kk:WD P n ops S Lt Q ord ((d₀,(.int .u8 (Z0e a i))) :: e) w):WO P n ops S Lt Q ⟨some d₀,.index t x y,ty,pos,af,gd⟩ i₀ 0 ord e w:=⟨fun hi₀=>Zdt hi₀ hg₀ hx hy hz hi hdn kk⟩
theorem Za0 {x:Operand} {b:Addr} (hg₀:ZR ops e gd) (hx:ev e x=some (.pointer (some b))) (hdn:Nat.blt d₀ n=true) (kk:WD P n ops S Lt Q ord ((d₀,(.pointer (some b))) :: e) w):WO P n ops S Lt Q ⟨some d₀,.nilCheck x,ty,pos,af,gd⟩ i₀ 0 ord e w:=⟨fun hi₀=>Z9X hi₀ hg₀ hx hdn kk⟩
theorem Zfo {t:TypeId} {x:Operand} {p:Prop} {i:Decidable p} (hg₀:ZR ops e gd) (hx:ev e x=some (.bool (decide p))) (hdn:Nat.blt d₀ n=true) (kk:WD P n ops S Lt Q ord ((d₀,(.bool (decide (¬ p)))) :: e) w):WO P n ops S Lt Q ⟨some d₀,.unOp .not t x,ty,pos,af,gd⟩ i₀ 0 ord e w:=⟨fun hi₀=>Zfk hi₀ hg₀ hx hdn kk⟩
theorem Z1M {t el len k:Nat} {x y:Operand} {b o i:Nat} {z:Int} [hu:Und P t (.array len el)] [hk:Siz P el k] (hg₀:ZR ops e gd) (hx:ev e x=some (.pointer (some ⟨b,o,none⟩))) (hy:ev e y=some (.int .i64 z)) (hz:z=(i:Int)) (hi:i<len) (hdn:Nat.blt d₀ n=true) (kk:WD P n ops S Lt Q ord ((d₀,(.pointer (some ⟨b,o+i * k,none⟩))) :: e) w):WO P n ops S Lt Q ⟨some d₀,.indexAddr t x y,ty,pos,af,gd⟩ i₀ 0 ord e w:=⟨fun hi₀=>Zhv hi₀ hg₀ hx hy hz hi hdn kk⟩
theorem ZjQ {x y:Operand} {ts:Array TypeId} {a b:Int} (hg₀:ZR ops e gd) (hx:ev e x=some (.int .i64 a)) (hy:ev e y=some (.int .i64 b)) (hdn:Nat.blt d₀ n=true) (kk:WD P n ops S Lt Q ord ((d₀,(.int .i64 (min a b))) :: e) w):WO P n ops S Lt Q ⟨some d₀,.call { callee:=.builtin .min,args:=#[x,y],argTypes:=ts },ty,pos,af,gd⟩ i₀ 0 ord e w:=⟨fun hi₀=>ZjJ hi₀ hg₀ hx hy hdn kk⟩
theorem ZhD {t:TypeId} {x:Operand} {y:Operand} {q:Nat} (h:WO P n ops S Lt Q ⟨some d₀,.indexAddr t x y,ty,pos,af,gd⟩ i₀ q ord e w):WO P n ops S Lt Q ⟨some d₀,.indexAddr t x y,ty,pos,af,gd⟩ i₀ q ord e w:=h
theorem Zfp {t:TypeId} {x:Operand} {q:Nat} (h:WO P n ops S Lt Q ⟨some d₀,.load t x,ty,pos,af,gd⟩ i₀ q ord e w):WO P n ops S Lt Q ⟨some d₀,.load t x,ty,pos,af,gd⟩ i₀ q ord e w:=h
theorem ZhE {t:TypeId} {x:Operand} {q:Nat} (h:WO P n ops S Lt Q ⟨some d₀,.call { callee:=.builtin .len,args:=#[x],argTypes:=#[t] },ty,pos,af,gd⟩ i₀ q ord e w):WO P n ops S Lt Q ⟨some d₀,.call { callee:=.builtin .len,args:=#[x],argTypes:=#[t] },ty,pos,af,gd⟩ i₀ q ord e w:=h
theorem Zdz {t:TypeId} {x:Operand} {m:Nat} {q:Nat} (h:WO P n ops S Lt Q ⟨some d₀,.fieldAddr t x m,ty,pos,af,gd⟩ i₀ q ord e w):WO P n ops S Lt Q ⟨some d₀,.fieldAddr t x m,ty,pos,af,gd⟩ i₀ q ord e w:=h
theorem ZjR {t:TypeId} {x:Operand} {y:Operand} {u:TypeId} {bo:BinOp} (h:WL P n ops Q (⟨some d₀,.binOp bo t x y u,ty,pos,af,none⟩ :: rest) e w):WL P n ops Q (⟨some d₀,.binOp bo t x y u,ty,pos,af,none⟩ :: rest) e w:=h
theorem ZhF {t:TypeId} {x:Operand} {y:Operand} {u:TypeId} {bo:BinOp} {q:Nat} (h:WO P n ops S Lt Q ⟨some d₀,.binOp bo t x y u,ty,pos,af,gd⟩ i₀ q ord e w):WO P n ops S Lt Q ⟨some d₀,.binOp bo t x y u,ty,pos,af,gd⟩ i₀ q ord e w:=h
theorem Zn8 {t:TypeId} {x:Operand} {uo:UnOp} (h:WL P n ops Q (⟨some d₀,.unOp uo t x,ty,pos,af,none⟩ :: rest) e w):WL P n ops Q (⟨some d₀,.unOp uo t x,ty,pos,af,none⟩ :: rest) e w:=h
theorem ZjS {t:TypeId} {x:Operand} {uo:UnOp} {q:Nat} (h:WO P n ops S Lt Q ⟨some d₀,.unOp uo t x,ty,pos,af,gd⟩ i₀ q ord e w):WO P n ops S Lt Q ⟨some d₀,.unOp uo t x,ty,pos,af,gd⟩ i₀ q ord e w:=h
theorem ZhG {x:Operand} {y:Operand} {z:Operand} (h:WL P n ops Q (⟨some d₀,.pick x y z,ty,pos,af,none⟩ :: rest) e w):WL P n ops Q (⟨some d₀,.pick x y z,ty,pos,af,none⟩ :: rest) e w:=h
theorem Zfq {x:Operand} {y:Operand} {z:Operand} {q:Nat} (h:WO P n ops S Lt Q ⟨some d₀,.pick x y z,ty,pos,af,gd⟩ i₀ q ord e w):WO P n ops S Lt Q ⟨some d₀,.pick x y z,ty,pos,af,gd⟩ i₀ q ord e w:=h
theorem ZjT {ff:Fn} {fa ca:Array Operand} (h:WL P n ops Q (⟨some d₀,.makeFunc ff fa ca,ty,pos,af,none⟩ :: rest) e w):WL P n ops Q (⟨some d₀,.makeFunc ff fa ca,ty,pos,af,none⟩ :: rest) e w:=h
theorem ZqK {l:List Oper} (h:WL P n ops Q l e w):WL P n ops Q l e w:=h
theorem ZqL {c:Code} (h:WC P n c Q e w):WC P n c Q e w:=h
theorem ZqM {x:Exit} (h:WQ n Q x e w):WQ n Q x e w:=h
end
structure Z83 (R:Prop):Prop where
 h:R
theorem W1 {G R:Prop} (k:R) (h:Z83 R→G:=by
 intro r
 repeat1' (first
  | (apply ZqK;first
  | (apply Z5c;exact rfl;exact rfl)
  | (apply Z2W;exact rfl;exact rfl)
  | apply Z22
  | (apply Zhn;first|refine Z6l rfl rfl (by assumption) (by rfl) rfl ?_|refine ZbD rfl rfl (by assumption) (by first|assumption|omega) (by rfl) (by rfl) rfl ?_|refine Z96 rfl rfl (by assumption) (by rfl) rfl ?_|refine Z9Q rfl rfl (by assumption) (by assumption) (by rfl) rfl ?_)
  | (apply ZjE;first|refine Z5P rfl (by assumption) rfl rfl (by assumption) rfl ?_|refine Z5P rfl (by assumption) rfl rfl (by omega) rfl ?_|refine Z5P rfl (by assumption) rfl (by assumption) (by first|assumption|omega) rfl ?_|refine Z5P (i:=0) rfl (by assumption) rfl rfl (by omega) rfl ?_|refine Z5P (i:=1) rfl (by assumption) rfl rfl (by omega) rfl ?_|refine Z5P (i:=2) rfl (by assumption) rfl rfl (by omega) rfl ?_|refine Z1i (i:=0) rfl rfl rfl (by decide) rfl ?_|refine Z1i (i:=1) rfl rfl rfl (by decide) rfl ?_|refine Z1i (i:=2) rfl rfl rfl (by decide) rfl ?_|refine Z1i rfl rfl rfl (by omega) rfl ?_)
  | (apply Z93;exact rfl;exact rfl)
  | (apply is_field;refine WL_field_el rfl (SlV.isSome (by assumption) (by assumption)) rfl ?_)
  | (apply ZjF;first|refine Zhu rfl rfl ?_|refine Zhk rfl (by assumption) rfl ?_|refine WL_len rfl rfl ?_)
  | (apply ZbB;exact rfl;exact rfl;exact rfl)
  | (apply Z9W;exact rfl;exact rfl)
  | (apply ZjR;first|(apply ZjA;exact rfl;exact rfl;exact rfl)|(apply Z91;exact rfl;exact rfl;exact rfl)|(apply Zfg;exact rfl;exact rfl;exact rfl)|(apply Zhr;exact rfl;exact rfl;exact rfl)|(apply Zht;exact rfl;exact rfl;exact rfl)|(apply Zjp;exact rfl;exact rfl;(unfold I64;omega);exact rfl)|(apply Zjr;exact rfl;exact rfl;(unfold I64;omega);exact rfl)|(apply Zjw;exact rfl;exact rfl;exact rfl)|(apply Z92;exact rfl;exact rfl;exact rfl)|(apply Zjz;exact rfl;exact rfl;exact rfl)|(apply WL_eqlB;exact rfl;exact rfl;exact rfl)|(apply ZcG;exact rfl;exact rfl;exact rfl)|(apply Zjt;exact rfl;exact rfl;(unfold I64;omega);exact rfl)|(apply Zhh;exact rfl;exact rfl;omega;omega;(unfold I64;omega);exact rfl)|(apply Zhf;exact rfl;exact rfl;omega;omega;(unfold I64;omega);exact rfl)|(apply ZQ;exact rfl;exact rfl;omega;exact rfl))
  | (apply Zn8;first|(apply Zfe;exact rfl;exact rfl)|(apply Zff;exact rfl;exact rfl)|(apply Zfj;exact rfl;exact rfl)|(apply WL_not;exact rfl;exact rfl)|(apply Zju;exact rfl;(unfold I64;omega);exact rfl))
  | (apply ZhG;first|(apply Zdp;exact rfl;exact rfl;exact rfl)|(apply Zdr;exact rfl;exact rfl;exact rfl))
  | (apply ZjH;exact rfl;exact rfl;exact rfl)
  | (apply ZjI;exact rfl;exact rfl;exact rfl)
  | (apply JD;exact rfl;exact rfl;exact rfl;first|assumption|omega;exact rfl)
  | (apply ZjT;first|(apply WL_makeFunc0;exact rfl)|(apply Z94;exact rfl;exact rfl)|(apply Z95;exact rfl;exact rfl;exact rfl)|(apply WL_makeFunc3;exact rfl;exact rfl;exact rfl;exact rfl))
  | (apply Z59;exact rfl)
  | (apply Zh2;exact rfl;exact rfl))
  | (apply ZqL;first|apply Z6W|apply Z2U|apply ZeS|apply Z6L|apply Z6X|apply Zh1|(apply Z23;exact rfl)|(apply Z1I;exact rfl))
  | (apply ZqM;first|apply Z3l|apply Z1T|apply Z8V|apply Z81|(apply Z9K;exact rfl)|apply Z8W|apply ZeR))
 exact r.h):G:=h ⟨k⟩
theorem W {G R:Prop} (k:R) (h:Z83 R→G:=by
 intro r
 first|(refine W1 ?_;exact r.h)|exact r.h):G:=h ⟨k⟩
theorem D1 {G R:Prop} (k:R) (h:Z83 R→G:=by
 intro r
 repeat1' (first|apply Z3p|(apply Z0R;exact rfl;first
  | (apply Zfl;exact rfl;exact rfl)
  | (apply Zfm;exact rfl;exact rfl)
  | (apply Zfn;exact rfl;exact rfl)
  | (apply Zhw;(first|exact trivial|exact rfl);exact rfl;exact rfl)
  | (apply Zdv;(first|exact trivial|exact rfl);exact rfl;exact rfl)
  | (apply Zfp;first|refine Z98 (by first|exact trivial|exact rfl) rfl rfl (by assumption) (by first|assumption|(simp;done)|(simp;omega)) (by rfl) rfl ?_|refine Z9Z (by first|exact trivial|exact rfl) rfl rfl (by assumption) (by first|exact fun _ h=>h|(simp;done)) (by first|assumption|omega) (by rfl) (by rfl) rfl ?_|refine Z82 (by first|exact trivial|exact rfl) rfl rfl (by assumption) (by first|assumption|(simp;done)|(simp;omega)) (by rfl) rfl ?_|refine Z99 (by first|exact trivial|exact rfl) rfl rfl (by assumption) (by first|exact fun _ h=>h|(simp;done)) (by assumption) (by rfl) rfl ?_)
  | (apply ZhD;first|refine Z1j (by first|exact trivial|exact rfl) rfl (by assumption) rfl rfl (by assumption) rfl ?_|refine Z1j (by first|exact trivial|exact rfl) rfl (by assumption) rfl rfl (by omega) rfl ?_|refine Z1j (by first|exact trivial|exact rfl) rfl (by assumption) rfl (by assumption) (by first|assumption|omega) rfl ?_|refine Z1j (i:=0) (by first|exact trivial|exact rfl) rfl (by assumption) rfl rfl (by omega) rfl ?_|refine Z1j (i:=1) (by first|exact trivial|exact rfl) rfl (by assumption) rfl rfl (by omega) rfl ?_|refine Z1j (i:=2) (by first|exact trivial|exact rfl) rfl (by assumption) rfl rfl (by omega) rfl ?_|refine Z1M (i:=0) (by first|exact trivial|exact rfl) rfl rfl rfl (by decide) rfl ?_|refine Z1M (i:=1) (by first|exact trivial|exact rfl) rfl rfl rfl (by decide) rfl ?_|refine Z1M (i:=2) (by first|exact trivial|exact rfl) rfl rfl rfl (by decide) rfl ?_|refine Z1M (by first|exact trivial|exact rfl) rfl rfl rfl (by omega) rfl ?_)
  | (apply Z97;(first|exact trivial|exact rfl);exact rfl;exact rfl)
  | (apply Zdz;refine Z9Y (by first|exact trivial|exact rfl) rfl (SlV.isSome (by assumption) (by assumption)) rfl ?_)
  | (apply ZhE;first|refine WO_lenT (by first|exact trivial|exact rfl) rfl rfl ?_|refine ZhA (by first|exact trivial|exact rfl) rfl (by assumption) rfl ?_|refine WO_len (by first|exact trivial|exact rfl) rfl rfl ?_)
  | (apply ZbI;(first|exact trivial|exact rfl);exact rfl;exact rfl;exact rfl)
  | (apply Za0;(first|exact trivial|exact rfl);exact rfl;exact rfl)
  | (apply ZhF;first|(apply ZjO;(first|exact trivial|exact rfl);exact rfl;exact rfl;exact rfl)|(apply ZjL;(first|exact trivial|exact rfl);exact rfl;exact rfl;exact rfl)|(apply ZjP;(first|exact trivial|exact rfl);exact rfl;exact rfl;exact rfl)|(apply ZhC;(first|exact trivial|exact rfl);exact rfl;exact rfl;exact rfl)|(apply WO_neqT;(first|exact trivial|exact rfl);exact rfl;exact rfl;exact rfl)|(apply ZjK;(first|exact trivial|exact rfl);exact rfl;exact rfl;(unfold I64;omega);exact rfl)|(apply ZbH;(first|exact trivial|exact rfl);exact rfl;exact rfl;(unfold I64;omega);exact rfl)|(apply ZjM;(first|exact trivial|exact rfl);exact rfl;exact rfl;exact rfl)|(apply ZjN;(first|exact trivial|exact rfl);exact rfl;exact rfl;exact rfl)|(apply WO_geq;(first|exact trivial|exact rfl);exact rfl;exact rfl;exact rfl)|(apply Zhz;(first|exact trivial|exact rfl);exact rfl;exact rfl;exact rfl)|(apply WO_neqB;(first|exact trivial|exact rfl);exact rfl;exact rfl;exact rfl)|(apply WO_mul;(first|exact trivial|exact rfl);exact rfl;exact rfl;(unfold I64;omega);exact rfl)|(apply Zhy;(first|exact trivial|exact rfl);exact rfl;exact rfl;omega;omega;(unfold I64;omega);exact rfl)|(apply Zhx;(first|exact trivial|exact rfl);exact rfl;exact rfl;omega;omega;(unfold I64;omega);exact rfl)|(apply WO_addT;(first|exact trivial|exact rfl);exact rfl;exact rfl;omega;exact rfl))
  | (apply ZjS;first|(apply WO_not_t;(first|exact trivial|exact rfl);exact rfl;exact rfl)|(apply WO_not_f;(first|exact trivial|exact rfl);exact rfl;exact rfl)|(apply Zfo;(first|exact trivial|exact rfl);exact rfl;exact rfl)|(apply WO_not;(first|exact trivial|exact rfl);exact rfl;exact rfl)|(apply WO_neg;(first|exact trivial|exact rfl);exact rfl;(unfold I64;omega);exact rfl))
  | (apply Zfq;first|(apply Zdw;(first|exact trivial|exact rfl);exact rfl;exact rfl;exact rfl)|(apply Zdx;(first|exact trivial|exact rfl);exact rfl;exact rfl;exact rfl))
  | (apply WO_max;(first|exact trivial|exact rfl);exact rfl;exact rfl;exact rfl)
  | (apply ZjQ;(first|exact trivial|exact rfl);exact rfl;exact rfl;exact rfl)
  | (apply Zdy;(first|exact trivial|exact rfl);exact rfl;exact rfl;exact rfl;first|assumption|omega;exact rfl)
  | (apply iso_mkf;first|(apply WO_makeFunc0;(first|exact trivial|exact rfl);exact rfl)|(apply WO_makeFunc1;(first|exact trivial|exact rfl);exact rfl;exact rfl)|(apply WO_makeFunc2;(first|exact trivial|exact rfl);exact rfl;exact rfl;exact rfl)|(apply WO_makeFunc3;(first|exact trivial|exact rfl);exact rfl;exact rfl;exact rfl;exact rfl))))
 exact r.h):G:=h ⟨k⟩
theorem D {G R:Prop} (k:R) (h:Z83 R→G:=by
 intro r
 first|(refine D1 ?_;exact r.h)|exact r.h):G:=h ⟨k⟩
theorem WR {G R:Prop} (k:R) (h:Z83 R→G:=by
 intro r
 first|refine Zh8 rfl rfl ?_|refine Zh9 rfl rfl rfl ?_|refine Zha rfl rfl rfl rfl ?_|refine Z4n rfl ?_|refine Z4o rfl ?_
 exact r.h):G:=h ⟨k⟩
theorem VG {G R S:Prop} (k:R) (l:S) (h:Z83 R→Z83 S→G:=by
 intro r s
 first|refine ZeV rfl rfl ?_ ?_|refine WL_splitB rfl rfl ?_ ?_
 exact r.h
 exact s.h):G:=h ⟨k⟩ ⟨l⟩
theorem VC {G R S:Prop} (k:R) (l:S) (h:Z83 R→Z83 S→G:=by
 intro r s
 first|refine Z6M rfl ?_ ?_|refine Z6Y rfl ?_ ?_
 exact r.h
 exact s.h):G:=h ⟨k⟩ ⟨l⟩
theorem CL {P:Program} {n:Nat} {Q:Exit→Act→World→Prop} {e:Env} {w:World} {rest:List Oper} {f d:Nat} {fn:Func} {xs:Array Operand} {ts:Array TypeId} {vs:Array Value} {G:Value→World→Prop} {c:Operand} {ty:TypeId} {pos:String} {af:Array Edge} {ops:Array Oper} [hf:Fun P f fn] (hc:ev e c=some (.func (.func f) #[] #[])) (hv:∀ a,Has n e a→xs.map a.eval=vs) (hd:Nat.blt d n=true) (h:Calls P f vs w (Ret G)) (k:∀ v w',G v w'→WL P n ops Q rest ((d,v) :: e) w'):WL P n ops Q (⟨some d,.call { callee:=.value c,args:=xs,argTypes:=ts },ty,pos,af,none⟩ :: rest) e w:=Z3 (Z5 hc hv h) hd k
def Z0y {β:Type} [Zi β] (T:Nat) (w w':World) (v:Value) (xs:List β):Prop:=Row [] w' w.heap.size T v xs∧Stp [] w w'
section
variable {β:Type} [Zi β] {T:Nat} {w w' w'':World} {v:Value} {xs ys:List β}
theorem Row.lower {α:Type} [Zf α] {X:List Nat} {a b:Nat} {xs:List α} (h:Row X w b T v xs) (hab:a≤b):Row X w a T v xs:=by
 obtain ⟨css,h1,h2,h3,h4⟩:=h
 refine ⟨css,h1,h2,h3,h4.imp id ?_⟩
 rintro ⟨g,cap,cur,e1,e2,rest⟩
 exact ⟨g,cap,cur,e1,Xh hab e2,rest⟩
theorem Z0y.nil:Z0y (β:=β) T w w (.slice none 0 0) []:=⟨Row.nil,Stp.refl _ _⟩
theorem Z0y.up (h:Z0y T w w' v xs) (hS:Stp [] w' w''):Z0y T w w'' v xs:=⟨h.1.up hS,h.2.trans hS⟩
theorem Z0y.slv (h:Z0y T w w' v xs) {X:List Nat} (hX:∀ b∈X,b<w.heap.size):SlV X w' v xs:=Row.slv (X:=X) h.1 hX
theorem Z0y.ob_le (h:Z0y T w w' v xs):∀ b∈ob v,w.heap.size≤b∧b<w'.heap.size:=h.1.ob_le
theorem Z0y.step {S:List Nat} (h:Z0y T w w' v xs) (hS:Stp S w' w'') (ho:∀ b∈S,b∈ob v):Stp [] w w'':=h.2.own hS (fun b hb=>.inr (h.ob_le b (ho b hb)).1)
section
variable {P:Program} {n:Nat} {e:Env} {d:Option Nat} {ty:TypeId} {pos:String} {af:Array Edge} {g:Option (Nat×Bool)}
theorem Z2E {x y:Operand} {t bytes:Nat} {u:Value} {z:Value} [ht:Und P t (.slice T)] [hk:Siz P T (Zf.k β)] [hb:Byt P T bytes] [hz:Zer P T z] (hzs:z.cells.size=Zf.k β) (hpos:0<Zf.k β)
 (hx:ev e x=some v) (hy:ev e y=some u) (h:Z0y T w w' v xs) (hys:SlV (ob v) w' u ys) (hbytes:(xs.length+ys.length) * bytes≤140737488355328) (hlen:xs.length+ys.length≤maxLen) :
 OE P n ⟨d,.call { callee:=.builtin .append,args:=#[x,y],argTypes:=#[t,t] },ty,pos,af,g⟩ e w' (fun v' w''=>Z0y T w w'' v' (xs++ys)∧Stp (ob v) w' w''∧∀ b∈ob v',b∈ob v∨w'.heap.size≤b):=by
 refine (Z05 (X:=[]) (base:=w.heap.size) hzs hpos hx hy h.1 (by rw [Xz];exact hys) hbytes hlen h.2.size).mono ?_
 rintro v' w2 ⟨h1,h2,h3⟩
 exact ⟨⟨h1,h.step h2 (fun _ hb=>hb)⟩,h2,h3⟩
end
end
structure Sl (α:Type) where
 l:List α
instance {α:Type} [Zf α]:Zf (Sl α) where
 k:=1
 rep:=fun X w x cs=>∃ v,cs=[v]∧SlV X w v x.l
 len:=by rintro X w x cs ⟨v,rfl,_⟩;rfl
 one:=by
  rintro X w x cs ⟨v,rfl,p,c,rfl,_⟩ u hu
  simp at hu
  subst hu
  rfl
 ext:=by
  rintro X S X' w w' x cs ⟨v,rfl,h⟩ hS h1 h2
  exact ⟨v,rfl,h.ext hS h1 h2⟩
section
variable {P:Program} {n:Nat} {Q:Exit→Act→World→Prop} {e:Env} {w:World}
theorem ZbJ {o:Oper} {a:Act} {w:World} {K K':Act→World→Prop} {Q':Exit→Act→World→Prop} (h:∀ a w,K a w→K' a w) (hq:∀ ex a w,Q' ex a w→Q ex a w)
 (hh:o.wp P a w K Q'):o.wp P a w K' Q:=by
 unfold Oper.wp at *
 generalize (execOp a.eval o).run P w=r at *
 cases r with
 | ok n w'=>
   cases n<;>simp only [Oper.upon] at hh ⊢ <;>
    first
     | exact h _ _ hh
     | exact Calls.mono hh (fun e w'' he=>by cases e<;>first|exact h _ _ he|exact hq _ _ _ he|exact he.elim (fun a h=>h.elim (fun w h=>⟨a,w,hq _ _ _ h⟩)))
     | exact Rows.mono hh (fun _ _ he=>h _ _ he)
 | halt x w'=>cases x<;>simp only [Oper.upon] at hh ⊢<;>first|exact hq _ _ _ hh|exact hh
theorem Z3t {ops:Array Oper} {Q':Exit→Act→World→Prop} (hq:∀ ex a w,Q' ex a w→Q ex a w):∀ (l:List Oper) (a:Act) (w:World),wpList P ops Q' l a w→wpList P ops Q l a w
 | [],a,w,h=>hq _ _ _ h
 | o :: rest, a, w, h => by
   unfold wpList at h ⊢
   split
   rename_i hw
   rw [if_pos hw] at h
   rcases h with h|⟨h1,a',w',h2⟩
   exact .inl (ZbJ (fun a w h=>Z3t hq rest a w h) hq h)
   exact .inr ⟨h1,a',w',hq _ _ _ h2⟩
   rename_i hw
   rw [if_neg hw] at h
   exact Z3t hq rest _ _ h
theorem ZcJ {y:Code} {σ:Type} {ops:Array Oper} {l:List Oper} (env:σ→Env) (I:σ→World→Prop)
 (h:WL P n ops (Exit.then (fun a w=>∃ s,Has n (env s) a∧I s w) Q) l e w) (k:∀ s w,I s w→WC P n y Q (env s) w):WL P n ops (Exit.then (fun a w=>y.wp P Q a w) Q) l e w:=
 ⟨fun a ha => Z3t (fun ex a w hq => by
   cases ex with
   | normal=>obtain ⟨s,h1,h2⟩:=hq;exact (k s w h2).h a h1
   | _=>exact hq) l a w (h.h a ha)⟩
end
open Go Go.RowKit Go.Proofs Go.ChangeShapes Go.WideShapes Go.Deep
section
variable {H:Type} {enc:TypeId×Value→H} {P:Program} {w:World} {base:Nat} {spare:Nat→Bool} {held:Bool}
theorem Za1 (b o n:Nat):(⟨b,o,none⟩:Addr).add n=⟨b,o+n,none⟩:=by
 unfold Addr.add
 split
 rename_i h;subst h;rfl
 rfl
def ZjU:DataW H→Nat
 | .slice els _=>els.length
 | _=>0
theorem Za2 {α:Type} [Zi α] {ok:α→Prop} {t e:TypeId} {fuel:Nat} {cs:List Value} {x:DataW H×List MemPlace} (ht:P.underlying t=some (.slice e)) (hC:P.cellsOf e=Zi.k α) (hpos:0<Zi.k α)
 (hread:∀ n cs' y,cs'.length=Zi.k α→DataW.trod enc P w base spare held n e cs'=some y→∃ a:α,cs'=Zi.enc a∧ok a)
 (h:DataW.trod enc P w base spare held fuel t cs=some x):∃ (v:Value) (xs:List α),cs=[v]∧SlV [] w v xs∧(∀ a∈xs,ok a)∧ZjU x.1=xs.length:=by
 rcases open_slice ht h with ⟨rfl,rfl⟩|⟨a,len,cap,m,n,D,Pl,rfl,hb,hl,hm,hmm,hx,hi⟩
 exact ⟨_,[],rfl,⟨none,0,rfl,Xo _,by simp [maxLen],fun _=>rfl,fun i h=>absurd h (XI _)⟩,by simp,rfl⟩
 have hlm:len≤m:=by rw [hmm];split<;>omega
 have hne:∀ y:α,∃ u,(Zi.enc y)[0]?=some u:=fun y=>⟨_,XA (by rw [Zi.len y];exact hpos)⟩
 have hall:∀ i:Fin len,∃ y:α,ok y∧∀ j u,(Zi.enc y)[j]?=some u→w.cell? (a.add (i * Zi.k α+j))=some u:=by
  intro i
  obtain ⟨cs',hc,htr⟩:=hi i (by omega)
  rw [hC] at hc
  obtain ⟨_,hcl,hat⟩:=World.cells?_some hc
  obtain ⟨y,rfl,hok⟩:=hread n cs' _ hcl htr
  refine ⟨y,hok,fun j u hu=>?_⟩
  have hj:j<Zi.k α:=by
   have:=(XC.1 hu).1
   rw [Zi.len] at this;exact this
  have:=hat j hj
  rw [hu] at this
  rw [← this,Go.Deep.add_add]
 let f:Fin len→α:=fun i=>(hall i).choose
 have hf:∀ i:Fin len,ok (f i)∧∀ j u,(Zi.enc (f i))[j]?=some u→w.cell? (a.add (i * Zi.k α+j))=some u:=fun i=>(hall i).choose_spec
 refine ⟨_,List.ofFn f,rfl,⟨some a,cap,by simp,by simpa using hl,hm,by simp,fun i hi'=>?_⟩,fun y hy=>?_,by rw [hx];simp [ZjU]⟩
 have hi'':i<len:=by simpa using hi'
 have hfi:=(hf ⟨i,hi''⟩).2
 obtain ⟨u1,hu1⟩:∃ u,(Zi.enc (f ⟨0,by omega⟩))[0]?=some u:=hne _
 have hc1:=(hf ⟨0,by omega⟩).2 0 u1 hu1
 obtain ⟨u0,hu0⟩:∃ u,(Zi.enc (f ⟨i,hi''⟩))[0]?=some u:=hne _
 have hc0:=hfi 0 u0 hu0
 have hsp:a.spot=none:=by
  have e0:a.add ((⟨0,by omega⟩:Fin len).val * Zi.k α+0)=a:=by simp [Addr.add]
  rw [e0] at hc1
  unfold World.cell? at hc1
  split at hc1
  · cases hs:a.spot with
    | none=>rfl
    | some s=>simp [hs] at hc1
  cases hc1
 obtain ⟨b,o,sp⟩:=a
 cases hsp
 refine ⟨b,o,Zi.enc (f ⟨i,hi''⟩),rfl,?_,by simp,?_,fun j u hu=>?_⟩
 have:=block_lt_of_cell (a:=(⟨b,o,none⟩:Addr).add (i * Zi.k α+0)) hc0
 simpa [Za1] using this
 simp;rfl
 have:=hfi j u hu
 rw [Za1] at this
 rw [show o+i * Zf.k α+j=o+(i * Zi.k α+j) from XT _ _ _]
 exact this
 obtain ⟨i,rfl⟩:=List.mem_ofFn.1 hy
 exact (hf i).1
theorem Z76 {t e:TypeId} {fuel:Nat} {cs:List Value} {x:DataW H×List MemPlace} (ht:P.underlying t=some (.slice e)) (hC:P.cellsOf e=1) (he:P.underlying e=some (.int .i64))
 (h:DataW.trod enc P w base spare held fuel t cs=some x):∃ (v:Value) (xs:List Int),cs=[v]∧SlV [] w v xs∧(∀ a∈xs,I64 a)∧ZjU x.1=xs.length:=
 Za2 (α:=Int) ht hC (by decide) (fun n cs' y hl hy=>by
  obtain ⟨z,rfl,_,hw⟩:=DataW.trod_int he hy
  exact ⟨z,rfl,by simpa [I64,Lit.wf,IntKind.min,IntKind.max,IntKind.signed,IntKind.bits] using hw⟩) h
end
section
variable {H:Type} {enc:TypeId×Value→H} {P:Program}
def ZcK (P:Program) (ts:List TypeId):Bool:=ts.all fun t=>P.readableRec t && decide (t<P.types.size)
theorem Z4F (hl:laidOutB P=true) {W W':World} (hb:Below W.heap.size W W') {sp:Nat→Bool}:∀ {ts:List TypeId} {vs:List Value} {ds:List (DataW H)} {ps:List MemPlace},ZcK P ts=true→
 DataW.TrodAll enc P W 0 (fun _=>true) true ts vs ds ps→(∀ x∈ps,x.block<W.heap.size)→(∀ x∈ps,sp x.block=true)→DataW.TrodAll enc P W' 0 sp true ts vs ds ps
 | [],[],[],_,_,h,_,_=>h
 | t :: ts, v :: vs, d :: ds, ps, hr, h, hlt, hs => by
   obtain ⟨p,q,h1,h2,rfl⟩:=h
   simp only [ZcK,Yaz,Xi,decide_eq_true_eq] at hr
   obtain ⟨⟨r1,r2⟩,r3⟩:=hr
   exact ⟨p,q,WideElems.Trod_stays hl r1 r2 h1 (fun x hx=>hb.same (hlt x (by simp [hx]))) (fun x hx=>hs x (by simp [hx])),Z4F hl hb (by simpa [ZcK] using r3) h2 (fun x hx=>hlt x (by simp [hx])) (fun x hx=>hs x (by simp [hx])),rfl⟩
 | [],_ :: _,_,_,_,h,_,_=>h.elim
 | [],[],_ :: _,_,_,h,_,_=>h.elim
 | _ :: _,[],_,_,_,h,_,_=>h.elim
 | _ :: _,_ :: _,[],_,_,h,_,_=>h.elim
section
variable {f:Func} {s:ChangeSpec} {apart fresh handsOn again:Bool} {W W':World} {args:Array Value} {v:Value} {ds gs:List (DataW H)} {before pa pv:List MemPlace}
theorem Z84
 (hW:DataW.Whole enc P f.params.toList s.vars apart W args.toList ds gs before)
 (hres:∀ (b:Nat) (sp:Nat→Bool) (hd:Bool),DataW.TrodAll enc P W' b sp hd f.resultTypes.toList (v.resultList f.resultTypes.size) (s.fn H (ds++gs)).results [])
 (hargs:∀ sp:Nat→Bool,(∀ p∈before,sp p.block=true)→DataW.TrodAll enc P W' 0 sp true f.params.toList args.toList (s.fn H (ds++gs)).args pa)
 (hvars:∀ sp:Nat→Bool,(∀ p∈before,sp p.block=true)→DataW.TrodVars enc P W' sp s.vars (s.fn H (ds++gs)).vars pv)
 (hps:before=pa++pv) (hb:Below W.heap.size W W')
 (hok:∀ (j:Nat) (t:TypeId) (r:Value),f.resultTypes[j]?=some t→(v.resultList f.resultTypes.size)[j]?=some r→Value.okWide P W' .any 0 t r) :
 s.post enc P f apart fresh handsOn again W args v W':=by
 have hlt:∀ p∈before,p.block<W.heap.size:=fun p hp=>hW.lt p hp
 have hold:∀ p∈before,(fun b=>decide (b<W.heap.size)) p.block=true:=fun p hp=>by simpa using hlt p hp
 refine ⟨ds,gs,before,[],pa,pv,hW,hres _ _ _,hargs _ hold,hvars _ hold,World.keptBut_mono (fun p hp=>⟨hp,?_⟩) (hb.frame (·∈before)),fun _=>?_⟩
 rw [hps,Xt] at hp
 exact Or.inr hp
 obtain ⟨_,_,_,_,_,hz,hn⟩:=hW
 refine ⟨hok,_,_,([]++pa)++pv,⟨[]++pa,pv,trodAll_append (hargs _ (fun _ _=>rfl)) (hres _ _ _),hvars _ (fun _ _=>rfl),rfl,?_,?_⟩,?_⟩
 intro b off hp
 have hin:MemPlace.cell b off∈before:=by rw [hps];simpa using hp
 rw [hb.frozen (hlt _ hin)]
 exact hz b off hin
 intro ha
 have:=hn ha
 rw [hps] at this
 simpa using this
 intro p hp _
 rw [hps]
 simpa using hp
end
def ZhH (s:ChangeSpec) (k:Nat):Prop:=s.vars=[]∧∀ (H:Type) (ds:List (DataW H)),ds.length=k→(s.fn H ds).results=[.lit (.bool true)]∧(s.fn H ds).args=ds∧(s.fn H ds).vars=[]
theorem Z6n {W:World} {base:Nat} {sp:Nat→Bool} {hd:Bool}:∀ {ts:List TypeId} {vs:List Value} {ds:List (DataW H)} {ps:List MemPlace},DataW.TrodAll enc P W base sp hd ts vs ds ps→ds.length=ts.length
 | [],[],[],_,_=>rfl
 | t :: ts, v :: vs, d :: ds, ps, h => by
   obtain ⟨p,q,h1,h2,rfl⟩:=h
   simp [Z6n h2]
 | [],_ :: _,_,_,h=>h.elim
 | [],[],_ :: _,_,h=>h.elim
 | _ :: _,[],_,_,h=>h.elim
 | _ :: _,_ :: _,[],_,h=>h.elim
theorem Zn9 {fn:Func} {K tb:Nat} {s:ChangeSpec} {fresh handsOn again:Bool} {W:World} {args:Array Value} {ds gs:List (DataW H)} {before:List MemPlace} (hl:laidOutB P=true) (hr:ZcK P fn.params.toList=true)
 (hres:fn.resultTypes=#[tb]) (hb:P.underlying tb=some .bool) (hs:ZhH s fn.params.size)
 (hW:DataW.Whole enc P fn.params.toList s.vars false W args.toList ds gs before) (hc:Calls P K args W (Ret fun r w'=>r=.bool true∧Stp [] W w')) :
 Calls P K args W fun e W'=>∃ v,e=.returned v∧s.post enc P fn false fresh handsOn again W args v W':=by
 refine hc.mono ?_
 rintro _ w' ⟨_,rfl,rfl,hS⟩
 refine ⟨_,rfl,?_⟩
 have hW':=hW
 obtain ⟨p,q,hA,hV,hpq,hfz,hnd⟩:=hW
 rw [hs.1] at hV
 obtain ⟨rfl,rfl⟩:=trodVars_none hV
 have hlen:(ds++[]).length=fn.params.size:=by simpa using Z6n hA
 obtain ⟨s1,s2,s3⟩:=hs.2 H (ds++[]) hlen
 have hlt:∀ x∈before,x.block<W.heap.size:=fun x hx=>hW'.lt x hx
 refine Z84 (pa:=p) (pv:=[]) hW' (fun b sp hd=>?_) (fun sp hsp=>?_) (fun sp _=>?_) hpq hS.below ?_
 rw [s1,hres]
 exact trodAll_mk1 ⟨1,by simp [DataW.trod,Value.cells,hb]⟩
 rw [s2]
 simp only [Xz] at hpq ⊢
 subst hpq
 exact Z4F hl hS.below hr hA hlt hsp
 rw [s3,hs.1]
 rfl
 exact ok_one hres rfl (by simp [Value.okWide,hb,Cell.okWide,Cell.ok])
end
section
variable {H:Type} {enc:TypeId×Value→H}
theorem Zfr {a:Assume} {C:Checked} {os:Os} {f:FuncId} {fn:Func} {s:ChangeSpec} {conds:List PathCond} {apart fresh handsOn again:Bool} {X:World→Array Value→Prop}
 (hX:∀ (w w':World) (args:Array Value),w.heap=w'.heap→X w args→X w' args)
 (own:ownKnob C.prog.godebug=none) (started:os.Started) (noInit:C.prog.inits.idxOf? f=none) (hfn:C.prog.funcs[f]?=some fn)
 (witness : ∃ (w : World) (tape : Tape) (i : Input), w.os = os ∧ (w.forCall tape i).Shaped C.prog ∧ i.vars = [] ∧ Input.okWide C.prog (w.forCall tape i) .any w.heap.size f i∧
   ((s.pre enc C.prog fn conds apart (w.forCall tape i).memory i.args∧X (w.forCall tape i).memory i.args)∧sizedMet enc C.prog fn (OpenSpec.ofChange s) apart (w.forCall tape i).memory i.args)∧a.holds C.prog (lone (Frame.enter C.prog f i.args .normal) [] (w.forCall tape i)))
 (contract : ∀ (W : World) (base : Nat) (args : Array Value) (ds gs : List (DataW H)) (before : List MemPlace),
   (∀ (j:Nat) t v,fn.params[j]?=some t→args[j]?=some v→Value.okWide C.prog W .any base t v)→
   DataW.Whole enc C.prog fn.params.toList s.vars apart W args.toList ds gs before→
   (DataW.weightsEach C.prog (fn.params.toList++s.plain.varTypes C.prog) (ds++gs)).all (·≤reachBytes)=true→X W args→W.ShapedOpen C.prog→
   Calls C.prog f args W fun e W'=>∃ v,e=.returned v∧s.post enc C.prog fn apart fresh handsOn again W args v W') :
 ReturnsInHanded a C os f .any (fun w args=>(s.pre enc C.prog fn conds apart w args∧X w args)∧sizedMet enc C.prog fn (OpenSpec.ofChange s) apart w args) (s.post enc C.prog fn apart fresh handsOn again):=by
 refine returnsInHanded_of_calls own started noInit witness ?_
 intro w tape i _ hsh _ hok hpre hholds
 obtain ⟨_,_,_,fn',hfn',_,_,_,_,hval⟩:=hok
 have e:fn'=fn:=XJ (hfn'.symm.trans hfn)
 subst e
 obtain ⟨⟨⟨ds,gs,before,hw,hc⟩,hx⟩,hz⟩:=hpre
 have hw':=DataW.Whole.of_heap (w':=w.forCall tape i) (by rfl) hw
 refine (contract (w.forCall tape i) w.heap.size i.args ds gs before hval hw' (hz.weights hw) (hX _ _ _ (by rfl) hx) hsh).mono fun e W' ⟨v,he,hp⟩=>?_
 subst he
 exact ChangeSpec.post_blind hp
end
instance:Zi UInt8 where
 k:=1
 enc:=fun b=>[.int .u8 (b.toNat:Int)]
 len:=fun _=>rfl
 one:=by intro x u hu;simp at hu;subst hu;rfl
section
variable {P:Program} {n:Nat} {e:Env} {w:World} {d:Option Nat} {ty:TypeId} {pos:String} {af:Array Edge} {g:Option (Nat×Bool)}
theorem Za3 {src dst el:TypeId} {x:Operand} {s:Str} [hs:Und P src .string] [hd:Und P dst (.slice el)] [he:Und P el (.int .u8)] (hx:ev e x=some (str s)) (hl:s.length≤1000000) :
 OE P n ⟨d,.convert src dst x,ty,pos,af,g⟩ e w (fun v w'=>(∀ X:List Nat,(∀ b∈X,b<w.heap.size)→SlV X w' v s)∧Stp [] w w'):=by
 refine Z0q (v:=.slice (some ⟨w.heap.size,0,none⟩) s.length (grownCap w s.length 0 el)) (w':=Go.Lib.bytesWorld w el ⟨s.toArray⟩) (fun a ha=>?_) ⟨fun X hX=>?_,?_⟩
 have h:=Go.Lib.run_convert_string_bytes (P:=P) w src dst el ⟨s.toArray⟩ hs.h hd.h he.h
 simp only [Z0C] at h
 simp [execOp,ha.ev hx,h]
 refine ⟨some ⟨w.heap.size,0,none⟩,_,rfl,grownCap_ge w _ _ _,grownCap_le_maxLen w _ _ _ (by simp [maxLen];omega),(fun h=>by cases h),fun i hi=>⟨w.heap.size,0,Zi.enc s[i],rfl,?_,fun h=>by have:=hX _ h;omega,rfl,fun j u hu=>?_⟩⟩
 rw [Go.Lib.bytesWorld_size];omega
 have hj:j=0:=by
  have:=(XC.1 hu).1
  simp [Zi.enc] at this
  exact this
 subst hj
 have hc:=Go.Lib.bytesWorld_cell w el ⟨s.toArray⟩ i (by rw [Z0C];exact hi)
 simp only [Zi.enc,List.getElem?_cons_zero,Xj] at hu
 subst hu
 have e1:(0+i * Zf.k UInt8+0)=i:=by show 0+i * 1+0=i;omega
 rw [e1,hc]
 simp [List.getD,hi]
 refine ⟨rfl,rfl,rfl,?_,fun b hb _=>Go.Lib.bytesWorld_at_old w el _ b hb⟩
 rw [Go.Lib.bytesWorld_size];omega
end
end Go.Eng
