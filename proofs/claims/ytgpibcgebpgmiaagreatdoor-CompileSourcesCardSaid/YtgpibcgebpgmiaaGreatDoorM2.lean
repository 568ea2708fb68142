/-
Merged by program out of own texts: Shl, Ty, Typ1, Eng10, Typ2, Typ3, Typ4, Typ5, Typ6, Typ7, Typ8, Typ9, Typ10, Typ13, Cmp1, Cmp2, Cmp3, Cmp4, Cmp5, Cmp6, Cmp7, Cmp8, Cmp9, Cmp10, Prn1, Nam1, Nam2, Psr1, Eng25, Psr2, PsrP.
-/
import Derived.Test.YtgpibcgebpgmiaaGreatDoorM1
import Derived.Shelf.Strings.Builder1
import Derived.Shelf.Strings.Builder2
import Derived.Shelf.Strings.OnBuilder
import Derived.Shelf.Small.Utf8
import Derived.Shelf.Small.Bits
import Derived.Shelf.Small.Strs
import Derived.Shelf.Small.Wraps
import Derived.Shelf.Strings.BuilderF
import Derived.Shelf.Strconv.Atoi
import Derived.Shelf.Strconv.Itoa0
import Derived.Shelf.Strconv.Itoa1
import Derived.Shelf.LaysM
import Derived.Shelf.Strconv.Itoa2
import Derived.Shelf.Strconv.Itoa3
import Derived.Shelf.Strconv.AtoiErrFast
import Derived.Shelf.Strconv.ParseIntEmpty
import Derived.Shelf.Strconv.AtoiFail
import Derived.Shelf.Strconv.Clone
import Derived.Shelf.Strconv.SyntaxError
import Derived.Shelf.LaysC
import Derived.Shelf.Strconv.ToError
import Derived.Shelf.Strconv.Lower
import Derived.Shelf.Strconv.ParseUint10
import Derived.Shelf.Strconv.ParseUint10Empty
import Derived.Shelf.Strconv.ParseUint10Any
import Derived.Shelf.Strconv.ParseInt10
import Derived.Shelf.Strconv.AtoiLong
import Derived.Shelf.Strconv.AtoiInnerAll
import Derived.Shelf.Strconv.RangeError
import Derived.Shelf.Strconv.ToErrorRange
import Derived.Shelf.Strconv.AtoiAll
import Derived.Shelf.Strconv.ErrVarAll
import Derived.Shelf.Strings.Search1
import Derived.Shelf.Strings.Search2
import Derived.Shelf.Strings.Search3
import Derived.Shelf.Strings.Shaped
import Derived.Shelf.Strings.Prefix
import Derived.Shelf.Strings.Runes
import Derived.Shelf.Bits.Mul64
import Derived.Test.YtgpibcgebpgmiaaGreatDoorProg
import Derived.Test.YtgpibcgebpgmiaaGreatDoorRows
import Derived.MapKept
import Derived.Laws.StructEq
import Derived.ChangeKeysEq
import Derived.Laws.RangeString
import Derived.Laws.RangeAny
set_option linter.unusedVariables false
set_option linter.unusedSimpArgs false
namespace Go.Proofs
open Go.Shelf
def Tryz.lays169_ren : Go.Shelf.Ren := ⟨fun | 169 => 33 | n => n, fun | 70 => 68 | 9 => 9 | 0 => 0 | 72 => 70 | 37 => 42 | 127 => 142 | 3 => 3 | 5 => 5 | n => n, fun | n => n⟩
theorem Tryz.lays169 : Go.Proofs.Lays.n169 Tryz.prog Tryz.lays169_ren := {
 mixed := by kernel_rfl
 f169 := Tryz.func33.trans (congrArg some (by kernel_rfl))
 t0 := Tryz.underlying0
 a0 := Tryz.isAgg0
 z0 := Tryz.sizeOf0
 v0 := Tryz.zeroValue0
 t3 := Tryz.underlying3
 a3 := Tryz.isAgg3
 z3 := Tryz.sizeOf3
 v3 := Tryz.zeroValue3
 t9 := Tryz.underlying9
 a9 := Tryz.isAgg9
 z9 := Tryz.sizeOf9
 v9 := Tryz.zeroValue9
 t37 := Tryz.underlying42
 a37 := Tryz.isAgg42
 z37 := Tryz.sizeOf42
 v37 := Tryz.zeroValue42
 t70 := Tryz.underlying68
 a70 := Tryz.isAgg68
 z70 := Tryz.sizeOf68
 v70 := Tryz.zeroValue68
 t72 := Tryz.underlying70
 a72 := Tryz.isAgg70
 z72 := Tryz.sizeOf70
 v72 := Tryz.zeroValue70
 t127 := Tryz.underlying142
 a127 := Tryz.isAgg142
 z127 := Tryz.sizeOf142
 v127 := Tryz.zeroValue142 }
theorem Tryz.Builder_Extra_169 : Builder.Extra Tryz.prog Tryz.lays169_ren := {
 sizeBuilder := by kernel_rfl
 liesBuilder := by kernel_rfl
 t5 := Tryz.underlying5
 a5 := Tryz.isAgg5
 z5 := Tryz.sizeOf5
 v5 := Tryz.zeroValue5
 infoByte := by kernel_rfl
 cellsByte := by kernel_rfl
 sizeByte := by kernel_rfl
 neB5 := by decide }
open Go.RowKit in
theorem Tryz.Builder_String_any (B b : Nat) (l : List UInt8) (w : World) (h : Lib.IsBuilder 70 5 B b (Lib.byteCells l) w) (hBw : B ≤ w.heap.size) :
 Calls Tryz.prog 33 #[.pointer (some ⟨b, 0, none⟩)] w fun e w' => e = .returned (.string ⟨l.toArray⟩) ∧ Below B w w' := Any.Builder_String_any Tryz.lays169 Tryz.Builder_Extra_169 B b l w h hBw
def Tryz.lays156_ren : Go.Shelf.Ren := ⟨fun | 156 => 91 | 165 => 133 | 166 => 30 | 169 => 33 | 240 => 82 | 241 => 175 | 276 => 129 | 277 => 207 | n => n, fun | 31 => 56 | 9 => 9 | 3 => 3 | 4 => 4 | 0 => 0 | 20 => 20 | 72 => 70 | 76 => 73 | 70 => 68 | 37 => 42 | 75 => 72 | 127 => 142 | 164 => 175 | 5 => 5 | 80 => 77 | n => n, fun | n => n⟩
theorem Tryz.lays156 : Go.Proofs.Lays.n156 Tryz.prog Tryz.lays156_ren := {
 mixed := by kernel_rfl
 f156 := Tryz.func91.trans (congrArg some (by kernel_rfl))
 f165 := Tryz.func133.trans (congrArg some (by kernel_rfl))
 f166 := Tryz.func30.trans (congrArg some (by kernel_rfl))
 f169 := Tryz.func33.trans (congrArg some (by kernel_rfl))
 f240 := Tryz.func82.trans (congrArg some (by kernel_rfl))
 f241 := Tryz.func175.trans (congrArg some (by kernel_rfl))
 f276 := Tryz.func129.trans (congrArg some (by kernel_rfl))
 f277 := Tryz.func207.trans (congrArg some (by kernel_rfl))
 t0 := Tryz.underlying0
 a0 := Tryz.isAgg0
 z0 := Tryz.sizeOf0
 v0 := Tryz.zeroValue0
 t3 := Tryz.underlying3
 a3 := Tryz.isAgg3
 z3 := Tryz.sizeOf3
 v3 := Tryz.zeroValue3
 t4 := Tryz.underlying4
 a4 := Tryz.isAgg4
 z4 := Tryz.sizeOf4
 v4 := Tryz.zeroValue4
 t9 := Tryz.underlying9
 a9 := Tryz.isAgg9
 z9 := Tryz.sizeOf9
 v9 := Tryz.zeroValue9
 t20 := Tryz.underlying20
 a20 := Tryz.isAgg20
 z20 := Tryz.sizeOf20
 v20 := Tryz.zeroValue20
 t31 := Tryz.underlying56
 a31 := Tryz.isAgg56
 z31 := Tryz.sizeOf56
 v31 := Tryz.zeroValue56
 t37 := Tryz.underlying42
 a37 := Tryz.isAgg42
 z37 := Tryz.sizeOf42
 v37 := Tryz.zeroValue42
 t70 := Tryz.underlying68
 a70 := Tryz.isAgg68
 z70 := Tryz.sizeOf68
 v70 := Tryz.zeroValue68
 t72 := Tryz.underlying70
 a72 := Tryz.isAgg70
 z72 := Tryz.sizeOf70
 v72 := Tryz.zeroValue70
 t75 := Tryz.underlying72
 a75 := Tryz.isAgg72
 z75 := Tryz.sizeOf72
 v75 := Tryz.zeroValue72
 t76 := Tryz.underlying73
 a76 := Tryz.isAgg73
 z76 := Tryz.sizeOf73
 v76 := Tryz.zeroValue73
 t127 := Tryz.underlying142
 a127 := Tryz.isAgg142
 z127 := Tryz.sizeOf142
 v127 := Tryz.zeroValue142
 t164 := Tryz.underlying175
 a164 := Tryz.isAgg175
 z164 := Tryz.sizeOf175
 v164 := Tryz.zeroValue175 }
theorem Tryz.Builder_Extra_156 : Builder.Extra Tryz.prog Tryz.lays156_ren := {
 sizeBuilder := by kernel_rfl
 liesBuilder := by kernel_rfl
 t5 := Tryz.underlying5
 a5 := Tryz.isAgg5
 z5 := Tryz.sizeOf5
 v5 := Tryz.zeroValue5
 infoByte := by kernel_rfl
 cellsByte := by kernel_rfl
 sizeByte := by kernel_rfl
 neB5 := by decide }
open Go.RowKit in
theorem Tryz.strings_Join_none (a : Option Addr) (c : Nat) (sep : ByteArray) (w : World) :
 Calls Tryz.prog 91 #[.slice a 0 c, .string sep] w fun e w' => e = .returned (.string ⟨#[]⟩) ∧ w' = w := Any.strings_Join_none Tryz.lays156 Tryz.Builder_Extra_156 a c sep w
open Go.RowKit in
theorem Tryz.strings_Join (bk o c : Nat) (xs : List ByteArray) (sep : ByteArray) (w : World) (hcells : ∀ (j : Nat) x, xs[j]? = some x → w.cell? ⟨bk, o + j, none⟩ = some (.string x)) (hbk : bk < w.heap.size) (hN : xs.length ≤ 140737488355328) (hcap : xs.length ≤ c) (hlen : (Lib.join (xs.map (·.data.toList)) sep.data.toList).length ≤ 140737488355328) :
 Calls Tryz.prog 91 #[.slice (some ⟨bk, o, none⟩) xs.length c, .string sep] w fun e w' => e = .returned (.string ⟨(Lib.join (xs.map (·.data.toList)) sep.data.toList).toArray⟩) ∧ Below w.heap.size w w' := Any.strings_Join Tryz.lays156 Tryz.Builder_Extra_156 bk o c xs sep w hcells hbk hN hcap hlen
def Tryz.lays119_ren : Go.Shelf.Ren := ⟨fun | 119 => 190 | n => n, fun | 21 => 21 | 4 => 4 | n => n, fun | n => n⟩
theorem Tryz.lays119 : Go.Proofs.Lays.n119 Tryz.prog Tryz.lays119_ren := {
 mixed := by kernel_rfl
 f119 := Tryz.func190.trans (congrArg some (by kernel_rfl))
 t4 := Tryz.underlying4
 a4 := Tryz.isAgg4
 z4 := Tryz.sizeOf4
 v4 := Tryz.zeroValue4
 t21 := Tryz.underlying21
 a21 := Tryz.isAgg21
 z21 := Tryz.sizeOf21
 v21 := Tryz.zeroValue21 }
theorem Tryz.utf8_ValidRune (r : Int) (w : World) :
 Calls Tryz.prog 190 #[.int .i32 r] w fun e w' => e = .returned (.bool (Lib.validRune r)) ∧ w' = w := Any.utf8_ValidRune Tryz.lays119 r w
def Tryz.lays137_ren : Go.Shelf.Ren := ⟨fun | 137 => 156 | 217 => 189 | 266 => 210 | n => n, fun | 9 => 9 | 5 => 5 | 3 => 3 | n => n, fun | n => n⟩
theorem Tryz.lays137 : Go.Proofs.Lays.n137 Tryz.prog Tryz.lays137_ren := {
 mixed := by kernel_rfl
 f137 := Tryz.func156.trans (congrArg some (by kernel_rfl))
 f217 := Tryz.func189.trans (congrArg some (by kernel_rfl))
 f266 := Tryz.func210.trans (congrArg some (by kernel_rfl))
 t3 := Tryz.underlying3
 a3 := Tryz.isAgg3
 z3 := Tryz.sizeOf3
 v3 := Tryz.zeroValue3
 t5 := Tryz.underlying5
 a5 := Tryz.isAgg5
 z5 := Tryz.sizeOf5
 v5 := Tryz.zeroValue5
 t9 := Tryz.underlying9
 a9 := Tryz.isAgg9
 z9 := Tryz.sizeOf9
 v9 := Tryz.zeroValue9 }
open Go.RowKit in
theorem Tryz.strings_IndexByte (s : ByteArray) (c : Int) (w : World) :
 Calls Tryz.prog 156 #[.string s, .int .u8 c] w fun e w' => e = .returned (.int .i64 (Lib.indexByte s.data.toList c.toNat.toUInt8)) ∧ w' = w := Any.strings_IndexByte Tryz.lays137 s c w
def Tryz.lays214_ren : Go.Shelf.Ren := ⟨fun | 214 => 136 | n => n, fun | 4 => 4 | 9 => 9 | n => n, fun | n => n⟩
def Tryz.lays121_ren : Go.Shelf.Ren := ⟨fun | 121 => 88 | 214 => 136 | n => n, fun | 4 => 4 | 9 => 9 | n => n, fun | n => n⟩
theorem Tryz.lays121 : Go.Proofs.Lays.n121 Tryz.prog Tryz.lays121_ren := {
 mixed := by kernel_rfl
 f121 := Tryz.func88.trans (congrArg some (by kernel_rfl))
 f214 := Tryz.func136.trans (congrArg some (by kernel_rfl))
 t4 := Tryz.underlying4
 a4 := Tryz.isAgg4
 z4 := Tryz.sizeOf4
 v4 := Tryz.zeroValue4
 t9 := Tryz.underlying9
 a9 := Tryz.isAgg9
 z9 := Tryz.sizeOf9
 v9 := Tryz.zeroValue9 }
open Go.RowKit in
theorem Tryz.strconv_FormatBool (b : Bool) (w : World) :
 Calls Tryz.prog 88 #[.bool b] w fun e w' => e = .returned (.string ⟨(Lib.formatBool b).toArray⟩) ∧ w' = w := Any.strconv_FormatBool Tryz.lays121 b w
def Tryz.lays172_ren : Go.Shelf.Ren := ⟨fun | 172 => 159 | 244 => 193 | 245 => 194 | 247 => 211 | 279 => 212 | 280 => 213 | 281 => 214 | 282 => 215 | 287 => 224 | 316 => 225 | 171 => 85 | 205 => 226 | 321 => 230 | 322 => 231 | 243 => 130 | 246 => 171 | 283 => 203 | 284 => 204 | 285 => 205 | 286 => 206 | 129 => 155 | 317 => 219 | 318 => 220 | 319 => 221 | 320 => 222 | 337 => 228 | 338 => 229 | n => n, fun | 9 => 9 | 3 => 3 | 75 => 72 | 76 => 73 | 4 => 4 | 5 => 5 | 167 => 227 | 37 => 42 | 0 => 0 | 85 => 228 | 2 => 2 | 168 => 230 | 53 => 97 | 175 => 239 | 46 => 99 | 210 => 243 | 127 => 142 | 145 => 248 | 143 => 246 | 21 => 21 | 171 => 219 | 173 => 221 | 212 => 236 | 51 => 198 | 20 => 20 | 213 => 237 | 232 => 250 | 233 => 251 | 80 => 77 | n => n, fun | 15 => 3 | 16 => 4 | 17 => 2 | 18 => 6 | 19 => 7 | n => n⟩
def Tryz.laysM246_ren : Go.Shelf.Ren := ⟨fun | 246 => 171 | 283 => 203 | 284 => 204 | 285 => 205 | 286 => 206 | 129 => 155 | 317 => 219 | 318 => 220 | 319 => 221 | 320 => 222 | 337 => 228 | 338 => 229 | n => n, fun | 2 => 2 | 3 => 3 | 9 => 9 | 4 => 4 | 171 => 219 | 0 => 0 | 53 => 97 | 37 => 42 | 5 => 5 | 173 => 221 | 212 => 236 | 51 => 198 | 20 => 20 | 213 => 237 | 46 => 99 | 232 => 250 | 233 => 251 | n => n, fun | 17 => 2 | 18 => 6 | 19 => 7 | n => n⟩
def Tryz.laysM243_ren : Go.Shelf.Ren := ⟨fun | 243 => 130 | 246 => 171 | 283 => 203 | 284 => 204 | 285 => 205 | 286 => 206 | 129 => 155 | 317 => 219 | 318 => 220 | 319 => 221 | 320 => 222 | 337 => 228 | 338 => 229 | n => n, fun | 3 => 3 | 9 => 9 | 2 => 2 | 4 => 4 | 171 => 219 | 0 => 0 | 53 => 97 | 37 => 42 | 5 => 5 | 173 => 221 | 212 => 236 | 51 => 198 | 20 => 20 | 213 => 237 | 46 => 99 | 232 => 250 | 233 => 251 | n => n, fun | 17 => 2 | 18 => 6 | 19 => 7 | n => n⟩
def Tryz.laysM171_ren : Go.Shelf.Ren := ⟨fun | 171 => 85 | 243 => 130 | 246 => 171 | 283 => 203 | 284 => 204 | 285 => 205 | 286 => 206 | 129 => 155 | 317 => 219 | 318 => 220 | 319 => 221 | 320 => 222 | 337 => 228 | 338 => 229 | n => n, fun | 3 => 3 | 9 => 9 | 2 => 2 | 4 => 4 | 171 => 219 | 0 => 0 | 53 => 97 | 37 => 42 | 5 => 5 | 173 => 221 | 212 => 236 | 51 => 198 | 20 => 20 | 213 => 237 | 46 => 99 | 232 => 250 | 233 => 251 | n => n, fun | 17 => 2 | 18 => 6 | 19 => 7 | n => n⟩
theorem Tryz.laysM171 : Go.Proofs.LaysM.n171 Tryz.prog Tryz.laysM171_ren := {
 mixed := by kernel_rfl
 f129 := Tryz.func155.trans (congrArg some (by kernel_rfl))
 f171 := Tryz.func85.trans (congrArg some (by kernel_rfl))
 f243 := Tryz.func130.trans (congrArg some (by kernel_rfl))
 f246 := Tryz.func171.trans (congrArg some (by kernel_rfl))
 f283 := Tryz.func203.trans (congrArg some (by kernel_rfl))
 f284 := Tryz.func204.trans (congrArg some (by kernel_rfl))
 f285 := Tryz.func205.trans (congrArg some (by kernel_rfl))
 f286 := Tryz.func206.trans (congrArg some (by kernel_rfl))
 f317 := Tryz.func219.trans (congrArg some (by kernel_rfl))
 f318 := Tryz.func220.trans (congrArg some (by kernel_rfl))
 f319 := Tryz.func221.trans (congrArg some (by kernel_rfl))
 f320 := Tryz.func222.trans (congrArg some (by kernel_rfl))
 f337 := Tryz.func228.trans (congrArg some (by kernel_rfl))
 f338 := Tryz.func229.trans (congrArg some (by kernel_rfl))
 t0 := Tryz.underlying0
 a0 := Tryz.isAgg0
 z0 := Tryz.sizeOf0
 v0 := Tryz.zeroValue0
 t2 := Tryz.underlying2
 a2 := Tryz.isAgg2
 z2 := Tryz.sizeOf2
 v2 := Tryz.zeroValue2
 t3 := Tryz.underlying3
 a3 := Tryz.isAgg3
 z3 := Tryz.sizeOf3
 v3 := Tryz.zeroValue3
 t4 := Tryz.underlying4
 a4 := Tryz.isAgg4
 z4 := Tryz.sizeOf4
 v4 := Tryz.zeroValue4
 t5 := Tryz.underlying5
 a5 := Tryz.isAgg5
 z5 := Tryz.sizeOf5
 v5 := Tryz.zeroValue5
 t9 := Tryz.underlying9
 a9 := Tryz.isAgg9
 z9 := Tryz.sizeOf9
 v9 := Tryz.zeroValue9
 t20 := Tryz.underlying20
 a20 := Tryz.isAgg20
 z20 := Tryz.sizeOf20
 v20 := Tryz.zeroValue20
 t37 := Tryz.underlying42
 a37 := Tryz.isAgg42
 z37 := Tryz.sizeOf42
 v37 := Tryz.zeroValue42
 t46 := Tryz.underlying99
 a46 := Tryz.isAgg99
 z46 := Tryz.sizeOf99
 v46 := Tryz.zeroValue99
 t51 := Tryz.underlying198
 a51 := Tryz.isAgg198
 z51 := Tryz.sizeOf198
 v51 := Tryz.zeroValue198
 t53 := Tryz.underlying97
 a53 := Tryz.isAgg97
 z53 := Tryz.sizeOf97
 v53 := Tryz.zeroValue97
 t171 := Tryz.underlying219
 a171 := Tryz.isAgg219
 z171 := Tryz.sizeOf219
 v171 := Tryz.zeroValue219
 t173 := Tryz.underlying221
 a173 := Tryz.isAgg221
 z173 := Tryz.sizeOf221
 v173 := Tryz.zeroValue221
 t212 := Tryz.underlying236
 a212 := Tryz.isAgg236
 z212 := Tryz.sizeOf236
 v212 := Tryz.zeroValue236
 t213 := Tryz.underlying237
 a213 := Tryz.isAgg237
 z213 := Tryz.sizeOf237
 t232 := Tryz.underlying250
 a232 := Tryz.isAgg250
 z232 := Tryz.sizeOf250
 v232 := Tryz.zeroValue250
 t233 := Tryz.underlying251
 a233 := Tryz.isAgg251
 z233 := Tryz.sizeOf251
 v233 := Tryz.zeroValue251
 g17 := by kernel_rfl
 g18 := by kernel_rfl
 g19 := by kernel_rfl
 i0 := by kernel_rfl
 i2 := by kernel_rfl
 i3 := by kernel_rfl
 i4 := by kernel_rfl
 i5 := by kernel_rfl
 i9 := by kernel_rfl
 i20 := by kernel_rfl
 i37 := by kernel_rfl
 i46 := by kernel_rfl
 i51 := by kernel_rfl
 i53 := by kernel_rfl
 i171 := by kernel_rfl
 i173 := by kernel_rfl
 i212 := by kernel_rfl
 i232 := by kernel_rfl
 i233 := by kernel_rfl
 m17 := by kernel_rfl
 m18 := by kernel_rfl
 m19 := by kernel_rfl }
open Go.RowKit Go.Sort Go.Lib in
theorem Tryz.strconv_Itoa (n : Int) (h0 : -9223372036854775808 ≤ n) (h1 : n ≤ 9223372036854775807) (w : World) (htab : Lib.TabIs Tryz.prog w "internal/strconv.uint64pow10" .u64 Lib.pow10Tab) :
 Calls Tryz.prog 85 #[.int .i64 n] w fun e w' => e = .returned (.string ⟨(Lib.itoa n).toArray⟩) ∧ ∃ k os, w' = grow (w.drewN k) os := Any.strconv_Itoa Tryz.laysM171 n h0 h1 w htab
def Tryz.laysC172_ren : Go.Shelf.Ren := ⟨fun | 172 => 159 | 244 => 193 | 245 => 194 | 247 => 211 | 279 => 212 | 280 => 213 | 281 => 214 | 282 => 215 | 287 => 224 | 316 => 225 | 171 => 85 | 205 => 226 | 321 => 230 | 322 => 231 | 243 => 130 | 246 => 171 | 283 => 203 | 284 => 204 | 285 => 205 | 286 => 206 | 129 => 155 | 317 => 219 | 318 => 220 | 319 => 221 | 320 => 222 | 337 => 228 | 338 => 229 | n => n, fun | 9 => 9 | 3 => 3 | 75 => 72 | 76 => 73 | 4 => 4 | 5 => 5 | 167 => 227 | 37 => 42 | 0 => 0 | 85 => 228 | 2 => 2 | 168 => 230 | 53 => 97 | 175 => 239 | 46 => 99 | 210 => 243 | 127 => 142 | 145 => 248 | 143 => 246 | 21 => 21 | 171 => 219 | 173 => 221 | 212 => 236 | 51 => 198 | 20 => 20 | 213 => 237 | 232 => 250 | 233 => 251 | 80 => 77 | n => n, fun | 15 => 3 | 16 => 4 | 17 => 2 | 18 => 6 | 19 => 7 | n => n⟩
theorem Tryz.laysC172 : Go.Proofs.LaysC.n172 Tryz.prog Tryz.laysC172_ren := {
 mixed := by kernel_rfl
 f129 := Tryz.func155.trans (congrArg some (by kernel_rfl))
 f171 := Tryz.func85.trans (congrArg some (by kernel_rfl))
 f172 := Tryz.func159.trans (congrArg some (by kernel_rfl))
 f205 := Tryz.func226.trans (congrArg some (by kernel_rfl))
 f243 := Tryz.func130.trans (congrArg some (by kernel_rfl))
 f244 := Tryz.func193.trans (congrArg some (by kernel_rfl))
 f245 := Tryz.func194.trans (congrArg some (by kernel_rfl))
 f246 := Tryz.func171.trans (congrArg some (by kernel_rfl))
 f247 := Tryz.func211.trans (congrArg some (by kernel_rfl))
 f279 := Tryz.func212.trans (congrArg some (by kernel_rfl))
 f280 := Tryz.func213.trans (congrArg some (by kernel_rfl))
 f281 := Tryz.func214.trans (congrArg some (by kernel_rfl))
 f282 := Tryz.func215.trans (congrArg some (by kernel_rfl))
 f283 := Tryz.func203.trans (congrArg some (by kernel_rfl))
 f284 := Tryz.func204.trans (congrArg some (by kernel_rfl))
 f285 := Tryz.func205.trans (congrArg some (by kernel_rfl))
 f286 := Tryz.func206.trans (congrArg some (by kernel_rfl))
 f287 := Tryz.func224.trans (congrArg some (by kernel_rfl))
 f316 := Tryz.func225.trans (congrArg some (by kernel_rfl))
 f317 := Tryz.func219.trans (congrArg some (by kernel_rfl))
 f318 := Tryz.func220.trans (congrArg some (by kernel_rfl))
 f319 := Tryz.func221.trans (congrArg some (by kernel_rfl))
 f320 := Tryz.func222.trans (congrArg some (by kernel_rfl))
 f321 := Tryz.func230.trans (congrArg some (by kernel_rfl))
 f322 := Tryz.func231.trans (congrArg some (by kernel_rfl))
 f337 := Tryz.func228.trans (congrArg some (by kernel_rfl))
 f338 := Tryz.func229.trans (congrArg some (by kernel_rfl))
 t0 := Tryz.underlying0
 a0 := Tryz.isAgg0
 z0 := Tryz.sizeOf0
 v0 := Tryz.zeroValue0
 t2 := Tryz.underlying2
 a2 := Tryz.isAgg2
 z2 := Tryz.sizeOf2
 v2 := Tryz.zeroValue2
 t3 := Tryz.underlying3
 a3 := Tryz.isAgg3
 z3 := Tryz.sizeOf3
 v3 := Tryz.zeroValue3
 t4 := Tryz.underlying4
 a4 := Tryz.isAgg4
 z4 := Tryz.sizeOf4
 v4 := Tryz.zeroValue4
 t5 := Tryz.underlying5
 a5 := Tryz.isAgg5
 z5 := Tryz.sizeOf5
 v5 := Tryz.zeroValue5
 t9 := Tryz.underlying9
 a9 := Tryz.isAgg9
 z9 := Tryz.sizeOf9
 v9 := Tryz.zeroValue9
 t20 := Tryz.underlying20
 a20 := Tryz.isAgg20
 z20 := Tryz.sizeOf20
 v20 := Tryz.zeroValue20
 t21 := Tryz.underlying21
 a21 := Tryz.isAgg21
 z21 := Tryz.sizeOf21
 v21 := Tryz.zeroValue21
 t37 := Tryz.underlying42
 a37 := Tryz.isAgg42
 z37 := Tryz.sizeOf42
 v37 := Tryz.zeroValue42
 t46 := Tryz.underlying99
 a46 := Tryz.isAgg99
 z46 := Tryz.sizeOf99
 v46 := Tryz.zeroValue99
 t51 := Tryz.underlying198
 a51 := Tryz.isAgg198
 z51 := Tryz.sizeOf198
 v51 := Tryz.zeroValue198
 t53 := Tryz.underlying97
 a53 := Tryz.isAgg97
 z53 := Tryz.sizeOf97
 v53 := Tryz.zeroValue97
 t75 := Tryz.underlying72
 a75 := Tryz.isAgg72
 z75 := Tryz.sizeOf72
 v75 := Tryz.zeroValue72
 t76 := Tryz.underlying73
 a76 := Tryz.isAgg73
 z76 := Tryz.sizeOf73
 v76 := Tryz.zeroValue73
 t85 := Tryz.underlying228
 a85 := Tryz.isAgg228
 z85 := Tryz.sizeOf228
 v85 := Tryz.zeroValue228
 t127 := Tryz.underlying142
 a127 := Tryz.isAgg142
 z127 := Tryz.sizeOf142
 v127 := Tryz.zeroValue142
 t143 := Tryz.underlying246
 a143 := Tryz.isAgg246
 z143 := Tryz.sizeOf246
 v143 := Tryz.zeroValue246
 t145 := Tryz.underlying248
 a145 := Tryz.isAgg248
 z145 := Tryz.sizeOf248
 v145 := Tryz.zeroValue248
 t167 := Tryz.underlying227
 a167 := Tryz.isAgg227
 z167 := Tryz.sizeOf227
 v167 := Tryz.zeroValue227
 t168 := Tryz.underlying230
 a168 := Tryz.isAgg230
 z168 := Tryz.sizeOf230
 v168 := Tryz.zeroValue230
 t171 := Tryz.underlying219
 a171 := Tryz.isAgg219
 z171 := Tryz.sizeOf219
 v171 := Tryz.zeroValue219
 t173 := Tryz.underlying221
 a173 := Tryz.isAgg221
 z173 := Tryz.sizeOf221
 v173 := Tryz.zeroValue221
 t175 := Tryz.underlying239
 a175 := Tryz.isAgg239
 z175 := Tryz.sizeOf239
 v175 := Tryz.zeroValue239
 t210 := Tryz.underlying243
 a210 := Tryz.isAgg243
 z210 := Tryz.sizeOf243
 v210 := Tryz.zeroValue243
 t212 := Tryz.underlying236
 a212 := Tryz.isAgg236
 z212 := Tryz.sizeOf236
 v212 := Tryz.zeroValue236
 t213 := Tryz.underlying237
 a213 := Tryz.isAgg237
 z213 := Tryz.sizeOf237
 t232 := Tryz.underlying250
 a232 := Tryz.isAgg250
 z232 := Tryz.sizeOf250
 v232 := Tryz.zeroValue250
 t233 := Tryz.underlying251
 a233 := Tryz.isAgg251
 z233 := Tryz.sizeOf251
 v233 := Tryz.zeroValue251
 g15 := by kernel_rfl
 g16 := by kernel_rfl
 g17 := by kernel_rfl
 g18 := by kernel_rfl
 g19 := by kernel_rfl
 t80 := Tryz.underlying77
 a80 := Tryz.isAgg77
 z80 := Tryz.sizeOf77
 v80 := Tryz.zeroValue77
 i0 := by kernel_rfl
 i2 := by kernel_rfl
 i3 := by kernel_rfl
 i4 := by kernel_rfl
 i5 := by kernel_rfl
 i9 := by kernel_rfl
 i20 := by kernel_rfl
 i21 := by kernel_rfl
 i37 := by kernel_rfl
 i46 := by kernel_rfl
 i51 := by kernel_rfl
 i53 := by kernel_rfl
 i75 := by kernel_rfl
 i76 := by kernel_rfl
 i80 := by kernel_rfl
 i85 := by kernel_rfl
 i127 := by kernel_rfl
 i143 := by kernel_rfl
 i145 := by kernel_rfl
 i167 := by kernel_rfl
 i168 := by kernel_rfl
 i171 := by kernel_rfl
 i173 := by kernel_rfl
 i175 := by kernel_rfl
 i210 := by kernel_rfl
 i212 := by kernel_rfl
 i232 := by kernel_rfl
 i233 := by kernel_rfl
 m15 := by kernel_rfl
 m16 := by kernel_rfl
 m17 := by kernel_rfl
 m18 := by kernel_rfl
 m19 := by kernel_rfl
 c0 := by kernel_rfl
 c2 := by kernel_rfl
 c3 := by kernel_rfl
 c4 := by kernel_rfl
 c5 := by kernel_rfl
 c9 := by kernel_rfl
 c20 := by kernel_rfl
 c21 := by kernel_rfl
 c37 := by kernel_rfl
 c46 := by kernel_rfl
 c51 := by kernel_rfl
 c53 := by kernel_rfl
 c75 := by kernel_rfl
 c76 := by kernel_rfl
 c80 := by kernel_rfl
 c85 := by kernel_rfl
 c127 := by kernel_rfl
 c143 := by kernel_rfl
 c145 := by kernel_rfl
 c167 := by kernel_rfl
 c168 := by kernel_rfl
 c171 := by kernel_rfl
 c173 := by kernel_rfl
 c175 := by kernel_rfl
 c210 := by kernel_rfl
 c212 := by kernel_rfl
 c213 := by kernel_rfl
 c232 := by kernel_rfl
 c233 := by kernel_rfl }
open Go.RowKit in
theorem Tryz.strconv_Atoi_ok (s : ByteArray) (hmax : s.size ≤ 9223372036854775806) (v : Int) (h : Lib.atoiAll s.data.toList = .ok v) (w : World) :
 Calls Tryz.prog 159 #[.string s] w fun e w' => e = .returned (.tuple #[.int .i64 v, .nilIface]) ∧ (w' = w ∨ ∃ t, w' = Lib.bytesWorld w 5 t) := Any.strconv_Atoi_ok Tryz.laysC172 s hmax v h w
open Go.RowKit in
theorem Tryz.strconv_Atoi_range (s : ByteArray) (hlim : s.size ≤ 281474976710656) (h : Lib.atoiAll s.data.toList = .range) (ev : Value) (w : World) (hv : w.cell? ⟨4, 0, none⟩ = some ev) (hev : ev = .nilIface ∨ ∃ te pe, ev = .iface te pe) :
 Calls Tryz.prog 159 #[.string s] w fun e w' => ∃ N, e = .returned (.tuple #[.int .i64 (Lib.atoiSat s.data.toList), .iface 230 (.pointer (some ⟨N, 0, none⟩))]) ∧ w.heap.size ≤ N ∧ w'.heap[N]? = some (.cells #[.string ⟨#[65, 116, 111, 105]⟩, .string s, ev] 243 (0, 0)) ∧ Below w.heap.size w w' := Any.strconv_Atoi_range Tryz.laysC172 s hlim h ev w hv hev
def Tryz.lays219_ren : Go.Shelf.Ren := ⟨fun | 219 => 182 | 217 => 189 | 225 => 192 | 224 => 191 | 267 => 208 | 266 => 210 | 314 => 223 | n => n, fun | 9 => 9 | 3 => 3 | 4 => 4 | 5 => 5 | 46 => 99 | 146 => 204 | 51 => 198 | n => n, fun | 1 => 1 | n => n⟩
def Tryz.lays144_ren : Go.Shelf.Ren := ⟨fun | 144 => 103 | 143 => 144 | 219 => 182 | 217 => 189 | 225 => 192 | 224 => 191 | 267 => 208 | 266 => 210 | 314 => 223 | n => n, fun | 9 => 9 | 4 => 4 | 3 => 3 | 5 => 5 | 46 => 99 | 146 => 204 | 51 => 198 | n => n, fun | 1 => 1 | n => n⟩
theorem Tryz.lays144 : Go.Proofs.Lays.n144 Tryz.prog Tryz.lays144_ren := {
 mixed := by kernel_rfl
 f143 := Tryz.func144.trans (congrArg some (by kernel_rfl))
 f144 := Tryz.func103.trans (congrArg some (by kernel_rfl))
 f217 := Tryz.func189.trans (congrArg some (by kernel_rfl))
 f219 := Tryz.func182.trans (congrArg some (by kernel_rfl))
 f224 := Tryz.func191.trans (congrArg some (by kernel_rfl))
 f225 := Tryz.func192.trans (congrArg some (by kernel_rfl))
 f266 := Tryz.func210.trans (congrArg some (by kernel_rfl))
 f267 := Tryz.func208.trans (congrArg some (by kernel_rfl))
 f314 := Tryz.func223.trans (congrArg some (by kernel_rfl))
 t3 := Tryz.underlying3
 a3 := Tryz.isAgg3
 z3 := Tryz.sizeOf3
 v3 := Tryz.zeroValue3
 t4 := Tryz.underlying4
 a4 := Tryz.isAgg4
 z4 := Tryz.sizeOf4
 v4 := Tryz.zeroValue4
 t5 := Tryz.underlying5
 a5 := Tryz.isAgg5
 z5 := Tryz.sizeOf5
 v5 := Tryz.zeroValue5
 t9 := Tryz.underlying9
 a9 := Tryz.isAgg9
 z9 := Tryz.sizeOf9
 v9 := Tryz.zeroValue9
 t46 := Tryz.underlying99
 a46 := Tryz.isAgg99
 z46 := Tryz.sizeOf99
 v46 := Tryz.zeroValue99
 t51 := Tryz.underlying198
 a51 := Tryz.isAgg198
 z51 := Tryz.sizeOf198
 v51 := Tryz.zeroValue198
 t146 := Tryz.underlying204
 a146 := Tryz.isAgg204
 z146 := Tryz.sizeOf204
 v146 := Tryz.zeroValue204
 g1 := by kernel_rfl }
open Go.RowKit Go.Lib in
theorem Tryz.strings_Contains (s sub : ByteArray) (m : Int) (w : World) (hs : s.size < 4294967281) (hm : w.cell? ⟨1, 0, none⟩ = some (.int .i64 m)) :
 Calls Tryz.prog 103 #[.string s, .string sub] w fun e w' => e = .returned (.bool (Lib.contains s.data.toList sub.data.toList)) ∧ w' = w := Any.strings_Contains Tryz.lays144 s sub m w hs hm
def Tryz.laysM144_ren : Go.Shelf.Ren := ⟨fun | 144 => 103 | 143 => 144 | 219 => 182 | 217 => 189 | 225 => 192 | 224 => 191 | 267 => 208 | 266 => 210 | 314 => 223 | n => n, fun | 9 => 9 | 4 => 4 | 3 => 3 | 5 => 5 | 46 => 99 | 146 => 204 | 51 => 198 | n => n, fun | 1 => 1 | n => n⟩
theorem Tryz.laysM144 : Go.Proofs.LaysM.n144 Tryz.prog Tryz.laysM144_ren := {
 mixed := by kernel_rfl
 f143 := Tryz.func144.trans (congrArg some (by kernel_rfl))
 f144 := Tryz.func103.trans (congrArg some (by kernel_rfl))
 f217 := Tryz.func189.trans (congrArg some (by kernel_rfl))
 f219 := Tryz.func182.trans (congrArg some (by kernel_rfl))
 f224 := Tryz.func191.trans (congrArg some (by kernel_rfl))
 f225 := Tryz.func192.trans (congrArg some (by kernel_rfl))
 f266 := Tryz.func210.trans (congrArg some (by kernel_rfl))
 f267 := Tryz.func208.trans (congrArg some (by kernel_rfl))
 f314 := Tryz.func223.trans (congrArg some (by kernel_rfl))
 t3 := Tryz.underlying3
 a3 := Tryz.isAgg3
 z3 := Tryz.sizeOf3
 v3 := Tryz.zeroValue3
 t4 := Tryz.underlying4
 a4 := Tryz.isAgg4
 z4 := Tryz.sizeOf4
 v4 := Tryz.zeroValue4
 t5 := Tryz.underlying5
 a5 := Tryz.isAgg5
 z5 := Tryz.sizeOf5
 v5 := Tryz.zeroValue5
 t9 := Tryz.underlying9
 a9 := Tryz.isAgg9
 z9 := Tryz.sizeOf9
 v9 := Tryz.zeroValue9
 t46 := Tryz.underlying99
 a46 := Tryz.isAgg99
 z46 := Tryz.sizeOf99
 v46 := Tryz.zeroValue99
 t51 := Tryz.underlying198
 a51 := Tryz.isAgg198
 z51 := Tryz.sizeOf198
 v51 := Tryz.zeroValue198
 t146 := Tryz.underlying204
 a146 := Tryz.isAgg204
 z146 := Tryz.sizeOf204
 v146 := Tryz.zeroValue204
 g1 := by kernel_rfl
 i3 := by kernel_rfl
 i4 := by kernel_rfl
 i5 := by kernel_rfl
 i9 := by kernel_rfl
 i46 := by kernel_rfl
 i51 := by kernel_rfl
 i146 := by kernel_rfl
 m1 := by kernel_rfl
 s1_3 := fun w h => Go.Proofs.cell_of_shapedOpen_int (zero := #[.int .i64 0]) (t := 3) h (of_decide_eq_true (by kernel_rfl)) (by kernel_rfl) rfl (by kernel_rfl) (by kernel_rfl) Tryz.underlying3 }
def Tryz.lays206_ren : Go.Shelf.Ren := ⟨fun | 206 => 174 | n => n, fun | 9 => 9 | 4 => 4 | 3 => 3 | n => n, fun | n => n⟩
def Tryz.lays99_ren : Go.Shelf.Ren := ⟨fun | 99 => 132 | 206 => 174 | n => n, fun | 9 => 9 | 4 => 4 | 3 => 3 | n => n, fun | n => n⟩
theorem Tryz.lays99 : Go.Proofs.Lays.n99 Tryz.prog Tryz.lays99_ren := {
 mixed := by kernel_rfl
 f99 := Tryz.func132.trans (congrArg some (by kernel_rfl))
 f206 := Tryz.func174.trans (congrArg some (by kernel_rfl))
 t3 := Tryz.underlying3
 a3 := Tryz.isAgg3
 z3 := Tryz.sizeOf3
 v3 := Tryz.zeroValue3
 t4 := Tryz.underlying4
 a4 := Tryz.isAgg4
 z4 := Tryz.sizeOf4
 v4 := Tryz.zeroValue4
 t9 := Tryz.underlying9
 a9 := Tryz.isAgg9
 z9 := Tryz.sizeOf9
 v9 := Tryz.zeroValue9 }
open Go.RowKit Go.Lib in
theorem Tryz.strings_HasPrefix (s p : ByteArray) (w : World) :
 Calls Tryz.prog 132 #[.string s, .string p] w fun e w' => e = .returned (.bool (Lib.hasPrefix s.data.toList p.data.toList)) ∧ w' = w := Any.strings_HasPrefix Tryz.lays99 s p w
def Tryz.lays151_ren : Go.Shelf.Ren := ⟨fun | 151 => 109 | 152 => 157 | 137 => 156 | 119 => 190 | 224 => 191 | 225 => 192 | 217 => 189 | 266 => 210 | n => n, fun | 9 => 9 | 21 => 21 | 4 => 4 | 3 => 3 | 5 => 5 | 0 => 0 | 46 => 99 | n => n, fun | n => n⟩
theorem Tryz.lays151 : Go.Proofs.Lays.n151 Tryz.prog Tryz.lays151_ren := {
 mixed := by kernel_rfl
 f119 := Tryz.func190.trans (congrArg some (by kernel_rfl))
 f137 := Tryz.func156.trans (congrArg some (by kernel_rfl))
 f151 := Tryz.func109.trans (congrArg some (by kernel_rfl))
 f152 := Tryz.func157.trans (congrArg some (by kernel_rfl))
 f217 := Tryz.func189.trans (congrArg some (by kernel_rfl))
 f224 := Tryz.func191.trans (congrArg some (by kernel_rfl))
 f225 := Tryz.func192.trans (congrArg some (by kernel_rfl))
 f266 := Tryz.func210.trans (congrArg some (by kernel_rfl))
 t0 := Tryz.underlying0
 a0 := Tryz.isAgg0
 z0 := Tryz.sizeOf0
 v0 := Tryz.zeroValue0
 t3 := Tryz.underlying3
 a3 := Tryz.isAgg3
 z3 := Tryz.sizeOf3
 v3 := Tryz.zeroValue3
 t4 := Tryz.underlying4
 a4 := Tryz.isAgg4
 z4 := Tryz.sizeOf4
 v4 := Tryz.zeroValue4
 t5 := Tryz.underlying5
 a5 := Tryz.isAgg5
 z5 := Tryz.sizeOf5
 v5 := Tryz.zeroValue5
 t9 := Tryz.underlying9
 a9 := Tryz.isAgg9
 z9 := Tryz.sizeOf9
 v9 := Tryz.zeroValue9
 t21 := Tryz.underlying21
 a21 := Tryz.isAgg21
 z21 := Tryz.sizeOf21
 v21 := Tryz.zeroValue21
 t46 := Tryz.underlying99
 a46 := Tryz.isAgg99
 z46 := Tryz.sizeOf99
 v46 := Tryz.zeroValue99 }
open Go.RowKit Go.Lib in
theorem Tryz.strings_ContainsRune_ascii (s : ByteArray) (r : Int) (w : World) (h0 : 0 ≤ r) (h1 : r < 128) :
 Calls Tryz.prog 109 #[.string s, .int .i32 r] w fun e w' => e = .returned (.bool (decide (0 ≤ Lib.indexByte s.data.toList r.toNat.toUInt8))) ∧ w' = w := Any.strings_ContainsRune_ascii Tryz.lays151 s r w h0 h1
end Go.Proofs
namespace Go.Proofs.YtgpibcgebpgmiaaGreatDoor
open Go Go.Eng
theorem mixed : Tryz.prog.follows .mixedOrders = true := by kernel_rfl
abbrev und3 := Und.mk (P := Tryz.prog) (t := 3) Tryz.underlying3
attribute [instance] und3
instance siz3 : Siz Tryz.prog 3 1 := ⟨by kernel_rfl⟩
instance byt3 : Byt Tryz.prog 3 8 := ⟨by kernel_rfl⟩
instance zer3 : Zer Tryz.prog 3 (.int .i64 0) := ⟨by kernel_rfl⟩
abbrev und4 := Und.mk (P := Tryz.prog) (t := 4) Tryz.underlying4
attribute [instance] und4
instance siz4 : Siz Tryz.prog 4 1 := ⟨by kernel_rfl⟩
instance byt4 : Byt Tryz.prog 4 1 := ⟨by kernel_rfl⟩
instance zer4 : Zer Tryz.prog 4 (.bool false) := ⟨by kernel_rfl⟩
abbrev und5 := Und.mk (P := Tryz.prog) (t := 5) Tryz.underlying5
attribute [instance] und5
instance siz5 : Siz Tryz.prog 5 1 := ⟨by kernel_rfl⟩
instance byt5 : Byt Tryz.prog 5 1 := ⟨by kernel_rfl⟩
instance zer5 : Zer Tryz.prog 5 (.int .u8 0) := ⟨by kernel_rfl⟩
abbrev und9 := Und.mk (P := Tryz.prog) (t := 9) Tryz.underlying9
attribute [instance] und9
instance siz9 : Siz Tryz.prog 9 1 := ⟨by kernel_rfl⟩
instance byt9 : Byt Tryz.prog 9 16 := ⟨by kernel_rfl⟩
instance zer9 : Zer Tryz.prog 9 (.string ByteArray.empty) := ⟨by kernel_rfl⟩
abbrev und20 := Und.mk (P := Tryz.prog) (t := 20) Tryz.underlying20
attribute [instance] und20
abbrev und21 := Und.mk (P := Tryz.prog) (t := 21) Tryz.underlying21
attribute [instance] und21
abbrev und22 := Und.mk (P := Tryz.prog) (t := 22) Tryz.underlying22
attribute [instance] und22
instance siz22 : Siz Tryz.prog 22 1 := ⟨by kernel_rfl⟩
instance byt22 : Byt Tryz.prog 22 24 := ⟨by kernel_rfl⟩
instance zer22 : Zer Tryz.prog 22 (.slice none 0 0) := ⟨by kernel_rfl⟩
abbrev und23 := Und.mk (P := Tryz.prog) (t := 23) Tryz.underlying23
attribute [instance] und23
instance siz23 : Siz Tryz.prog 23 1 := ⟨by kernel_rfl⟩
instance zer23 : Zer Tryz.prog 23 (.slice none 0 0) := ⟨by kernel_rfl⟩
abbrev und24 := Und.mk (P := Tryz.prog) (t := 24) Tryz.underlying24
attribute [instance] und24
instance siz24 : Siz Tryz.prog 24 1 := ⟨by kernel_rfl⟩
instance zer24 : Zer Tryz.prog 24 (.int .i64 0) := ⟨by kernel_rfl⟩
abbrev und29 := Und.mk (P := Tryz.prog) (t := 29) Tryz.underlying29
attribute [instance] und29
instance siz29 : Siz Tryz.prog 29 1 := ⟨by kernel_rfl⟩
abbrev und31 := Und.mk (P := Tryz.prog) (t := 31) Tryz.underlying31
attribute [instance] und31
instance siz31 : Siz Tryz.prog 31 7 := ⟨by kernel_rfl⟩
instance zer31 : Zer Tryz.prog 31 (.agg #[.string ByteArray.empty, .int .i64 0, .string ByteArray.empty, .slice none 0 0, .slice none 0 0, .string ByteArray.empty, .string ByteArray.empty]) := ⟨by kernel_rfl⟩
instance fld31x0 : Fld Tryz.prog 31 0 0 := ⟨_, _, 0, Tryz.underlying31, rfl, rfl, by kernel_rfl⟩
instance fld31x1 : Fld Tryz.prog 31 1 1 := ⟨_, _, 0, Tryz.underlying31, rfl, rfl, by kernel_rfl⟩
instance fld31x2 : Fld Tryz.prog 31 2 2 := ⟨_, _, 0, Tryz.underlying31, rfl, rfl, by kernel_rfl⟩
instance fld31x3 : Fld Tryz.prog 31 3 3 := ⟨_, _, 0, Tryz.underlying31, rfl, rfl, by kernel_rfl⟩
instance fld31x4 : Fld Tryz.prog 31 4 4 := ⟨_, _, 0, Tryz.underlying31, rfl, rfl, by kernel_rfl⟩
instance fld31x5 : Fld Tryz.prog 31 5 5 := ⟨_, _, 0, Tryz.underlying31, rfl, rfl, by kernel_rfl⟩
instance fld31x6 : Fld Tryz.prog 31 6 6 := ⟨_, _, 0, Tryz.underlying31, rfl, rfl, by kernel_rfl⟩
abbrev und34 := Und.mk (P := Tryz.prog) (t := 34) Tryz.underlying34
attribute [instance] und34
instance siz34 : Siz Tryz.prog 34 1 := ⟨by kernel_rfl⟩
abbrev und36 := Und.mk (P := Tryz.prog) (t := 36) Tryz.underlying36
attribute [instance] und36
instance siz36 : Siz Tryz.prog 36 4 := ⟨by kernel_rfl⟩
instance byt36 : Byt Tryz.prog 36 56 := ⟨by kernel_rfl⟩
instance zer36 : Zer Tryz.prog 36 (.agg #[.int .i64 0, .int .i64 0, .string ByteArray.empty, .slice none 0 0]) := ⟨by kernel_rfl⟩
instance fld36x0 : Fld Tryz.prog 36 0 0 := ⟨_, _, 0, Tryz.underlying36, rfl, rfl, by kernel_rfl⟩
instance fld36x1 : Fld Tryz.prog 36 1 1 := ⟨_, _, 0, Tryz.underlying36, rfl, rfl, by kernel_rfl⟩
instance fld36x2 : Fld Tryz.prog 36 2 2 := ⟨_, _, 0, Tryz.underlying36, rfl, rfl, by kernel_rfl⟩
instance fld36x3 : Fld Tryz.prog 36 3 3 := ⟨_, _, 0, Tryz.underlying36, rfl, rfl, by kernel_rfl⟩
abbrev und38 := Und.mk (P := Tryz.prog) (t := 38) Tryz.underlying38
attribute [instance] und38
instance siz38 : Siz Tryz.prog 38 13 := ⟨by kernel_rfl⟩
instance byt38 : Byt Tryz.prog 38 184 := ⟨by kernel_rfl⟩
instance zer38 : Zer Tryz.prog 38 (.agg #[.string ByteArray.empty, .int .i64 0, .string ByteArray.empty, .int .i64 0, .int .i64 0, .string ByteArray.empty, .slice none 0 0, .int .i64 0, .int .i64 0, .string ByteArray.empty, .slice none 0 0, .string ByteArray.empty, .string ByteArray.empty]) := ⟨by kernel_rfl⟩
instance fld38x0 : Fld Tryz.prog 38 0 0 := ⟨_, _, 0, Tryz.underlying38, rfl, rfl, by kernel_rfl⟩
instance fld38x1 : Fld Tryz.prog 38 1 1 := ⟨_, _, 0, Tryz.underlying38, rfl, rfl, by kernel_rfl⟩
instance fld38x2 : Fld Tryz.prog 38 2 2 := ⟨_, _, 0, Tryz.underlying38, rfl, rfl, by kernel_rfl⟩
instance fld38x3 : Fld Tryz.prog 38 3 3 := ⟨_, _, 3, Tryz.underlying38, rfl, rfl, by kernel_rfl⟩
instance fld38x4 : Fld Tryz.prog 38 4 7 := ⟨_, _, 3, Tryz.underlying38, rfl, rfl, by kernel_rfl⟩
instance fld38x5 : Fld Tryz.prog 38 5 11 := ⟨_, _, 0, Tryz.underlying38, rfl, rfl, by kernel_rfl⟩
instance fld38x6 : Fld Tryz.prog 38 6 12 := ⟨_, _, 0, Tryz.underlying38, rfl, rfl, by kernel_rfl⟩
abbrev und42 := Und.mk (P := Tryz.prog) (t := 42) Tryz.underlying42
attribute [instance] und42
instance siz42 : Siz Tryz.prog 42 1 := ⟨by kernel_rfl⟩
abbrev und56 := Und.mk (P := Tryz.prog) (t := 56) Tryz.underlying56
attribute [instance] und56
abbrev und61 := Und.mk (P := Tryz.prog) (t := 61) Tryz.underlying61
attribute [instance] und61
instance siz61 : Siz Tryz.prog 61 4 := ⟨by kernel_rfl⟩
instance byt61 : Byt Tryz.prog 61 40 := ⟨by kernel_rfl⟩
instance zer61 : Zer Tryz.prog 61 (.agg #[.int .i64 0, .int .i64 0, .string ByteArray.empty, .int .i64 0]) := ⟨by kernel_rfl⟩
instance fld61x0 : Fld Tryz.prog 61 0 0 := ⟨_, _, 0, Tryz.underlying61, rfl, rfl, by kernel_rfl⟩
instance fld61x1 : Fld Tryz.prog 61 1 1 := ⟨_, _, 0, Tryz.underlying61, rfl, rfl, by kernel_rfl⟩
instance fld61x2 : Fld Tryz.prog 61 2 2 := ⟨_, _, 0, Tryz.underlying61, rfl, rfl, by kernel_rfl⟩
instance fld61x3 : Fld Tryz.prog 61 3 3 := ⟨_, _, 0, Tryz.underlying61, rfl, rfl, by kernel_rfl⟩
abbrev und62 := Und.mk (P := Tryz.prog) (t := 62) Tryz.underlying62
attribute [instance] und62
instance fld64x0 : Fld Tryz.prog 64 0 0 := ⟨_, _, 0, Tryz.underlying64, rfl, rfl, by kernel_rfl⟩
instance fld64x1 : Fld Tryz.prog 64 1 1 := ⟨_, _, 0, Tryz.underlying64, rfl, rfl, by kernel_rfl⟩
instance fld64x2 : Fld Tryz.prog 64 2 2 := ⟨_, _, 0, Tryz.underlying64, rfl, rfl, by kernel_rfl⟩
abbrev und68 := Und.mk (P := Tryz.prog) (t := 68) Tryz.underlying68
attribute [instance] und68
instance siz68 : Siz Tryz.prog 68 1 := ⟨by kernel_rfl⟩
instance zer70 : Zer Tryz.prog 70 (.agg #[.pointer none, .slice none 0 0]) := ⟨by kernel_rfl⟩
instance fld70x0 : Fld Tryz.prog 70 0 0 := ⟨_, _, 0, Tryz.underlying70, rfl, rfl, by kernel_rfl⟩
instance fld70x1 : Fld Tryz.prog 70 1 1 := ⟨_, _, 0, Tryz.underlying70, rfl, rfl, by kernel_rfl⟩
abbrev und72 := Und.mk (P := Tryz.prog) (t := 72) Tryz.underlying72
attribute [instance] und72
instance fld83x0 : Fld Tryz.prog 83 0 0 := ⟨_, _, 0, Tryz.underlying83, rfl, rfl, by kernel_rfl⟩
instance fld83x1 : Fld Tryz.prog 83 1 1 := ⟨_, _, 0, Tryz.underlying83, rfl, rfl, by kernel_rfl⟩
instance fld85x0 : Fld Tryz.prog 85 0 0 := ⟨_, _, 1, Tryz.underlying85, rfl, rfl, by kernel_rfl⟩
instance fld87x0 : Fld Tryz.prog 87 0 0 := ⟨_, _, 0, Tryz.underlying87, rfl, rfl, by kernel_rfl⟩
instance zer89 : Zer Tryz.prog 89 (.agg #[.slice none 0 0]) := ⟨by kernel_rfl⟩
instance fld89x0 : Fld Tryz.prog 89 0 0 := ⟨_, _, 0, Tryz.underlying89, rfl, rfl, by kernel_rfl⟩
abbrev und97 := Und.mk (P := Tryz.prog) (t := 97) Tryz.underlying97
attribute [instance] und97
abbrev und105 := Und.mk (P := Tryz.prog) (t := 105) Tryz.underlying105
attribute [instance] und105
instance siz105 : Siz Tryz.prog 105 2 := ⟨by kernel_rfl⟩
instance byt105 : Byt Tryz.prog 105 16 := ⟨by kernel_rfl⟩
instance zer105 : Zer Tryz.prog 105 (.agg #[.int .i64 0, .int .i64 0]) := ⟨by kernel_rfl⟩
instance fld105x0 : Fld Tryz.prog 105 0 0 := ⟨_, _, 0, Tryz.underlying105, rfl, rfl, by kernel_rfl⟩
instance fld105x1 : Fld Tryz.prog 105 1 1 := ⟨_, _, 0, Tryz.underlying105, rfl, rfl, by kernel_rfl⟩
abbrev und123 := Und.mk (P := Tryz.prog) (t := 123) Tryz.underlying123
attribute [instance] und123
instance siz123 : Siz Tryz.prog 123 2 := ⟨by kernel_rfl⟩
instance zer123 : Zer Tryz.prog 123 (.agg #[.int .i64 0, .int .i64 0]) := ⟨by kernel_rfl⟩
instance fld123x0 : Fld Tryz.prog 123 0 0 := ⟨_, _, 0, Tryz.underlying123, rfl, rfl, by kernel_rfl⟩
instance fld123x1 : Fld Tryz.prog 123 1 1 := ⟨_, _, 0, Tryz.underlying123, rfl, rfl, by kernel_rfl⟩
instance fld132x0 : Fld Tryz.prog 132 0 0 := ⟨_, _, 0, Tryz.underlying132, rfl, rfl, by kernel_rfl⟩
instance fld132x1 : Fld Tryz.prog 132 1 1 := ⟨_, _, 0, Tryz.underlying132, rfl, rfl, by kernel_rfl⟩
abbrev und134 := Und.mk (P := Tryz.prog) (t := 134) Tryz.underlying134
attribute [instance] und134
instance siz134 : Siz Tryz.prog 134 3 := ⟨by kernel_rfl⟩
instance zer134 : Zer Tryz.prog 134 (.agg #[.int .i64 0, .int .i64 0, .int .i64 0]) := ⟨by kernel_rfl⟩
instance fld134x0 : Fld Tryz.prog 134 0 0 := ⟨_, _, 0, Tryz.underlying134, rfl, rfl, by kernel_rfl⟩
instance fld134x1 : Fld Tryz.prog 134 1 1 := ⟨_, _, 0, Tryz.underlying134, rfl, rfl, by kernel_rfl⟩
instance fld134x2 : Fld Tryz.prog 134 2 2 := ⟨_, _, 0, Tryz.underlying134, rfl, rfl, by kernel_rfl⟩
instance zer144 : Zer Tryz.prog 144 (.agg #[.slice none 0 0]) := ⟨by kernel_rfl⟩
instance fld144x0 : Fld Tryz.prog 144 0 0 := ⟨_, _, 0, Tryz.underlying144, rfl, rfl, by kernel_rfl⟩
abbrev und151 := Und.mk (P := Tryz.prog) (t := 151) Tryz.underlying151
attribute [instance] und151
abbrev und152 := Und.mk (P := Tryz.prog) (t := 152) Tryz.underlying152
attribute [instance] und152
instance fld154x0 : Fld Tryz.prog 154 0 0 := ⟨_, _, 0, Tryz.underlying154, rfl, rfl, by kernel_rfl⟩
instance fld154x1 : Fld Tryz.prog 154 1 1 := ⟨_, _, 0, Tryz.underlying154, rfl, rfl, by kernel_rfl⟩
instance fld154x2 : Fld Tryz.prog 154 2 2 := ⟨_, _, 0, Tryz.underlying154, rfl, rfl, by kernel_rfl⟩
abbrev und158 := Und.mk (P := Tryz.prog) (t := 158) Tryz.underlying158
attribute [instance] und158
instance siz158 : Siz Tryz.prog 158 3 := ⟨by kernel_rfl⟩
instance zer158 : Zer Tryz.prog 158 (.agg #[.int .i64 0, .int .i64 0, .int .i64 0]) := ⟨by kernel_rfl⟩
abbrev und160 := Und.mk (P := Tryz.prog) (t := 160) Tryz.underlying160
attribute [instance] und160
abbrev und166 := Und.mk (P := Tryz.prog) (t := 166) Tryz.underlying166
attribute [instance] und166
abbrev und175 := Und.mk (P := Tryz.prog) (t := 175) Tryz.underlying175
attribute [instance] und175
abbrev und186 := Und.mk (P := Tryz.prog) (t := 186) Tryz.underlying186
attribute [instance] und186
abbrev und209 := Und.mk (P := Tryz.prog) (t := 209) Tryz.underlying209
attribute [instance] und209
abbrev und249 := Und.mk (P := Tryz.prog) (t := 249) Tryz.underlying249
attribute [instance] und249
instance fun6 : Fun Tryz.prog 6 Tryz.f6 := ⟨Tryz.func6, enters_of Tryz.func6 (by kernel_rfl) rfl⟩
instance fun7 : Fun Tryz.prog 7 Tryz.f7 := ⟨Tryz.func7, enters_of Tryz.func7 (by kernel_rfl) rfl⟩
instance fun8 : Fun Tryz.prog 8 Tryz.f8 := ⟨Tryz.func8, enters_of Tryz.func8 (by kernel_rfl) rfl⟩
instance fun9 : Fun Tryz.prog 9 Tryz.f9 := ⟨Tryz.func9, enters_of Tryz.func9 (by kernel_rfl) rfl⟩
instance fun10 : Fun Tryz.prog 10 Tryz.f10 := ⟨Tryz.func10, enters_of Tryz.func10 (by kernel_rfl) rfl⟩
instance fun11 : Fun Tryz.prog 11 Tryz.f11 := ⟨Tryz.func11, enters_of Tryz.func11 (by kernel_rfl) rfl⟩
instance fun12 : Fun Tryz.prog 12 Tryz.f12 := ⟨Tryz.func12, enters_of Tryz.func12 (by kernel_rfl) rfl⟩
instance fun13 : Fun Tryz.prog 13 Tryz.f13 := ⟨Tryz.func13, enters_of Tryz.func13 (by kernel_rfl) rfl⟩
instance fun14 : Fun Tryz.prog 14 Tryz.f14 := ⟨Tryz.func14, enters_of Tryz.func14 (by kernel_rfl) rfl⟩
instance fun15 : Fun Tryz.prog 15 Tryz.f15 := ⟨Tryz.func15, enters_of Tryz.func15 (by kernel_rfl) rfl⟩
instance fun17 : Fun Tryz.prog 17 Tryz.f17 := ⟨Tryz.func17, enters_of Tryz.func17 (by kernel_rfl) rfl⟩
instance fun18 : Fun Tryz.prog 18 Tryz.f18 := ⟨Tryz.func18, enters_of Tryz.func18 (by kernel_rfl) rfl⟩
instance fun22 : Fun Tryz.prog 22 Tryz.f22 := ⟨Tryz.func22, enters_of Tryz.func22 (by kernel_rfl) rfl⟩
instance fun24 : Fun Tryz.prog 24 Tryz.f24 := ⟨Tryz.func24, enters_of Tryz.func24 (by kernel_rfl) rfl⟩
instance fun25 : Fun Tryz.prog 25 Tryz.f25 := ⟨Tryz.func25, enters_of Tryz.func25 (by kernel_rfl) rfl⟩
instance fun26 : Fun Tryz.prog 26 Tryz.f26 := ⟨Tryz.func26, enters_of Tryz.func26 (by kernel_rfl) rfl⟩
instance fun27 : Fun Tryz.prog 27 Tryz.f27 := ⟨Tryz.func27, enters_of Tryz.func27 (by kernel_rfl) rfl⟩
instance fun28 : Fun Tryz.prog 28 Tryz.f28 := ⟨Tryz.func28, enters_of Tryz.func28 (by kernel_rfl) rfl⟩
instance fun29 : Fun Tryz.prog 29 Tryz.f29 := ⟨Tryz.func29, enters_of Tryz.func29 (by kernel_rfl) rfl⟩
instance fun30 : Fun Tryz.prog 30 Tryz.f30 := ⟨Tryz.func30, enters_of Tryz.func30 (by kernel_rfl) rfl⟩
instance fun31 : Fun Tryz.prog 31 Tryz.f31 := ⟨Tryz.func31, enters_of Tryz.func31 (by kernel_rfl) rfl⟩
instance fun32 : Fun Tryz.prog 32 Tryz.f32 := ⟨Tryz.func32, enters_of Tryz.func32 (by kernel_rfl) rfl⟩
instance fun33 : Fun Tryz.prog 33 Tryz.f33 := ⟨Tryz.func33, enters_of Tryz.func33 (by kernel_rfl) rfl⟩
instance fun34 : Fun Tryz.prog 34 Tryz.f34 := ⟨Tryz.func34, enters_of Tryz.func34 (by kernel_rfl) rfl⟩
instance fun35 : Fun Tryz.prog 35 Tryz.f35 := ⟨Tryz.func35, enters_of Tryz.func35 (by kernel_rfl) rfl⟩
instance fun36 : Fun Tryz.prog 36 Tryz.f36 := ⟨Tryz.func36, enters_of Tryz.func36 (by kernel_rfl) rfl⟩
instance fun37 : Fun Tryz.prog 37 Tryz.f37 := ⟨Tryz.func37, enters_of Tryz.func37 (by kernel_rfl) rfl⟩
instance fun38 : Fun Tryz.prog 38 Tryz.f38 := ⟨Tryz.func38, enters_of Tryz.func38 (by kernel_rfl) rfl⟩
instance fun39 : Fun Tryz.prog 39 Tryz.f39 := ⟨Tryz.func39, enters_of Tryz.func39 (by kernel_rfl) rfl⟩
instance fun40 : Fun Tryz.prog 40 Tryz.f40 := ⟨Tryz.func40, enters_of Tryz.func40 (by kernel_rfl) rfl⟩
instance fun41 : Fun Tryz.prog 41 Tryz.f41 := ⟨Tryz.func41, enters_of Tryz.func41 (by kernel_rfl) rfl⟩
instance fun42 : Fun Tryz.prog 42 Tryz.f42 := ⟨Tryz.func42, enters_of Tryz.func42 (by kernel_rfl) rfl⟩
instance fun43 : Fun Tryz.prog 43 Tryz.f43 := ⟨Tryz.func43, enters_of Tryz.func43 (by kernel_rfl) rfl⟩
instance fun44 : Fun Tryz.prog 44 Tryz.f44 := ⟨Tryz.func44, enters_of Tryz.func44 (by kernel_rfl) rfl⟩
instance fun45 : Fun Tryz.prog 45 Tryz.f45 := ⟨Tryz.func45, enters_of Tryz.func45 (by kernel_rfl) rfl⟩
instance fun46 : Fun Tryz.prog 46 Tryz.f46 := ⟨Tryz.func46, enters_of Tryz.func46 (by kernel_rfl) rfl⟩
instance fun47 : Fun Tryz.prog 47 Tryz.f47 := ⟨Tryz.func47, enters_of Tryz.func47 (by kernel_rfl) rfl⟩
instance fun48 : Fun Tryz.prog 48 Tryz.f48 := ⟨Tryz.func48, enters_of Tryz.func48 (by kernel_rfl) rfl⟩
instance fun49 : Fun Tryz.prog 49 Tryz.f49 := ⟨Tryz.func49, enters_of Tryz.func49 (by kernel_rfl) rfl⟩
instance fun55 : Fun Tryz.prog 55 Tryz.f55 := ⟨Tryz.func55, enters_of Tryz.func55 (by kernel_rfl) rfl⟩
instance fun56 : Fun Tryz.prog 56 Tryz.f56 := ⟨Tryz.func56, enters_of Tryz.func56 (by kernel_rfl) rfl⟩
instance fun57 : Fun Tryz.prog 57 Tryz.f57 := ⟨Tryz.func57, enters_of Tryz.func57 (by kernel_rfl) rfl⟩
instance fun58 : Fun Tryz.prog 58 Tryz.f58 := ⟨Tryz.func58, enters_of Tryz.func58 (by kernel_rfl) rfl⟩
instance fun59 : Fun Tryz.prog 59 Tryz.f59 := ⟨Tryz.func59, enters_of Tryz.func59 (by kernel_rfl) rfl⟩
instance fun65 : Fun Tryz.prog 65 Tryz.f65 := ⟨Tryz.func65, enters_of Tryz.func65 (by kernel_rfl) rfl⟩
instance fun66 : Fun Tryz.prog 66 Tryz.f66 := ⟨Tryz.func66, enters_of Tryz.func66 (by kernel_rfl) rfl⟩
instance fun67 : Fun Tryz.prog 67 Tryz.f67 := ⟨Tryz.func67, enters_of Tryz.func67 (by kernel_rfl) rfl⟩
instance fun68 : Fun Tryz.prog 68 Tryz.f68 := ⟨Tryz.func68, enters_of Tryz.func68 (by kernel_rfl) rfl⟩
instance fun69 : Fun Tryz.prog 69 Tryz.f69 := ⟨Tryz.func69, enters_of Tryz.func69 (by kernel_rfl) rfl⟩
instance fun70 : Fun Tryz.prog 70 Tryz.f70 := ⟨Tryz.func70, enters_of Tryz.func70 (by kernel_rfl) rfl⟩
instance fun71 : Fun Tryz.prog 71 Tryz.f71 := ⟨Tryz.func71, enters_of Tryz.func71 (by kernel_rfl) rfl⟩
instance fun72 : Fun Tryz.prog 72 Tryz.f72 := ⟨Tryz.func72, enters_of Tryz.func72 (by kernel_rfl) rfl⟩
instance fun73 : Fun Tryz.prog 73 Tryz.f73 := ⟨Tryz.func73, enters_of Tryz.func73 (by kernel_rfl) rfl⟩
instance fun74 : Fun Tryz.prog 74 Tryz.f74 := ⟨Tryz.func74, enters_of Tryz.func74 (by kernel_rfl) rfl⟩
instance fun75 : Fun Tryz.prog 75 Tryz.f75 := ⟨Tryz.func75, enters_of Tryz.func75 (by kernel_rfl) rfl⟩
instance fun76 : Fun Tryz.prog 76 Tryz.f76 := ⟨Tryz.func76, enters_of Tryz.func76 (by kernel_rfl) rfl⟩
instance fun77 : Fun Tryz.prog 77 Tryz.f77 := ⟨Tryz.func77, enters_of Tryz.func77 (by kernel_rfl) rfl⟩
instance fun78 : Fun Tryz.prog 78 Tryz.f78 := ⟨Tryz.func78, enters_of Tryz.func78 (by kernel_rfl) rfl⟩
instance fun79 : Fun Tryz.prog 79 Tryz.f79 := ⟨Tryz.func79, enters_of Tryz.func79 (by kernel_rfl) rfl⟩
instance fun80 : Fun Tryz.prog 80 Tryz.f80 := ⟨Tryz.func80, enters_of Tryz.func80 (by kernel_rfl) rfl⟩
instance fun81 : Fun Tryz.prog 81 Tryz.f81 := ⟨Tryz.func81, enters_of Tryz.func81 (by kernel_rfl) rfl⟩
instance fun82 : Fun Tryz.prog 82 Tryz.f82 := ⟨Tryz.func82, enters_of Tryz.func82 (by kernel_rfl) rfl⟩
instance fun83 : Fun Tryz.prog 83 Tryz.f83 := ⟨Tryz.func83, enters_of Tryz.func83 (by kernel_rfl) rfl⟩
instance fun84 : Fun Tryz.prog 84 Tryz.f84 := ⟨Tryz.func84, enters_of Tryz.func84 (by kernel_rfl) rfl⟩
instance fun85 : Fun Tryz.prog 85 Tryz.f85 := ⟨Tryz.func85, enters_of Tryz.func85 (by kernel_rfl) rfl⟩
instance fun86 : Fun Tryz.prog 86 Tryz.f86 := ⟨Tryz.func86, enters_of Tryz.func86 (by kernel_rfl) rfl⟩
instance fun87 : Fun Tryz.prog 87 Tryz.f87 := ⟨Tryz.func87, enters_of Tryz.func87 (by kernel_rfl) rfl⟩
instance fun88 : Fun Tryz.prog 88 Tryz.f88 := ⟨Tryz.func88, enters_of Tryz.func88 (by kernel_rfl) rfl⟩
instance fun89 : Fun Tryz.prog 89 Tryz.f89 := ⟨Tryz.func89, enters_of Tryz.func89 (by kernel_rfl) rfl⟩
instance fun90 : Fun Tryz.prog 90 Tryz.f90 := ⟨Tryz.func90, enters_of Tryz.func90 (by kernel_rfl) rfl⟩
instance fun91 : Fun Tryz.prog 91 Tryz.f91 := ⟨Tryz.func91, enters_of Tryz.func91 (by kernel_rfl) rfl⟩
instance fun92 : Fun Tryz.prog 92 Tryz.f92 := ⟨Tryz.func92, enters_of Tryz.func92 (by kernel_rfl) rfl⟩
instance fun93 : Fun Tryz.prog 93 Tryz.f93 := ⟨Tryz.func93, enters_of Tryz.func93 (by kernel_rfl) rfl⟩
instance fun94 : Fun Tryz.prog 94 Tryz.f94 := ⟨Tryz.func94, enters_of Tryz.func94 (by kernel_rfl) rfl⟩
instance fun95 : Fun Tryz.prog 95 Tryz.f95 := ⟨Tryz.func95, enters_of Tryz.func95 (by kernel_rfl) rfl⟩
instance fun96 : Fun Tryz.prog 96 Tryz.f96 := ⟨Tryz.func96, enters_of Tryz.func96 (by kernel_rfl) rfl⟩
instance fun100 : Fun Tryz.prog 100 Tryz.f100 := ⟨Tryz.func100, enters_of Tryz.func100 (by kernel_rfl) rfl⟩
instance fun101 : Fun Tryz.prog 101 Tryz.f101 := ⟨Tryz.func101, enters_of Tryz.func101 (by kernel_rfl) rfl⟩
instance fun102 : Fun Tryz.prog 102 Tryz.f102 := ⟨Tryz.func102, enters_of Tryz.func102 (by kernel_rfl) rfl⟩
instance fun103 : Fun Tryz.prog 103 Tryz.f103 := ⟨Tryz.func103, enters_of Tryz.func103 (by kernel_rfl) rfl⟩
instance fun104 : Fun Tryz.prog 104 Tryz.f104 := ⟨Tryz.func104, enters_of Tryz.func104 (by kernel_rfl) rfl⟩
instance fun105 : Fun Tryz.prog 105 Tryz.f105 := ⟨Tryz.func105, enters_of Tryz.func105 (by kernel_rfl) rfl⟩
instance fun108 : Fun Tryz.prog 108 Tryz.f108 := ⟨Tryz.func108, enters_of Tryz.func108 (by kernel_rfl) rfl⟩
instance fun109 : Fun Tryz.prog 109 Tryz.f109 := ⟨Tryz.func109, enters_of Tryz.func109 (by kernel_rfl) rfl⟩
instance fun110 : Fun Tryz.prog 110 Tryz.f110 := ⟨Tryz.func110, enters_of Tryz.func110 (by kernel_rfl) rfl⟩
instance fun111 : Fun Tryz.prog 111 Tryz.f111 := ⟨Tryz.func111, enters_of Tryz.func111 (by kernel_rfl) rfl⟩
instance fun112 : Fun Tryz.prog 112 Tryz.f112 := ⟨Tryz.func112, enters_of Tryz.func112 (by kernel_rfl) rfl⟩
instance fun113 : Fun Tryz.prog 113 Tryz.f113 := ⟨Tryz.func113, enters_of Tryz.func113 (by kernel_rfl) rfl⟩
instance fun114 : Fun Tryz.prog 114 Tryz.f114 := ⟨Tryz.func114, enters_of Tryz.func114 (by kernel_rfl) rfl⟩
instance fun115 : Fun Tryz.prog 115 Tryz.f115 := ⟨Tryz.func115, enters_of Tryz.func115 (by kernel_rfl) rfl⟩
instance fun116 : Fun Tryz.prog 116 Tryz.f116 := ⟨Tryz.func116, enters_of Tryz.func116 (by kernel_rfl) rfl⟩
instance fun117 : Fun Tryz.prog 117 Tryz.f117 := ⟨Tryz.func117, enters_of Tryz.func117 (by kernel_rfl) rfl⟩
instance fun118 : Fun Tryz.prog 118 Tryz.f118 := ⟨Tryz.func118, enters_of Tryz.func118 (by kernel_rfl) rfl⟩
instance fun119 : Fun Tryz.prog 119 Tryz.f119 := ⟨Tryz.func119, enters_of Tryz.func119 (by kernel_rfl) rfl⟩
instance fun120 : Fun Tryz.prog 120 Tryz.f120 := ⟨Tryz.func120, enters_of Tryz.func120 (by kernel_rfl) rfl⟩
instance fun121 : Fun Tryz.prog 121 Tryz.f121 := ⟨Tryz.func121, enters_of Tryz.func121 (by kernel_rfl) rfl⟩
instance fun122 : Fun Tryz.prog 122 Tryz.f122 := ⟨Tryz.func122, enters_of Tryz.func122 (by kernel_rfl) rfl⟩
instance fun123 : Fun Tryz.prog 123 Tryz.f123 := ⟨Tryz.func123, enters_of Tryz.func123 (by kernel_rfl) rfl⟩
instance fun124 : Fun Tryz.prog 124 Tryz.f124 := ⟨Tryz.func124, enters_of Tryz.func124 (by kernel_rfl) rfl⟩
instance fun125 : Fun Tryz.prog 125 Tryz.f125 := ⟨Tryz.func125, enters_of Tryz.func125 (by kernel_rfl) rfl⟩
instance fun126 : Fun Tryz.prog 126 Tryz.f126 := ⟨Tryz.func126, enters_of Tryz.func126 (by kernel_rfl) rfl⟩
instance fun127 : Fun Tryz.prog 127 Tryz.f127 := ⟨Tryz.func127, enters_of Tryz.func127 (by kernel_rfl) rfl⟩
instance fun128 : Fun Tryz.prog 128 Tryz.f128 := ⟨Tryz.func128, enters_of Tryz.func128 (by kernel_rfl) rfl⟩
instance fun132 : Fun Tryz.prog 132 Tryz.f132 := ⟨Tryz.func132, enters_of Tryz.func132 (by kernel_rfl) rfl⟩
instance fun135 : Fun Tryz.prog 135 Tryz.f135 := ⟨Tryz.func135, enters_of Tryz.func135 (by kernel_rfl) rfl⟩
instance fun137 : Fun Tryz.prog 137 Tryz.f137 := ⟨Tryz.func137, enters_of Tryz.func137 (by kernel_rfl) rfl⟩
instance fun138 : Fun Tryz.prog 138 Tryz.f138 := ⟨Tryz.func138, enters_of Tryz.func138 (by kernel_rfl) rfl⟩
instance fun139 : Fun Tryz.prog 139 Tryz.f139 := ⟨Tryz.func139, enters_of Tryz.func139 (by kernel_rfl) rfl⟩
instance fun140 : Fun Tryz.prog 140 Tryz.f140 := ⟨Tryz.func140, enters_of Tryz.func140 (by kernel_rfl) rfl⟩
instance fun141 : Fun Tryz.prog 141 Tryz.f141 := ⟨Tryz.func141, enters_of Tryz.func141 (by kernel_rfl) rfl⟩
instance fun142 : Fun Tryz.prog 142 Tryz.f142 := ⟨Tryz.func142, enters_of Tryz.func142 (by kernel_rfl) rfl⟩
instance fun143 : Fun Tryz.prog 143 Tryz.f143 := ⟨Tryz.func143, enters_of Tryz.func143 (by kernel_rfl) rfl⟩
instance fun156 : Fun Tryz.prog 156 Tryz.f156 := ⟨Tryz.func156, enters_of Tryz.func156 (by kernel_rfl) rfl⟩
instance fun157 : Fun Tryz.prog 157 Tryz.f157 := ⟨Tryz.func157, enters_of Tryz.func157 (by kernel_rfl) rfl⟩
instance fun158 : Fun Tryz.prog 158 Tryz.f158 := ⟨Tryz.func158, enters_of Tryz.func158 (by kernel_rfl) rfl⟩
instance fun159 : Fun Tryz.prog 159 Tryz.f159 := ⟨Tryz.func159, enters_of Tryz.func159 (by kernel_rfl) rfl⟩
instance fun160 : Fun Tryz.prog 160 Tryz.f160 := ⟨Tryz.func160, enters_of Tryz.func160 (by kernel_rfl) rfl⟩
instance fun161 : Fun Tryz.prog 161 Tryz.f161 := ⟨Tryz.func161, enters_of Tryz.func161 (by kernel_rfl) rfl⟩
instance fun162 : Fun Tryz.prog 162 Tryz.f162 := ⟨Tryz.func162, enters_of Tryz.func162 (by kernel_rfl) rfl⟩
instance fun163 : Fun Tryz.prog 163 Tryz.f163 := ⟨Tryz.func163, enters_of Tryz.func163 (by kernel_rfl) rfl⟩
instance fun164 : Fun Tryz.prog 164 Tryz.f164 := ⟨Tryz.func164, enters_of Tryz.func164 (by kernel_rfl) rfl⟩
instance fun165 : Fun Tryz.prog 165 Tryz.f165 := ⟨Tryz.func165, enters_of Tryz.func165 (by kernel_rfl) rfl⟩
instance fun166 : Fun Tryz.prog 166 Tryz.f166 := ⟨Tryz.func166, enters_of Tryz.func166 (by kernel_rfl) rfl⟩
instance fun167 : Fun Tryz.prog 167 Tryz.f167 := ⟨Tryz.func167, enters_of Tryz.func167 (by kernel_rfl) rfl⟩
instance fun168 : Fun Tryz.prog 168 Tryz.f168 := ⟨Tryz.func168, enters_of Tryz.func168 (by kernel_rfl) rfl⟩
instance fun169 : Fun Tryz.prog 169 Tryz.f169 := ⟨Tryz.func169, enters_of Tryz.func169 (by kernel_rfl) rfl⟩
instance fun170 : Fun Tryz.prog 170 Tryz.f170 := ⟨Tryz.func170, enters_of Tryz.func170 (by kernel_rfl) rfl⟩
instance fun176 : Fun Tryz.prog 176 Tryz.f176 := ⟨Tryz.func176, enters_of Tryz.func176 (by kernel_rfl) rfl⟩
instance fun177 : Fun Tryz.prog 177 Tryz.f177 := ⟨Tryz.func177, enters_of Tryz.func177 (by kernel_rfl) rfl⟩
instance fun178 : Fun Tryz.prog 178 Tryz.f178 := ⟨Tryz.func178, enters_of Tryz.func178 (by kernel_rfl) rfl⟩
instance fun179 : Fun Tryz.prog 179 Tryz.f179 := ⟨Tryz.func179, enters_of Tryz.func179 (by kernel_rfl) rfl⟩
instance fun180 : Fun Tryz.prog 180 Tryz.f180 := ⟨Tryz.func180, enters_of Tryz.func180 (by kernel_rfl) rfl⟩
instance fun181 : Fun Tryz.prog 181 Tryz.f181 := ⟨Tryz.func181, enters_of Tryz.func181 (by kernel_rfl) rfl⟩
instance fun190 : Fun Tryz.prog 190 Tryz.f190 := ⟨Tryz.func190, enters_of Tryz.func190 (by kernel_rfl) rfl⟩
instance fun195 : Fun Tryz.prog 195 Tryz.f195 := ⟨Tryz.func195, enters_of Tryz.func195 (by kernel_rfl) rfl⟩
instance fun196 : Fun Tryz.prog 196 Tryz.f196 := ⟨Tryz.func196, enters_of Tryz.func196 (by kernel_rfl) rfl⟩
instance fun197 : Fun Tryz.prog 197 Tryz.f197 := ⟨Tryz.func197, enters_of Tryz.func197 (by kernel_rfl) rfl⟩
instance fun198 : Fun Tryz.prog 198 Tryz.f198 := ⟨Tryz.func198, enters_of Tryz.func198 (by kernel_rfl) rfl⟩
instance fun199 : Fun Tryz.prog 199 Tryz.f199 := ⟨Tryz.func199, enters_of Tryz.func199 (by kernel_rfl) rfl⟩
instance fun200 : Fun Tryz.prog 200 Tryz.f200 := ⟨Tryz.func200, enters_of Tryz.func200 (by kernel_rfl) rfl⟩
instance fun201 : Fun Tryz.prog 201 Tryz.f201 := ⟨Tryz.func201, enters_of Tryz.func201 (by kernel_rfl) rfl⟩
instance fun202 : Fun Tryz.prog 202 Tryz.f202 := ⟨Tryz.func202, enters_of Tryz.func202 (by kernel_rfl) rfl⟩
instance fun216 : Fun Tryz.prog 216 Tryz.f216 := ⟨Tryz.func216, enters_of Tryz.func216 (by kernel_rfl) rfl⟩
instance fun217 : Fun Tryz.prog 217 Tryz.f217 := ⟨Tryz.func217, enters_of Tryz.func217 (by kernel_rfl) rfl⟩
instance fun218 : Fun Tryz.prog 218 Tryz.f218 := ⟨Tryz.func218, enters_of Tryz.func218 (by kernel_rfl) rfl⟩
instance fun227 : Fun Tryz.prog 227 Tryz.f227 := ⟨Tryz.func227, enters_of Tryz.func227 (by kernel_rfl) rfl⟩
instance fun232 : Fun Tryz.prog 232 Tryz.f232 := ⟨Tryz.func232, enters_of Tryz.func232 (by kernel_rfl) rfl⟩
open Go Go.Eng Go.RowKit
abbrev ndC (x : Nd) (kv : Value) : List Value := [.int .i64 x.kind, .int .i64 x.num, str x.word, kv]
theorem ndC_one {X : List Nat} {w : World} {x : Nd} {kv : Value} {l : List Nd} (h : SlV X w kv l) : ∀ c ∈ ndC x kv, c.oneCell' = true := by
 intro c hc
 simp only [ndC, List.mem_cons, List.not_mem_nil, or_false] at hc
 rcases hc with rfl | rfl | rfl | rfl
 · rfl
 · rfl
 · rfl
 · exact h.one
def nestedN : Nat → Nd → Bool
 | 0, _ => false
 | m + 1, x => x.kids.all (nestedN m)
theorem all_take_succ {α : Type} (p : α → Bool) (l : List α) (k : Nat) (hk : k < l.length) : (l.take (k + 1)).all p = ((l.take k).all p && p l[k]) := by
 rw [List.take_succ_eq_append_getElem hk, List.all_append]
 simp
theorem nested_any (m : Nat) : ∀ (X : List Nat) (v : Value) (x : Nd) (z : Int) (w : World), z = (m : Int) → m ≤ 1000 → NdV X w v x →
 Calls Tryz.prog 55 #[v, .int .i64 z] w (Ret fun r w' => r = .bool (nestedN m x) ∧ Stp [] w w') := by
 induction m with
 | zero =>
   intro X v x z w hz hm hx
   obtain ⟨kv, rfl, hs⟩ := hx
   refine calls_of_WC2 (n := 22) Tryz.func55 rfl rfl rfl ?_
   refine W ?_
   refine WL_eff (OE_box rfl) rfl ?_
   rintro _ w1 ⟨b, rfl, hb, hblk, hS⟩
   repeat' (first | refine W1 ?_ | (exfalso; omega) | (refine VG ?_ ?_ <;> intro hg) | (refine VC ?_ ?_ <;> intro hc))
   refine WR ?_
   exact .mk ⟨rfl, hS⟩
 | succ m ih =>
   intro X v x z w hz hm hx
   obtain ⟨kv, rfl, hs⟩ := hx
   have hmax := hs.max
   refine calls_of_WC2 (n := 22) Tryz.func55 rfl rfl rfl ?_
   refine W ?_
   refine WL_eff (OE_box rfl) rfl ?_
   rintro _ w1 ⟨b, rfl, hb, hblk, hS⟩
   replace hblk : Blk w1 b _ (ndC x kv) := hblk
   replace hs := hs.up hS
   repeat' (first | refine W1 ?_ | (exfalso; omega) | (refine VG ?_ ?_ <;> intro hg) | (refine VC ?_ ?_ <;> intro hc))
   have hs0 := hs
   refine WC_loop (σ := Nat) (fun k => [(1, .int .i64 z), (10, kv), (11, .int .i64 (x.kids.length : Int)), (12, .int .i64 k)]) (fun k w' => k ≤ x.kids.length ∧ Stp [] w1 w' ∧ (x.kids.take k).all (nestedN m) = true) (fun k => x.kids.length - k) 0 ⟨rfl, rfl, rfl, rfl, trivial⟩ ⟨Nat.zero_le _, Stp.refl _ _, rfl⟩ ?_
   clear hs
   rintro k w2 ⟨hk, hS2, hall⟩
   have hs := hs0.up hS2
   by_cases hlt : k < x.kids.length
   · have hnx := all_take_succ (nestedN m) x.kids k hlt
     rw [hall, Bool.true_and] at hnx
     obtain ⟨kv2, hs2, hc2⟩ := hs.nd hlt
     repeat' (first | refine W1 ?_ | (exfalso; omega) | (refine VG ?_ ?_ <;> intro hg) | (refine VC ?_ ?_ <;> intro hc))
     apply WL_pure (PR_loadNd rfl rfl hs hlt hc2) rfl
     refine WL_eff OE_alloc rfl ?_
     rintro _ w3 ⟨b3, rfl, hb3, hblk3, hS3⟩
     refine WL_eff0 (OE_storeA (us := ndC x.kids[k] kv2) rfl rfl rfl rfl (ndC_one hs2) hblk3 rfl) ?_
     rintro _ w4 ⟨hS4, hblk4⟩
     have hS34 := hS3.own hS4 (fun b hb => .inr (by simp at hb; omega))
     replace hS2 := hS2.trans hS34
     replace hs2 := hs2.up hS34
     refine W ?_
     refine CL rfl (evs2 rfl rfl) rfl (ih X _ x.kids[k] _ _ (by omega) (by omega) ⟨kv2, rfl, hs2⟩) ?_
     rintro _ w5 ⟨rfl, hS5⟩
     replace hS2 := hS2.trans hS5
     cases hq : nestedN m x.kids[k] with
     | true =>
       refine W ?_
       exact WQ_loop (k + 1) ⟨rfl, rfl, rfl, rfl, trivial⟩ ⟨hlt, hS2, by rw [hnx, hq]⟩ (by omega)
     | false =>
       refine W ?_
       refine WR ?_
       refine .mk ⟨?_, hS.trans hS2⟩
       have : nestedN (m + 1) x = false := by
        show x.kids.all (nestedN m) = false
        rw [List.all_eq_false]
        exact ⟨_, List.getElem_mem hlt, by simp [hq]⟩
       rw [this]
   · have hke : k = x.kids.length := by omega
     subst hke
     rw [List.take_length] at hall
     repeat' (first | refine W1 ?_ | (exfalso; omega) | (refine VG ?_ ?_ <;> intro hg) | (refine VC ?_ ?_ <;> intro hc))
     refine WR ?_
     refine .mk ⟨?_, hS.trans hS2⟩
     show _ = Value.bool (x.kids.all (nestedN m))
     rw [hall]
end Go.Proofs.YtgpibcgebpgmiaaGreatDoor
namespace Go.Eng
open Go Go.RowKit Go.Proofs
class MKey (P : Program) (kt : Nat) (κ : outParam Type) [DecidableEq κ] where
 enc : κ → Value
 chk : ∀ (em : Bool) (a : κ) (w : World), (Instr.checkKey em 10000 kt (enc a)).run P w = .ok () w
 find : ∀ (a : κ) (es : List MapEntry) (l : List κ) (w : World), es.map (·.key) = l.map enc →
  (Instr.findKey kt (enc a) es).run P w = .ok ((l.findIdx? (fun b => decide (b = a))).bind fun i => (es[i]?).map fun e => (i, e.val)) w
def MapAt {κ : Type} (enc : κ → Value) (w : World) (r : Nat) (l : List (κ × Value)) : Prop :=
 ∃ (es : Array MapEntry) (clock : Nat), w.heap[r]? = some (.map es clock) ∧ es.toList.map (·.key) = l.map (fun p => enc p.1) ∧ es.toList.map (·.val) = l.map (·.2)
theorem MapAt.lt {κ : Type} {enc : κ → Value} {w : World} {r : Nat} {l : List (κ × Value)} (h : MapAt enc w r l) : r < w.heap.size := by
 obtain ⟨es, c, h1, _⟩ := h
 exact (Array.getElem?_eq_some_iff.1 h1).1
theorem MapAt.ext {κ : Type} {enc : κ → Value} {S : List Nat} {w w' : World} {r : Nat} {l : List (κ × Value)} (h : MapAt enc w r l) (hS : Stp S w w') (hr : r ∉ S) : MapAt enc w' r l := by
 have hlt := h.lt
 obtain ⟨es, c, h1, h2⟩ := h
 exact ⟨es, c, by rw [hS.block r hlt hr]; exact h1, h2⟩
theorem MapAt.up {κ : Type} {enc : κ → Value} {w w' : World} {r : Nat} {l : List (κ × Value)} (h : MapAt enc w r l) (hS : Stp [] w w') : MapAt enc w' r l := h.ext hS (by simp)
def mget {κ : Type} [DecidableEq κ] (l : List (κ × Value)) (a : κ) (z : Value) : Value := match l.find? (fun p => decide (p.1 = a)) with | some p => p.2 | none => z
theorem findNow_of {d : TypeDesc} {κ : Type} [DecidableEq κ] (enc : κ → Value) (h : ∀ a b : κ, Instr.sameNow d (enc a) (enc b) = some (decide (a = b))) (a : κ) : ∀ (es : List MapEntry) (l : List κ) (i : Nat), es.map (·.key) = l.map enc →
 Instr.findNow d (enc a) es i = some ((l.findIdx? (fun b => decide (b = a))).bind fun j => (es[j]?).map fun e => (i + j, e.val))
 | [], [], i, _ => by simp [Instr.findNow]
 | [], _ :: _, i, h => by simp at h
 | _ :: _, [], i, h => by simp at h
 | e :: es, b :: l, i, hk => by
   simp only [List.map_cons, List.cons.injEq] at hk
   obtain ⟨h1, h2⟩ := hk
   have ih := findNow_of enc h a es l (i + 1) h2
   simp only [Instr.findNow, h1, h]
   by_cases hab : a = b
   · subst hab
     simp [List.findIdx?_cons]
   · have hba : ¬ b = a := fun h => hab h.symm
     simp only [decide_eq_false hab, ih, List.findIdx?_cons, decide_eq_false hba, Bool.false_eq_true, if_false]
     cases l.findIdx? (fun b => decide (b = a)) with
     | none => rfl
     | some j =>
       simp only [Option.bind_some, Option.map_some, List.getElem?_cons_succ]
       rw [show i + 1 + j = i + (j + 1) by omega]
theorem findAsking_of {P : Program} {kt : Nat} {κ : Type} [DecidableEq κ] (enc : κ → Value) (h : ∀ (a b : κ) (w : World), (Op.equal kt (enc a) (enc b)).run P w = .ok (decide (a = b)) w) (a : κ) (w : World) : ∀ (es : List MapEntry) (l : List κ) (i : Nat), es.map (·.key) = l.map enc →
 (Instr.findAsking kt (enc a) es i).run P w = .ok ((l.findIdx? (fun b => decide (b = a))).bind fun j => (es[j]?).map fun e => (i + j, e.val)) w
 | [], [], i, _ => by simp [Instr.findAsking]
 | [], _ :: _, i, h => by simp at h
 | _ :: _, [], i, h => by simp at h
 | e :: es, b :: l, i, hk => by
   simp only [List.map_cons, List.cons.injEq] at hk
   obtain ⟨h1, h2⟩ := hk
   have ih := findAsking_of enc h a w es l (i + 1) h2
   simp only [Instr.findAsking, h1]
   by_cases hab : a = b
   · subst hab
     simp [List.findIdx?_cons, h]
   · have hba : ¬ b = a := fun h => hab h.symm
     simp only [Sem.run_bind, h, decide_eq_false hab, Result.andThen, List.findIdx?_cons, decide_eq_false hba, Bool.false_eq_true, if_false, ih]
     cases l.findIdx? (fun b => decide (b = a)) with
     | none => rfl
     | some j =>
       simp only [Option.bind_some, Option.map_some, List.getElem?_cons_succ]
       rw [show i + 1 + j = i + (j + 1) by omega]
instance {P : Program} {kt : Nat} [hu : Und P kt (.int .i64)] : MKey P kt Int where
 enc := fun z => .int .i64 z
 chk := fun em a w => MapKept.run_checkKey (k := .int .i64 a) hu.h (by simp [MapKept.IsKey]) em 9999
 find := fun a es l w hk => by
  have := findNow_of (d := .int .i64) (fun z : Int => Value.int .i64 z) (fun a b => by simp [Instr.sameNow, Bool.beq_eq_decide_eq]) a es l 0 hk
  simpa using MapKept.run_findKey (w := w) hu.h this
instance instMKeyStr {P : Program} {kt : Nat} [hu : Und P kt .string] : MKey P kt Str where
 enc := str
 chk := fun em a w => MapKept.run_checkKey (k := str a) hu.h (by simp [MapKept.IsKey]) em 9999
 find := fun a es l w hk => by
  have := findNow_of (d := .string) str (fun a b => by
   simp only [Instr.sameNow, Option.some.injEq]
   rw [beq_toListBytes, str_beq]) a es l 0 hk
  simpa using MapKept.run_findKey (w := w) hu.h this
section
variable {P : Program} {n : Nat} {e : Env} {w : World} {d : Option Nat} {ty : TypeId} {pos : String} {af : Array Edge} {g : Option (Nat × Bool)}
theorem OE_makeMap {t : TypeId} {κ : Type} (enc : κ → Value) : OE P n ⟨d, .makeMap t none, ty, pos, af, g⟩ e w (fun v w' => ∃ r, v = .map (some r) ∧ w.heap.size ≤ r ∧ MapAt enc w' r [] ∧ Stp [] w w') :=
 OE_value (v := .map (some w.heap.size)) (w' := w.alloc (.map #[] 0)) (fun a ha => by
  simp [execOp, run_makeMap]) ⟨_, rfl, Nat.le_refl _, ⟨#[], 0, heap_alloc_new w _, rfl, rfl⟩, Stp.alloc _ _ _⟩
theorem find_fresh {κ : Type} [DecidableEq κ] {l : List κ} {a : κ} (h : ∀ b ∈ l, ¬ b = a) : l.findIdx? (fun b => decide (b = a)) = none := by
 rw [List.findIdx?_eq_none_iff]
 intro b hb
 simp [h b hb]
theorem run_mapAdd {mt kt et r : Nat} {κ : Type} [DecidableEq κ] [hm : Und P mt (.map kt et)] [K : MKey P kt κ] {l : List (κ × Value)} {a : κ} {v : Value} (hr : MapAt K.enc w r l) (hn : ∀ p ∈ l, ¬ p.1 = a) :
 ∃ w', (Instr.mapUpdate mt (.map (some r)) (K.enc a) v).run P w = .ok () w' ∧ MapAt K.enc w' r (l ++ [(a, v)]) ∧ Stp [r] w w' := by
 obtain ⟨es, clock, h1, h2, h3⟩ := hr
 have hf : (Instr.findKey kt (K.enc a) es.toList).run P w = .ok none w := by
  have hk : es.toList.map (·.key) = (l.map (·.1)).map K.enc := by rw [h2, List.map_map]; rfl
  rw [K.find a es.toList (l.map (·.1)) w hk, find_fresh (by simpa using hn)]
  rfl
 have hlt : r < w.heap.size := (Array.getElem?_eq_some_iff.1 h1).1
 refine ⟨{ w with heap := w.heap.setIfInBounds r (.map (es.push { key := K.enc a, val := v, born := clock }) (clock + 1)) }, ?_, ?_, ?_⟩
 · simp [Instr.mapUpdate, run_underlying hm.h, MapKept.run_getObj_map h1, K.chk, hf, MapKept.run_setObj_map _ h1, Result.andThen]
 · refine ⟨es.push { key := K.enc a, val := v, born := clock }, clock + 1, by simp [hlt], ?_, ?_⟩
   · simp [h2]
   · simp [h3]
 · refine ⟨rfl, rfl, rfl, by simp, fun b hb hn => ?_⟩
   simp only [List.mem_singleton] at hn
   simp [Array.getElem?_setIfInBounds_ne (fun h => hn h.symm)]
theorem OE_insert {mt kt et r : Nat} {κ : Type} [DecidableEq κ] {x y z : Operand} [hm : Und P mt (.map kt et)] [K : MKey P kt κ] {l : List (κ × Value)} {a : κ} {v : Value} (hx : ev e x = some (.map (some r))) (hy : ev e y = some (K.enc a)) (hz : ev e z = some v) (hr : MapAt K.enc w r l) (hn : ∀ p ∈ l, ¬ p.1 = a) :
 OE P n ⟨d, .insert mt x y z, ty, pos, af, g⟩ e w (fun _ w' => MapAt K.enc w' r (l ++ [(a, v)]) ∧ Stp [r] w w') := by
 obtain ⟨w', h1, h2, h3⟩ := run_mapAdd (mt := mt) (v := v) hr hn
 exact OE_skip (w' := w') (fun c hc => by simp [execOp, hc.ev hx, hc.ev hy, hc.ev hz, h1]) ⟨h2, h3⟩
theorem OE_mapAdd {mt kt et r : Nat} {κ : Type} [DecidableEq κ] {x y z : Operand} [hm : Und P mt (.map kt et)] [K : MKey P kt κ] {l : List (κ × Value)} {a : κ} {v : Value} (hx : ev e x = some (.map (some r))) (hy : ev e y = some (K.enc a)) (hz : ev e z = some v) (hr : MapAt K.enc w r l) (hn : ∀ p ∈ l, ¬ p.1 = a) :
 OE P n ⟨d, .mapUpdate mt x y z, ty, pos, af, g⟩ e w (fun _ w' => MapAt K.enc w' r (l ++ [(a, v)]) ∧ Stp [r] w w') := by
 obtain ⟨w', h1, h2, h3⟩ := run_mapAdd (mt := mt) (v := v) hr hn
 exact OE_skip (w' := w') (fun c hc => by simp [execOp, hc.ev hx, hc.ev hy, hc.ev hz, h1]) ⟨h2, h3⟩
theorem PR_lookup {mt kt et r : Nat} {κ : Type} [DecidableEq κ] {x y : Operand} {z : Value} [hm : Und P mt (.map kt et)] [K : MKey P kt κ] [hz : Zer P et z] {l : List (κ × Value)} {a : κ} (hx : ev e x = some (.map (some r))) (hy : ev e y = some (K.enc a)) (hr : MapAt K.enc w r l) :
 PR P n ⟨d, .lookup mt x y false, ty, pos, af, g⟩ e w (mget l a z) := by
 refine ⟨fun c hc => ?_⟩
 obtain ⟨es, clock, h1, h2, h3⟩ := hr
 have hk : es.toList.map (·.key) = (l.map (·.1)).map K.enc := by rw [h2, List.map_map]; rfl
 have hf := K.find a es.toList (l.map (·.1)) w hk
 have hlen : es.toList.length = l.length := by have := congrArg List.length h3; simpa using this
 have hv : ∀ i : Nat, (es.toList[i]?).map (fun x : MapEntry => x.val) = (l[i]?).map (fun x : κ × Value => x.2) := fun i => by
  have := congrArg (fun x => x[i]?) h3
  simpa using this
 have hfind : mget l a z = match (l.map (·.1)).findIdx? (fun b => decide (b = a)) with | some i => ((es.toList[i]?).map (fun x : MapEntry => x.val)).getD z | none => z := by
  unfold mget
  rw [List.findIdx?_map]
  cases hi : l.findIdx? ((fun b => decide (b = a)) ∘ fun x => x.1) with
  | none =>
    have : l.find? (fun p => decide (p.1 = a)) = none := by
     rw [List.find?_eq_none]
     intro p hp
     have := (List.findIdx?_eq_none_iff.1 hi) p hp
     simpa using this
    rw [this]
  | some i =>
    obtain ⟨hlt, hp, hb⟩ := List.findIdx?_eq_some_iff_getElem.1 hi
    have : l.find? (fun p => decide (p.1 = a)) = some l[i] := by
     rw [List.find?_eq_some_iff_getElem]
     exact ⟨by simpa using hp, i, hlt, rfl, fun j hj => by simpa using hb j hj⟩
    rw [this]
    simp only [hv, List.getElem?_eq_getElem hlt, Option.map_some, Option.getD_some]
 rw [hfind]
 simp only [execOp, hc.ev hx, hc.ev hy]
 cases hi : (l.map (·.1)).findIdx? (fun b => decide (b = a)) with
 | none =>
   rw [hi] at hf
   simp [Instr.lookup, run_underlying hm.h, MapKept.run_getObj_map h1, K.chk, hf, Result.andThen, Zer.run]
 | some i =>
   obtain ⟨hlt, _⟩ := List.findIdx?_eq_some_iff_getElem.1 hi
   have hlt' : i < es.toList.length := by rw [hlen]; simpa using hlt
   rw [hi] at hf
   simp only [Option.bind_some, List.getElem?_eq_getElem hlt', Option.map_some] at hf
   simp [Instr.lookup, run_underlying hm.h, MapKept.run_getObj_map h1, K.chk, hf, Result.andThen, List.getElem?_eq_getElem hlt']
end
end Go.Eng
namespace Go.Proofs.YtgpibcgebpgmiaaGreatDoor
open Go Go.Eng Go.RowKit
def idx {α : Type} (p : α → Bool) (xs : List α) : Int := match xs.findIdx? p with | some i => (i : Int) | none => -1
theorem idx_of_at {α : Type} {p : α → Bool} {xs : List α} {k : Nat} (hk : k < xs.length) (hp : p xs[k] = true) (hb : ∀ j (h : j < xs.length), j < k → p xs[j] = false) : idx p xs = k := by
 have : xs.findIdx? p = some k := List.findIdx?_eq_some_iff_getElem.2 ⟨hk, hp, fun j hj => by simp [hb j (by omega) hj]⟩
 simp [idx, this]
theorem idx_of_none {α : Type} {p : α → Bool} {xs : List α} (hb : ∀ j (h : j < xs.length), p xs[j] = false) : idx p xs = -1 := by
 have : xs.findIdx? p = none := by
  rw [List.findIdx?_eq_none_iff]
  intro x hx
  obtain ⟨j, hj, rfl⟩ := List.getElem_of_mem hx
  simp [hb j hj]
 simp [idx, this]
abbrev isS (a : Str) : Str → Bool := fun x => decide (x = a)
theorem index_any (X : List Nat) (v : Value) (l : List Str) (a : Str) (w : World) (hs : SlV X w v l) : Calls Tryz.prog 105 #[v, str a] w (Ret fun r w' => r = .int .i64 (idx (isS a) l) ∧ Stp [] w w') := by
 have hmax := hs.max
 refine calls_of_WC2 (n := 19) Tryz.func105 rfl rfl rfl ?_
 refine W ?_
 refine WC_loop (σ := Nat) (fun k => [(0, v), (1, str a), (8, .int .i64 k), (7, .int .i64 (l.length : Int))]) (fun k w' => k ≤ l.length ∧ Stp [] w w' ∧ ∀ j (h : j < l.length), j < k → isS a l[j] = false) (fun k => l.length - k) 0 ⟨rfl, rfl, rfl, rfl, trivial⟩ ⟨Nat.zero_le _, Stp.refl _ _, fun j _ h => absurd h (Nat.not_lt_zero _)⟩ ?_
 have hs0 := hs
 clear hs
 rintro k w1 ⟨hk, hS, hno⟩
 have hs := hs0.up hS
 by_cases hlt : k < l.length
 · repeat' (first | refine W1 ?_ | (exfalso; omega) | (refine VG ?_ ?_ <;> intro hg) | (refine VC ?_ ?_ <;> intro hc))
   · refine WR ?_
     have he' : isS a l[k] = true := by simpa [isS, eq_comm] using hc
     exact .mk ⟨by rw [idx_of_at hlt he' hno], hS⟩
   · refine WQ_loop (k + 1) ⟨rfl, rfl, rfl, rfl, trivial⟩ ⟨hlt, hS, fun j h hj => ?_⟩ (by omega)
     by_cases e : j = k
     · subst e; simpa [isS, eq_comm] using hc
     · exact hno j h (by omega)
 · have hke : k = l.length := by omega
   subst hke
   repeat' (first | refine W1 ?_ | (exfalso; omega) | (refine VG ?_ ?_ <;> intro hg) | (refine VC ?_ ?_ <;> intro hc))
   refine WR ?_
   exact .mk ⟨by rw [idx_of_none (fun j h => hno j h h)], hS⟩
def fieldNames : List Str := [[100, 97, 121], [115, 101, 114, 118, 101, 100], [101, 120, 116, 114, 97], [98, 121], [116, 111], [99, 111, 117, 114, 116], [97, 109, 111, 117, 110, 116]]
abbrev flds : Value := .slice (some ⟨0, 0, none⟩) 7 7
def fieldF (a : Str) : Int × Int × Bool :=
 let i := idx (isS a) fieldNames
 if i < 0 then (0, 0, false) else if i ≤ 1 then (i, 3, true) else (i, 1, true)
abbrev tup3 (x : Int × Int × Bool) : Value := .tuple #[.int .i64 x.1, .int .i64 x.2.1, .bool x.2.2]
theorem Field_any (a : Str) (w : World) (hF : SlV [] w flds fieldNames) : Calls Tryz.prog 59 #[str a] w (Ret fun r w' => r = tup3 (fieldF a) ∧ Stp [] w w') := by
 refine calls_of_WC1 (n := 17) Tryz.func59 rfl rfl rfl ?_
 refine W ?_
 apply WL_pure (PR_sliceA rfl) rfl
 refine W ?_
 refine CL rfl (evs2 rfl rfl) rfl (index_any [] _ _ a _ hF) ?_
 rintro _ w1 ⟨rfl, hS⟩
 unfold fieldF
 generalize idx (isS a) fieldNames = i
 repeat' (first | refine W1 ?_ | (refine VG ?_ ?_ <;> intro hg) | (refine VC ?_ ?_ <;> intro hc))
 all_goals (refine WR ?_)
 · exact .mk ⟨by simp only [if_pos hc], hS⟩
 · rename_i h1
   exact .mk ⟨by simp only [if_neg h1, if_pos hc], hS⟩
 · rename_i h1
   exact .mk ⟨by simp only [if_neg h1, if_neg hc], hS⟩
theorem buildSS1 (a : Str) (w : World) : (Instr.buildSlice 56 1 #[(0, str a)]).run Tryz.prog w = .ok (.slice (some ⟨w.heap.size, 0, none⟩) 1 1) (w.alloc (.cells #[str a] 9)) := by kernel_rfl
theorem _root_.Go.Eng.Row.slv0 {α : Type} [GoRep α] {w : World} {base T : Nat} {v : Value} {xs : List α} (h : Row [] w base T v xs) : SlV [] w v xs := h.slv (by simp)
def leafN (k n : Int) (s : Str) : Int :=
 if k = 4 then (if n = 0 then (fieldF s).2.1 else 0) else if ¬ s = [] then 0
 else if k = 1 then (if 0 ≤ n ∧ n ≤ 2147483647 then 1 else 0) else if k = 2 then (if 0 ≤ n ∧ n ≤ 1 then 2 else 0) else if k = 3 then (if 0 ≤ n ∧ n ≤ 3652058 then 3 else 0) else 0
theorem fieldF_no {a : Str} (h : (fieldF a).2.2 = false) : (fieldF a).2.1 = 0 := by
 unfold fieldF at h ⊢
 dsimp only at h ⊢
 split <;> rename_i h1
 · rfl
 · rw [if_neg h1] at h
   split at h <;> simp at h
theorem leaf_any (X : List Nat) (v : Value) (x : Nd) (w : World) (hx : NdV X w v x) (hF : SlV [] w flds fieldNames) :
 Calls Tryz.prog 100 #[v] w (Ret fun r w' => r = .int .i64 (leafN x.kind x.num x.word) ∧ Stp [] w w') := by
 obtain ⟨kv, rfl, hs⟩ := hx
 refine calls_of_WC1 (n := 50) Tryz.func100 rfl rfl rfl ?_
 refine W ?_
 refine WL_eff (OE_box rfl) rfl ?_
 rintro _ w1 ⟨b, rfl, hb, hblk, hS⟩
 replace hblk : Blk w1 b _ (ndC x kv) := hblk
 replace hF := hF.up hS
 repeat' (first | refine W1 ?_ | (exfalso; omega) | (refine VG ?_ ?_ <;> intro hg) | (refine VC ?_ ?_ <;> intro hc))
 · refine CL rfl (evs1 rfl) rfl (Field_any x.word _ hF) ?_
   rintro _ w2 ⟨rfl, hS2⟩
   replace hS := hS.trans hS2
   repeat' (first | refine W1 ?_ | (exfalso; omega) | (refine VG ?_ ?_ <;> intro hg) | (refine VC ?_ ?_ <;> intro hc))
   refine WR ?_
   refine .mk ⟨?_, hS⟩
   simp only [leafN]
   rw [if_pos (by assumption), if_pos (by assumption)]
   rfl
 all_goals first
  | (refine WL_eff (OE_makeMap (fun z : Int => Value.int .i64 z)) rfl ?_
     rintro _ w2 ⟨r, rfl, hr, hm, hS2⟩
     have hbl := hblk.lt
     have hsz := hS.size
     replace hblk := hblk.up hS2
     replace hS := hS.trans hS2
     refine WL_eff0 (OE_insert (a := (1 : Int)) (v := .int .i64 1) rfl rfl rfl hm (by simp)) ?_
     rintro _ w3 ⟨hm, hS3⟩
     replace hblk := hblk.ext hS3 (by simp; omega)
     replace hS := hS.own hS3 (fun b hb => .inr (by simp at hb; omega))
     refine WL_eff0 (OE_insert (a := (2 : Int)) (v := .int .i64 2) rfl rfl rfl hm (by simp)) ?_
     rintro _ w4 ⟨hm, hS4⟩
     replace hblk := hblk.ext hS4 (by simp; omega)
     replace hS := hS.own hS4 (fun b hb => .inr (by simp at hb; omega))
     refine WL_eff0 (OE_insert (a := (3 : Int)) (v := .int .i64 3) rfl rfl rfl hm (by simp)) ?_
     rintro _ w5 ⟨hm, hS5⟩
     replace hblk := hblk.ext hS5 (by simp; omega)
     replace hS := hS.own hS5 (fun b hb => .inr (by simp at hb; omega))
     refine W ?_
     apply WL_pure (PR_lookup (a := x.kind) rfl rfl hm) rfl
     refine W ?_
     refine WR ?_
     refine .mk ⟨?_, hS⟩
     have hw : x.word = [] := by first | assumption | exact Decidable.not_not.1 (by assumption)
     simp only [leafN, hw, not_true_eq_false, if_false]
     first
      | (have hk : x.kind = 1 := by assumption
         rw [hk, if_neg (by decide), if_pos rfl, if_pos (by omega)]; rfl)
      | (have hk : x.kind = 2 := by assumption
         rw [hk, if_neg (by decide), if_neg (by decide), if_pos rfl, if_pos (by omega)]; rfl)
      | (have hk : x.kind = 3 := by assumption
         rw [hk, if_neg (by decide), if_neg (by decide), if_neg (by decide), if_pos rfl, if_pos (by omega)]; rfl))
  | skip
 all_goals (refine WR ?_)
 all_goals
  refine .mk ⟨?_, hS⟩
  simp only [leafN]
  repeat' split
  all_goals first | rfl | (exfalso; omega) | (exfalso; simp_all; done) | (exfalso; simp_all; omega)
def areB (l want : List Int) : Bool := decide (l = want ∧ ∀ x ∈ l, x ≠ 0)
theorem buildSI1 (a : Int) (w : World) : (Instr.buildSlice 22 1 #[(0, .int .i64 a)]).run Tryz.prog w = .ok (.slice (some ⟨w.heap.size, 0, none⟩) 1 1) (w.alloc (.cells #[.int .i64 a] 3)) := by kernel_rfl
theorem buildSI2 (a b : Int) (w : World) : (Instr.buildSlice 22 2 #[(0, .int .i64 a), (1, .int .i64 b)]).run Tryz.prog w = .ok (.slice (some ⟨w.heap.size, 0, none⟩) 2 2) (w.alloc (.cells #[.int .i64 a, .int .i64 b] 3)) := by kernel_rfl
theorem NewSl.stp {w w' : World} {T len : Nat} {cs : List Value} {v : Value} (h : NewSl w T len cs v w') : Stp [] w w' := h.choose_spec.2.2.2
def opsA : List Str := [[43], [45], [42]]
def opsC : List Str := [[60], [60, 61], [61], [33, 61], [62], [62, 61]]
def opsL : List Str := [[97, 110, 100], [111, 114]]
def binR (s : Str) (l : List Int) : Int :=
 if 0 ≤ idx (isS s) opsA ∧ areB l [1, 1] = true then 1 else if 0 ≤ idx (isS s) opsC ∧ (areB l [1, 1] = true ∨ areB l [3, 3] = true) then 2 else if 0 ≤ idx (isS s) opsL ∧ areB l [2, 2] = true then 2 else 0
structure Sig where
 kind : Int
 s : Str
 a : Int
 b : Int
 c : Int
 deriving DecidableEq
abbrev sigV (x : Sig) : Value := .agg #[.int .i64 x.kind, str x.s, .int .i64 x.a, .int .i64 x.b, .int .i64 x.c]
theorem sig_eq (x y : Sig) (w : World) : (Op.equal 163 (sigV x) (sigV y)).run Tryz.prog w = .ok (decide (x = y)) w := by
 have h1 : Program.stoodInHeld Tryz.prog 163 = false := by kernel_rfl
 obtain ⟨i, hi⟩ : ∃ i, Tryz.prog.info? 3 = some i := by
  have := (inferInstance : Siz Tryz.prog 3 1).h
  cases h : Tryz.prog.info? 3 with
  | none => rw [h] at this; cases this
  | some i => exact ⟨i, rfl⟩
 have hc : Tryz.prog.cellsOf 3 = 1 := by kernel_rfl
 obtain ⟨k, s, a, b, c⟩ := x
 obtain ⟨k', s', a', b', c'⟩ := y
 simp [sigV, Op.equal, Op.maxDepth, run_equalIn_struct, h1, Program.fieldsOf, Tryz.underlying163, Op.eqFields, part, Und.isAgg, Siz.run, aggB, run_equalIn_int w _ _ .i64 .i64 _ _ Tryz.underlying3, run_equalIn_string w _ _ _ _ Tryz.underlying9, run_equalIn_array w _ _ _ Tryz.underlying158 hi, hc, Op.eqItems, List.range_succ_eq_map]
 repeat' split
 all_goals simp_all
theorem sig_chk (em : Bool) (x : Sig) (w : World) : (Instr.checkKey em 10000 163 (sigV x)).run Tryz.prog w = .ok () w := by kernel_rfl
instance : MKey Tryz.prog 163 Sig where
 enc := sigV
 chk := sig_chk
 find := fun a es l w hk => by
  have h2 := run_findKey_eq (P := Tryz.prog) (k := 163) w (by kernel_rfl) (sigV a) es
  have h3 := findAsking_of sigV sig_eq a w es l 0 hk
  simp only [Nat.zero_add] at h3
  exact h2.trans h3
abbrev arr3 (a b c : Int) : Value := .agg #[.int .i64 a, .int .i64 b, .int .i64 c]
theorem buildA1 (a : Int) (w : World) : (Instr.build 158 #[(0, .int .i64 a)]).run Tryz.prog w = .ok (arr3 a 0 0) w := by kernel_rfl
theorem buildA2 (a b : Int) (w : World) : (Instr.build 158 #[(0, .int .i64 a), (1, .int .i64 b)]).run Tryz.prog w = .ok (arr3 a b 0) w := by kernel_rfl
theorem buildSg (k a b c : Int) (s : Str) (w : World) : (Instr.build 163 #[(0, .int .i64 k), (1, str s), (2, arr3 a b c)]).run Tryz.prog w = .ok (sigV ⟨k, s, a, b, c⟩) w := by kernel_rfl
theorem buildSS4 (a b c d : Str) (w : World) : (Instr.buildSlice 56 4 #[(0, str a), (1, str b), (2, str c), (3, str d)]).run Tryz.prog w = .ok (.slice (some ⟨w.heap.size, 0, none⟩) 4 4) (w.alloc (.cells #[str a, str b, str c, str d] 9)) := by kernel_rfl
abbrev SigE := Sig × Value
def ent : Nat → SigE
 | 5 => (⟨5, [45], 1, 0, 0⟩, .int .i64 1)
 | 10 => (⟨5, [110, 111, 116], 2, 0, 0⟩, .int .i64 2)
 | 15 => (⟨10, [110, 101, 120, 116], 3, 0, 0⟩, .int .i64 3)
 | 20 => (⟨10, [112, 114, 101, 118], 3, 0, 0⟩, .int .i64 3)
 | 26 => (⟨10, [108, 97, 116, 101, 114], 3, 3, 0⟩, .int .i64 3)
 | 32 => (⟨10, [101, 97, 114, 108, 105, 101, 114], 3, 3, 0⟩, .int .i64 3)
 | _ => (⟨10, [98, 101, 116, 119, 101, 101, 110], 3, 3, 0⟩, .int .i64 1)
def ents : List Nat := [5, 10, 15, 20, 26, 32, 38]
def units : List Str := [[100, 97, 121, 115], [119, 101, 101, 107, 115], [109, 111, 110, 116, 104, 115], [99, 111, 117, 114, 116, 100, 97, 121, 115]]
def unitE (u : Str) : List SigE := [(⟨7, u, 3, 1, 0⟩, .int .i64 3), (⟨8, u, 3, 1, 0⟩, .int .i64 3)]
def sigs : List SigE := ents.map ent ++ units.flatMap unitE
theorem sigs_nodup : (sigs.map (·.1)).Nodup := by decide
theorem mget_perm {κ : Type} [DecidableEq κ] {l m : List (κ × Value)} (hp : l.Perm m) (hn : (m.map (·.1)).Nodup) (a : κ) (z : Value) : mget l a z = mget m a z := by
 have hn' : (l.map (·.1)).Nodup := (hp.map _).nodup_iff.2 hn
 have key : ∀ (l m : List (κ × Value)), (∀ p, p ∈ l → p ∈ m) → (m.map (·.1)).Nodup → ∀ p, l.find? (fun p => decide (p.1 = a)) = some p → m.find? (fun p => decide (p.1 = a)) = some p := by
  intro l m hs hm p hf
  have hpm := hs p (List.mem_of_find?_eq_some hf)
  have hpa : p.1 = a := by simpa using List.find?_some hf
  cases hq : m.find? (fun p => decide (p.1 = a)) with
  | none => exact absurd (List.find?_eq_none.1 hq p hpm) (by simp [hpa])
  | some q =>
    have hqm := List.mem_of_find?_eq_some hq
    have hqa : q.1 = a := by simpa using List.find?_some hq
    obtain ⟨i, hi, rfl⟩ := List.getElem_of_mem hpm
    obtain ⟨j, hj, rfl⟩ := List.getElem_of_mem hqm
    have : i = j := by
     have h1 := (List.getElem_inj (xs := m.map (·.1)) (i := i) (j := j) (h₀ := by simpa using hi) (h₁ := by simpa using hj) hm).1 (by simp [hpa, hqa])
     exact h1
    subst this
    rfl
 unfold mget
 cases h1 : l.find? (fun p => decide (p.1 = a)) with
 | some p => rw [key l m (fun p h => hp.mem_iff.1 h) hn p h1]
 | none =>
   cases h2 : m.find? (fun p => decide (p.1 = a)) with
   | none => rfl
   | some p => rw [key m l (fun p h => hp.mem_iff.2 h) hn' p h2] at h1; cases h1
theorem signatures_any (w : World) : Calls Tryz.prog 102 #[] w (Ret fun r w' => ∃ (m : Nat) (l : List SigE), r = .map (some m) ∧ MapAt sigV w' m l ∧ l.Perm sigs ∧ Stp [] w w') := by
 refine calls_of_WC0 (n := 62) Tryz.func102 rfl rfl ?_
 refine W ?_
 refine WC_drawn 41 [] [5, 10, 15, 20, 26, 32, 38] [(1, 0), (2, 0), (3, 0), (4, 0), (6, 0), (7, 0), (8, 0), (9, 0), (11, 0), (12, 0), (13, 0), (14, 0), (16, 0), (17, 0), (18, 0), (19, 0), (21, 0), (22, 0), (23, 0), (24, 0), (25, 0), (27, 0), (28, 0), (29, 0), (30, 0), (31, 0), (33, 0), (34, 0), (35, 0), (36, 0), (37, 0), (0, 2), (5, 279241165504), (39, 0), (40, 0)] rfl mixed (by kernel_rfl) (by kernel_rfl) (by kernel_rfl) (fun w1 hS1 => ?_)
 repeat' (first | refine D1 ?_ | (apply WD_op; exact rfl; first | (apply WO_build (vs := [(0, .int .i64 _)]); exact trivial; exact rfl; exact buildA1 _; exact rfl) | (apply WO_build (vs := [(0, .int .i64 _), (1, .int .i64 _)]); exact trivial; exact rfl; exact buildA2 _ _; exact rfl) | (apply WO_build (vs := [(0, .int .i64 _), (1, str _), (2, arr3 _ _ _)]); exact trivial; exact rfl; exact buildSg _ _ _ _ _; exact rfl)))
 refine WD_eff rfl trivial (OE_makeMap sigV) (fun _ _ h => h.choose_spec.2.2.2) rfl ?_
 rintro _ w2 ⟨m, rfl, hm, hmap, hS2⟩
 have hw1 := hS1.size
 refine WD_set ents (fun rem w' => ∃ l, MapAt sigV w' m l ∧ (l ++ rem.map ent).Perm (ents.map ent) ∧ Stp [m] w2 w') rfl (by decide) (by decide) ⟨[], hmap, by simp, Stp.refl _ _⟩ ?_ ?_
 · rintro rem j w' hsub hj ⟨l, hl, hp, hS⟩
   have hkeys : ((l ++ rem.map ent).map (·.1)).Nodup := (hp.map (·.1)).nodup_iff.2 (by decide)
   have hfresh : ∀ p ∈ l, ¬ p.1 = (ent j).1 := by
    intro p hp e
    rw [List.map_append, List.nodup_append] at hkeys
    exact hkeys.2.2 p.1 (List.mem_map_of_mem hp) (ent j).1 (by rw [List.map_map]; exact List.mem_map.2 ⟨j, hj, rfl⟩) e
   have gen : ∀ w'', MapAt sigV w'' m (l ++ [ent j]) → Stp [m] w' w'' → ∃ l, MapAt sigV w'' m l ∧ (l ++ (rem.erase j).map ent).Perm (ents.map ent) ∧ Stp [m] w2 w'' := by
    intro w'' h1 h2
    refine ⟨_, h1, ?_, hS.trans h2⟩
    refine List.Perm.trans ?_ hp
    rw [List.append_assoc]
    exact List.Perm.append_left l (((List.perm_cons_erase hj).map ent).symm)
   have hjis := hsub.subset hj
   simp only [ents, List.mem_cons, List.not_mem_nil, or_false] at hjis
   rcases hjis with rfl | rfl | rfl | rfl | rfl | rfl | rfl
   all_goals exact ⟨_, rfl, rfl, trivial, (OE_insert (v := .int .i64 _) rfl rfl rfl hl hfresh).mono (fun _ w'' ⟨h1, h2⟩ => ⟨.inr rfl, gen w'' h1 h2⟩)⟩
 rintro w3 ⟨l, hl, hp, hS3⟩
 rw [List.map_nil, List.append_nil] at hp
 have hS : Stp [] w w3 := (hS1.trans hS2).own hS3 (fun b hb => .inr (by simp at hb; omega))
 have hmw : w.heap.size ≤ m := by omega
 clear hmap hS2 hS3
 repeat' (first | refine D1 ?_ | refine WD_splitN rfl rfl rfl rfl (fun hg => ?_) (fun hg => ?_) | (refine WD_splitBN rfl rfl rfl rfl (fun hg => ?_) (fun hg => ?_) <;> refine D1 ?_) | fail)
 refine W ?_
 refine WL_eff (OE_buildSlice (vs := [(0, str [100, 97, 121, 115]), (1, str [119, 101, 101, 107, 115]), (2, str [109, 111, 110, 116, 104, 115]), (3, str [99, 111, 117, 114, 116, 100, 97, 121, 115])]) rfl (buildSS4 _ _ _ _)) rfl ?_
 rintro uv w4 hN
 have hu : SlV [m] w4 uv units := hN.slv (fun b hb => by simp at hb; subst hb; exact hl.lt) rfl rfl (by simp [units, maxLen])
 have hS4 := NewSl.stp hN
 clear hN
 replace hl := hl.up hS4
 replace hS := hS.trans hS4
 have hkind : ∀ p ∈ l, p.1.kind = 5 ∨ p.1.kind = 10 := fun p hpl => by
  have hpe := hp.mem_iff.1 hpl
  simp only [ents, List.map_cons, List.map_nil, List.mem_cons, List.not_mem_nil, or_false] at hpe
  rcases hpe with rfl | rfl | rfl | rfl | rfl | rfl | rfl <;> decide
 have hseen : ∀ k (h : k < units.length), ∀ p ∈ (units.take k).flatMap unitE, ¬ p.1.s = units[k] := by
  intro k h
  match k, h with
  | 0, _ => (show ∀ p ∈ (units.take 0).flatMap unitE, ¬ p.1.s = units[0]'(by decide)); decide
  | 1, _ => (show ∀ p ∈ (units.take 1).flatMap unitE, ¬ p.1.s = units[1]'(by decide)); decide
  | 2, _ => (show ∀ p ∈ (units.take 2).flatMap unitE, ¬ p.1.s = units[2]'(by decide)); decide
  | 3, _ => (show ∀ p ∈ (units.take 3).flatMap unitE, ¬ p.1.s = units[3]'(by decide)); decide
 refine W ?_
 refine WC_loop (σ := Nat) (fun k => [(1, .int .i64 1), (3, .int .i64 3), (4, .map (some m)), (40, uv), (41, .int .i64 4), (42, .int .i64 k)]) (fun k w' => k ≤ 4 ∧ MapAt sigV w' m (l ++ (units.take k).flatMap unitE) ∧ Stp [m] w4 w') (fun k => 4 - k) 0 ⟨rfl, rfl, rfl, rfl, rfl, rfl, trivial⟩ ⟨by omega, by simpa using hl, Stp.refl _ _⟩ ?_
 rintro k w5 ⟨hk, hmk, hS5⟩
 have hu5 : SlV [m] w5 uv units := hu.ext hS5 (by simp) (fun b hb => .inl hb)
 by_cases hlt : k < 4
 · have hlt2 : k < units.length := hlt
   have hfr : ∀ (t : Int), ¬ t = 5 → ¬ t = 10 → ∀ p ∈ l ++ (units.take k).flatMap unitE, ¬ p.1 = ⟨t, units[k], 3, 1, 0⟩ := by
    intro t h5 h10 p hpm e
    rcases List.mem_append.1 hpm with h | h
    · have := hkind p h
      rw [e] at this
      rcases this with h | h
      · exact h5 h
      · exact h10 h
    · exact hseen k hlt2 p h (by rw [e])
   repeat' (first | refine W1 ?_ | (exfalso; omega) | (refine VG ?_ ?_ <;> intro hg) | (refine VC ?_ ?_ <;> intro hc))
   apply WL_build (vs := [(0, .int .i64 3), (1, .int .i64 1)]) rfl (buildA2 _ _) rfl
   apply WL_build (vs := [(0, .int .i64 7), (1, str _), (2, arr3 _ _ _)]) rfl (buildSg _ _ _ _ _) rfl
   refine W ?_
   refine WL_eff0 (OE_mapAdd (a := (⟨7, units[k], 3, 1, 0⟩ : Sig)) (v := .int .i64 3) rfl rfl rfl hmk (hfr 7 (by decide) (by decide))) ?_
   rintro _ w6 ⟨hm6, hS6⟩
   refine W ?_
   apply WL_build (vs := [(0, .int .i64 3), (1, .int .i64 1)]) rfl (buildA2 _ _) rfl
   apply WL_build (vs := [(0, .int .i64 8), (1, str _), (2, arr3 _ _ _)]) rfl (buildSg _ _ _ _ _) rfl
   refine W ?_
   refine WL_eff0 (OE_mapAdd (a := (⟨8, units[k], 3, 1, 0⟩ : Sig)) (v := .int .i64 3) rfl rfl rfl hm6 (fun p hpm e => by
    rcases List.mem_append.1 hpm with h | h
    · exact hfr 8 (by decide) (by decide) p h e
    · simp only [List.mem_singleton] at h
      subst h
      simp at e)) ?_
   rintro _ w7 ⟨hm7, hS7⟩
   refine W ?_
   refine WQ_loop (k + 1) ⟨rfl, rfl, rfl, rfl, rfl, rfl, trivial⟩ ⟨by omega, ?_, (hS5.trans hS6).trans hS7⟩ (by omega)
   rw [List.take_succ_eq_append_getElem hlt2, List.flatMap_append]
   have e : l ++ ((units.take k).flatMap unitE ++ [units[k]].flatMap unitE) = (l ++ (units.take k).flatMap unitE ++ [((⟨7, units[k], 3, 1, 0⟩ : Sig), Value.int .i64 3)]) ++ [((⟨8, units[k], 3, 1, 0⟩ : Sig), Value.int .i64 3)] := by simp [unitE]
   rw [e]
   exact hm7
 · have hke : k = 4 := by omega
   subst hke
   repeat' (first | refine W1 ?_ | (exfalso; omega) | (refine VG ?_ ?_ <;> intro hg) | (refine VC ?_ ?_ <;> intro hc))
   refine WR ?_
   exact .mk ⟨m, _, rfl, hmk, hp.append_right _, hS.own hS5 (fun b hb => .inr (by simp at hb; omega))⟩
def sigF (x : Sig) : Value := mget sigs x (.int .i64 0)
def binT (s : Str) (a b : Int) : Int :=
 if s ∈ opsA then (if a = b ∧ a = 1 then 1 else 0) else if s ∈ opsC then (if a = b ∧ ¬ a = 2 then 2 else 0) else if s ∈ opsL then (if a = b ∧ a = 2 then 2 else 0) else 0
theorem binary_any (s : Str) (a b c : Int) (w : World) : Calls Tryz.prog 101 #[str s, arr3 a b c] w (Ret fun r w' => r = .int .i64 (binT s a b) ∧ Stp [] w w') := by
 refine calls_of_WC2 (n := 46) Tryz.func101 rfl rfl rfl ?_
 refine W ?_
 refine WL_eff (OE_box rfl) rfl ?_
 rintro _ w1 ⟨q, rfl, hq, hblk, hS⟩
 replace hblk : Blk w1 q _ [.int .i64 a, .int .i64 b, .int .i64 c] := hblk
 refine W ?_
 by_cases hA : s ∈ opsA
 · unfold binT
   rw [if_pos hA]
   simp only [opsA, List.mem_cons, List.not_mem_nil, or_false] at hA
   rcases hA with rfl | rfl | rfl
   all_goals (repeat' (first | refine W1 ?_ | (exfalso; omega) | (refine VG ?_ ?_ <;> intro hg) | (refine VC ?_ ?_ <;> intro hc)))
   all_goals (refine WR ?_)
   all_goals refine .mk ⟨?_, hS⟩
   all_goals first
    | rw [if_pos ⟨by assumption, by assumption⟩]
    | rw [if_neg (fun h => by omega)]
 by_cases hC : s ∈ opsC
 · unfold binT
   rw [if_neg hA, if_pos hC]
   simp only [opsC, List.mem_cons, List.not_mem_nil, or_false] at hC
   rcases hC with rfl | rfl | rfl | rfl | rfl | rfl
   all_goals (repeat' (first | refine W1 ?_ | (exfalso; omega) | (refine VG ?_ ?_ <;> intro hg) | (refine VC ?_ ?_ <;> intro hc)))
   all_goals (refine WR ?_)
   all_goals refine .mk ⟨?_, hS⟩
   all_goals first
    | rw [show (if a = b ∧ ¬ a = 2 then (2 : Int) else 0) = 2 from if_pos (by omega)]
    | rw [show (if a = b ∧ ¬ a = 2 then (2 : Int) else 0) = 0 from if_neg (by omega)]
 by_cases hL : s ∈ opsL
 · unfold binT
   rw [if_neg hA, if_neg hC, if_pos hL]
   simp only [opsL, List.mem_cons, List.not_mem_nil, or_false] at hL
   rcases hL with rfl | rfl
   all_goals (repeat' (first | refine W1 ?_ | (exfalso; omega) | (refine VG ?_ ?_ <;> intro hg) | (refine VC ?_ ?_ <;> intro hc)))
   all_goals (refine WR ?_)
   all_goals refine .mk ⟨?_, hS⟩
   all_goals first
    | rw [if_pos ⟨by assumption, by assumption⟩]
    | rw [if_neg (fun h => by omega)]
 unfold binT
 rw [if_neg hA, if_neg hC, if_neg hL]
 simp only [opsA, opsC, opsL, List.mem_cons, List.not_mem_nil, or_false, not_or] at hA hC hL
 obtain ⟨a1, a2, a3⟩ := hA
 obtain ⟨b1, b2, b3, b4, b5, b6⟩ := hC
 obtain ⟨c1, c2⟩ := hL
 repeat' (first | refine W1 ?_ | refine WC_cond rfl (fun hc => absurd hc (by assumption)) (fun hc => ?_))
 refine WR ?_
 exact .mk ⟨rfl, hS⟩
theorem _root_.Go.Eng.SlV.any {α : Type} [GoRep α] {X : List Nat} {w : World} {v : Value} {xs : List α} (h : SlV X w v xs) : SlV [] w v xs := h.ext (Stp.refl [] w) (by simp) (by simp)
theorem _root_.Go.Eng.SlV.new {α : Type} [GoRep α] {X : List Nat} {w w' : World} {v : Value} {xs : List α} (h : SlV X w v xs) (hS : Stp [] w w') (b : Nat) (hb : w.heap.size ≤ b) : SlV [b] w' v xs :=
 h.ext hS (by simp) (fun c hc => .inr (by simp at hc; omega))
theorem _root_.Go.Eng.SlV.on {α : Type} [GoRep α] {X S : List Nat} {w w' : World} {v : Value} {xs : List α} (h : SlV X w v xs) (hS : Stp S w w') (hs : ∀ b ∈ S, b ∈ X) : SlV X w' v xs := h.ext hS hs (fun _ h => .inl h)
def sigI (x : Sig) : Int := match sigF x with | .int _ z => z | _ => 0
theorem sigF_int (x : Sig) : sigF x = .int .i64 (sigI x) := by
 have : ∀ p ∈ sigs, ∃ z, p.2 = Value.int .i64 z := by
  intro p hp
  simp only [sigs, ents, units, List.map_cons, List.map_nil, List.flatMap_cons, List.flatMap_nil, unitE, List.cons_append, List.nil_append, List.append_nil, List.mem_cons, List.not_mem_nil, or_false, ent] at hp
  rcases hp with rfl | rfl | rfl | rfl | rfl | rfl | rfl | rfl | rfl | rfl | rfl | rfl | rfl | rfl | rfl <;> exact ⟨_, rfl⟩
 unfold sigI sigF mget
 cases h : sigs.find? (fun p => decide (p.1 = x)) with
 | none => rfl
 | some p =>
   obtain ⟨z, hz⟩ := this p (List.mem_of_find?_eq_some h)
   simp only [hz]
def combT (k n : Int) (s : Str) (ts : List Int) : Int :=
 if ts.length > 3 then 0 else if (0 : Int) ∈ ts then 0 else if ts = [] then leafN k n s else if ¬ n = 0 then 0
 else if k = 9 ∧ s = [] ∧ ts.getD 0 0 = 2 ∧ ts.getD 1 0 = ts.getD 2 0 then ts.getD 1 0
 else if k = 6 ∧ ts.getD 2 0 = 0 then binT s (ts.getD 0 0) (ts.getD 1 0) else sigI ⟨k, s, ts.getD 0 0, ts.getD 1 0, ts.getD 2 0⟩
def typeT : Nd → Int
 | .mk k n s l => combT k n s (l.map typeT)
theorem typeT_eq (x : Nd) : typeT x = combT x.kind x.num x.word (x.kids.map typeT) := by
 cases x
 rw [typeT]
 rfl
def arrC (ts : List Int) (k : Nat) : List Value := [.int .i64 (if 0 < k then ts.getD 0 0 else 0), .int .i64 (if 1 < k then ts.getD 1 0 else 0), .int .i64 (if 2 < k then ts.getD 2 0 else 0)]
theorem arrC_set (ts : List Int) (k : Nat) (hk : k < 3) : (arrC ts k).set (0 + k * 1) (.int .i64 (ts.getD k 0)) = arrC ts (k + 1) := by
 match k, hk with
 | 0, _ => rfl
 | 1, _ => rfl
 | 2, _ => rfl
theorem arrC_get (ts : List Int) (k : Nat) (hk : k < 3) : (arrC ts (k + 1))[0 + k * 1]? = some (.int .i64 (ts.getD k 0)) := by
 match k, hk with
 | 0, _ => rfl
 | 1, _ => rfl
 | 2, _ => rfl
theorem arrC_end (ts : List Int) (h : ts.length ≤ 3) : arrC ts ts.length = [.int .i64 (ts.getD 0 0), .int .i64 (ts.getD 1 0), .int .i64 (ts.getD 2 0)] := by
 match ts, h with
 | [], _ => rfl
 | [a], _ => rfl
 | [a, b], _ => rfl
 | [a, b, c], _ => rfl
theorem of_any (x : Nd) : ∀ (X XF : List Nat) (v : Value) (w : World), NdV X w v x → SlV XF w flds fieldNames →
 Calls Tryz.prog 56 #[v] w (Ret fun r w' => r = .int .i64 (typeT x) ∧ Stp [] w w') := by
 induction x using Nd.ind with
 | h k n s l ih =>
 intro X XF v w hx hF
 generalize hxe : Nd.mk k n s l = x at *
 have ih' : ∀ y ∈ x.kids, ∀ (X XF : List Nat) (v : Value) (w : World), NdV X w v y → SlV XF w flds fieldNames → Calls Tryz.prog 56 #[v] w (Ret fun r w' => r = .int .i64 (typeT y) ∧ Stp [] w w') := by
  subst hxe; exact ih
 clear ih hxe k n s l
 have hx0 := hx
 obtain ⟨kv, rfl, hs⟩ := hx
 have hmax := hs.max
 rw [typeT_eq]
 have hlen : (x.kids.map typeT).length = x.kids.length := by simp
 have hget : ∀ k (h : k < x.kids.length), (x.kids.map typeT).getD k 0 = typeT x.kids[k] := fun k h => by simp [List.getD, h]
 generalize hts : x.kids.map typeT = ts at *
 refine calls_of_WC1 (n := 80) Tryz.func56 rfl rfl rfl ?_
 refine W ?_
 refine WL_eff (OE_box rfl) rfl ?_
 rintro _ w1 ⟨b, rfl, hb, hblk, hS⟩
 replace hblk : Blk w1 b _ (ndC x kv) := hblk
 replace hs := hs.up hS
 replace hF := hF.up hS
 have hlt := hblk.lt
 refine W ?_
 refine WL_eff OE_alloc rfl ?_
 rintro _ w2 ⟨q, rfl, hq, harr, hS2⟩
 replace harr : Blk w2 q _ (arrC ts 0) := harr
 replace hblk := hblk.up hS2
 replace hs := hs.new hS2 q hq
 replace hF := hF.new hS2 q hq
 replace hS := hS.trans hS2
 have hwq : w.heap.size ≤ q := Nat.le_trans (Nat.le_trans hb (Nat.le_of_lt hlt)) hq
 have hbq : ¬ b = q := by omega
 repeat' (first | refine W1 ?_ | (exfalso; omega) | (refine VG ?_ ?_ <;> intro hg) | (refine VC ?_ ?_ <;> intro hc))
 · refine WR ?_
   refine .mk ⟨?_, hS⟩
   unfold combT
   rw [if_pos (by omega)]
 have hl3 : x.kids.length ≤ 3 := by omega
 refine WC_cutB (σ := Unit) (fun _ => [(1, .pointer (some ⟨b, 0, none⟩)), (3, .pointer (some ⟨q, 0, none⟩))]) (fun _ w' => Stp [q] w2 w' ∧ Blk w' q 158 [.int .i64 (ts.getD 0 0), .int .i64 (ts.getD 1 0), .int .i64 (ts.getD 2 0)] ∧ ¬ (0 : Int) ∈ ts) ?_ ?_
 · have hs0 := hs
   have hF0 := hF
   refine WC_loop (σ := Nat) (fun k => [(1, .pointer (some ⟨b, 0, none⟩)), (3, .pointer (some ⟨q, 0, none⟩)), (11, kv), (12, .int .i64 (x.kids.length : Int)), (13, .int .i64 k)]) (fun k w' => k ≤ x.kids.length ∧ Stp [q] w2 w' ∧ Blk w' q 158 (arrC ts k) ∧ ¬ (0 : Int) ∈ ts.take k) (fun k => x.kids.length - k) 0 ⟨rfl, rfl, rfl, rfl, rfl, trivial⟩ ⟨Nat.zero_le _, Stp.refl _ _, harr, by simp⟩ ?_
   clear hs hF harr
   rintro k w3 ⟨hk, hS3, harr, hno⟩
   have hs := hs0.on hS3 (by simp)
   have hF := hF0.on hS3 (by simp)
   by_cases hlt : k < x.kids.length
   · have hk3 : k < 3 := by omega
     have hg := hget k hlt
     have hset := arrC_set ts k hk3
     have hgt := arrC_get ts k hk3
     rw [hg] at hset hgt
     obtain ⟨kv2, hs2, hc2⟩ := hs.nd hlt
     repeat' (first | refine W1 ?_ | (exfalso; omega) | (refine VG ?_ ?_ <;> intro hg) | (refine VC ?_ ?_ <;> intro hc))
     apply WL_pure (PR_loadNd rfl rfl hs hlt hc2) rfl
     refine WL_eff OE_alloc rfl ?_
     rintro _ w4 ⟨b4, rfl, hb4, hblk4, hS4⟩
     have harl := harr.lt
     replace harr := harr.up hS4
     refine W ?_
     refine WL_eff0 (OE_storeA (us := ndC x.kids[k] kv2) rfl rfl rfl rfl (ndC_one hs2) hblk4 rfl) ?_
     rintro _ w5 ⟨hS5, hblk5⟩
     have h4q : ¬ b4 = q := by omega
     replace harr := harr.ext hS5 (by simp; omega)
     have hS45 := hS4.own hS5 (fun c hc => .inr (by simp at hc; omega))
     replace hs2 := hs2.up hS45
     replace hF := hF.up hS45
     refine W ?_
     refine CL rfl (evs1 rfl) rfl (ih' x.kids[k] (List.getElem_mem hlt) _ _ _ _ ⟨kv2, rfl, hs2⟩ hF) ?_
     rintro _ w6 ⟨rfl, hS6⟩
     replace harr := harr.up hS6
     refine W ?_
     refine WL_eff0 (OE_store1 (u := .int .i64 (typeT x.kids[k])) rfl rfl rfl rfl harr (by simp [arrC]; omega)) ?_
     rintro _ w7 ⟨hS7, harr⟩
     rw [hset] at harr
     have hS37 := ((hS3.trans (hS45.mono (by simp))).trans (hS6.mono (by simp))).trans hS7
     have hnx : ts.take (k + 1) = ts.take k ++ [typeT x.kids[k]] := by
      rw [List.take_succ_eq_append_getElem (by omega)]
      congr 2
      subst hts
      simp
     repeat' (first | refine W1 ?_ | (exfalso; omega) | (refine VG ?_ ?_ <;> intro hg) | (refine VC ?_ ?_ <;> intro hc))
     apply WL_load1 rfl rfl (harr.cell hgt) rfl
     repeat' (first | refine W1 ?_ | (exfalso; omega) | (refine VG ?_ ?_ <;> intro hg) | (refine VC ?_ ?_ <;> intro hc))
     · refine WR ?_
       have h0' : typeT x.kids[k] = 0 := hc
       refine .mk ⟨?_, hS.own hS37 (fun c hc => .inr (by simp at hc; omega))⟩
       unfold combT
       rw [if_neg (by omega), if_pos]
       have : typeT x.kids[k] ∈ ts := by
        subst hts
        exact List.mem_map_of_mem (List.getElem_mem hlt)
       rwa [h0'] at this
     · refine WQ_loop (k + 1) ⟨rfl, rfl, rfl, rfl, rfl, trivial⟩ ⟨hlt, hS37, harr, ?_⟩ (by omega)
       rw [hnx, List.mem_append]
       rintro (h | h)
       · exact hno h
       · simp only [List.mem_singleton] at h
         exact hc h.symm
   · have hke : k = x.kids.length := by omega
     subst hke
     repeat' (first | refine W1 ?_ | (exfalso; omega) | (refine VG ?_ ?_ <;> intro hg) | (refine VC ?_ ?_ <;> intro hc))
     rw [← hlen, arrC_end ts (by omega)] at harr
     rw [← hlen, List.take_length] at hno
     exact WQ_cut () ⟨rfl, rfl, trivial⟩ ⟨hS3, harr, hno⟩
 rintro _ w3 ⟨hS3, harr, hno⟩
 replace hblk := hblk.ext hS3 (by simpa using hbq)
 replace hF := hF.on hS3 (by simp)
 replace hs := hs.on hS3 (by simp)
 replace hS := hS.own hS3 (fun c hc => .inr (by simp at hc; omega))
 unfold combT
 rw [if_neg (by omega), if_neg hno]
 by_cases h0 : x.kids.length = 0
 · rw [if_pos (List.length_eq_zero_iff.1 (by omega))]
   repeat' (first | refine W1 ?_ | (exfalso; omega) | (refine VG ?_ ?_ <;> intro hg) | (refine VC ?_ ?_ <;> intro hc))
   refine CL rfl (evs1 rfl) rfl (leaf_any [q] _ x _ ⟨kv, rfl, hs⟩ hF.any) ?_
   rintro _ w4 ⟨rfl, hS4⟩
   refine W ?_
   refine WR ?_
   exact .mk ⟨rfl, hS.trans hS4⟩
 rw [if_neg (fun h => h0 (by rw [← hlen, h]; rfl))]
 clear hget hts
 generalize ts.getD 0 0 = a at *
 generalize ts.getD 1 0 = bb at *
 generalize ts.getD 2 0 = c at *
 repeat' (first | refine W1 ?_ | (exfalso; omega) | (refine VG ?_ ?_ <;> intro hg) | (refine VC ?_ ?_ <;> intro hc))
 · refine WR ?_
   exact .mk ⟨by rw [if_pos (by assumption)], hS⟩
 all_goals rw [if_neg (by assumption)]
 all_goals first
  | (have h9 : x.kind = 9 ∧ x.word = [] ∧ a = 2 ∧ bb = c := ⟨by assumption, by assumption, by assumption, by assumption⟩
     rw [if_pos h9]
     refine WR ?_
     exact .mk ⟨rfl, hS⟩)
  | rw [show (if x.kind = 9 ∧ x.word = [] ∧ a = 2 ∧ bb = c then bb else if x.kind = 6 ∧ c = 0 then binT x.word a bb else sigI ⟨x.kind, x.word, a, bb, c⟩) = if x.kind = 6 ∧ c = 0 then binT x.word a bb else sigI ⟨x.kind, x.word, a, bb, c⟩ from if_neg (fun h => by
     obtain ⟨h1, h2, h3, h4⟩ := h
     first | (exfalso; omega) | contradiction)]
 all_goals first
  | (have h6 : x.kind = 6 ∧ c = 0 := ⟨by assumption, by assumption⟩
     rw [if_pos h6]
     refine CL rfl (evs2 rfl rfl) rfl (binary_any x.word a bb c _) ?_
     rintro _ w4 ⟨rfl, hS4⟩
     refine W ?_
     refine WR ?_
     exact .mk ⟨rfl, hS.trans hS4⟩)
  | rw [show (if x.kind = 6 ∧ c = 0 then binT x.word a bb else sigI ⟨x.kind, x.word, a, bb, c⟩) = sigI ⟨x.kind, x.word, a, bb, c⟩ from if_neg (fun h => by omega)]
 all_goals
  refine WC_drawn 9 [] [] [(1, 0), (2, 1), (3, 0), (4, 1), (5, 1), (6, 0), (0, 2), (7, 2), (8, 0)] rfl mixed (by kernel_rfl) (by kernel_rfl) (by kernel_rfl) (fun w1 hS1 => ?_)
  replace hblk := hblk.up hS1
  replace harr := harr.up hS1
  replace hS := hS.trans hS1
  refine D ?_
  apply WD_op
  exact rfl
  apply WO_build (vs := [(0, .int .i64 _), (1, str _), (2, arr3 _ _ _)])
  exact trivial
  exact rfl
  exact buildSg _ _ _ _ _
  exact rfl
  refine WD_eff rfl trivial (OE_call rfl evs0 (signatures_any _)) (fun _ _ h => h.choose_spec.choose_spec.2.2.2) rfl ?_
  rintro _ w5 ⟨m, ll, rfl, hm, hp, hS5⟩
  have hmg := sigF_int ⟨x.kind, x.word, a, bb, c⟩
  unfold sigF at hmg
  rw [← mget_perm hp sigs_nodup] at hmg
  refine WD_eff rfl trivial (OE_pr (PR_lookup (a := (⟨x.kind, x.word, a, bb, c⟩ : Sig)) rfl rfl hm)) (fun _ _ h => h.2 ▸ Stp.refl _ _) rfl ?_
  rintro _ _ ⟨rfl, rfl⟩
  rw [hmg]
  refine D ?_
  refine W ?_
  refine WR ?_
  exact .mk ⟨rfl, hS.trans hS5⟩
theorem sig_vals : ∀ p ∈ sigs, ∃ z, p.2 = Value.int .i64 z := by
 intro p hp
 simp only [sigs, ents, units, List.map_cons, List.map_nil, List.flatMap_cons, List.flatMap_nil, unitE, List.cons_append, List.nil_append, List.append_nil, List.mem_cons, List.not_mem_nil, or_false, ent] at hp
 rcases hp with rfl | rfl | rfl | rfl | rfl | rfl | rfl | rfl | rfl | rfl | rfl | rfl | rfl | rfl | rfl <;> exact ⟨_, rfl⟩
theorem sigI_none {x : Sig} (h : ¬ ∃ p ∈ sigs, p.1 = x) : sigI x = 0 := by
 unfold sigI sigF mget
 have : sigs.find? (fun p => decide (p.1 = x)) = none := by
  rw [List.find?_eq_none]
  intro p hp
  simpa using fun e => h ⟨p, hp, e⟩
 rw [this]
def opsN : List Str := [[110, 101, 120, 116], [112, 114, 101, 118]]
def opsE : List Str := [[108, 97, 116, 101, 114], [101, 97, 114, 108, 105, 101, 114]]
theorem idx_mem {s : Str} {l : List Str} : 0 ≤ idx (isS s) l ↔ s ∈ l := by
 unfold idx
 cases h : l.findIdx? (isS s) with
 | none =>
   rw [List.findIdx?_eq_none_iff] at h
   constructor
   · intro h0
     simp at h0
   · intro hm
     have := h s hm
     simp at this
 | some i =>
   obtain ⟨hi, hp, _⟩ := List.findIdx?_eq_some_iff_getElem.1 h
   constructor
   · intro _
     have : l[i] = s := by simpa using hp
     rw [← this]
     exact List.getElem_mem _
   · intro _
     simp
def callR (s : Str) (l : List Int) : Int :=
 if 0 ≤ idx (isS s) opsN ∧ areB l [3] = true then 3 else if 0 ≤ idx (isS s) opsE ∧ areB l [3, 3] = true then 3 else if s = [98, 101, 116, 119, 101, 101, 110] ∧ areB l [3, 3] = true then 1 else 0
def combR (k n : Int) (s : Str) (ts : List Int) : Int :=
 if ts = [] then leafN k n s else if ¬ n = 0 then 0
 else if k = 5 then (if s = [45] ∧ areB ts [1] = true ∨ s = [110, 111, 116] ∧ areB ts [2] = true then ts.getD 0 0 else 0)
 else if k = 6 then binR s ts
 else if k = 7 ∨ k = 8 then (if 0 ≤ idx (isS s) units ∧ areB ts [3, 1] = true then 3 else 0)
 else if k = 9 then (if s = [] ∧ ts.length = 3 ∧ areB ts [2, ts.getD 1 0, ts.getD 1 0] = true then ts.getD 1 0 else 0)
 else if k = 10 then callR s ts else 0
theorem areB_iff {l m : List Int} : areB l m = true ↔ l = m ∧ ∀ x ∈ l, x ≠ 0 := by simp [areB]
theorem areB_no {l m : List Int} (h : ¬ (l = m ∧ ∀ x ∈ l, x ≠ 0)) : areB l m = false := by simp [areB]; simpa using h
theorem combR_bad (k n : Int) (s : Str) (ts : List Int) (h0 : ¬ ts = []) (hb : (0 : Int) ∈ ts ∨ ts.length > 3) : combR k n s ts = 0 := by
 have hno : ∀ m : List Int, m.length ≤ 3 → areB ts m = false := fun m hm => areB_no (fun ⟨h1, h2⟩ => by
  rcases hb with hb | hb
  · exact h2 0 hb rfl
  · rw [h1] at hb; omega)
 unfold combR binR callR
 simp only [hno _ (show [(1 : Int)].length ≤ 3 by decide), hno _ (show [(2 : Int)].length ≤ 3 by decide), hno _ (show [(3 : Int)].length ≤ 3 by decide), hno [1, 1] (by decide), hno [3, 3] (by decide), hno [2, 2] (by decide), hno [3, 1] (by decide), hno [2, ts.getD 1 0, ts.getD 1 0] (by simp), if_neg h0]
 simp
theorem binR_eq (s : Str) (a b : Int) (ha : a ≠ 0) (hb : b ≠ 0) (hr : 1 ≤ a ∧ a ≤ 3) (hr2 : 1 ≤ b ∧ b ≤ 3) : binR s [a, b] = binT s a b := by
 unfold binR binT
 simp only [idx_mem, areB_iff]
 have e : ∀ c d : Int, ([a, b] = [c, d] ∧ ∀ x ∈ [a, b], x ≠ 0) ↔ (a = c ∧ b = d) := fun c d => by simp [ha, hb]
 simp only [e]
 by_cases hA : s ∈ opsA
 · have hC : ¬ s ∈ opsC := by
    simp only [opsA, List.mem_cons, List.not_mem_nil, or_false] at hA
    rcases hA with rfl | rfl | rfl <;> decide
   have hL : ¬ s ∈ opsL := by
    simp only [opsA, List.mem_cons, List.not_mem_nil, or_false] at hA
    rcases hA with rfl | rfl | rfl <;> decide
   simp only [hA, hC, hL, true_and, false_and, if_false, if_true]
   by_cases h1 : a = 1 ∧ b = 1
   · rw [if_pos h1, if_pos ⟨by omega, by omega⟩]
   · rw [if_neg h1, if_neg (fun h => by omega)]
 · simp only [hA, false_and, if_false]
   by_cases hC : s ∈ opsC
   · have hL : ¬ s ∈ opsL := by
      simp only [opsC, List.mem_cons, List.not_mem_nil, or_false] at hC
      rcases hC with rfl | rfl | rfl | rfl | rfl | rfl <;> decide
     simp only [hC, hL, true_and, false_and, if_false, if_true]
     by_cases h1 : a = 1 ∧ b = 1 ∨ a = 3 ∧ b = 3
     · rw [if_pos h1, if_pos ⟨by omega, by omega⟩]
     · rw [if_neg h1, if_neg (fun h => by omega)]
   · simp only [hC, false_and, if_false]
     by_cases hL : s ∈ opsL
     · simp only [hL, true_and, if_true]
       by_cases h1 : a = 2 ∧ b = 2
       · rw [if_pos h1, if_pos ⟨by omega, by omega⟩]
       · rw [if_neg h1, if_neg (fun h => by omega)]
     · simp only [hL, false_and, if_false]
def keysS : List Sig := sigs.map (·.1)
def sigG (k : Int) (s : Str) (a b c : Int) : Int :=
 if c = 0 then
  if b = 0 then (if k = 5 ∧ s = [45] ∧ a = 1 then 1 else if k = 5 ∧ s = [110, 111, 116] ∧ a = 2 then 2 else if k = 10 ∧ s ∈ opsN ∧ a = 3 then 3 else 0)
  else if a = 3 ∧ b = 3 ∧ k = 10 ∧ s ∈ opsE then 3 else if a = 3 ∧ b = 3 ∧ k = 10 ∧ s = [98, 101, 116, 119, 101, 101, 110] then 1 else if a = 3 ∧ b = 1 ∧ (k = 7 ∨ k = 8) ∧ s ∈ units then 3 else 0
 else 0
theorem keys_all : ∀ x ∈ keysS, sigI x = sigG x.kind x.s x.a x.b x.c := by
 intro x hx
 simp only [keysS, sigs, ents, units, List.map_cons, List.map_nil, List.flatMap_cons, List.flatMap_nil, unitE, List.cons_append, List.nil_append, List.append_nil, List.mem_cons, List.not_mem_nil, or_false, ent] at hx
 rcases hx with rfl | rfl | rfl | rfl | rfl | rfl | rfl | rfl | rfl | rfl | rfl | rfl | rfl | rfl | rfl <;> decide
theorem sigI_eq (k : Int) (s : Str) (a b c : Int) : sigI ⟨k, s, a, b, c⟩ = sigG k s a b c := by
 by_cases hx : (⟨k, s, a, b, c⟩ : Sig) ∈ keysS
 · exact keys_all _ hx
 · rw [sigI_none (fun ⟨p, hp, e⟩ => hx (e ▸ List.mem_map_of_mem hp))]
   unfold sigG
   symm
   split
   · rename_i hc
     subst hc
     split
     · rename_i hb
       subst hb
       split
       · rename_i h; obtain ⟨rfl, rfl, rfl⟩ := h; exact absurd (by decide) hx
       split
       · rename_i h; obtain ⟨rfl, rfl, rfl⟩ := h; exact absurd (by decide) hx
       split
       · rename_i h
         obtain ⟨rfl, h, rfl⟩ := h
         simp only [opsN, List.mem_cons, List.not_mem_nil, or_false] at h
         rcases h with rfl | rfl <;> exact absurd (by decide) hx
       rfl
     · split
       · rename_i h
         obtain ⟨rfl, rfl, rfl, h⟩ := h
         simp only [opsE, List.mem_cons, List.not_mem_nil, or_false] at h
         rcases h with rfl | rfl <;> exact absurd (by decide) hx
       split
       · rename_i h; obtain ⟨rfl, rfl, rfl, rfl⟩ := h; exact absurd (by decide) hx
       split
       · rename_i h
         obtain ⟨rfl, rfl, h1, h⟩ := h
         simp only [units, List.mem_cons, List.not_mem_nil, or_false] at h
         rcases h1 with rfl | rfl <;> rcases h with rfl | rfl | rfl | rfl <;> exact absurd (by decide) hx
       rfl
   · rfl
theorem areB1 {a x : Int} (ha : a ≠ 0) : areB [a] [x] = decide (a = x) := by simp [areB, ha]
theorem areB2 {a b x y : Int} (ha : a ≠ 0) (hb : b ≠ 0) : areB [a, b] [x, y] = decide (a = x ∧ b = y) := by simp [areB, ha, hb]
theorem areB3 {a b c x y z : Int} (ha : a ≠ 0) (hb : b ≠ 0) (hc : c ≠ 0) : areB [a, b, c] [x, y, z] = decide (a = x ∧ b = y ∧ c = z) := by simp [areB, ha, hb, hc]
theorem areB_len {l m : List Int} (h : ¬ l.length = m.length) : areB l m = false := areB_no (fun h' => h (by rw [h'.1]))
theorem combR_eq (k n : Int) (s : Str) (ts : List Int) (hr : ∀ t ∈ ts, 0 ≤ t ∧ t ≤ 3) : combR k n s ts = combT k n s ts := by
 by_cases h0 : ts = []
 · subst h0; simp [combR, combT]
 by_cases hb : (0 : Int) ∈ ts ∨ ts.length > 3
 · rw [combR_bad k n s ts h0 hb]
   unfold combT
   rcases hb with hb | hb
   · simp [hb]
   · simp [show ts.length > 3 from hb]
 have hz : ¬ (0 : Int) ∈ ts := fun h => hb (.inl h)
 have hl : ¬ ts.length > 3 := fun h => hb (.inr h)
 unfold combR combT
 rw [if_neg h0, if_neg hl, if_neg hz, if_neg h0]
 by_cases hn : ¬ n = 0
 · rw [if_pos hn, if_pos hn]
 rw [if_neg hn, if_neg hn]
 match ts, h0, hl with
 | [a], _, _ =>
   have ha : a ≠ 0 := fun e => hz (by simp [e])
   have hra := hr a (by simp)
   simp only [List.getD_cons_zero, List.getD_cons_succ, List.getD_nil, sigI_eq, callR, binR, idx_mem, areB1 ha, areB_len (show ¬ [a].length = [(1 : Int), 1].length by simp), areB_len (show ¬ [a].length = [(3 : Int), 3].length by simp), areB_len (show ¬ [a].length = [(2 : Int), 2].length by simp), areB_len (show ¬ [a].length = [(3 : Int), 1].length by simp), decide_eq_true_eq]
   have hb0 : binT s a 0 = 0 := by
    unfold binT
    have h1 : ¬ (a = 0 ∧ a = 1) := fun h => ha h.1
    have h2 : ¬ (a = 0 ∧ ¬ a = 2) := fun h => ha h.1
    have h3 : ¬ (a = 0 ∧ a = 2) := fun h => ha h.1
    simp only [if_neg h1, if_neg h2, if_neg h3, ite_self]
   simp only [hb0, sigG, List.length_cons, List.length_nil, Bool.false_eq_true, and_false, or_self, if_false]
   grind (splits := 40)
 | [a, b], _, _ =>
   have ha : a ≠ 0 := fun e => hz (by simp [e])
   have hb : b ≠ 0 := fun e => hz (by simp [e])
   have hra := hr a (by simp)
   have hrb := hr b (by simp)
   simp only [List.getD_cons_zero, List.getD_cons_succ, List.getD_nil, sigI_eq, callR, binR_eq s a b ha hb (by omega) (by omega), idx_mem, areB2 ha hb, areB_len (show ¬ [a, b].length = [(1 : Int)].length by simp), areB_len (show ¬ [a, b].length = [(2 : Int)].length by simp), areB_len (show ¬ [a, b].length = [(3 : Int)].length by simp), decide_eq_true_eq]
   simp only [sigG, List.length_cons, List.length_nil, Bool.false_eq_true, and_false, or_self, if_false]
   grind (splits := 40)
 | [a, b, c], _, _ =>
   have ha : a ≠ 0 := fun e => hz (by simp [e])
   have hb : b ≠ 0 := fun e => hz (by simp [e])
   have hc : c ≠ 0 := fun e => hz (by simp [e])
   have hra := hr a (by simp)
   have hrb := hr b (by simp)
   have hrc := hr c (by simp)
   simp only [List.getD_cons_zero, List.getD_cons_succ, sigI_eq, callR, binR, idx_mem, areB3 ha hb hc, areB_len (show ¬ [a, b, c].length = [(1 : Int)].length by simp), areB_len (show ¬ [a, b, c].length = [(2 : Int)].length by simp), areB_len (show ¬ [a, b, c].length = [(3 : Int)].length by simp), areB_len (show ¬ [a, b, c].length = [(1 : Int), 1].length by simp), areB_len (show ¬ [a, b, c].length = [(3 : Int), 3].length by simp), areB_len (show ¬ [a, b, c].length = [(2 : Int), 2].length by simp), areB_len (show ¬ [a, b, c].length = [(3 : Int), 1].length by simp), decide_eq_true_eq]
   simp only [sigG, List.length_cons, List.length_nil, Bool.false_eq_true, and_false, or_self, if_false]
   grind (splits := 40)
 | _ :: _ :: _ :: _ :: _, _, hl => exact absurd (by simp) hl
theorem leafN_range (k n : Int) (s : Str) : 0 ≤ leafN k n s ∧ leafN k n s ≤ 3 := by
 have h : 0 ≤ (fieldF s).2.1 ∧ (fieldF s).2.1 ≤ 3 := by
  unfold fieldF
  dsimp only
  split
  · simp
  · split <;> simp
 unfold leafN
 grind
theorem combT_range (k n : Int) (s : Str) (ts : List Int) (hr : ∀ t ∈ ts, 0 ≤ t ∧ t ≤ 3) : 0 ≤ combT k n s ts ∧ combT k n s ts ≤ 3 := by
 unfold combT
 split
 · omega
 split
 · omega
 split
 · exact leafN_range _ _ _
 split
 · omega
 have hg : ∀ i, 0 ≤ ts.getD i 0 ∧ ts.getD i 0 ≤ 3 := by
  intro i
  by_cases hi : i < ts.length
  · have := hr ts[i] (List.getElem_mem hi)
    simpa [List.getD, hi] using this
  · simp [List.getD, List.getElem?_eq_none (Nat.le_of_not_lt hi)]
 split
 · exact hg 1
 split
 · unfold binT
   split
   · split <;> omega
   split
   · split <;> omega
   split
   · split <;> omega
   · omega
 · rw [sigI_eq]
   unfold sigG
   grind
theorem typeT_range (x : Nd) : 0 ≤ typeT x ∧ typeT x ≤ 3 := by
 induction x using Nd.ind with
 | h k n s l ih =>
 rw [typeT_eq]
 refine combT_range _ _ _ _ (fun t ht => ?_)
 obtain ⟨y, hy, rfl⟩ := List.mem_map.1 ht
 exact ih y hy
theorem typeT_R (x : Nd) : typeT x = combR x.kind x.num x.word (x.kids.map typeT) := by
 rw [typeT_eq, combR_eq]
 intro t ht
 obtain ⟨y, hy, rfl⟩ := List.mem_map.1 ht
 exact typeT_range y
def nestN : Nd → Nat
 | .mk k n s l => 1 + (l.map nestN).foldl max 0
theorem nestN_eq (x : Nd) : nestN x = 1 + (x.kids.map nestN).foldl max 0 := by
 cases x
 rw [nestN]
 rfl
theorem foldl_max_le (l : List Nat) : ∀ (m b : Nat), l.foldl max m ≤ b ↔ m ≤ b ∧ ∀ x ∈ l, x ≤ b := by
 induction l with
 | nil => intro m b; simp
 | cons y r ih =>
   intro m b
   rw [List.foldl_cons, ih]
   simp only [List.mem_cons, forall_eq_or_imp]
   constructor
   · rintro ⟨h1, h2⟩
     exact ⟨by omega, by omega, h2⟩
   · rintro ⟨h1, h2, h3⟩
     exact ⟨by omega, h3⟩
theorem nestedN_eq (m : Nat) : ∀ x : Nd, nestedN m x = decide (nestN x ≤ m) := by
 induction m with
 | zero =>
   intro x
   rw [nestN_eq]
   simp [nestedN]
 | succ m ih =>
   intro x
   rw [nestN_eq]
   have e : (1 + (x.kids.map nestN).foldl max 0 ≤ m + 1) ↔ ∀ y ∈ x.kids, nestN y ≤ m := by
    rw [show (1 + (x.kids.map nestN).foldl max 0 ≤ m + 1) ↔ (x.kids.map nestN).foldl max 0 ≤ m by omega, foldl_max_le]
    simp
   rw [Bool.eq_iff_iff, decide_eq_true_iff, e]
   simp only [nestedN, List.all_eq_true]
   exact ⟨fun h y hy => by have := h y hy; rw [ih] at this; simpa using this, fun h y hy => by rw [ih]; simpa using h y hy⟩
theorem nest_kid {x y : Nd} (h : y ∈ x.kids) : nestN y < nestN x := by
 rw [nestN_eq x]
 have := (foldl_max_le (x.kids.map nestN) 0 ((x.kids.map nestN).foldl max 0)).1 (Nat.le_refl _)
 have := this.2 (nestN y) (List.mem_map_of_mem h)
 omega
theorem Of_any (X XF : List Nat) (v : Value) (x : Nd) (w : World) (hx : NdV X w v x) (hF : SlV XF w flds fieldNames) :
 Calls Tryz.prog 17 #[v] w (Ret fun r w' => r = .tuple #[.int .i64 (if nestN x ≤ 12 then typeT x else 0), .int .i64 (if nestN x ≤ 12 then (if typeT x = 0 then 21 else 0) else 2)] ∧ Stp [] w w') := by
 obtain ⟨kv, rfl, hs⟩ := hx
 refine calls_of_WC1 (n := 13) Tryz.func17 rfl rfl rfl ?_
 refine W ?_
 refine WL_eff (OE_box rfl) rfl ?_
 rintro _ w1 ⟨b, rfl, hbb, hblk, hS⟩
 replace hblk : Blk w1 b _ (ndC x kv) := hblk
 replace hs := hs.up hS; replace hF := hF.up hS
 refine W ?_
 refine CL rfl (evs2 rfl rfl) rfl (nested_any 12 X _ x 12 _ rfl (by omega) ⟨kv, rfl, hs⟩) ?_
 rintro _ w2 ⟨rfl, hS2⟩
 replace hs := hs.up hS2; replace hF := hF.up hS2; replace hblk := hblk.up hS2
 replace hS := hS.trans hS2
 rw [nestedN_eq]
 by_cases hn : nestN x ≤ 12
 · rw [decide_eq_true hn, if_pos hn, if_pos hn]
   refine W ?_
   refine CL rfl (evs1 rfl) rfl (of_any x X XF _ _ ⟨kv, rfl, hs⟩ hF) ?_
   rintro _ w3 ⟨rfl, hS3⟩
   replace hS := hS.trans hS3
   repeat' (first | refine W1 ?_ | (exfalso; omega) | (refine VG ?_ ?_ <;> intro hg) | (refine VC ?_ ?_ <;> intro hc))
   · refine WR ?_
     exact .mk ⟨by rw [if_neg hc], hS⟩
   · refine WR ?_
     have h0 : typeT x = 0 := by omega
     exact .mk ⟨by rw [if_pos h0, h0], hS⟩
 · rw [decide_eq_false hn, if_neg hn, if_neg hn]
   refine W ?_
   refine WR ?_
   exact .mk ⟨rfl, hS⟩
def sizeN : Nd → Nat
 | .mk k n s l => 1 + (l.map sizeN).sum
theorem sizeN_eq (x : Nd) : sizeN x = 1 + (x.kids.map sizeN).sum := by
 cases x
 rw [sizeN]
 rfl
theorem typed_kids {x : Nd} (h : typeT x ≠ 0) : x.kids.length ≤ 3 ∧ ∀ y ∈ x.kids, typeT y ≠ 0 := by
 rw [typeT_eq] at h
 unfold combT at h
 refine ⟨?_, fun y hy e => ?_⟩
 · by_cases hl : (x.kids.map typeT).length > 3
   · rw [if_pos hl] at h; exact absurd rfl h
   · simpa using hl
 · by_cases hl : (x.kids.map typeT).length > 3
   · rw [if_pos hl] at h; exact absurd rfl h
   · rw [if_neg hl, if_pos (by rw [← e]; exact List.mem_map_of_mem hy)] at h
     exact absurd rfl h
def opsF : List Str := [[110, 101, 120, 116], [112, 114, 101, 118], [108, 97, 116, 101, 114], [101, 97, 114, 108, 105, 101, 114], [98, 101, 116, 119, 101, 101, 110]]
inductive Shape (k : Int) (s : Str) (m : Nat) : Prop
 | neg (h : k = 5) (hs : s = [45] ∨ s = [110, 111, 116]) (hm : m = 1)
 | bin (h : k = 6) (hs : s ∈ opsA ∨ s ∈ opsC ∨ s ∈ opsL) (hm : m = 2)
 | unit (h : k = 7 ∨ k = 8) (hs : s ∈ units) (hm : m = 2)
 | cond (h : k = 9) (hm : m = 3)
 | call (h : k = 10) (hs : s ∈ opsF) (hm : 1 ≤ m ∧ m ≤ 2)
theorem typed_shape {x : Nd} (h : typeT x ≠ 0) (hk : x.kids ≠ []) : x.num = 0 ∧ Shape x.kind x.word x.kids.length := by
 have hl := (typed_kids h).1
 rw [typeT_R] at h
 have hlen : (x.kids.map typeT).length = x.kids.length := by simp
 have hne : ¬ x.kids.map typeT = [] := by simpa using hk
 generalize x.kids.map typeT = ts at *
 rw [← hlen]
 unfold combR at h
 rw [if_neg hne] at h
 have hn : x.num = 0 := Decidable.byContradiction (fun hn => by rw [if_pos hn] at h; exact absurd rfl h)
 refine ⟨hn, ?_⟩
 rw [if_neg (by simpa using hn)] at h
 have hlm : ∀ m : List Int, areB ts m = true → ts.length = m.length := fun m hm => by rw [(areB_iff.1 hm).1]
 by_cases k5 : x.kind = 5
 · rw [if_pos k5] at h
   split at h
   · rename_i hh
     rcases hh with ⟨h1, h2⟩ | ⟨h1, h2⟩
     · exact .neg k5 (.inl h1) (hlm _ h2)
     · exact .neg k5 (.inr h1) (hlm _ h2)
   · exact absurd rfl h
 rw [if_neg k5] at h
 by_cases k6 : x.kind = 6
 · rw [if_pos k6] at h
   unfold binR at h
   simp only [idx_mem] at h
   split at h
   · rename_i hh; exact .bin k6 (.inl hh.1) (hlm _ hh.2)
   split at h
   · rename_i hh
     rcases hh.2 with h2 | h2
     · exact .bin k6 (.inr (.inl hh.1)) (hlm _ h2)
     · exact .bin k6 (.inr (.inl hh.1)) (hlm _ h2)
   split at h
   · rename_i hh; exact .bin k6 (.inr (.inr hh.1)) (hlm _ hh.2)
   · exact absurd rfl h
 rw [if_neg k6] at h
 by_cases k78 : x.kind = 7 ∨ x.kind = 8
 · rw [if_pos k78] at h
   simp only [idx_mem] at h
   split at h
   · rename_i hh; exact .unit k78 hh.1 (hlm _ hh.2)
   · exact absurd rfl h
 rw [if_neg k78] at h
 by_cases k9 : x.kind = 9
 · rw [if_pos k9] at h
   split at h
   · rename_i hh; exact .cond k9 hh.2.1
   · exact absurd rfl h
 rw [if_neg k9] at h
 by_cases k10 : x.kind = 10
 · rw [if_pos k10] at h
   unfold callR at h
   simp only [idx_mem] at h
   split at h
   · rename_i hh
     refine .call k10 ?_ (by have := hlm _ hh.2; simp at this; omega)
     have := hh.1
     simp only [opsN, opsF, List.mem_cons, List.not_mem_nil, or_false] at this ⊢
     rcases this with h | h <;> simp [h]
   split at h
   · rename_i hh
     refine .call k10 ?_ (by have := hlm _ hh.2; simp at this; omega)
     have := hh.1
     simp only [opsE, opsF, List.mem_cons, List.not_mem_nil, or_false] at this ⊢
     rcases this with h | h <;> simp [h]
   split at h
   · rename_i hh
     refine .call k10 ?_ (by have := hlm _ hh.2; simp at this; omega)
     simp [opsF, hh.1]
   · exact absurd rfl h
 rw [if_neg k10] at h
 exact absurd rfl h
theorem typed_leaf {x : Nd} (h : typeT x ≠ 0) (hk : x.kids = []) : 1 ≤ x.kind ∧ x.kind ≤ 4 := by
 rw [typeT_eq, hk] at h
 simp [combT] at h
 unfold leafN at h
 grind
end Go.Proofs.YtgpibcgebpgmiaaGreatDoor
namespace Go.Eng
open Go
structure Ins where
 op : Int
 n : Int
 deriving DecidableEq, Inhabited
instance : Flat Ins where
 k := 2
 enc := fun x => [.int .i64 x.op, .int .i64 x.n]
 len := fun _ => rfl
 one := by intro x u hu; simp at hu; rcases hu with rfl | rfl <;> rfl
def agg {α : Type} [Flat α] (x : α) : Value := .agg (Flat.enc x).toArray
theorem Row.keep {β : Type} [Flat β] {X S : List Nat} {w w' : World} {base T : Nat} {v : Value} {xs : List β} (h : Row X w base T v xs) (hS : Stp S w w') (hd : ∀ b ∈ S, b ∉ ob v) : Row X w' base T v xs := by
 have h' : Row S w base T v xs := h
 have := h'.ext (X' := X) hS (fun b hb => ⟨hb, hd b hb⟩)
 obtain ⟨css, h1, h2, h3⟩ := h
 refine ⟨css, h1, h2, ?_⟩
 have h4 : Row S w base T v xs := ⟨css, h1, h2, h3⟩
 obtain ⟨ho, hr⟩ := h3
 refine ⟨ho, ?_⟩
 rcases hr with hn | ⟨q, cap, cur, rfl, hb, hg, rest⟩
 · exact .inl hn
 · refine .inr ⟨q, cap, cur, rfl, hb, ?_, rest⟩
   rw [hS.block q (Array.getElem?_eq_some_iff.1 hg).1 (fun hq => hd q hq (by simp [ob]))]
   exact hg
end Go.Eng
namespace Go.Proofs.YtgpibcgebpgmiaaGreatDoor
open Go Go.Eng Go.RowKit
theorem buildI (a b : Int) (w : World) : (Instr.build 105 #[(0, .int .i64 a), (1, .int .i64 b)]).run Tryz.prog w = .ok (agg (Ins.mk a b)) w := by kernel_rfl
theorem buildI0 (a : Int) (w : World) : (Instr.build 105 #[(0, .int .i64 a)]).run Tryz.prog w = .ok (agg (Ins.mk a 0)) w := by kernel_rfl
theorem buildSI (d : Ins) (w : World) : (Instr.buildSlice 29 1 #[(0, agg d)]).run Tryz.prog w = .ok (.slice (some ⟨w.heap.size, 0, none⟩) 1 1) (w.alloc (.cells (Flat.enc d).toArray 105)) := by kernel_rfl
structure Cod (w : World) (bc base : Nat) (v : Value) (xs : List Ins) : Prop where
 blk : Blk w bc 144 [v]
 row : Row [] w base 105 v xs
 apart : bc ∉ ob v
 low : bc < base
 top : base ≤ w.heap.size
def Cods (w : World) (bc base : Nat) (v : Value) (ys : List Ins) (w' : World) : Prop :=
 ∃ v', Cod w' bc base v' ys ∧ Stp (bc :: ob v) w w' ∧ ∀ b ∈ ob v', b ∈ ob v ∨ w.heap.size ≤ b
theorem Cod.up {w w' : World} {bc base : Nat} {v : Value} {xs : List Ins} (h : Cod w bc base v xs) (hS : Stp [] w w') : Cod w' bc base v xs :=
 ⟨h.blk.up hS, h.row.up hS, h.apart, h.low, Nat.le_trans h.top hS.size⟩
theorem Cods.pre {w0 w w' : World} {bc base : Nat} {v : Value} {ys : List Ins} (hS : Stp [] w0 w) (h : Cods w bc base v ys w') : Cods w0 bc base v ys w' := by
 obtain ⟨v', h1, h2, h3⟩ := h
 exact ⟨v', h1, (hS.mono (by simp)).trans h2, fun b hb => (h3 b hb).imp id (fun h => Nat.le_trans hS.size h)⟩
theorem Cods.next {w w1 w2 : World} {bc base : Nat} {v v1 : Value} {zs : List Ins} (hS : Stp (bc :: ob v) w w1) (hb : ∀ b ∈ ob v1, b ∈ ob v ∨ w.heap.size ≤ b) (h : Cods w1 bc base v1 zs w2) : Cods w bc base v zs w2 := by
 obtain ⟨v', h1, h2, h3⟩ := h
 refine ⟨v', h1, ?_, fun b hb' => ?_⟩
 · exact hS.own h2 (fun b hb' => by
    rcases List.mem_cons.1 hb' with rfl | h
    · exact .inl (by simp)
    · exact (hb b h).imp (fun h => List.mem_cons_of_mem _ h) id)
 · rcases h3 b hb' with h | h
   · exact hb b h
   · exact .inr (Nat.le_trans hS.size h)
theorem keepX {w w' : World} {bc : Nat} {v v' : Value} {α : Type} [GoRep α] {u : Value} {xs : List α} (h : SlV (bc :: ob v) w u xs) (hS : Stp (bc :: ob v) w w') (hb : ∀ b ∈ ob v', b ∈ ob v ∨ w.heap.size ≤ b) : SlV (bc :: ob v') w' u xs :=
 h.ext hS (fun _ h => h) (fun b hb' => by
  rcases List.mem_cons.1 hb' with rfl | h
  · exact .inl (by simp)
  · exact (hb b h).imp (fun h => List.mem_cons_of_mem _ h) id)
theorem put_any (bc base : Nat) (v : Value) (xs : List Ins) (op n : Int) (w : World) (hc : Cod w bc base v xs) (hl : xs.length ≤ 1000000) :
 Calls Tryz.prog 93 #[.pointer (some ⟨bc, 0, none⟩), .int .i64 op, .int .i64 n] w (Ret fun r w' => r = .int .i64 (xs.length : Int) ∧ Cods w bc base v (xs ++ [⟨op, n⟩]) w') := by
 obtain ⟨hblk, hrow, hap, hlow, htop⟩ := hc
 refine calls_of_WC3 (n := 25) Tryz.func93 rfl rfl rfl ?_
 refine W ?_
 apply WL_build (vs := [(0, .int .i64 op), (1, .int .i64 n)]) rfl (buildI _ _) rfl
 refine WL_eff (OE_buildSlice (vs := [(0, agg (Ins.mk op n))]) rfl (buildSI _)) rfl ?_
 rintro bv w1 hN
 have hbv : SlV (ob v ++ []) w1 bv [Ins.mk op n] := hN.slv (fun b hb => (hrow.ob_le b (by simpa using hb)).2) rfl rfl (by simp [maxLen])
 have hS1 := NewSl.stp hN
 clear hN
 have hrow1 := hrow.up hS1
 have hblk1 := hblk.up hS1
 have h1 := hS1.size
 refine WL_eff (OE_append (X := []) (base := base) rfl (by decide) rfl rfl hrow1 hbv (by simp only [List.length_cons, List.length_nil]; omega) (by simp only [List.length_cons, List.length_nil, maxLen]; omega) (by omega)) rfl ?_
 rintro v' w2 ⟨hrow2, hS2, hob⟩
 have hblk2 := hblk1.ext hS2 hap
 have hbl := hblk1.lt
 refine W ?_
 refine WL_eff0 (OE_store1 (u := v') rfl rfl hrow2.slv0.cells hrow2.slv0.one hblk2 (by simp)) ?_
 rintro _ w3 ⟨hS3, hblk3⟩
 replace hblk3 : Blk w3 bc 144 [v'] := hblk3
 have hap' : bc ∉ ob v' := fun hb => by
  rcases hob bc hb with h | h
  · exact hap h
  · omega
 have hrow3 := hrow2.keep hS3 (fun b hb => by simp at hb; subst hb; exact hap')
 have hs3 := hrow3.slv0
 have hll : (xs ++ [Ins.mk op n]).length ≤ 1000001 := by simp only [List.length_append, List.length_cons, List.length_nil]; omega
 refine W ?_
 refine WR ?_
 refine .mk ⟨?_, v', ⟨hblk3, hrow3, hap', hlow, ?_⟩, ?_, ?_⟩
 · simp only [List.length_append, List.length_cons, List.length_nil]
   congr 1
   omega
 · exact Nat.le_trans htop (Nat.le_trans h1 (Nat.le_trans hS2.size hS3.size))
 · exact ((hS1.mono (by simp)).trans (hS2.mono (fun x hx => by simp [hx]))).trans (hS3.mono (fun x hx => by simp at hx; simp [hx]))
 · intro b hb
   rcases hob b hb with h | h
   · exact .inl h
   · exact .inr (by omega)
theorem here_any (bc base : Nat) (v : Value) (xs : List Ins) (k : Nat) (w : World) (hc : Cod w bc base v xs) (hk : k < xs.length) (hl : xs.length ≤ 1000000) :
 Calls Tryz.prog 179 #[.pointer (some ⟨bc, 0, none⟩), .int .i64 (k : Int)] w (Ret fun r w' => Cods w bc base v (xs.set k ⟨xs[k].op, (xs.length : Int)⟩) w') := by
 obtain ⟨hblk, hrow, hap, hlow, htop⟩ := hc
 refine calls_of_WC2 (n := 16) Tryz.func179 rfl rfl rfl ?_
 refine W ?_
 refine WC_drawn 13 [] [12] [(0, 0), (1, 0), (2, 0), (3, 1), (4, 0), (5, 0), (6, 0), (7, 0), (8, 1), (9, 0), (10, 0), (11, 0), (12, 2)] rfl mixed (by kernel_rfl) (by kernel_rfl) (by kernel_rfl) (fun w1 hS1 => ?_)
 replace hblk := hblk.up hS1
 replace hrow := hrow.up hS1
 have hs := hrow.slv0
 have hsz := hS1.size
 refine D ?_
 refine WD_late0 rfl trivial (OE_storeF (β := Ins) (i := k) (y' := ⟨xs[k].op, (xs.length : Int)⟩) rfl rfl rfl rfl rfl hrow hk (by decide) rfl) rfl ?_
 rintro _ w2 ⟨hrow2, hS2⟩
 refine D ?_
 refine W ?_
 refine WR ?_
 refine .mk ⟨v, ⟨hblk.ext hS2 hap, hrow2, hap, hlow, by have := hS2.size; omega⟩, ?_, fun b hb => .inl hb⟩
 exact (hS1.mono (by simp)).trans (hS2.mono (fun x hx => by simp [hx]))
structure Fr (w0 w : World) (bc base : Nat) (v0 v : Value) (xs : List Ins) : Prop where
 cod : Cod w bc base v xs
 stp : Stp (bc :: ob v0) w0 w
 sub : ∀ b ∈ ob v, b ∈ ob v0 ∨ w0.heap.size ≤ b
theorem Fr.start {w : World} {bc base : Nat} {v : Value} {xs : List Ins} (h : Cod w bc base v xs) : Fr w w bc base v v xs := ⟨h, Stp.refl _ _, fun b hb => .inl hb⟩
theorem Fr.step {w0 w w' : World} {bc base : Nat} {v0 v : Value} {xs ys : List Ins} (h : Fr w0 w bc base v0 v xs) (k : Cods w bc base v ys w') : ∃ v', Fr w0 w' bc base v0 v' ys := by
 obtain ⟨v', h1, h2, h3⟩ := Cods.next h.stp h.sub k
 exact ⟨v', h1, h2, h3⟩
theorem Fr.up {w0 w w' : World} {bc base : Nat} {v0 v : Value} {xs : List Ins} (h : Fr w0 w bc base v0 v xs) (hS : Stp [] w w') : Fr w0 w' bc base v0 v xs := ⟨h.cod.up hS, h.stp.trans (hS.mono (by simp)), h.sub⟩
theorem Fr.fin {w0 w : World} {bc base : Nat} {v0 v : Value} {xs : List Ins} (h : Fr w0 w bc base v0 v xs) : Cods w0 bc base v0 xs w := ⟨v, h.cod, h.stp, h.sub⟩
theorem Fr.sl {w0 w : World} {bc base : Nat} {v0 v : Value} {xs : List Ins} {α : Type} [GoRep α] {u : Value} {ys : List α} (h : Fr w0 w bc base v0 v xs) (hs : SlV (bc :: ob v0) w0 u ys) : SlV (bc :: ob v) w u ys := keepX hs h.stp h.sub
theorem Fr.bk {w0 w : World} {bc base b T : Nat} {v0 v : Value} {xs : List Ins} {cs : List Value} (h : Fr w0 w bc base v0 v xs) (hb : Blk w0 b T cs) (hn : b ∉ bc :: ob v0) : Blk w b T cs := hb.ext h.stp hn
abbrev Cf := Nat → List Ins
def chC (c y n : Cf) (p0 : Nat) : List Ins :=
 c p0 ++ [⟨14, ((p0 + (c p0).length + 1 + (y (p0 + (c p0).length + 1)).length + 1 : Nat) : Int)⟩] ++ y (p0 + (c p0).length + 1) ++
   [⟨13, ((p0 + (c p0).length + 1 + (y (p0 + (c p0).length + 1)).length + 1 + (n (p0 + (c p0).length + 1 + (y (p0 + (c p0).length + 1)).length + 1)).length : Nat) : Int)⟩] ++ n (p0 + (c p0).length + 1 + (y (p0 + (c p0).length + 1)).length + 1)
def ExprOk (x : Nd) (f : Cf) : Prop := ∀ (w : World) (bc base : Nat) (v nv : Value) (xs : List Ins), Cod w bc base v xs → NdV (bc :: ob v) w nv x → SlV (bc :: ob v) w flds fieldNames → xs.length + (f xs.length).length ≤ 100000 →
 Calls Tryz.prog 92 #[.pointer (some ⟨bc, 0, none⟩), nv] w (Ret fun r w' => Cods w bc base v (xs ++ f xs.length) w')
theorem choice_any {x y n : Nd} {f g h : Cf} (hx : ExprOk x f) (hy : ExprOk y g) (hn : ExprOk n h) (w : World) (bc base : Nat) (v xv yv nv : Value) (xs : List Ins) (hc : Cod w bc base v xs)
 (gx : NdV (bc :: ob v) w xv x) (gy : NdV (bc :: ob v) w yv y) (gn : NdV (bc :: ob v) w nv n) (hF : SlV (bc :: ob v) w flds fieldNames) (hl : xs.length + (chC f g h xs.length).length ≤ 100000) :
 Calls Tryz.prog 138 #[.pointer (some ⟨bc, 0, none⟩), xv, yv, nv] w (Ret fun r w' => Cods w bc base v (xs ++ chC f g h xs.length) w') := by
 have hl' := hl
 unfold chC at hl'
 simp only [List.length_append, List.length_cons, List.length_nil] at hl'
 obtain ⟨xk, rfl, sx⟩ := gx
 obtain ⟨yk, rfl, sy⟩ := gy
 obtain ⟨nk, rfl, sn⟩ := gn
 refine calls_of_WC4 (n := 29) Tryz.func138 rfl rfl rfl ?_
 refine W ?_
 refine WL_eff (OE_box rfl) rfl ?_
 rintro _ w1 ⟨b1, rfl, hb1, k1, hS1⟩
 replace k1 : Blk w1 b1 _ (ndC x xk) := k1
 refine WL_eff (OE_box rfl) rfl ?_
 rintro _ w2 ⟨b2, rfl, hb2, k2, hS2⟩
 replace k2 : Blk w2 b2 _ (ndC y yk) := k2
 refine WL_eff (OE_box rfl) rfl ?_
 rintro _ w3 ⟨b3, rfl, hb3, k3, hS3⟩
 replace k3 : Blk w3 b3 _ (ndC n nk) := k3
 have hS := (hS1.trans hS2).trans hS3
 have l1 := k1.lt
 have l2 := k2.lt
 have l3 := k3.lt
 replace k1 := (k1.up hS2).up hS3
 replace k2 := k2.up hS3
 have hobv : ∀ b ∈ bc :: ob v, b < w.heap.size := fun b hb => by
  rcases List.mem_cons.1 hb with rfl | h
  · exact hc.blk.lt
  · exact (hc.row.ob_le b h).2
 have n1 : b1 ∉ bc :: ob v := fun h => by have := hobv _ h; omega
 have n2 : b2 ∉ bc :: ob v := fun h => by have := hobv _ h; omega
 have n3 : b3 ∉ bc :: ob v := fun h => by have := hobv _ h; omega
 replace hc := hc.up hS
 replace sx := sx.up hS
 replace sy := sy.up hS
 replace sn := sn.up hS
 replace hF := hF.up hS
 have l1 := k1.lt
 have l2 := k2.lt
 have l3 := k3.lt
 have main : ∀ ys w', Cods w3 bc base v ys w' → Cods w bc base v ys w' := fun ys w' h => h.pre hS
 refine W ?_
 have fr := Fr.start hc
 refine CL rfl (evs2 rfl rfl) rfl (hx _ bc base _ _ _ fr.cod ⟨xk, rfl, fr.sl sx⟩ (fr.sl hF) (by omega)) ?_
 rintro _ w4 hq
 obtain ⟨v4, fr⟩ := fr.step hq
 refine W ?_
 refine CL rfl (evs3 rfl rfl rfl) rfl (put_any bc base _ _ 14 0 _ fr.cod (by simp only [List.length_append]; omega)) ?_
 rintro _ w5 ⟨rfl, hq⟩
 obtain ⟨v5, fr⟩ := fr.step hq
 have q2 := fr.bk k2 n2
 refine W ?_
 have e1 : (xs ++ f xs.length ++ [(⟨14, 0⟩ : Ins)]).length = xs.length + (f xs.length).length + 1 := by simp only [List.length_append, List.length_cons, List.length_nil]
 refine CL rfl (evs2 rfl rfl) rfl (hy _ bc base _ _ _ fr.cod ⟨yk, rfl, fr.sl sy⟩ (fr.sl hF) (by rw [e1]; omega)) ?_
 rintro _ w6 hq
 obtain ⟨v6, fr⟩ := fr.step hq
 rw [e1] at fr
 refine W ?_
 refine CL rfl (evs3 rfl rfl rfl) rfl (put_any bc base _ _ 13 0 _ fr.cod (by simp only [List.length_append, List.length_cons, List.length_nil]; omega)) ?_
 rintro _ w7 ⟨rfl, hq⟩
 obtain ⟨v7, fr⟩ := fr.step hq
 refine W ?_
 have hch := chC.eq_1 f g h xs.length
 generalize hA : f xs.length = A at *
 generalize hp : xs.length + A.length + 1 = p at *
 generalize hB : g p = B at *
 generalize hqq : p + B.length + 1 = q at *
 generalize hD : h q = D at *
 have e2 : ((xs ++ A).length : Int) = ((xs.length + A.length : Nat) : Int) := by simp only [List.length_append]
 rw [e2]
 refine CL rfl (evs2 rfl rfl) rfl (here_any bc base _ _ (xs.length + A.length) _ fr.cod (by simp only [List.length_append, List.length_cons, List.length_nil]; omega) (by simp only [List.length_append, List.length_cons, List.length_nil]; omega)) ?_
 rintro _ w8 hq
 obtain ⟨v8, fr⟩ := fr.step hq
 have e3 : ∀ (l : List Ins) (h : xs.length + A.length < l.length), l = xs ++ A ++ [⟨14, 0⟩] ++ B ++ [⟨13, 0⟩] → l.set (xs.length + A.length) ⟨l[xs.length + A.length].op, (l.length : Int)⟩ = xs ++ A ++ [⟨14, (q : Int)⟩] ++ B ++ [⟨13, 0⟩] := by
  intro l h hl
  have hop : l[xs.length + A.length].op = 14 := by
   have : l[xs.length + A.length]? = some ⟨14, 0⟩ := by
    rw [hl]
    simp
   rw [List.getElem?_eq_getElem h] at this
   rw [Option.some.inj this]
  have hlen : (l.length : Int) = (q : Int) := by
   rw [hl]
   simp only [List.length_append, List.length_cons, List.length_nil]
   omega
  rw [hop, hlen, hl]
  simp
 rw [e3 _ _ rfl] at fr
 have q3 := fr.bk k3 n3
 refine W ?_
 have e4 : (xs ++ A ++ [(⟨14, (q : Int)⟩ : Ins)] ++ B ++ [(⟨13, 0⟩ : Ins)]).length = q := by simp only [List.length_append, List.length_cons, List.length_nil]; omega
 refine CL rfl (evs2 rfl rfl) rfl (hn _ bc base _ _ _ fr.cod ⟨nk, rfl, fr.sl sn⟩ (fr.sl hF) (by rw [e4, hD]; omega)) ?_
 rintro _ w9 hq
 obtain ⟨v9, fr⟩ := fr.step hq
 rw [e4, hD] at fr
 refine W ?_
 have e5 : ((xs ++ A ++ [(⟨14, 0⟩ : Ins)] ++ B).length : Int) = ((p + B.length : Nat) : Int) := by simp only [List.length_append, List.length_cons, List.length_nil]; omega
 rw [e5]
 refine CL rfl (evs2 rfl rfl) rfl (here_any bc base _ _ (p + B.length) _ fr.cod (by simp only [List.length_append, List.length_cons, List.length_nil]; omega) (by simp only [List.length_append, List.length_cons, List.length_nil]; omega)) ?_
 rintro _ w10 hq
 obtain ⟨v10, fr⟩ := fr.step hq
 rw [hch]
 have e6 : ∀ (l : List Ins) (hl : p + B.length < l.length), l = xs ++ A ++ [⟨14, (q : Int)⟩] ++ B ++ [⟨13, 0⟩] ++ D → l.set (p + B.length) ⟨l[p + B.length].op, (l.length : Int)⟩ = xs ++ (A ++ [⟨14, (q : Int)⟩] ++ B ++ [⟨13, ((q + D.length : Nat) : Int)⟩] ++ D) := by
  intro l h hl
  have e7 : (xs ++ A ++ [(⟨14, (q : Int)⟩ : Ins)] ++ B).length = p + B.length := by simp only [List.length_append, List.length_cons, List.length_nil]; omega
  have hl2 : l = (xs ++ A ++ [⟨14, (q : Int)⟩] ++ B) ++ ⟨13, 0⟩ :: D := by rw [hl]; simp
  have hop : l[p + B.length].op = 13 := by
   have : l[p + B.length]? = some ⟨13, 0⟩ := by
    rw [hl2, List.getElem?_append_right (by omega), e7]
    simp
   rw [List.getElem?_eq_getElem h] at this
   rw [Option.some.inj this]
  have hlen : (l.length : Int) = ((q + D.length : Nat) : Int) := by
   rw [hl2, List.length_append, e7]
   simp only [List.length_cons]
   omega
  rw [hop, hlen, hl2, List.set_append_right _ _ (by omega), e7]
  simp
 rw [e6 _ _ rfl] at fr
 refine W ?_
 refine WR ?_
 exact .mk (main _ _ fr.fin)
def MapS (X : List Nat) (w : World) (r : Nat) (es : List (Str × List Int)) : Prop :=
 ∃ l : List (Str × Value), MapAt str w r l ∧ l.length = es.length ∧ ∀ i (h : i < l.length) (h' : i < es.length), l[i].1 = es[i].1 ∧ SlV (r :: X) w l[i].2 es[i].2
theorem MapS.up {X : List Nat} {w w' : World} {r : Nat} {es : List (Str × List Int)} (h : MapS X w r es) (hS : Stp [] w w') : MapS X w' r es := by
 obtain ⟨l, h1, h2, h3⟩ := h
 exact ⟨l, h1.up hS, h2, fun i h h' => ⟨(h3 i h h').1, (h3 i h h').2.up hS⟩⟩
theorem OE_insertS {P : Program} {n : Nat} {e : Env} {w : World} {d : Option Nat} {ty : TypeId} {pos : String} {af : Array Edge} {g : Option (Nat × Bool)} {mt kt et r : Nat} {x y z : Operand} [hm : Und P mt (.map kt et)] [hk : Und P kt .string] {X : List Nat} {es : List (Str × List Int)} {a : Str} {v : Value} {xs : List Int} (hx : ev e x = some (.map (some r))) (hy : ev e y = some (str a)) (hz : ev e z = some v)
 (hr : MapS X w r es) (hv : SlV (r :: X) w v xs) (hn : ∀ p ∈ es, ¬ p.1 = a) : OE P n ⟨d, .insert mt x y z, ty, pos, af, g⟩ e w (fun _ w' => MapS X w' r (es ++ [(a, xs)]) ∧ Stp [r] w w') := by
 obtain ⟨l, h1, h2, h3⟩ := hr
 have hfr : ∀ p ∈ l, ¬ p.1 = a := by
  intro p hp
  obtain ⟨i, hi, rfl⟩ := List.getElem_of_mem hp
  rw [(h3 i hi (by omega)).1]
  exact hn _ (List.getElem_mem _)
 refine (OE_insert (K := inferInstance) hx hy hz h1 hfr).mono ?_
 rintro _ w' ⟨g1, g2⟩
 refine ⟨⟨_, g1, by simp [h2], fun i h h' => ?_⟩, g2⟩
 by_cases hi : i < l.length
 · have hi' : i < es.length := by omega
   rw [List.getElem_append_left hi, List.getElem_append_left hi']
   exact ⟨(h3 i hi hi').1, (h3 i hi hi').2.on g2 (by simp)⟩
 · have hil : i = l.length := by simp at h; omega
   subst hil
   rw [List.getElem_append_right (Nat.le_refl _), List.getElem_append_right (by omega)]
   simp only [Nat.sub_self, h2, List.getElem_cons_zero]
   exact ⟨trivial, hv.on g2 (by simp)⟩
def opEs : List (Str × List Int) := [([43], [5]), ([42], [7]), ([110, 111, 116], [12]), ([60], [9]), ([60, 61], [10]), ([61], [11]), ([62], [10, 12]), ([62, 61], [9, 12]), ([33, 61], [11, 12]), ([100, 97, 121, 115], [15]), ([119, 101, 101, 107, 115], [16]), ([109, 111, 110, 116, 104, 115], [17]), ([99, 111, 117, 114, 116, 100, 97, 121, 115], [18]), ([110, 101, 120, 116], [19]), ([112, 114, 101, 118], [20]), ([108, 97, 116, 101, 114], [21]), ([101, 97, 114, 108, 105, 101, 114], [22]), ([98, 101, 116, 119, 101, 101, 110], [23])]
theorem operators_any (X : List Nat) (w : World) (hX : ∀ b ∈ X, b < w.heap.size) : Calls Tryz.prog 180 #[] w (Ret fun r w' => ∃ m, r = .map (some m) ∧ MapS X w' m opEs ∧ Stp [] w w') := by
 refine calls_of_WC0 (n := 21) Tryz.func180 rfl rfl ?_
 refine W ?_
 refine WL_eff (OE_makeMap str) rfl ?_
 rintro _ w1 ⟨m, rfl, hm, hmap, hS⟩
 have hmp : MapS X w1 m [] := ⟨[], hmap, rfl, fun i h => absurd h (Nat.not_lt_zero _)⟩
 have hml := hmap.lt
 clear hmap
 have hXw : ∀ b ∈ m :: X, b ≤ m := fun b hb => (List.mem_cons.1 hb).elim (fun h => by omega) (fun h => by have := hX b h; omega)
 refine WL_eff (OE_buildSlice (vs := [(0, .int .i64 5)]) rfl (buildSI1 _)) rfl ?_
 rintro bv w2 hN
 have hbv : SlV (m :: X) w2 bv [(5 : Int)] := hN.slv (fun b hb => by have := hXw b hb; omega) rfl rfl (by simp [maxLen])
 have hS2 := NewSl.stp hN
 clear hN
 replace hmp := hmp.up hS2
 have hml2 := hS2.size
 refine WL_eff0 (OE_insertS (a := [43]) rfl rfl rfl hmp hbv (by decide)) ?_
 clear hmp
 rintro _ w3 ⟨hmp, hS3⟩
 have hml3 := hS3.size
 replace hml := Nat.lt_of_lt_of_le (Nat.lt_of_lt_of_le hml hml2) hml3
 replace hS := (hS.trans hS2).own hS3 (fun b hb => .inr (by simp at hb; omega))
 clear hS2 hS3 hbv hml2 hml3
 refine WL_eff (OE_buildSlice (vs := [(0, .int .i64 7)]) rfl (buildSI1 _)) rfl ?_
 rintro bv w2 hN
 have hbv : SlV (m :: X) w2 bv [(7 : Int)] := hN.slv (fun b hb => by have := hXw b hb; omega) rfl rfl (by simp [maxLen])
 have hS2 := NewSl.stp hN
 clear hN
 replace hmp := hmp.up hS2
 have hml2 := hS2.size
 refine WL_eff0 (OE_insertS (a := [42]) rfl rfl rfl hmp hbv (by decide)) ?_
 clear hmp
 rintro _ w3 ⟨hmp, hS3⟩
 have hml3 := hS3.size
 replace hml := Nat.lt_of_lt_of_le (Nat.lt_of_lt_of_le hml hml2) hml3
 replace hS := (hS.trans hS2).own hS3 (fun b hb => .inr (by simp at hb; omega))
 clear hS2 hS3 hbv hml2 hml3
 refine WL_eff (OE_buildSlice (vs := [(0, .int .i64 12)]) rfl (buildSI1 _)) rfl ?_
 rintro bv w2 hN
 have hbv : SlV (m :: X) w2 bv [(12 : Int)] := hN.slv (fun b hb => by have := hXw b hb; omega) rfl rfl (by simp [maxLen])
 have hS2 := NewSl.stp hN
 clear hN
 replace hmp := hmp.up hS2
 have hml2 := hS2.size
 refine WL_eff0 (OE_insertS (a := [110, 111, 116]) rfl rfl rfl hmp hbv (by decide)) ?_
 clear hmp
 rintro _ w3 ⟨hmp, hS3⟩
 have hml3 := hS3.size
 replace hml := Nat.lt_of_lt_of_le (Nat.lt_of_lt_of_le hml hml2) hml3
 replace hS := (hS.trans hS2).own hS3 (fun b hb => .inr (by simp at hb; omega))
 clear hS2 hS3 hbv hml2 hml3
 refine WL_eff (OE_buildSlice (vs := [(0, .int .i64 9)]) rfl (buildSI1 _)) rfl ?_
 rintro bv w2 hN
 have hbv : SlV (m :: X) w2 bv [(9 : Int)] := hN.slv (fun b hb => by have := hXw b hb; omega) rfl rfl (by simp [maxLen])
 have hS2 := NewSl.stp hN
 clear hN
 replace hmp := hmp.up hS2
 have hml2 := hS2.size
 refine WL_eff0 (OE_insertS (a := [60]) rfl rfl rfl hmp hbv (by decide)) ?_
 clear hmp
 rintro _ w3 ⟨hmp, hS3⟩
 have hml3 := hS3.size
 replace hml := Nat.lt_of_lt_of_le (Nat.lt_of_lt_of_le hml hml2) hml3
 replace hS := (hS.trans hS2).own hS3 (fun b hb => .inr (by simp at hb; omega))
 clear hS2 hS3 hbv hml2 hml3
 refine WL_eff (OE_buildSlice (vs := [(0, .int .i64 10)]) rfl (buildSI1 _)) rfl ?_
 rintro bv w2 hN
 have hbv : SlV (m :: X) w2 bv [(10 : Int)] := hN.slv (fun b hb => by have := hXw b hb; omega) rfl rfl (by simp [maxLen])
 have hS2 := NewSl.stp hN
 clear hN
 replace hmp := hmp.up hS2
 have hml2 := hS2.size
 refine WL_eff0 (OE_insertS (a := [60, 61]) rfl rfl rfl hmp hbv (by decide)) ?_
 clear hmp
 rintro _ w3 ⟨hmp, hS3⟩
 have hml3 := hS3.size
 replace hml := Nat.lt_of_lt_of_le (Nat.lt_of_lt_of_le hml hml2) hml3
 replace hS := (hS.trans hS2).own hS3 (fun b hb => .inr (by simp at hb; omega))
 clear hS2 hS3 hbv hml2 hml3
 refine WL_eff (OE_buildSlice (vs := [(0, .int .i64 11)]) rfl (buildSI1 _)) rfl ?_
 rintro bv w2 hN
 have hbv : SlV (m :: X) w2 bv [(11 : Int)] := hN.slv (fun b hb => by have := hXw b hb; omega) rfl rfl (by simp [maxLen])
 have hS2 := NewSl.stp hN
 clear hN
 replace hmp := hmp.up hS2
 have hml2 := hS2.size
 refine WL_eff0 (OE_insertS (a := [61]) rfl rfl rfl hmp hbv (by decide)) ?_
 clear hmp
 rintro _ w3 ⟨hmp, hS3⟩
 have hml3 := hS3.size
 replace hml := Nat.lt_of_lt_of_le (Nat.lt_of_lt_of_le hml hml2) hml3
 replace hS := (hS.trans hS2).own hS3 (fun b hb => .inr (by simp at hb; omega))
 clear hS2 hS3 hbv hml2 hml3
 refine WL_eff (OE_buildSlice (vs := [(0, .int .i64 10), (1, .int .i64 12)]) rfl (buildSI2 _ _)) rfl ?_
 rintro bv w2 hN
 have hbv : SlV (m :: X) w2 bv [(10 : Int), (12 : Int)] := hN.slv (fun b hb => by have := hXw b hb; omega) rfl rfl (by simp [maxLen])
 have hS2 := NewSl.stp hN
 clear hN
 replace hmp := hmp.up hS2
 have hml2 := hS2.size
 refine WL_eff0 (OE_insertS (a := [62]) rfl rfl rfl hmp hbv (by decide)) ?_
 clear hmp
 rintro _ w3 ⟨hmp, hS3⟩
 have hml3 := hS3.size
 replace hml := Nat.lt_of_lt_of_le (Nat.lt_of_lt_of_le hml hml2) hml3
 replace hS := (hS.trans hS2).own hS3 (fun b hb => .inr (by simp at hb; omega))
 clear hS2 hS3 hbv hml2 hml3
 refine WL_eff (OE_buildSlice (vs := [(0, .int .i64 9), (1, .int .i64 12)]) rfl (buildSI2 _ _)) rfl ?_
 rintro bv w2 hN
 have hbv : SlV (m :: X) w2 bv [(9 : Int), (12 : Int)] := hN.slv (fun b hb => by have := hXw b hb; omega) rfl rfl (by simp [maxLen])
 have hS2 := NewSl.stp hN
 clear hN
 replace hmp := hmp.up hS2
 have hml2 := hS2.size
 refine WL_eff0 (OE_insertS (a := [62, 61]) rfl rfl rfl hmp hbv (by decide)) ?_
 clear hmp
 rintro _ w3 ⟨hmp, hS3⟩
 have hml3 := hS3.size
 replace hml := Nat.lt_of_lt_of_le (Nat.lt_of_lt_of_le hml hml2) hml3
 replace hS := (hS.trans hS2).own hS3 (fun b hb => .inr (by simp at hb; omega))
 clear hS2 hS3 hbv hml2 hml3
 refine WL_eff (OE_buildSlice (vs := [(0, .int .i64 11), (1, .int .i64 12)]) rfl (buildSI2 _ _)) rfl ?_
 rintro bv w2 hN
 have hbv : SlV (m :: X) w2 bv [(11 : Int), (12 : Int)] := hN.slv (fun b hb => by have := hXw b hb; omega) rfl rfl (by simp [maxLen])
 have hS2 := NewSl.stp hN
 clear hN
 replace hmp := hmp.up hS2
 have hml2 := hS2.size
 refine WL_eff0 (OE_insertS (a := [33, 61]) rfl rfl rfl hmp hbv (by decide)) ?_
 clear hmp
 rintro _ w3 ⟨hmp, hS3⟩
 have hml3 := hS3.size
 replace hml := Nat.lt_of_lt_of_le (Nat.lt_of_lt_of_le hml hml2) hml3
 replace hS := (hS.trans hS2).own hS3 (fun b hb => .inr (by simp at hb; omega))
 clear hS2 hS3 hbv hml2 hml3
 refine WL_eff (OE_buildSlice (vs := [(0, .int .i64 15)]) rfl (buildSI1 _)) rfl ?_
 rintro bv w2 hN
 have hbv : SlV (m :: X) w2 bv [(15 : Int)] := hN.slv (fun b hb => by have := hXw b hb; omega) rfl rfl (by simp [maxLen])
 have hS2 := NewSl.stp hN
 clear hN
 replace hmp := hmp.up hS2
 have hml2 := hS2.size
 refine WL_eff0 (OE_insertS (a := [100, 97, 121, 115]) rfl rfl rfl hmp hbv (by decide)) ?_
 clear hmp
 rintro _ w3 ⟨hmp, hS3⟩
 have hml3 := hS3.size
 replace hml := Nat.lt_of_lt_of_le (Nat.lt_of_lt_of_le hml hml2) hml3
 replace hS := (hS.trans hS2).own hS3 (fun b hb => .inr (by simp at hb; omega))
 clear hS2 hS3 hbv hml2 hml3
 refine WL_eff (OE_buildSlice (vs := [(0, .int .i64 16)]) rfl (buildSI1 _)) rfl ?_
 rintro bv w2 hN
 have hbv : SlV (m :: X) w2 bv [(16 : Int)] := hN.slv (fun b hb => by have := hXw b hb; omega) rfl rfl (by simp [maxLen])
 have hS2 := NewSl.stp hN
 clear hN
 replace hmp := hmp.up hS2
 have hml2 := hS2.size
 refine WL_eff0 (OE_insertS (a := [119, 101, 101, 107, 115]) rfl rfl rfl hmp hbv (by decide)) ?_
 clear hmp
 rintro _ w3 ⟨hmp, hS3⟩
 have hml3 := hS3.size
 replace hml := Nat.lt_of_lt_of_le (Nat.lt_of_lt_of_le hml hml2) hml3
 replace hS := (hS.trans hS2).own hS3 (fun b hb => .inr (by simp at hb; omega))
 clear hS2 hS3 hbv hml2 hml3
 refine WL_eff (OE_buildSlice (vs := [(0, .int .i64 17)]) rfl (buildSI1 _)) rfl ?_
 rintro bv w2 hN
 have hbv : SlV (m :: X) w2 bv [(17 : Int)] := hN.slv (fun b hb => by have := hXw b hb; omega) rfl rfl (by simp [maxLen])
 have hS2 := NewSl.stp hN
 clear hN
 replace hmp := hmp.up hS2
 have hml2 := hS2.size
 refine WL_eff0 (OE_insertS (a := [109, 111, 110, 116, 104, 115]) rfl rfl rfl hmp hbv (by decide)) ?_
 clear hmp
 rintro _ w3 ⟨hmp, hS3⟩
 have hml3 := hS3.size
 replace hml := Nat.lt_of_lt_of_le (Nat.lt_of_lt_of_le hml hml2) hml3
 replace hS := (hS.trans hS2).own hS3 (fun b hb => .inr (by simp at hb; omega))
 clear hS2 hS3 hbv hml2 hml3
 refine WL_eff (OE_buildSlice (vs := [(0, .int .i64 18)]) rfl (buildSI1 _)) rfl ?_
 rintro bv w2 hN
 have hbv : SlV (m :: X) w2 bv [(18 : Int)] := hN.slv (fun b hb => by have := hXw b hb; omega) rfl rfl (by simp [maxLen])
 have hS2 := NewSl.stp hN
 clear hN
 replace hmp := hmp.up hS2
 have hml2 := hS2.size
 refine WL_eff0 (OE_insertS (a := [99, 111, 117, 114, 116, 100, 97, 121, 115]) rfl rfl rfl hmp hbv (by decide)) ?_
 clear hmp
 rintro _ w3 ⟨hmp, hS3⟩
 have hml3 := hS3.size
 replace hml := Nat.lt_of_lt_of_le (Nat.lt_of_lt_of_le hml hml2) hml3
 replace hS := (hS.trans hS2).own hS3 (fun b hb => .inr (by simp at hb; omega))
 clear hS2 hS3 hbv hml2 hml3
 refine WL_eff (OE_buildSlice (vs := [(0, .int .i64 19)]) rfl (buildSI1 _)) rfl ?_
 rintro bv w2 hN
 have hbv : SlV (m :: X) w2 bv [(19 : Int)] := hN.slv (fun b hb => by have := hXw b hb; omega) rfl rfl (by simp [maxLen])
 have hS2 := NewSl.stp hN
 clear hN
 replace hmp := hmp.up hS2
 have hml2 := hS2.size
 refine WL_eff0 (OE_insertS (a := [110, 101, 120, 116]) rfl rfl rfl hmp hbv (by decide)) ?_
 clear hmp
 rintro _ w3 ⟨hmp, hS3⟩
 have hml3 := hS3.size
 replace hml := Nat.lt_of_lt_of_le (Nat.lt_of_lt_of_le hml hml2) hml3
 replace hS := (hS.trans hS2).own hS3 (fun b hb => .inr (by simp at hb; omega))
 clear hS2 hS3 hbv hml2 hml3
 refine WL_eff (OE_buildSlice (vs := [(0, .int .i64 20)]) rfl (buildSI1 _)) rfl ?_
 rintro bv w2 hN
 have hbv : SlV (m :: X) w2 bv [(20 : Int)] := hN.slv (fun b hb => by have := hXw b hb; omega) rfl rfl (by simp [maxLen])
 have hS2 := NewSl.stp hN
 clear hN
 replace hmp := hmp.up hS2
 have hml2 := hS2.size
 refine WL_eff0 (OE_insertS (a := [112, 114, 101, 118]) rfl rfl rfl hmp hbv (by decide)) ?_
 clear hmp
 rintro _ w3 ⟨hmp, hS3⟩
 have hml3 := hS3.size
 replace hml := Nat.lt_of_lt_of_le (Nat.lt_of_lt_of_le hml hml2) hml3
 replace hS := (hS.trans hS2).own hS3 (fun b hb => .inr (by simp at hb; omega))
 clear hS2 hS3 hbv hml2 hml3
 refine WL_eff (OE_buildSlice (vs := [(0, .int .i64 21)]) rfl (buildSI1 _)) rfl ?_
 rintro bv w2 hN
 have hbv : SlV (m :: X) w2 bv [(21 : Int)] := hN.slv (fun b hb => by have := hXw b hb; omega) rfl rfl (by simp [maxLen])
 have hS2 := NewSl.stp hN
 clear hN
 replace hmp := hmp.up hS2
 have hml2 := hS2.size
 refine WL_eff0 (OE_insertS (a := [108, 97, 116, 101, 114]) rfl rfl rfl hmp hbv (by decide)) ?_
 clear hmp
 rintro _ w3 ⟨hmp, hS3⟩
 have hml3 := hS3.size
 replace hml := Nat.lt_of_lt_of_le (Nat.lt_of_lt_of_le hml hml2) hml3
 replace hS := (hS.trans hS2).own hS3 (fun b hb => .inr (by simp at hb; omega))
 clear hS2 hS3 hbv hml2 hml3
 refine WL_eff (OE_buildSlice (vs := [(0, .int .i64 22)]) rfl (buildSI1 _)) rfl ?_
 rintro bv w2 hN
 have hbv : SlV (m :: X) w2 bv [(22 : Int)] := hN.slv (fun b hb => by have := hXw b hb; omega) rfl rfl (by simp [maxLen])
 have hS2 := NewSl.stp hN
 clear hN
 replace hmp := hmp.up hS2
 have hml2 := hS2.size
 refine WL_eff0 (OE_insertS (a := [101, 97, 114, 108, 105, 101, 114]) rfl rfl rfl hmp hbv (by decide)) ?_
 clear hmp
 rintro _ w3 ⟨hmp, hS3⟩
 have hml3 := hS3.size
 replace hml := Nat.lt_of_lt_of_le (Nat.lt_of_lt_of_le hml hml2) hml3
 replace hS := (hS.trans hS2).own hS3 (fun b hb => .inr (by simp at hb; omega))
 clear hS2 hS3 hbv hml2 hml3
 refine WL_eff (OE_buildSlice (vs := [(0, .int .i64 23)]) rfl (buildSI1 _)) rfl ?_
 rintro bv w2 hN
 have hbv : SlV (m :: X) w2 bv [(23 : Int)] := hN.slv (fun b hb => by have := hXw b hb; omega) rfl rfl (by simp [maxLen])
 have hS2 := NewSl.stp hN
 clear hN
 replace hmp := hmp.up hS2
 have hml2 := hS2.size
 refine WL_eff0 (OE_insertS (a := [98, 101, 116, 119, 101, 101, 110]) rfl rfl rfl hmp hbv (by decide)) ?_
 clear hmp
 rintro _ w3 ⟨hmp, hS3⟩
 have hml3 := hS3.size
 replace hml := Nat.lt_of_lt_of_le (Nat.lt_of_lt_of_le hml hml2) hml3
 replace hS := (hS.trans hS2).own hS3 (fun b hb => .inr (by simp at hb; omega))
 clear hS2 hS3 hbv hml2 hml3
 refine W ?_
 refine WR ?_
 exact .mk ⟨m, rfl, hmp, hS⟩
def opF (s : Str) : List Int := match opEs.find? (fun p => decide (p.1 = s)) with | some p => p.2 | none => []
theorem opF_len (s : Str) : (opF s).length ≤ 2 := by
 unfold opF
 cases h : opEs.find? (fun p => decide (p.1 = s)) with
 | none => simp
 | some p =>
   have hp := List.mem_of_find?_eq_some h
   have : ∀ p ∈ opEs, p.2.length ≤ 2 := by decide
   exact this p hp
theorem MapS.get {X : List Nat} {w : World} {m : Nat} (h : MapS X w m opEs) (s : Str) : ∃ l : List (Str × Value), MapAt str w m l ∧ SlV X w (mget l s (.slice none 0 0)) (opF s) := by
 obtain ⟨l, h1, h2, h3⟩ := h
 refine ⟨l, h1, ?_⟩
 unfold mget opF
 have hf : (l.find? (fun p => decide (p.1 = s)) = none ∧ opEs.find? (fun p => decide (p.1 = s)) = none) ∨ ∃ i, ∃ (h : i < l.length) (h' : i < opEs.length), l.find? (fun p => decide (p.1 = s)) = some l[i] ∧ opEs.find? (fun p => decide (p.1 = s)) = some opEs[i] := by
  cases hq : l.find? (fun p => decide (p.1 = s)) with
  | none =>
    left
    refine ⟨rfl, ?_⟩
    rw [List.find?_eq_none]
    intro p hp
    obtain ⟨i, hi, rfl⟩ := List.getElem_of_mem hp
    have := List.find?_eq_none.1 hq l[i] (List.getElem_mem (by omega))
    rwa [(h3 i (by omega) hi).1] at this
  | some p =>
    right
    obtain ⟨hp, i, hi, rfl, hb⟩ := List.find?_eq_some_iff_getElem.1 hq
    refine ⟨i, hi, by omega, rfl, ?_⟩
    rw [List.find?_eq_some_iff_getElem]
    refine ⟨by rw [← (h3 i hi (by omega)).1]; exact hp, i, by omega, rfl, fun j hj => ?_⟩
    rw [← (h3 j (by omega) (by omega)).1]
    exact hb j hj
 rcases hf with ⟨e1, e2⟩ | ⟨i, h, h', e1, e2⟩
 · rw [e1, e2]
   exact ⟨none, 0, rfl, Nat.le_refl _, by simp [maxLen], fun _ => rfl, fun i h => absurd h (Nat.not_lt_zero _)⟩
 · rw [e1, e2]
   exact (h3 i h h').2.ext (Stp.refl [] w) (by simp) (fun b hb => .inl (List.mem_cons_of_mem _ hb))
def seqC : List Cf → Nat → List Ins
 | [], _ => []
 | c :: r, p => c p ++ seqC r (p + (c p).length)
theorem seqC_append (a b : List Cf) (p : Nat) : seqC (a ++ b) p = seqC a p ++ seqC b (p + (seqC a p).length) := by
 induction a generalizing p with
 | nil => simp [seqC]
 | cons c r ih =>
   simp only [List.cons_append, seqC, ih, List.length_append, List.append_assoc]
   rw [Nat.add_assoc]
theorem seqC_step (cs : List Cf) (p i : Nat) (h : i < cs.length) : seqC (cs.take (i + 1)) p = seqC (cs.take i) p ++ cs[i] (p + (seqC (cs.take i) p).length) := by
 rw [List.take_succ_eq_append_getElem h, seqC_append]
 simp [seqC]
theorem seqC_le (cs : List Cf) (p i : Nat) : (seqC (cs.take i) p).length ≤ (seqC cs p).length := by
 have : seqC cs p = seqC (cs.take i) p ++ seqC (cs.drop i) (p + (seqC (cs.take i) p).length) := by rw [← seqC_append, List.take_append_drop]
 rw [this, List.length_append]
 omega
def insO (l : List Int) : List Ins := l.map (fun o => ⟨o, 0⟩)
def plainC (k : Int) (s : Str) (cs : List Cf) (p : Nat) : List Ins := seqC cs p ++ (if k = 8 ∨ k = 5 ∧ s = [45] then [⟨8, 0⟩] else []) ++ insO (opF s)
theorem plain_any (x : Nd) (cs : List Cf) (hcl : cs.length = x.kids.length) (hcs : ∀ i (h : i < x.kids.length) (h' : i < cs.length), ExprOk x.kids[i] cs[i]) (w : World) (bc base : Nat) (v nv : Value) (xs : List Ins) (hc : Cod w bc base v xs)
 (hx : NdV (bc :: ob v) w nv x) (hF : SlV (bc :: ob v) w flds fieldNames) (hl : xs.length + (plainC x.kind x.word cs xs.length).length ≤ 100000) :
 Calls Tryz.prog 139 #[.pointer (some ⟨bc, 0, none⟩), nv] w (Ret fun r w' => Cods w bc base v (xs ++ plainC x.kind x.word cs xs.length) w') := by
 have hl' := hl
 unfold plainC at hl'
 simp only [List.length_append] at hl'
 obtain ⟨kv, rfl, hs⟩ := hx
 have hmax := hs.max
 refine calls_of_WC2 (n := 47) Tryz.func139 rfl rfl rfl ?_
 refine W ?_
 refine WL_eff (OE_box rfl) rfl ?_
 rintro _ wA ⟨b, rfl, hb, hblk, hS⟩
 replace hblk : Blk wA b _ (ndC x kv) := hblk
 have hobv : ∀ b ∈ bc :: ob v, b < w.heap.size := fun b hb => by
  rcases List.mem_cons.1 hb with rfl | h
  · exact hc.blk.lt
  · exact (hc.row.ob_le b h).2
 have nb : b ∉ bc :: ob v := fun h => by have := hobv _ h; omega
 replace hc := hc.up hS
 replace hs := hs.up hS
 replace hF := hF.up hS
 have main : ∀ ys w', Cods wA bc base v ys w' → Cods w bc base v ys w' := fun ys w' h => h.pre hS
 refine W ?_
 refine WC_cutB (σ := Value) (fun u => [(0, .pointer (some ⟨bc, 0, none⟩)), (3, .pointer (some ⟨b, 0, none⟩))]) (fun u w' => Fr wA w' bc base v u (xs ++ seqC cs xs.length)) ?_ ?_
 · refine WC_loop (σ := Nat × Value) (fun q => [(0, .pointer (some ⟨bc, 0, none⟩)), (3, .pointer (some ⟨b, 0, none⟩)), (9, kv), (10, .int .i64 (x.kids.length : Int)), (11, .int .i64 (q.1 : Int))]) (fun q w' => q.1 ≤ x.kids.length ∧ Fr wA w' bc base v q.2 (xs ++ seqC (cs.take q.1) xs.length)) (fun q => x.kids.length - q.1) (0, v) ⟨rfl, rfl, rfl, rfl, rfl, trivial⟩ ⟨Nat.zero_le _, by simpa [seqC] using Fr.start hc⟩ ?_
   rintro ⟨j, u⟩ w2 ⟨hj, fr⟩
   dsimp only at hj fr ⊢
   by_cases hlt : j < x.kids.length
   · have hs2 := fr.sl hs
     obtain ⟨kv2, hk2, hc2⟩ := hs2.nd hlt
     have hst := seqC_step cs xs.length j (by omega)
     have hle := seqC_le cs xs.length (j + 1)
     have hle0 := seqC_le cs xs.length j
     rw [hst, List.length_append] at hle
     repeat' (first | refine W1 ?_ | (exfalso; omega) | (refine VG ?_ ?_ <;> intro hg) | (refine VC ?_ ?_ <;> intro hc))
     apply WL_pure (PR_loadNd rfl rfl hs2 hlt hc2) rfl
     refine WL_eff OE_alloc rfl ?_
     rintro _ w3 ⟨b3, rfl, hb3, hblk3, hS3⟩
     refine WL_eff0 (OE_storeA (us := ndC x.kids[j] kv2) rfl rfl rfl rfl (ndC_one hk2) hblk3 rfl) ?_
     rintro _ w4 ⟨hS4, hblk4⟩
     have hS34 := hS3.own hS4 (fun c hc => .inr (by simp at hc; omega))
     replace fr := fr.up hS34
     replace hk2 := hk2.up hS34
     refine W ?_
     have hlen : (xs ++ seqC (cs.take j) xs.length).length = xs.length + (seqC (cs.take j) xs.length).length := List.length_append
     refine CL rfl (evs2 rfl rfl) rfl (hcs j hlt (by omega) _ bc base _ _ _ fr.cod ⟨kv2, rfl, hk2⟩ (fr.sl hF) (by rw [hlen]; omega)) ?_
     rintro _ w5 hq
     obtain ⟨u5, fr⟩ := fr.step hq
     rw [hlen, List.append_assoc, ← hst] at fr
     refine W ?_
     exact WQ_loop (j + 1, u5) ⟨rfl, rfl, rfl, rfl, rfl, trivial⟩ ⟨by dsimp only; omega, fr⟩ (by dsimp only; omega)
   · have hje : j = x.kids.length := by omega
     subst hje
     rw [← hcl, List.take_length] at fr
     repeat' (first | refine W1 ?_ | (exfalso; omega) | (refine VG ?_ ?_ <;> intro hg) | (refine VC ?_ ?_ <;> intro hc))
     exact WQ_cut u ⟨rfl, rfl, trivial⟩ fr
 rintro u w2 fr
 have hbk := fr.bk hblk nb
 unfold plainC
 generalize seqC cs xs.length = A at *
 rw [← List.append_assoc, ← List.append_assoc]
 refine WC_cut (σ := Value) (fun u => [(0, .pointer (some ⟨bc, 0, none⟩)), (3, .pointer (some ⟨b, 0, none⟩))]) (fun u w' => Fr wA w' bc base v u (xs ++ A ++ if x.kind = 8 ∨ x.kind = 5 ∧ x.word = [45] then [⟨8, 0⟩] else [])) ?_ ?_
 · by_cases hneg : x.kind = 8 ∨ x.kind = 5 ∧ x.word = [45]
   · have hln : (xs ++ A).length ≤ 1000000 := by simp only [List.length_append]; omega
     rw [if_pos hneg]
     repeat' (first | refine W1 ?_ | (exfalso; omega) | (refine VG ?_ ?_ <;> intro hg) | (refine VC ?_ ?_ <;> intro hc))
     all_goals first
      | (refine CL rfl (evs3 rfl rfl rfl) rfl (put_any bc base _ _ 8 0 _ fr.cod hln) ?_
         rintro _ w3 ⟨rfl, hq⟩
         obtain ⟨u3, fr⟩ := fr.step hq
         refine W ?_
         exact WQ_cut u3 ⟨rfl, rfl, trivial⟩ fr)
      | (exfalso; rcases hneg with h | ⟨h1, h2⟩ <;> first | omega | contradiction)
   · rw [if_neg hneg, List.append_nil]
     have hn8 : ¬ x.kind = 8 := fun h => hneg (.inl h)
     repeat' (first | refine W1 ?_ | (exfalso; omega) | (refine VG ?_ ?_ <;> intro hg) | (refine VC ?_ ?_ <;> intro hc))
     all_goals first
      | exact WQ_cut u ⟨rfl, rfl, trivial⟩ fr
      | (exfalso; exact hneg (.inr ⟨by assumption, by assumption⟩))
 rintro u3 w3 fr
 have hbk := fr.bk hblk nb
 have hol := opF_len x.word
 generalize hB : xs ++ A ++ (if x.kind = 8 ∨ x.kind = 5 ∧ x.word = [45] then [(⟨8, 0⟩ : Ins)] else []) = B at *
 have hBl : B.length ≤ 200000 := by
  rw [← hB]
  simp only [List.length_append]
  have : (if x.kind = 8 ∨ x.kind = 5 ∧ x.word = [45] then [(⟨8, 0⟩ : Ins)] else []).length ≤ 1 := by split <;> simp
  omega
 refine W ?_
 refine WC_drawn 6 [] [] [(1, 0), (2, 1), (5, 0), (0, 2), (3, 2), (4, 0)] rfl mixed (by kernel_rfl) (by kernel_rfl) (by kernel_rfl) (fun w1 hS1 => ?_)
 replace fr := fr.up hS1
 replace hbk := hbk.up hS1
 have hou : ∀ b ∈ bc :: ob u3, b < w1.heap.size := fun b hb => (List.mem_cons.1 hb).elim (fun h => h ▸ fr.cod.blk.lt) (fun h => (fr.cod.row.ob_le b h).2)
 refine D ?_
 refine WD_eff rfl trivial (OE_call rfl evs0 (operators_any (bc :: ob u3) _ hou)) (fun _ _ h => h.choose_spec.2.2) rfl ?_
 rintro _ w5 ⟨m, rfl, hm, hS5⟩
 replace fr := fr.up hS5
 obtain ⟨l, hml, hsl⟩ := hm.get x.word
 refine WD_eff rfl trivial (OE_pr (PR_lookup (K := inferInstance) (a := x.word) rfl rfl hml)) (fun _ _ h => h.2 ▸ Stp.refl _ _) rfl ?_
 rintro _ _ ⟨rfl, rfl⟩
 generalize mget l x.word (.slice none 0 0) = ov at *
 generalize opF x.word = O at *
 refine D ?_
 refine W ?_
 refine WC_loop (σ := Nat × Value) (fun q => [(0, .pointer (some ⟨bc, 0, none⟩)), (37, ov), (38, .int .i64 (O.length : Int)), (39, .int .i64 (q.1 : Int))]) (fun q w' => q.1 ≤ O.length ∧ SlV (bc :: ob q.2) w' ov O ∧ Fr wA w' bc base v q.2 (B ++ insO (O.take q.1))) (fun q => O.length - q.1) (0, u3) ⟨rfl, rfl, rfl, rfl, trivial⟩ ⟨Nat.zero_le _, hsl, by simpa [insO] using fr⟩ ?_
 clear fr hsl hou
 rintro ⟨j, u⟩ w6 ⟨hj, hsl, fr⟩
 dsimp only at hj fr ⊢
 by_cases hlt : j < O.length
 · have hln : (B ++ insO (O.take j)).length ≤ 1000000 := by simp only [List.length_append, insO, List.length_map, List.length_take]; omega
   repeat' (first | refine W1 ?_ | (exfalso; omega) | (refine VG ?_ ?_ <;> intro hg) | (refine VC ?_ ?_ <;> intro hc))
   refine CL rfl (evs3 rfl rfl rfl) rfl (put_any bc base _ _ O[j] 0 _ fr.cod hln) ?_
   rintro _ w7 ⟨rfl, hq⟩
   obtain ⟨u7, hc7, hS7, hb7⟩ := id hq
   have hsl7 : SlV (bc :: ob u7) w7 ov O := keepX hsl hS7 hb7
   have fr7 : Fr wA w7 bc base v u7 (B ++ insO (O.take j) ++ [⟨O[j], 0⟩]) := by
    refine ⟨hc7, ?_, fun b hb => ?_⟩
    · exact fr.stp.own hS7 (fun b hb => by
       rcases List.mem_cons.1 hb with rfl | h
       · exact .inl (by simp)
       · exact (fr.sub b h).imp (fun h => List.mem_cons_of_mem _ h) id)
    · rcases hb7 b hb with h | h
      · exact fr.sub b h
      · exact .inr (Nat.le_trans fr.stp.size h)
   refine W ?_
   refine WQ_loop (j + 1, u7) ⟨rfl, rfl, rfl, rfl, trivial⟩ ⟨by dsimp only; omega, hsl7, ?_⟩ (by dsimp only; omega)
   dsimp only
   rw [List.take_succ_eq_append_getElem hlt]
   unfold insO at fr7 ⊢
   rw [List.map_append, ← List.append_assoc]
   exact fr7
 · have hje : j = O.length := by omega
   subst hje
   rw [List.take_length] at fr
   repeat' (first | refine W1 ?_ | (exfalso; omega) | (refine VG ?_ ?_ <;> intro hg) | (refine VC ?_ ?_ <;> intro hc))
   refine WR ?_
   exact .mk (main _ _ fr.fin)
def leafI (k n : Int) (s : Str) : Ins := if k = 1 then ⟨1, n⟩ else if k = 2 then ⟨2, n⟩ else if k = 3 then ⟨3, n⟩ else ⟨4, (fieldF s).1⟩
def nilC : Cf := fun _ => []
def combC (k n : Int) (s : Str) (cs : List Cf) (p : Nat) : List Ins :=
 if cs.length = 0 then [leafI k n s]
 else if k = 9 then chC (cs.getD 0 nilC) (cs.getD 1 nilC) (cs.getD 2 nilC) p
 else if k = 6 ∧ s = [97, 110, 100] then chC (cs.getD 0 nilC) (cs.getD 1 nilC) (fun _ => [⟨2, 0⟩]) p
 else if k = 6 ∧ s = [111, 114] then chC (cs.getD 0 nilC) (fun _ => [⟨2, 1⟩]) (cs.getD 1 nilC) p
 else if k = 6 ∧ s = [45] then plainC k s cs p ++ [⟨6, 0⟩]
 else plainC k s cs p
def codeN : Nd → Nat → List Ins
 | .mk k n s l => combC k n s (l.map codeN)
theorem codeN_eq (x : Nd) : codeN x = combC x.kind x.num x.word (x.kids.map codeN) := by
 cases x
 rw [codeN]
 rfl
theorem buildNb0 (w : World) : (Instr.build 36 #[(0, .int .i64 2)]).run Tryz.prog w = .ok (.agg #[.int .i64 2, .int .i64 0, str [], .slice none 0 0]) w := by kernel_rfl
theorem buildNb1 (w : World) : (Instr.build 36 #[(0, .int .i64 2), (1, .int .i64 1)]).run Tryz.prog w = .ok (.agg #[.int .i64 2, .int .i64 1, str [], .slice none 0 0]) w := by kernel_rfl
theorem nilSlv {α : Type} [GoRep α] (X : List Nat) (w : World) : SlV (α := α) X w (.slice none 0 0) [] := ⟨none, 0, rfl, Nat.le_refl _, by simp [maxLen], fun _ => rfl, fun i h => absurd h (Nat.not_lt_zero _)⟩
theorem exprBool (z : Int) : ExprOk (.mk 2 z [] []) (fun _ => [⟨2, z⟩]) := by
 intro w bc base v nv xs hc hx hF hl
 obtain ⟨kv, rfl, hs⟩ := hx
 refine calls_of_WC2 (n := 63) Tryz.func92 rfl rfl rfl ?_
 refine W ?_
 refine WL_eff (OE_box rfl) rfl ?_
 rintro _ w1 ⟨b, rfl, hb, hblk, hS⟩
 replace hblk : Blk w1 b _ [.int .i64 2, .int .i64 z, str [], kv] := hblk
 refine W ?_
 refine CL rfl (evs3 rfl rfl rfl) rfl (put_any bc base _ _ 2 z _ (hc.up hS) (by omega)) ?_
 rintro _ w2 ⟨rfl, hq⟩
 refine W ?_
 refine WR ?_
 exact .mk (hq.pre hS)
theorem minus_any (x : Nd) (cs : List Cf) (hcl : cs.length = x.kids.length) (hcs : ∀ i (h : i < x.kids.length) (h' : i < cs.length), ExprOk x.kids[i] cs[i]) (w : World) (bc base : Nat) (v nv : Value) (xs : List Ins) (hc : Cod w bc base v xs)
 (hx : NdV (bc :: ob v) w nv x) (hF : SlV (bc :: ob v) w flds fieldNames) (hl : xs.length + (plainC x.kind x.word cs xs.length).length ≤ 100000) :
 Calls Tryz.prog 178 #[.pointer (some ⟨bc, 0, none⟩), nv] w (Ret fun r w' => Cods w bc base v (xs ++ (plainC x.kind x.word cs xs.length ++ [⟨6, 0⟩])) w') := by
 obtain ⟨kv, rfl, hs⟩ := hx
 refine calls_of_WC2 (n := 9) Tryz.func178 rfl rfl rfl ?_
 refine W ?_
 refine WL_eff (OE_box rfl) rfl ?_
 rintro _ w1 ⟨b, rfl, hb, hblk, hS⟩
 replace hblk : Blk w1 b _ (ndC x kv) := hblk
 have fr := Fr.start (hc.up hS)
 refine W ?_
 refine CL rfl (evs2 rfl rfl) rfl (plain_any x cs hcl hcs _ bc base _ _ _ fr.cod ⟨kv, rfl, hs.up hS⟩ (hF.up hS) hl) ?_
 rintro _ w2 hq
 obtain ⟨v2, fr⟩ := fr.step hq
 refine W ?_
 refine CL rfl (evs3 rfl rfl rfl) rfl (put_any bc base _ _ 6 0 _ fr.cod (by simp only [List.length_append]; omega)) ?_
 rintro _ w3 ⟨rfl, hq⟩
 obtain ⟨v3, fr⟩ := fr.step hq
 rw [List.append_assoc] at fr
 refine W ?_
 refine WR ?_
 exact .mk (fr.fin.pre hS)
theorem cell_on {α : Type} [GoRep α] {X : List Nat} {w w' : World} {v u : Value} {l : List α} {i k j : Nat} (hs : SlV X w v l) (hi : i < l.length) (hS : Stp X w w') (h : w.cell? (elAddr v i k j) = some u) : w'.cell? (elAddr v i k j) = some u := by
 obtain ⟨p, c, rfl, _, _, _, hc⟩ := hs
 obtain ⟨b, o, cs, rfl, _, hx, _⟩ := hc i hi
 exact hS.cell hx h
theorem and_any (x : Nd) (cs : List Cf) (hk2 : x.kids.length = 2) (hcl : cs.length = x.kids.length) (hcs : ∀ i (h : i < x.kids.length) (h' : i < cs.length), ExprOk x.kids[i] cs[i]) (w : World) (bc base : Nat) (v nv : Value) (xs : List Ins) (hc : Cod w bc base v xs)
 (hx : NdV (bc :: ob v) w nv x) (hF : SlV (bc :: ob v) w flds fieldNames) (hl : xs.length + (chC (cs.getD 0 nilC) (cs.getD 1 nilC) (fun _ => [⟨2, 0⟩]) xs.length).length ≤ 100000) :
 Calls Tryz.prog 176 #[.pointer (some ⟨bc, 0, none⟩), nv] w (Ret fun r w' => Cods w bc base v (xs ++ chC (cs.getD 0 nilC) (cs.getD 1 nilC) (fun _ => [⟨2, 0⟩]) xs.length) w') := by
 obtain ⟨kv, rfl, hs⟩ := hx
 have h0 : 0 < x.kids.length := by omega
 have h1 : 1 < x.kids.length := by omega
 have g0 : cs.getD 0 nilC = cs[0]'(by omega) := by simp [List.getD, hcl, h0]
 have g1 : cs.getD 1 nilC = cs[1]'(by omega) := by simp [List.getD, hcl, h1]
 rw [g0, g1] at hl ⊢
 refine calls_of_WC2 (n := 15) Tryz.func176 rfl rfl rfl ?_
 refine W ?_
 refine WL_eff (OE_box rfl) rfl ?_
 rintro _ wA ⟨b, rfl, hb, hblk, hS⟩
 replace hblk : Blk wA b _ (ndC x kv) := hblk
 replace hs := hs.up hS
 have nb : b ∉ bc :: ob v := fun h => by
  rcases List.mem_cons.1 h with rfl | h
  · have := hc.blk.lt; omega
  · have := (hc.row.ob_le b h).2; omega
 refine W ?_
 refine WC_drawn 11 (bc :: ob v) [] [(0, 0), (1, 0), (2, 1), (3, 0), (4, 1), (5, 0), (6, 1), (7, 0), (8, 1), (9, 0), (10, 2)] rfl mixed (by kernel_rfl) (by kernel_rfl) (by kernel_rfl) (fun w1 hS1 => ?_)
 replace hs := hs.up hS1
 replace hblk := hblk.up hS1
 replace hS := hS.trans hS1
 obtain ⟨u0, s0, c0⟩ := hs.nd h0
 obtain ⟨u1, s1, c1⟩ := hs.nd h1
 refine D ?_
 try (refine WD_read rfl trivial (fun w' hS' => PR_load_blk rfl rfl (hblk.ext hS' nb) rfl) rfl ?_)
 refine D ?_
 refine WD_read rfl trivial (fun w' hS' => PR_loadNd rfl rfl (hs.on hS' (fun _ h => h)) h0 (fun j u hj => cell_on hs h0 hS' (c0 j u hj))) rfl ?_
 refine D ?_
 try (refine WD_read rfl trivial (fun w' hS' => PR_load_blk rfl rfl (hblk.ext hS' nb) rfl) rfl ?_)
 refine D ?_
 refine WD_read rfl trivial (fun w' hS' => PR_loadNd rfl rfl (hs.on hS' (fun _ h => h)) h1 (fun j u hj => cell_on hs h1 hS' (c1 j u hj))) rfl ?_
 refine D ?_
 apply WD_op
 exact rfl
 apply WO_build (vs := [(0, .int .i64 2)])
 exact trivial
 exact rfl
 exact buildNb0
 exact rfl
 refine WD_eff rfl trivial (OE_call rfl (evs4 rfl rfl rfl rfl) (choice_any (x := x.kids[0]) (y := x.kids[1]) (n := .mk 2 0 [] []) (hcs 0 h0 (by omega)) (hcs 1 h1 (by omega)) (exprBool 0) _ bc base v _ _ _ xs (hc.up hS) ⟨u0, rfl, s0⟩ ⟨u1, rfl, s1⟩ ⟨_, rfl, nilSlv _ _⟩ (hF.up hS) hl)) (fun _ _ h => by obtain ⟨_, _, h2, _⟩ := h; exact h2) rfl ?_
 rintro _ w5 hq
 refine D ?_
 refine W ?_
 refine WR ?_
 exact .mk (hq.pre hS)
theorem or_any (x : Nd) (cs : List Cf) (hk2 : x.kids.length = 2) (hcl : cs.length = x.kids.length) (hcs : ∀ i (h : i < x.kids.length) (h' : i < cs.length), ExprOk x.kids[i] cs[i]) (w : World) (bc base : Nat) (v nv : Value) (xs : List Ins) (hc : Cod w bc base v xs)
 (hx : NdV (bc :: ob v) w nv x) (hF : SlV (bc :: ob v) w flds fieldNames) (hl : xs.length + (chC (cs.getD 0 nilC) (fun _ => [⟨2, 1⟩]) (cs.getD 1 nilC) xs.length).length ≤ 100000) :
 Calls Tryz.prog 177 #[.pointer (some ⟨bc, 0, none⟩), nv] w (Ret fun r w' => Cods w bc base v (xs ++ chC (cs.getD 0 nilC) (fun _ => [⟨2, 1⟩]) (cs.getD 1 nilC) xs.length) w') := by
 obtain ⟨kv, rfl, hs⟩ := hx
 have h0 : 0 < x.kids.length := by omega
 have h1 : 1 < x.kids.length := by omega
 have g0 : cs.getD 0 nilC = cs[0]'(by omega) := by simp [List.getD, hcl, h0]
 have g1 : cs.getD 1 nilC = cs[1]'(by omega) := by simp [List.getD, hcl, h1]
 rw [g0, g1] at hl ⊢
 refine calls_of_WC2 (n := 15) Tryz.func177 rfl rfl rfl ?_
 refine W ?_
 refine WL_eff (OE_box rfl) rfl ?_
 rintro _ wA ⟨b, rfl, hb, hblk, hS⟩
 replace hblk : Blk wA b _ (ndC x kv) := hblk
 replace hs := hs.up hS
 have nb : b ∉ bc :: ob v := fun h => by
  rcases List.mem_cons.1 h with rfl | h
  · have := hc.blk.lt; omega
  · have := (hc.row.ob_le b h).2; omega
 refine W ?_
 refine WC_drawn 11 (bc :: ob v) [] [(0, 0), (1, 0), (2, 1), (3, 0), (4, 1), (5, 0), (6, 0), (7, 1), (8, 0), (9, 1), (10, 2)] rfl mixed (by kernel_rfl) (by kernel_rfl) (by kernel_rfl) (fun w1 hS1 => ?_)
 replace hs := hs.up hS1
 replace hblk := hblk.up hS1
 replace hS := hS.trans hS1
 obtain ⟨u0, s0, c0⟩ := hs.nd h0
 obtain ⟨u1, s1, c1⟩ := hs.nd h1
 refine D ?_
 try (refine WD_read rfl trivial (fun w' hS' => PR_load_blk rfl rfl (hblk.ext hS' nb) rfl) rfl ?_)
 refine D ?_
 refine WD_read rfl trivial (fun w' hS' => PR_loadNd rfl rfl (hs.on hS' (fun _ h => h)) h0 (fun j u hj => cell_on hs h0 hS' (c0 j u hj))) rfl ?_
 refine D ?_
 apply WD_op
 exact rfl
 apply WO_build (vs := [(0, .int .i64 2), (1, .int .i64 1)])
 exact trivial
 exact rfl
 exact buildNb1
 exact rfl
 refine D ?_
 try (refine WD_read rfl trivial (fun w' hS' => PR_load_blk rfl rfl (hblk.ext hS' nb) rfl) rfl ?_)
 refine D ?_
 refine WD_read rfl trivial (fun w' hS' => PR_loadNd rfl rfl (hs.on hS' (fun _ h => h)) h1 (fun j u hj => cell_on hs h1 hS' (c1 j u hj))) rfl ?_
 refine WD_eff rfl trivial (OE_call rfl (evs4 rfl rfl rfl rfl) (choice_any (x := x.kids[0]) (y := .mk 2 1 [] []) (n := x.kids[1]) (hcs 0 h0 (by omega)) (exprBool 1) (hcs 1 h1 (by omega)) _ bc base v _ _ _ xs (hc.up hS) ⟨u0, rfl, s0⟩ ⟨_, rfl, nilSlv _ _⟩ ⟨u1, rfl, s1⟩ (hF.up hS) hl)) (fun _ _ h => by obtain ⟨_, _, h2, _⟩ := h; exact h2) rfl ?_
 rintro _ w5 hq
 refine D ?_
 refine W ?_
 refine WR ?_
 exact .mk (hq.pre hS)
theorem SlV.nil {α : Type} [GoRep α] {X : List Nat} {w : World} {v : Value} {l : List α} (h : SlV X w v l) : SlV [] w v l := h.ext (Stp.refl [] w) (by simp) (by simp)
theorem binaryC_any (x : Nd) (hk6 : x.kind = 6) (cs : List Cf) (hk2 : x.kids.length = 2) (hcl : cs.length = x.kids.length) (hcs : ∀ i (h : i < x.kids.length) (h' : i < cs.length), ExprOk x.kids[i] cs[i]) (w : World) (bc base : Nat) (v nv : Value) (xs : List Ins) (hcd : Cod w bc base v xs)
 (hx : NdV (bc :: ob v) w nv x) (hF : SlV (bc :: ob v) w flds fieldNames) (hl : xs.length + (combC x.kind x.num x.word cs xs.length).length ≤ 100000) :
 Calls Tryz.prog 137 #[.pointer (some ⟨bc, 0, none⟩), nv] w (Ret fun r w' => Cods w bc base v (xs ++ combC x.kind x.num x.word cs xs.length) w') := by
 have hne : ¬ cs.length = 0 := by omega
 have hn9 : ¬ x.kind = 9 := by omega
 unfold combC at hl ⊢
 rw [if_neg hne, if_neg hn9] at hl ⊢
 obtain ⟨kv, rfl, hs⟩ := hx
 refine calls_of_WC2 (n := 17) Tryz.func137 rfl rfl rfl ?_
 refine W ?_
 refine WL_eff (OE_box rfl) rfl ?_
 rintro _ wA ⟨b, rfl, hb, hblk, hS⟩
 replace hblk : Blk wA b _ (ndC x kv) := hblk
 have main : ∀ ys w', Cods wA bc base v ys w' → Cods w bc base v ys w' := fun ys w' h => h.pre hS
 replace hcd := hcd.up hS
 replace hs := hs.up hS
 replace hF := hF.up hS
 repeat' (first | refine W1 ?_ | (exfalso; omega) | (refine VG ?_ ?_ <;> intro hg) | (refine VC ?_ ?_ <;> intro hc))
 · rw [if_pos ⟨hk6, by assumption⟩] at hl ⊢
   refine CL rfl (evs2 rfl rfl) rfl (and_any x cs hk2 hcl hcs _ bc base _ _ _ hcd ⟨kv, rfl, hs⟩ hF hl) ?_
   rintro _ w2 hq
   refine W ?_
   refine WR ?_
   exact .mk (main _ _ hq)
 · rw [if_neg (fun h => absurd h.2 (by assumption)), if_pos ⟨hk6, by assumption⟩] at hl ⊢
   refine CL rfl (evs2 rfl rfl) rfl (or_any x cs hk2 hcl hcs _ bc base _ _ _ hcd ⟨kv, rfl, hs⟩ hF hl) ?_
   rintro _ w2 hq
   refine W ?_
   refine WR ?_
   exact .mk (main _ _ hq)
 · rw [if_neg (fun h => absurd h.2 (by assumption)), if_neg (fun h => absurd h.2 (by assumption)), if_pos ⟨hk6, by assumption⟩] at hl ⊢
   rw [List.length_append] at hl
   refine CL rfl (evs2 rfl rfl) rfl (minus_any x cs hcl hcs _ bc base _ _ _ hcd ⟨kv, rfl, hs⟩ hF (by omega)) ?_
   rintro _ w2 hq
   refine W ?_
   refine WR ?_
   exact .mk (main _ _ hq)
 · rw [if_neg (fun h => absurd h.2 (by assumption)), if_neg (fun h => absurd h.2 (by assumption)), if_neg (fun h => absurd h.2 (by assumption))] at hl ⊢
   refine CL rfl (evs2 rfl rfl) rfl (plain_any x cs hcl hcs _ bc base _ _ _ hcd ⟨kv, rfl, hs⟩ hF hl) ?_
   rintro _ w2 hq
   refine W ?_
   refine WR ?_
   exact .mk (main _ _ hq)
theorem codeN_leaf {x : Nd} (h : x.kids = []) (p : Nat) : codeN x p = [leafI x.kind x.num x.word] := by
 rw [codeN_eq, h]
 simp [combC]
theorem codeN_kids {x : Nd} (h : x.kids ≠ []) : (x.kids.map codeN).length ≠ 0 := by simpa using h
theorem codeN_getD {x : Nd} {i : Nat} (h : i < x.kids.length) : (x.kids.map codeN).getD i nilC = codeN x.kids[i] := by simp [List.getD, h]
theorem expr_ok (x : Nd) : typeT x ≠ 0 → ExprOk x (codeN x) := by
 induction x using Nd.ind with
 | h k n s l ih =>
 intro hty
 have hkt := (typed_kids hty).2
 have hcs : ∀ i (h : i < (Nd.mk k n s l).kids.length) (h' : i < ((Nd.mk k n s l).kids.map codeN).length), ExprOk (Nd.mk k n s l).kids[i] ((Nd.mk k n s l).kids.map codeN)[i] := by
  intro i h h'
  rw [List.getElem_map]
  exact ih _ (List.getElem_mem h) (hkt _ (List.getElem_mem h))
 have hcl : ((Nd.mk k n s l).kids.map codeN).length = (Nd.mk k n s l).kids.length := by simp
 have hsh := typed_shape hty
 have hlf := typed_leaf hty
 have hcN := codeN_eq (.mk k n s l)
 have hcL := codeN_leaf (x := .mk k n s l)
 have hkl : (Nd.mk k n s l).kids ≠ [] → 5 ≤ (Nd.mk k n s l).kind := by
  intro h
  rcases (hsh h).2 with ⟨h, _, _⟩ | ⟨h, _, _⟩ | ⟨h, _, _⟩ | ⟨h, _⟩ | ⟨h, _, _⟩ <;> omega
 have hk6 : (Nd.mk k n s l).kind = 6 → (Nd.mk k n s l).kids.length = 2 := by
  intro h6
  by_cases h0 : (Nd.mk k n s l).kids = []
  · have := hlf h0; omega
  rcases (hsh h0).2 with ⟨h, _, _⟩ | ⟨h, _, hm⟩ | ⟨h, _, _⟩ | ⟨h, _⟩ | ⟨h, _, _⟩ <;> omega
 have hk9 : (Nd.mk k n s l).kind = 9 → (Nd.mk k n s l).kids.length = 3 := by
  intro h6
  by_cases h0 : (Nd.mk k n s l).kids = []
  · have := hlf h0; omega
  rcases (hsh h0).2 with ⟨h, _, _⟩ | ⟨h, _, hm⟩ | ⟨h, _, _⟩ | ⟨h, hm⟩ | ⟨h, _, _⟩ <;> omega
 have hgD := fun i => codeN_getD (x := .mk k n s l) (i := i)
 generalize (Nd.mk k n s l) = x at *
 clear ih
 intro w bc base v nv xs hcd hx hF hl
 obtain ⟨kv, rfl, hs⟩ := hx
 refine calls_of_WC2 (n := 63) Tryz.func92 rfl rfl rfl ?_
 refine W ?_
 refine WL_eff (OE_box rfl) rfl ?_
 rintro _ wA ⟨b, rfl, hb, hblk, hS⟩
 replace hblk : Blk wA b _ (ndC x kv) := hblk
 have main : ∀ ys w', Cods wA bc base v ys w' → Cods w bc base v ys w' := fun ys w' h => h.pre hS
 have hobv : ∀ b ∈ bc :: ob v, b < w.heap.size := fun b hb => by
  rcases List.mem_cons.1 hb with rfl | h
  · exact hcd.blk.lt
  · exact (hcd.row.ob_le b h).2
 have nb : b ∉ bc :: ob v := fun h => by have := hobv _ h; omega
 replace hcd := hcd.up hS
 replace hs := hs.up hS
 replace hF := hF.up hS
 have leaf : ∀ op n, [(⟨op, n⟩ : Ins)] = codeN x xs.length → ∀ w', Cods wA bc base v (xs ++ [⟨op, n⟩]) w' → Cods w bc base v (xs ++ codeN x xs.length) w' := fun op n h w' h' => h ▸ main _ _ h'
 repeat' (first | refine W1 ?_ | (exfalso; omega) | (refine VG ?_ ?_ <;> intro hg) | (refine VC ?_ ?_ <;> intro hc))
 · have h0 : x.kids = [] := Decidable.byContradiction (fun h => by have := hkl h; omega)
   refine CL rfl (evs3 rfl rfl rfl) rfl (put_any bc base _ _ 1 x.num _ hcd (by omega)) ?_
   rintro _ w2 ⟨rfl, hq⟩
   refine W ?_
   refine WR ?_
   exact .mk (leaf _ _ (by rw [hcL h0, leafI, if_pos (by assumption)]) _ hq)
 · have h0 : x.kids = [] := Decidable.byContradiction (fun h => by have := hkl h; omega)
   refine CL rfl (evs3 rfl rfl rfl) rfl (put_any bc base _ _ 2 x.num _ hcd (by omega)) ?_
   rintro _ w2 ⟨rfl, hq⟩
   refine W ?_
   refine WR ?_
   exact .mk (leaf _ _ (by rw [hcL h0, leafI, if_neg (by assumption), if_pos (by assumption)]) _ hq)
 · have h0 : x.kids = [] := Decidable.byContradiction (fun h => by have := hkl h; omega)
   refine CL rfl (evs3 rfl rfl rfl) rfl (put_any bc base _ _ 3 x.num _ hcd (by omega)) ?_
   rintro _ w2 ⟨rfl, hq⟩
   refine W ?_
   refine WR ?_
   exact .mk (leaf _ _ (by rw [hcL h0, leafI, if_neg (by assumption), if_neg (by assumption), if_pos (by assumption)]) _ hq)
 · have h0 : x.kids = [] := Decidable.byContradiction (fun h => by have := hkl h; omega)
   refine CL rfl (evs1 rfl) rfl (Field_any x.word _ (SlV.nil hF)) ?_
   rintro _ w2 ⟨rfl, hS2⟩
   refine W ?_
   refine CL rfl (evs3 rfl rfl rfl) rfl (put_any bc base _ _ 4 (fieldF x.word).1 _ (hcd.up hS2) (by omega)) ?_
   rintro _ w3 ⟨rfl, hq⟩
   refine W ?_
   refine WR ?_
   exact .mk (leaf _ _ (by rw [hcL h0, leafI, if_neg (by assumption), if_neg (by assumption), if_neg (by assumption)]) _ (hq.pre hS2))
 · have h6 : x.kind = 6 := by assumption
   rw [hcN] at hl ⊢
   refine CL rfl (evs2 rfl rfl) rfl (binaryC_any x h6 _ (hk6 h6) hcl hcs _ bc base _ _ _ hcd ⟨kv, rfl, hs⟩ hF hl) ?_
   rintro _ w2 hq
   refine W ?_
   refine WR ?_
   exact .mk (main _ _ hq)
 · have h9 : x.kind = 9 := by assumption
   have h3 := hk9 h9
   have e9 : codeN x = chC (codeN (x.kids[0]'(by omega))) (codeN (x.kids[1]'(by omega))) (codeN (x.kids[2]'(by omega))) := by
    funext p
    rw [hcN, combC, if_neg (by omega), if_pos h9, hgD 0 (by omega), hgD 1 (by omega), hgD 2 (by omega)]
   have c0 := hcs 0 (by omega) (by omega)
   have c1 := hcs 1 (by omega) (by omega)
   have c2 := hcs 2 (by omega) (by omega)
   rw [List.getElem_map] at c0 c1 c2
   rw [e9] at hl ⊢
   have h0 : 0 < x.kids.length := by omega
   have h1 : 1 < x.kids.length := by omega
   have h2 : 2 < x.kids.length := by omega
   refine WC_drawn 14 (bc :: ob v) [] [(0, 0), (1, 0), (2, 1), (3, 0), (4, 1), (5, 0), (6, 1), (7, 0), (8, 1), (9, 0), (10, 1), (11, 0), (12, 1), (13, 2)] rfl mixed (by kernel_rfl) (by kernel_rfl) (by kernel_rfl) (fun w1 hS1 => ?_)
   replace hs := hs.up hS1
   replace hblk := hblk.up hS1
   replace hS := hS.trans hS1
   obtain ⟨u0, s0, d0⟩ := hs.nd h0
   obtain ⟨u1, s1, d1⟩ := hs.nd h1
   obtain ⟨u2, s2, d2⟩ := hs.nd h2
   refine D ?_
   try (refine WD_read rfl trivial (fun w' hS' => PR_load_blk rfl rfl (hblk.ext hS' nb) rfl) rfl ?_)
   refine D ?_
   refine WD_read rfl trivial (fun w' hS' => PR_loadNd rfl rfl (hs.on hS' (fun _ h => h)) h0 (fun j u hj => cell_on hs h0 hS' (d0 j u hj))) rfl ?_
   refine D ?_
   try (refine WD_read rfl trivial (fun w' hS' => PR_load_blk rfl rfl (hblk.ext hS' nb) rfl) rfl ?_)
   refine D ?_
   refine WD_read rfl trivial (fun w' hS' => PR_loadNd rfl rfl (hs.on hS' (fun _ h => h)) h1 (fun j u hj => cell_on hs h1 hS' (d1 j u hj))) rfl ?_
   refine D ?_
   try (refine WD_read rfl trivial (fun w' hS' => PR_load_blk rfl rfl (hblk.ext hS' nb) rfl) rfl ?_)
   refine D ?_
   refine WD_read rfl trivial (fun w' hS' => PR_loadNd rfl rfl (hs.on hS' (fun _ h => h)) h2 (fun j u hj => cell_on hs h2 hS' (d2 j u hj))) rfl ?_
   refine D ?_
   refine WD_eff rfl trivial (OE_call rfl (evs4 rfl rfl rfl rfl) (choice_any c0 c1 c2 _ bc base v _ _ _ xs (hcd.up hS1) ⟨u0, rfl, s0⟩ ⟨u1, rfl, s1⟩ ⟨u2, rfl, s2⟩ (hF.up hS1) hl)) (fun _ _ h => by obtain ⟨_, _, h2, _⟩ := h; exact h2) rfl ?_
   rintro _ w5 hq
   refine D ?_
   refine W ?_
   refine WR ?_
   exact .mk (hq.pre hS)
 · have h0 : x.kids ≠ [] := fun h => by have := hlf h; omega
   have e0 : combC x.kind x.num x.word (x.kids.map codeN) xs.length = plainC x.kind x.word (x.kids.map codeN) xs.length := by
    rw [combC, if_neg (codeN_kids h0), if_neg (by assumption), if_neg (fun h => absurd h.1 (by assumption)), if_neg (fun h => absurd h.1 (by assumption)), if_neg (fun h => absurd h.1 (by assumption))]
   rw [hcN, e0] at hl ⊢
   refine CL rfl (evs2 rfl rfl) rfl (plain_any x _ hcl hcs _ bc base _ _ _ hcd ⟨kv, rfl, hs⟩ hF hl) ?_
   rintro _ w2 hq
   refine W ?_
   refine WR ?_
   exact .mk (main _ _ hq)
theorem seqC_len (l : List Nd) (h : ∀ y ∈ l, ∀ p, (codeN y p).length ≤ 8 * sizeN y) (p : Nat) : (seqC (l.map codeN) p).length ≤ 8 * (l.map sizeN).sum := by
 induction l generalizing p with
 | nil => simp [seqC]
 | cons x r ih =>
   simp only [List.map_cons, seqC, List.length_append, List.sum_cons]
   have h1 := h x (by simp) p
   have h2 := ih (fun y hy => h y (by simp [hy])) (p + (codeN x p).length)
   omega
theorem insO_len (l : List Int) : (insO l).length = l.length := by simp [insO]
theorem getD_len {l : List Nd} (h : ∀ y ∈ l, ∀ p, (codeN y p).length ≤ 8 * sizeN y) (i p : Nat) : ((l.map codeN).getD i nilC p).length ≤ 8 * (l.map sizeN).getD i 0 := by
 by_cases hi : i < l.length
 · simp [List.getD, hi]
   exact h _ (List.getElem_mem hi) p
 · simp [List.getD, hi, nilC]
theorem getD_sum (l : List Nat) : l.getD 0 0 + l.getD 1 0 + l.getD 2 0 ≤ l.sum := by
 rcases l with _ | ⟨a, _ | ⟨b, _ | ⟨c, r⟩⟩⟩ <;> simp <;> omega
theorem chC_len (c y n : Cf) (A B C : Nat) (hc : ∀ p, (c p).length ≤ A) (hy : ∀ p, (y p).length ≤ B) (hn : ∀ p, (n p).length ≤ C) (p : Nat) : (chC c y n p).length ≤ A + B + C + 2 := by
 unfold chC
 simp only [List.length_append, List.length_cons, List.length_nil]
 have h1 := hc p
 have h2 := hy (p + (c p).length + 1)
 have h3 := hn (p + (c p).length + 1 + (y (p + (c p).length + 1)).length + 1)
 omega
theorem codeN_len (x : Nd) : ∀ p, (codeN x p).length ≤ 8 * sizeN x := by
 induction x using Nd.ind with
 | h k n s l ih =>
 intro p
 rw [codeN_eq, sizeN_eq]
 show (combC k n s (l.map codeN) p).length ≤ 8 * (1 + (l.map sizeN).sum)
 have hs := getD_sum (l.map sizeN)
 have g := getD_len ih
 have hp : (plainC k s (l.map codeN) p).length ≤ 8 * (l.map sizeN).sum + 3 := by
  unfold plainC
  simp only [List.length_append, insO_len]
  have h1 := seqC_len l ih p
  have h2 := opF_len s
  have h3 : (if k = 8 ∨ k = 5 ∧ s = [45] then [(⟨8, 0⟩ : Ins)] else []).length ≤ 1 := by split <;> simp
  omega
 unfold combC
 split
 · simp; omega
 split
 · refine Nat.le_trans (chC_len _ _ _ _ _ _ (g 0) (g 1) (g 2) p) (by omega)
 split
 · refine Nat.le_trans (chC_len _ _ _ _ _ 1 (g 0) (g 1) (fun _ => by simp) p) (by omega)
 split
 · refine Nat.le_trans (chC_len _ _ _ _ 1 _ (g 0) (fun _ => by simp) (g 1) p) (by omega)
 split
 · simp only [List.length_append, List.length_cons, List.length_nil]; omega
 · omega
def exprF (x : Nd) : List Ins := codeN x 0 ++ [⟨24, 0⟩]
def errX (x : Nd) : Int := if nestN x ≤ 12 then (if typeT x = 0 then 21 else if (exprF x).length > 200 then 2 else 0) else 2
def ExprR (w : World) (x : Nd) (r : Value) (w' : World) : Prop := ∃ cv, r = .tuple #[cv, .int .i64 (errX x)] ∧ (∀ X : List Nat, (∀ b ∈ X, b < w.heap.size) → SlV X w' cv (if errX x = 0 then exprF x else [])) ∧ Stp [] w w'
theorem Expression_any (v : Value) (x : Nd) (w : World) (hsz : sizeN x ≤ 1000) (hx : NdV [] w v x) (hF : SlV [] w flds fieldNames) :
 Calls Tryz.prog 34 #[v] w (Ret (ExprR w x)) := by
 have hN := hx
 obtain ⟨kv, rfl, hs⟩ := hx
 refine calls_of_WC1 (n := 24) Tryz.func34 rfl rfl rfl ?_
 refine W ?_
 refine WL_eff (OE_box rfl) rfl ?_
 rintro _ w1 ⟨b, rfl, hb, hblk, hS⟩
 replace hblk : Blk w1 b _ (ndC x kv) := hblk
 replace hs := hs.up hS; replace hN := hN.up hS; replace hF := hF.up hS
 refine W ?_
 refine CL rfl (evs1 rfl) rfl (Of_any [] [] _ x _ hN hF) ?_
 rintro _ w2 ⟨rfl, hS2⟩
 replace hs := hs.up hS2; replace hN := hN.up hS2; replace hF := hF.up hS2; replace hblk := hblk.up hS2
 replace hS := hS.trans hS2
 by_cases hn : nestN x ≤ 12
 case neg =>
  rw [if_neg hn, if_neg hn]
  have he : errX x = 2 := by rw [errX, if_neg hn]
  repeat' (first | refine W1 ?_ | (exfalso; omega) | (refine VG ?_ ?_ <;> intro hg) | (refine VC ?_ ?_ <;> intro hc))
  refine WR ?_
  refine .mk ⟨_, by rw [he]; rfl, fun X hX => ?_, hS⟩
  rw [he, if_neg (by decide)]
  exact nilSlv _ _
 by_cases ht : typeT x = 0
 · rw [if_pos hn, if_pos hn, if_pos ht]
   have he : errX x = 21 := by rw [errX, if_pos hn, if_pos ht]
   repeat' (first | refine W1 ?_ | (exfalso; omega) | (refine VG ?_ ?_ <;> intro hg) | (refine VC ?_ ?_ <;> intro hc))
   refine WR ?_
   refine .mk ⟨_, by rw [he]; rfl, fun X hX => ?_, hS⟩
   rw [he, if_neg (by decide)]
   exact nilSlv _ _
 rw [if_pos hn, if_pos hn, if_neg ht]
 repeat' (first | refine W1 ?_ | (exfalso; omega) | (refine VG ?_ ?_ <;> intro hg) | (refine VC ?_ ?_ <;> intro hc))
 refine WL_eff OE_alloc rfl ?_
 rintro _ w3 ⟨bc, rfl, hbc, hblkc, hS3⟩
 replace hblk := hblk.up hS3
 replace hblkc : Blk w3 bc 144 [.slice none 0 0] := hblkc
 refine W ?_
 have hcod : Cod w3 bc w3.heap.size (.slice none 0 0) [] := ⟨hblkc, Row.nil, by simp [ob], hblkc.lt, Nat.le_refl _⟩
 have fr := Fr.start hcod
 have hlen := codeN_len x 0
 refine CL rfl (evs2 rfl rfl) rfl (expr_ok x ht _ bc _ _ _ [] hcod ⟨kv, rfl, ?_⟩ ?_ ?_) ?_
 · refine hs.ext hS3 (by simp) (fun c hc => .inr ?_)
   simp [ob] at hc; omega
 · refine hF.ext hS3 (by simp) (fun c hc => .inr ?_)
   simp [ob] at hc; omega
 · simp only [List.length_nil]; omega
 rintro _ w4 hq
 obtain ⟨v4, fr⟩ := fr.step hq
 rw [List.nil_append, List.length_nil] at fr
 refine W ?_
 refine CL rfl (evs3 rfl rfl rfl) rfl (put_any bc _ _ _ 24 0 _ fr.cod (by omega)) ?_
 rintro _ w5 ⟨rfl, hq⟩
 obtain ⟨v5, fr⟩ := fr.step hq
 have hfin : Stp [] w w5 := hS.trans (hS3.own fr.stp (fun c hc => .inr (by simp [ob] at hc; omega)))
 have hrow := fr.cod.row
 have hblk5 := fr.cod.blk
 have hslv := hrow.slv0
 have hel : ((codeN x 0 ++ [(⟨24, 0⟩ : Ins)]).length : Int) = (exprF x).length := rfl
 by_cases hg : (exprF x).length > 200
 · have he : errX x = 2 := by rw [errX, if_pos hn, if_neg ht, if_pos hg]
   repeat' (first | refine W1 ?_ | (exfalso; omega) | (refine VG ?_ ?_ <;> intro hg) | (refine VC ?_ ?_ <;> intro hc))
   refine WR ?_
   refine .mk ⟨_, by rw [he], fun X hX => ?_, hfin⟩
   rw [he, if_neg (by decide)]
   exact nilSlv _ _
 · have he : errX x = 0 := by rw [errX, if_pos hn, if_neg ht, if_neg hg]
   repeat' (first | refine W1 ?_ | (exfalso; omega) | (refine VG ?_ ?_ <;> intro hg) | (refine VC ?_ ?_ <;> intro hc))
   refine WR ?_
   refine .mk ⟨_, by rw [he], fun X hX => ?_, hfin⟩
   rw [he, if_pos rfl]
   exact Row.slv (X := X) hrow (fun b hb => by have := hX b hb; have := hS.size; have := hS3.size; omega)
theorem guardI (op : BinOp) (x y : Operand) (a b : Ins) (w : World) : (eqGuard op 105 x y (agg a) (agg b)).run Tryz.prog w = .ok () w := by
 cases op <;> kernel_rfl
theorem neqI (a b : Ins) (w : World) : (binOp .neq 105 (agg a) (agg b)).run Tryz.prog w = .ok (.bool (decide (¬ a = b))) w := by
 have h1 : Program.stoodInHeld Tryz.prog 105 = false := by kernel_rfl
 obtain ⟨a1, a2⟩ := a
 obtain ⟨b1, b2⟩ := b
 simp [agg, Flat.enc, run_neq_struct, run_equalIn_struct, h1, Program.fieldsOf, Tryz.underlying105, Op.eqFields, part, Und.isAgg, aggB, run_equalIn_int w _ _ .i64 .i64 _ _ Tryz.underlying3]
 repeat' split
 all_goals simp_all
theorem SameCode_any (va vb : Value) (xs ys : List Ins) (w : World) (ha : SlV [] w va xs) (hb : SlV [] w vb ys) :
 Calls Tryz.prog 35 #[va, vb] w (Ret fun r w' => r = .bool (decide (xs = ys)) ∧ Stp [] w w') := by
 have hma := ha.max
 have hmb := hb.max
 refine calls_of_WC2 (n := 26) Tryz.func35 rfl rfl rfl ?_
 refine W ?_
 by_cases hl : xs.length = ys.length
 case neg =>
  repeat' (first | refine W1 ?_ | (exfalso; omega) | (refine VG ?_ ?_ <;> intro hg) | (refine VC ?_ ?_ <;> intro hc))
  refine WR ?_
  exact .mk ⟨by congr 1; rw [eq_comm, decide_eq_false_iff_not]; exact fun h => hl (by rw [h]), Stp.refl _ _⟩
 repeat' (first | refine W1 ?_ | (exfalso; omega) | (refine VG ?_ ?_ <;> intro hg) | (refine VC ?_ ?_ <;> intro hc))
 refine WC_loop (σ := Nat) (fun j => [(0, va), (1, vb), (4, .bool false), (5, .int .i64 (j : Int))]) (fun j w' => j ≤ xs.length ∧ Stp [] w w' ∧ ∀ i (h : i < xs.length), i < j → xs[i] = ys[i]'(by omega)) (fun j => xs.length - j) 0 ⟨rfl, rfl, rfl, rfl, trivial⟩ ⟨Nat.zero_le _, Stp.refl _ _, fun i _ h => absurd h (Nat.not_lt_zero _)⟩ ?_
 rintro j w2 ⟨hj, hS, heq⟩
 try dsimp only at hj heq ⊢
 replace ha := ha.up hS
 replace hb := hb.up hS
 by_cases hlt : j < xs.length
 · have hlt' : j < ys.length := by omega
   repeat' (first | refine W1 ?_ | (exfalso; omega) | (refine VG ?_ ?_ <;> intro hg) | (refine VC ?_ ?_ <;> intro hc))
   refine WC_drawn 9 [] [] [(0, 0), (1, 0), (2, 0), (3, 1), (4, 0), (5, 0), (6, 0), (7, 1), (8, 0)] rfl mixed (by kernel_rfl) (by kernel_rfl) (by kernel_rfl) (fun w1 hS1 => ?_)
   replace ha := ha.up hS1
   replace hb := hb.up hS1
   replace hS := hS.trans hS1
   refine D ?_
   apply WD_op
   exact rfl
   refine WO_neqS (c := xs[j] = ys[j]) trivial rfl rfl (fun w => guardI _ _ _ xs[j] ys[j] w) (by intro w; exact neqI xs[j] ys[j] w) rfl ?_
   refine D ?_
   repeat' (first | refine W1 ?_ | (exfalso; omega) | (refine VG ?_ ?_ <;> intro hg) | (refine VC ?_ ?_ <;> intro hc))
   · refine WR ?_
     exact .mk ⟨by congr 1; rw [eq_comm, decide_eq_false_iff_not]; exact fun h => hc (by simp [h]), hS⟩
   · have he : xs[j] = ys[j] := Decidable.byContradiction hc
     have hk : ∀ i (h : i < xs.length), i < j + 1 → xs[i] = ys[i]'(by omega) := fun i h hi => by
      by_cases hij : i = j
      · subst hij; exact he
      · exact heq i h (by omega)
     exact WQ_loop (j + 1) ⟨rfl, rfl, rfl, rfl, trivial⟩ ⟨hlt, hS, hk⟩ (Nat.sub_lt_sub_left hlt (Nat.lt_succ_self j))
 · have hje : j = xs.length := by omega
   subst hje
   repeat' (first | refine W1 ?_ | (exfalso; omega) | (refine VG ?_ ?_ <;> intro hg) | (refine VC ?_ ?_ <;> intro hc))
   refine WR ?_
   exact .mk ⟨by congr 1; rw [eq_comm, decide_eq_true_eq]; exact List.ext_getElem hl (fun i h h' => heq i h h), hS⟩
def plainO (k : Int) (s : Str) : List Int := (if k = 8 ∨ k = 5 ∧ s = [45] then [8] else []) ++ opF s ++ (if k = 6 ∧ s = [45] then [6] else [])
def names9 : List Str := [[43], [45], [42], [60], [60, 61], [61], [62], [62, 61], [33, 61]]
def codes9 : List (Sl Int) := [⟨[5]⟩, ⟨[6]⟩, ⟨[7]⟩, ⟨[9]⟩, ⟨[10]⟩, ⟨[11]⟩, ⟨[10, 12]⟩, ⟨[9, 12]⟩, ⟨[11, 12]⟩]
theorem o6 {s : Str} (h : s ∈ opsA ∨ s ∈ opsC ∨ s ∈ opsL) (ha : ¬ s = [97, 110, 100]) (ho : ¬ s = [111, 114]) : ∃ i, ∃ h : i < codes9.length, idx (isS s) names9 = (i : Int) ∧ codes9[i].l = plainO 6 s := by
 simp only [opsA, opsC, opsL, List.mem_cons, List.not_mem_nil, or_false] at h
 rcases h with (h | h | h) | (h | h | h | h | h | h) | (h | h) <;> subst h
 · exact ⟨0, by decide, by decide, by decide⟩
 · exact ⟨1, by decide, by decide, by decide⟩
 · exact ⟨2, by decide, by decide, by decide⟩
 · exact ⟨3, by decide, by decide, by decide⟩
 · exact ⟨4, by decide, by decide, by decide⟩
 · exact ⟨5, by decide, by decide, by decide⟩
 · exact ⟨8, by decide, by decide, by decide⟩
 · exact ⟨6, by decide, by decide, by decide⟩
 · exact ⟨7, by decide, by decide, by decide⟩
 · exact absurd rfl ha
 · exact absurd rfl ho
theorem oC {s : Str} (h : s ∈ opsF) : ∃ i, ∃ h : i < [(19 : Int), 20, 21, 22, 23].length, idx (isS s) opsF = (i : Int) ∧ plainO 10 s = [[(19 : Int), 20, 21, 22, 23][i]] := by
 simp only [opsF, List.mem_cons, List.not_mem_nil, or_false] at h
 rcases h with h | h | h | h | h <;> subst h
 · exact ⟨0, by decide, by decide, by decide⟩
 · exact ⟨1, by decide, by decide, by decide⟩
 · exact ⟨2, by decide, by decide, by decide⟩
 · exact ⟨3, by decide, by decide, by decide⟩
 · exact ⟨4, by decide, by decide, by decide⟩
end Go.Proofs.YtgpibcgebpgmiaaGreatDoor
namespace Go.Eng
open Go Go.RowKit Go.Proofs
theorem NewSl.slvG {α : Type} [GoRep α] {w w' : World} {X : List Nat} {T len : Nat} {cs : List Value} {v : Value} {ys : List α} {css : List (List Value)} (h : NewSl w T len cs v w') (hX : ∀ b ∈ X, b < w.heap.size) (hl : len = ys.length) (hcl : css.length = ys.length)
 (hc : cs = css.flatten) (hr : ∀ i (hi : i < ys.length) (hi' : i < css.length), GoRep.rep X w ys[i] css[i]) (hm : ys.length ≤ maxLen) : SlV X w' v ys := by
 obtain ⟨b, rfl, hb, hblk, hS⟩ := h
 subst hl
 subst hc
 have hk : ∀ c ∈ css, c.length = GoRep.k α := by
  intro c hc
  obtain ⟨i, hi, rfl⟩ := List.getElem_of_mem hc
  exact GoRep.len (hr i (by omega) hi)
 refine ⟨some ⟨b, 0, none⟩, ys.length, rfl, Nat.le_refl _, hm, fun h => by simp at h, fun i hi => ⟨b, 0, css[i]'(by omega), rfl, hblk.lt, fun hx => by have := hX b hx; omega, GoRep.ext (hr i hi (by omega)) hS (by simp) (fun b hb => .inl hb), fun j u hu => ?_⟩⟩
 refine hblk.cell ?_
 have := flatten_at css hk i (by omega) j u hu
 rw [Nat.zero_add]
 exact this
theorem SlV.wk {α : Type} [GoRep α] {X X' : List Nat} {w : World} {v : Value} {l : List α} (h : SlV X w v l) (hs : ∀ b ∈ X', b ∈ X) : SlV X' w v l := h.ext (Stp.refl [] w) (by simp) (fun b hb => .inl (hs b hb))
end Go.Eng
namespace Go.Proofs.YtgpibcgebpgmiaaGreatDoor
open Go Go.Eng Go.RowKit
theorem nest_le_size (x : Nd) : nestN x ≤ sizeN x := by
 induction x using Nd.ind with
 | h k n s l ih =>
 rw [nestN_eq, sizeN_eq]
 show 1 + (l.map nestN).foldl max 0 ≤ 1 + (l.map sizeN).sum
 have : ∀ (l : List Nd) (a : Nat), (∀ x ∈ l, nestN x ≤ sizeN x) → (l.map nestN).foldl max a ≤ a + (l.map sizeN).sum := by
  intro l
  induction l with
  | nil => intro a _; simp
  | cons y r ihr =>
    intro a h
    simp only [List.map_cons, List.foldl_cons, List.sum_cons]
    have h1 := ihr (max a (nestN y)) (fun x hx => h x (by simp [hx]))
    have h2 := h y (by simp)
    omega
 have := this l 0 ih
 omega
theorem buildSN1 (k n : Int) (s : Str) (p : Option Addr) (l c : Nat) (w : World) : (Instr.buildSlice 34 1 #[(0, .agg #[.int .i64 k, .int .i64 n, str s, .slice p l c])]).run Tryz.prog w = .ok (.slice (some ⟨w.heap.size, 0, none⟩) 1 1) (w.alloc (.cells #[.int .i64 k, .int .i64 n, str s, .slice p l c] 36)) := by kernel_rfl
def resC : Str := [32, 114, 117, 108, 101, 32, 102, 114, 111, 109, 32, 111, 110, 32, 105, 102, 32, 100, 117, 101, 32, 117, 110, 108, 101, 115, 115, 32, 101, 108, 115, 101, 32, 111, 114, 32, 97, 110, 100, 32, 110, 111, 116, 32, 116, 114, 117, 101, 32, 102, 97, 108, 115, 101, 32, 116, 104, 101, 110, 32, 101, 110, 100, 32, 100, 97, 121, 115, 32, 119, 101, 101, 107, 115, 32, 109, 111, 110, 116, 104, 115, 32, 99, 111, 117, 114, 116, 100, 97, 121, 115, 32, 110, 101, 120, 116, 32, 112, 114, 101, 118, 32, 108, 97, 116, 101, 114, 32, 101, 97, 114, 108, 105, 101, 114, 32, 98, 101, 116, 119, 101, 101, 110, 32]
def resW : List Str := [[114, 117, 108, 101], [102, 114, 111, 109], [111, 110], [105, 102], [100, 117, 101], [117, 110, 108, 101, 115, 115], [101, 108, 115, 101], [111, 114], [97, 110, 100], [110, 111, 116], [116, 114, 117, 101], [102, 97, 108, 115, 101], [116, 104, 101, 110], [101, 110, 100], [100, 97, 121, 115], [119, 101, 101, 107, 115], [109, 111, 110, 116, 104, 115], [99, 111, 117, 114, 116, 100, 97, 121, 115], [110, 101, 120, 116], [112, 114, 101, 118], [108, 97, 116, 101, 114], [101, 97, 114, 108, 105, 101, 114], [98, 101, 116, 119, 101, 101, 110]]
theorem index_iff : ∀ (s sub : List UInt8), 0 ≤ Lib.index s sub ↔ ∃ i, i ≤ s.length ∧ sub.isPrefixOf (s.drop i) = true
 | [], sub => by
   unfold Lib.index
   cases sub with
   | nil => simp
   | cons a l => simp
 | b :: l, sub => by
   have ih := index_iff l sub
   have hge := Lib.index_ge l sub
   unfold Lib.index
   by_cases hp : sub.isPrefixOf (b :: l) = true
   · rw [if_pos hp]
     exact ⟨fun _ => ⟨0, by omega, hp⟩, fun _ => by omega⟩
   · rw [if_neg hp]
     have e : (0 : Int) ≤ (if (Lib.index l sub == -1) = true then -1 else Lib.index l sub + 1) ↔ 0 ≤ Lib.index l sub := by
      by_cases h1 : Lib.index l sub = -1
      · rw [if_pos (by simpa using h1)]; omega
      · rw [if_neg (by simpa using h1)]; omega
     rw [e, ih]
     constructor
     · rintro ⟨i, hi, h⟩
       exact ⟨i + 1, by simpa using hi, h⟩
     · rintro ⟨i, hi, h⟩
       cases i with
       | zero => exact absurd h hp
       | succ i => exact ⟨i, by simpa using hi, h⟩
theorem take_word : ∀ (t r : List UInt8), (∀ c ∈ t, c ≠ 32) → (t ++ [32]).isPrefixOf r = true → r.takeWhile (fun c => decide (c ≠ 32)) = t
 | [], r, _, h => by
   cases r with
   | nil => simp at h
   | cons a l =>
     simp [List.isPrefixOf] at h
     subst h
     rfl
 | c :: t, r, hc, h => by
   cases r with
   | nil => simp at h
   | cons a l =>
     simp only [List.cons_append, List.isPrefixOf, Bool.and_eq_true, beq_iff_eq] at h
     obtain ⟨rfl, h⟩ := h
     have h1 := hc c (by simp)
     rw [List.takeWhile_cons_of_pos (by simpa using h1), take_word t l (fun x hx => hc x (by simp [hx])) h]
theorem res_words : ∀ i ∈ List.range (resC.length + 1), (resC.drop i).head? = some 32 → (resC.drop (i + 1)).takeWhile (fun c => decide (c ≠ 32)) ∈ resW ∨ (resC.drop (i + 1)).takeWhile (fun c => decide (c ≠ 32)) = [] := by decide +kernel
theorem res_has : ∀ t ∈ resW, Lib.contains resC (32 :: t ++ [32]) = true := by decide +kernel
theorem res_iff {t : Str} (h0 : t ≠ []) (hc : ∀ c ∈ t, c ≠ 32) : Lib.contains resC (32 :: t ++ [32]) = decide (t ∈ resW) := by
 by_cases ht : t ∈ resW
 · rw [res_has t ht, decide_eq_true ht]
 · rw [decide_eq_false ht]
   unfold Lib.contains
   rw [decide_eq_false_iff_not, index_iff]
   rintro ⟨i, hi, h⟩
   cases hd : resC.drop i with
   | nil => rw [hd] at h; simp at h
   | cons a l =>
     rw [hd] at h
     simp only [List.cons_append, List.isPrefixOf, Bool.and_eq_true, beq_iff_eq] at h
     obtain ⟨rfl, h⟩ := h
     have hl : resC.drop (i + 1) = l := by
      have := congrArg List.tail hd
      simpa [List.tail_drop] using this
     have hw := take_word t l hc h
     have := res_words i (List.mem_range.2 (by omega)) (by rw [hd]; rfl)
     rw [hl, hw] at this
     exact this.elim ht h0
abbrev lett (c : Int) : Prop := (97 ≤ c ∧ c ≤ 122) ∨ (48 ≤ c ∧ c ≤ 57)
def nameOk (s : Str) : Bool := decide (0 < s.length ∧ s.length ≤ 12 ∧ 97 ≤ byte s 0 ∧ byte s 0 ≤ 122 ∧ ∀ i, i < s.length → lett (byte s i))
def namedT (s : Str) : Bool := nameOk s && decide (s ∉ resW ∧ s ∉ fieldNames)
theorem contains_any (a b : Str) (m : Int) (w : World) (ha : a.length < 4294967281) (hm : w.cell? ⟨1, 0, none⟩ = some (.int .i64 m)) :
 Calls Tryz.prog 103 #[str a, str b] w (Ret fun r w' => r = .bool (Lib.contains a b) ∧ Stp [] w w') := by
 refine (Tryz.strings_Contains ⟨a.toArray⟩ ⟨b.toArray⟩ m w (by rw [str_size]; exact ha) hm).mono ?_
 rintro e w' ⟨rfl, rfl⟩
 exact .mk ⟨rfl, Stp.refl _ _⟩
theorem idx_memS {l : List Str} {s : Str} : 0 ≤ idx (isS s) l ↔ s ∈ l := by
 unfold idx
 cases h : l.findIdx? (isS s) with
 | none =>
   rw [List.findIdx?_eq_none_iff] at h
   simp only
   constructor
   · intro h1; omega
   · intro h1
     have := h s h1
     simp [isS] at this
 | some i =>
   obtain ⟨hi, hp, _⟩ := List.findIdx?_eq_some_iff_getElem.1 h
   simp only
   constructor
   · intro _
     have : l[i] = s := by simpa [isS] using hp
     rw [← this]; exact List.getElem_mem hi
   · intro _; omega
theorem containsS_any (X : List Nat) (v : Value) (l : List Str) (a : Str) (w : World) (hs : SlV X w v l) :
 Calls Tryz.prog 104 #[v, str a] w (Ret fun r w' => r = .bool (decide (a ∈ l)) ∧ Stp [] w w') := by
 refine calls_of_WC2 (n := 9) Tryz.func104 rfl rfl rfl ?_
 refine W ?_
 refine CL rfl (evs2 rfl rfl) rfl (index_any X v l a _ hs) ?_
 rintro _ w1 ⟨rfl, hS⟩
 refine W ?_
 refine WR ?_
 exact .mk ⟨by congr 1; exact decide_eq_decide.2 idx_memS, hS⟩
theorem named_any (s : Str) (m : Int) (w : World) (hF : SlV [] w flds fieldNames) (hm : w.cell? ⟨1, 0, none⟩ = some (.int .i64 m)) :
 Calls Tryz.prog 57 #[str s] w (Ret fun r w' => r = .bool (namedT s) ∧ Stp [] w w') := by
 refine calls_of_WC1 (n := 55) Tryz.func57 rfl rfl rfl ?_
 refine W ?_
 by_cases h0 : s.length ≠ 0 ∧ s.length ≤ 12 ∧ 97 ≤ byte s 0 ∧ byte s 0 ≤ 122
 case neg =>
  have hn : namedT s = false := by
   unfold namedT nameOk
   rw [decide_eq_false (fun h => h0 ⟨by omega, h.2.1, h.2.2.1, h.2.2.2.1⟩)]
   rfl
  by_cases hl : s.length ≠ 0
  · repeat' (first | refine W1 ?_ | (exfalso; omega) | (refine VG ?_ ?_ <;> intro hg) | (refine VC ?_ ?_ <;> intro hc))
    · refine WR ?_
      exact .mk ⟨by rw [hn], Stp.refl _ _⟩
    · refine WR ?_
      exact .mk ⟨by rw [hn], Stp.refl _ _⟩
    refine WL_indexT (i := 0) rfl rfl rfl (by omega) rfl ?_
    repeat' (first | refine W1 ?_ | (exfalso; omega) | (refine VG ?_ ?_ <;> intro hg) | (refine VC ?_ ?_ <;> intro hc))
    · refine WR ?_
      exact .mk ⟨by rw [hn], Stp.refl _ _⟩
    refine WL_indexT (i := 0) rfl rfl rfl (by omega) rfl ?_
    repeat' (first | refine W1 ?_ | (exfalso; omega) | (refine VG ?_ ?_ <;> intro hg) | (refine VC ?_ ?_ <;> intro hc))
    refine WR ?_
    exact .mk ⟨by rw [hn], Stp.refl _ _⟩
  · obtain rfl : s = [] := List.length_eq_zero_iff.1 (by omega)
    repeat' (first | refine W1 ?_ | (exfalso; omega) | (refine VG ?_ ?_ <;> intro hg) | (refine VC ?_ ?_ <;> intro hc))
    refine WR ?_
    exact .mk ⟨by rw [hn], Stp.refl _ _⟩
 obtain ⟨h1, h2, h3, h4⟩ := h0
 have hne : ¬ s = [] := fun h => by rw [h] at h1; exact h1 rfl
 repeat' (first | refine W1 ?_ | (exfalso; omega) | (refine VG ?_ ?_ <;> intro hg) | (refine VC ?_ ?_ <;> intro hc))
 · exact absurd (by assumption) hne
 refine WL_indexT (i := 0) rfl rfl rfl (by omega) rfl ?_
 repeat' (first | refine W1 ?_ | (exfalso; omega) | (refine VG ?_ ?_ <;> intro hg) | (refine VC ?_ ?_ <;> intro hc))
 refine WL_indexT (i := 0) rfl rfl rfl (by omega) rfl ?_
 repeat' (first | refine W1 ?_ | (exfalso; omega) | (refine VG ?_ ?_ <;> intro hg) | (refine VC ?_ ?_ <;> intro hc))
 refine WL_eff (OE_convS rfl (by omega)) rfl ?_
 rintro bv w1 ⟨hb, hS⟩
 replace hb := hb [] (by simp)
 have hmx := hb.max
 repeat' (first | refine W1 ?_ | (exfalso; omega) | (refine VG ?_ ?_ <;> intro hg) | (refine VC ?_ ?_ <;> intro hc))
 refine WC_loop (σ := Nat) (fun i => [(0, str s), (23, bv), (24, .int .i64 (s.length : Int)), (25, .int .i64 (i : Int))]) (fun i w' => i ≤ s.length ∧ Stp [] w1 w' ∧ ∀ j, j < i → lett (byte s j)) (fun i => s.length - i) 0 ⟨rfl, rfl, rfl, rfl, trivial⟩ ⟨Nat.zero_le _, Stp.refl _ _, fun j hj => absurd hj (Nat.not_lt_zero _)⟩ ?_
 rintro i w2 ⟨hi, hS2, hall⟩
 try dsimp only at hi hall ⊢
 replace hb := hb.up hS2
 replace hS := hS.trans hS2
 by_cases hlt : i < s.length
 · have hbi : byte s i = (s[i].toNat : Int) := Go.Eng.byte_at hlt
   by_cases hle : (97 ≤ (s[i].toNat : Int) ∧ (s[i].toNat : Int) ≤ 122) ∨ (48 ≤ (s[i].toNat : Int) ∧ (s[i].toNat : Int) ≤ 57)
   · have hall' : ∀ j, j < i + 1 → lett (byte s j) := fun j hj => by
      by_cases e : j = i
      · subst e; rw [hbi]; exact hle
      · exact hall j (by omega)
     repeat' (first | refine W1 ?_ | (exfalso; omega) | (refine VG ?_ ?_ <;> intro hg) | (refine VC ?_ ?_ <;> intro hc))
     all_goals exact WQ_loop (i + 1) ⟨rfl, rfl, rfl, rfl, trivial⟩ ⟨hlt, hS2, hall'⟩ (Nat.sub_lt_sub_left hlt (Nat.lt_succ_self i))
   · have hn : namedT s = false := by
      unfold namedT nameOk
      rw [decide_eq_false (fun h => hle (by have := h.2.2.2.2 i hlt; rw [hbi] at this; exact this))]
      rfl
     repeat' (first | refine W1 ?_ | (exfalso; omega) | (refine VG ?_ ?_ <;> intro hg) | (refine VC ?_ ?_ <;> intro hc))
     all_goals
      refine WR ?_
      exact .mk ⟨by rw [hn], hS⟩
 obtain rfl : i = s.length := by omega
 have hok : nameOk s = true := decide_eq_true ⟨by omega, h2, h3, h4, hall⟩
 have hsp : ∀ c ∈ s, c ≠ 32 := fun c hc h => by
  obtain ⟨j, hj, rfl⟩ := List.getElem_of_mem hc
  have h5 := hall j hj
  rw [Go.Eng.byte_at hj, h] at h5
  exact absurd h5 (by decide)
 have hrl : resC.length < 4294967281 := by
  have : resC.length ≤ 200 := by decide +kernel
  omega
 have hres : Lib.contains resC ([32] ++ s ++ [32]) = decide (s ∈ resW) := res_iff hne hsp
 repeat' (first | refine W1 ?_ | (exfalso; omega) | (refine VG ?_ ?_ <;> intro hg) | (refine VC ?_ ?_ <;> intro hc))
 refine WL_addT rfl rfl (by simp; omega) rfl ?_
 repeat' (first | refine W1 ?_ | (exfalso; omega) | (refine VG ?_ ?_ <;> intro hg) | (refine VC ?_ ?_ <;> intro hc))
 refine WL_addT rfl rfl (by simp; omega) rfl ?_
 repeat' (first | refine W1 ?_ | (exfalso; omega) | (refine VG ?_ ?_ <;> intro hg) | (refine VC ?_ ?_ <;> intro hc))
 refine CL rfl (evs2 rfl rfl) rfl (contains_any resC ([32] ++ s ++ [32]) m _ hrl (hS.cell (by simp) hm)) ?_
 rintro _ w3 ⟨rfl, hS3⟩
 rw [hres]
 replace hS := hS.trans hS3
 by_cases hr : s ∈ resW
 · have hn : namedT s = false := by
    unfold namedT
    rw [decide_eq_false (fun h => h.1 hr), Bool.and_false]
   rw [decide_eq_true hr]
   repeat' (first | refine W1 ?_ | (exfalso; omega) | (refine VG ?_ ?_ <;> intro hg) | (refine VC ?_ ?_ <;> intro hc))
   refine WR ?_
   exact .mk ⟨by rw [hn], hS⟩
 rw [decide_eq_false hr]
 repeat' (first | refine W1 ?_ | (exfalso; omega) | (refine VG ?_ ?_ <;> intro hg) | (refine VC ?_ ?_ <;> intro hc))
 refine WL_sliceA rfl rfl ?_
 refine W ?_
 refine CL rfl (evs2 rfl rfl) rfl (containsS_any [] _ fieldNames s _ (hF.up hS)) ?_
 rintro _ w4 ⟨rfl, hS4⟩
 repeat' (first | refine W1 ?_ | (exfalso; omega) | (refine VG ?_ ?_ <;> intro hg) | (refine VC ?_ ?_ <;> intro hc))
 refine WR ?_
 refine .mk ⟨?_, hS.trans hS4⟩
 unfold namedT
 rw [hok]
 by_cases hf : s ∈ fieldNames <;> simp [hr, hf]
open Go Go.Eng Go.RowKit Go.Proofs
theorem cur_of {l : List Tkn} {i : Nat} (h : i < l.length) : cur l i = l[i] := by simp [cur, List.getD, h]
def Pd (w : World) (b : Nat) (tv : Value) (l : List Tkn) (i o : Nat) : Prop := Blk w b 64 [tv, .int .i64 i, .int .i64 o] ∧ SlV [b] w tv l ∧ i < l.length ∧ l.length ≤ 1000000 ∧ o ≤ 12
theorem Pd.up {w w' : World} {b i o : Nat} {tv : Value} {l : List Tkn} (h : Pd w b tv l i o) (hS : Stp [] w w') : Pd w' b tv l i o := by
 obtain ⟨h1, h2, h3⟩ := h
 exact ⟨h1.up hS, h2.up hS, h3⟩
theorem Pd.lt {w : World} {b i o : Nat} {tv : Value} {l : List Tkn} (h : Pd w b tv l i o) : b < w.heap.size := by
 obtain ⟨h1, _⟩ := h
 exact h1.lt
theorem Pd.i_lt {w : World} {b i o : Nat} {tv : Value} {l : List Tkn} (h : Pd w b tv l i o) : i < l.length := by
 obtain ⟨_, _, h1, _⟩ := h
 exact h1
def failV (a c : Int) : Value := .iface 123 (.agg #[.int .i64 a, .int .i64 c])
def PE {α : Type} (r : Out α) (G : α → Nat → Nat → Value → World → Prop) (F : World → Prop) (e : Ending) (w' : World) : Prop :=
 match r with
 | .err a c => e = .panicked [⟨failV a c, false, false⟩] ∧ F w'
 | .ok x i o => Ret (G x i o) e w'
theorem WL_pcall {P : Program} {n : Nat} {Q : Exit → Act → World → Prop} {e : Env} {w : World} {ops : Array Oper} {rest : List Oper} {d : Nat} {ty : TypeId} {pos : String} {af : Array Edge} {f : Nat} {fn : Func} {xs : Array Operand} {ts : Array TypeId} {vs : Array Value} {c : Operand} {ch : List PanicEntry} {F : World → Prop} [hf : Fun P f fn]
 (hc : ev e c = some (.func (.func f) #[] #[])) (hv : ∀ a, Has n e a → xs.map a.eval = vs) (h : Calls P f vs w (fun e w' => e = .panicked ch ∧ F w')) (hd : Nat.blt d n = true) (k : ∀ w', F w' → WQ n Q (.panic ch) [] w') :
 WL P n ops Q (⟨some d, .call { callee := .value c, args := xs, argTypes := ts }, ty, pos, af, none⟩ :: rest) e w :=
 WL_effP (G := fun _ _ => False) (F := fun ch' w' => ch' = ch ∧ F w') (OEP_call hc hv (h.mono fun e w' ⟨h1, h2⟩ => by rw [h1]; exact .pan ⟨rfl, h2⟩)) hd (fun ch' w' ⟨h1, h2⟩ => by subst h1; exact WQ_forget (k w' h2)) (fun _ _ h => h.elim)
theorem buildF (a c : Int) (w : World) : (Instr.build 123 #[(0, .int .i64 a), (1, .int .i64 c)]).run Tryz.prog w = .ok (.agg #[.int .i64 a, .int .i64 c]) w := by kernel_rfl
theorem next_any (b : Nat) (tv : Value) (l : List Tkn) (i o : Nat) (w : World) (hp : Pd w b tv l i o) :
 Calls Tryz.prog 71 #[.pointer (some ⟨b, 0, none⟩)] w (Ret fun r w' => r = str (cur l i).text ∧ Stp [] w w') := by
 obtain ⟨hb, hs, hi, hl, ho⟩ := hp
 rw [cur_of hi]
 refine calls_of_WC1 (n := 14) Tryz.func71 rfl rfl rfl ?_
 refine W ?_
 refine WC_drawn 12 [] [] [(0, 0), (1, 0), (2, 0), (3, 1), (4, 0), (5, 0), (6, 0), (7, 1), (8, 0), (9, 0), (10, 1), (11, 0)] rfl mixed (by kernel_rfl) (by kernel_rfl) (by kernel_rfl) (fun w1 hS1 => ?_)
 replace hb := hb.up hS1
 replace hs := hs.up hS1
 refine D ?_
 refine W ?_
 refine WR ?_
 exact .mk ⟨rfl, hS1⟩
theorem fail_any (b : Nat) (tv : Value) (l : List Tkn) (i o : Nat) (c : Int) (w : World) (hp : Pd w b tv l i o) :
 Calls Tryz.prog 67 #[.pointer (some ⟨b, 0, none⟩), .int .i64 c] w (fun e w' => e = .panicked [⟨failV (cur l i).pos c, false, false⟩] ∧ Stp [] w w') := by
 obtain ⟨hb, hs, hi, hl, ho⟩ := hp
 rw [cur_of hi]
 refine calls_of_WC2 (n := 18) Tryz.func67 rfl rfl rfl ?_
 refine W ?_
 refine WC_drawnq 15 ([]) [] [(0, 0), (1, 0), (2, 0), (3, 1), (4, 0), (5, 0), (6, 0), (7, 1), (8, 0), (9, 0), (10, 1), (11, 0), (12, 0), (13, 0), (14, 2)] rfl mixed (by kernel_rfl) (by kernel_rfl) (by kernel_rfl) (fun w1 hS1 => ?_)
 replace hb := hb.up hS1
 replace hs := hs.up hS1
 refine WDq_free rfl trivial (fun _ => PR_move rfl) rfl ?_
 refine WDq_free rfl trivial (fun _ => PR_nilCheck rfl) rfl ?_
 refine WDq_free rfl trivial (fun _ => PR_fieldAddr rfl) rfl ?_
 refine WDq_read rfl trivial (fun w' hw => PR_load_blk rfl rfl (hb.up hw) rfl) rfl ?_
 refine WDq_free rfl trivial (fun _ => PR_move rfl) rfl ?_
 refine WDq_free rfl trivial (fun _ => PR_nilCheck rfl) rfl ?_
 refine WDq_free rfl trivial (fun _ => PR_fieldAddr rfl) rfl ?_
 refine WDq_read rfl trivial (fun w' hw => PR_load_blk rfl rfl (hb.up hw) rfl) rfl ?_
 refine WDq_free rfl trivial (fun _ => PR_idx rfl hs rfl rfl hi) rfl ?_
 refine WDq_free rfl trivial (fun _ => PR_field_el rfl (SlV.isSome hs hi)) rfl ?_
 refine WDq_read rfl trivial (fun w' hw => PR_load_el (u := .int .i64 l[i].pos) rfl rfl (hs.up hw) hi rfl rfl) rfl ?_
 refine WDq_free rfl trivial (fun _ => PR_move rfl) rfl ?_
 refine WDq_free rfl trivial (fun _ => PR_build (vs := [(0, .int .i64 l[i].pos), (1, .int .i64 c)]) rfl (buildF _ _)) rfl ?_
 refine WDq_free rfl trivial (fun _ => PR_makeInterface rfl) rfl ?_
 refine WDq_panic rfl trivial (panic_run rfl) ?_
 refine WQ_panic ?_
 exact ⟨rfl, hS1⟩
theorem take_any (b : Nat) (tv : Value) (l : List Tkn) (s : Str) (i o : Nat) (w : World) (hp : Pd w b tv l i o) (hn : (cur l i).text = s → i + 1 < l.length) :
 Calls Tryz.prog 117 #[.pointer (some ⟨b, 0, none⟩), str s] w (Ret fun r w' => r = .bool (decide ((cur l i).text = s)) ∧ Pd w' b tv l (if (cur l i).text = s then i + 1 else i) o ∧ Stp [b] w w') := by
 refine calls_of_WC2 (n := 16) Tryz.func117 rfl rfl rfl ?_
 refine W ?_
 refine CL rfl (evs1 rfl) rfl (next_any b tv l i o _ hp) ?_
 rintro _ w1 ⟨rfl, hS1⟩
 replace hp := hp.up hS1
 obtain ⟨hb, hs, hi, hl, ho⟩ := hp
 have hmax := hs.max
 by_cases h : (cur l i).text = s
 · have hi1 := hn h
   repeat' (first | refine W1 ?_ | (exfalso; omega) | (refine VG ?_ ?_ <;> intro hg) | (refine VC ?_ ?_ <;> intro hc))
   · exact absurd h (by assumption)
   · refine WL_eff0 (OE_store1 (u := .int .i64 ((i + 1 : Nat) : Int)) rfl (by show some _ = some _; simp) rfl rfl hb (by simp)) ?_
     rintro _ w2 ⟨hT, hb2⟩
     refine W ?_
     refine WR ?_
     rw [decide_eq_true h, if_pos h]
     exact .mk ⟨rfl, ⟨hb2, hs.ext hT (fun c hc => hc) (fun c hc => .inl hc), hi1, hl, ho⟩, (hS1.mono (by simp)).trans hT⟩
 · repeat' (first | refine W1 ?_ | (exfalso; omega) | (refine VG ?_ ?_ <;> intro hg) | (refine VC ?_ ?_ <;> intro hc))
   · refine WR ?_
     rw [decide_eq_false h, if_neg h]
     exact .mk ⟨rfl, ⟨hb, hs, hi, hl, ho⟩, hS1.mono (by simp)⟩
   · exact absurd h (by assumption)
def PC {α : Type} (b : Nat) (w : World) (tv : Value) (l : List Tkn) (r : Out α) (G : α → Value → World → Prop) (e : Ending) (w' : World) : Prop :=
 PE r (fun x i o v w' => G x v w' ∧ Pd w' b tv l i o ∧ Stp [b] w w') (fun w' => Stp [b] w w') e w'
theorem PC.ok {α : Type} {b : Nat} {w w' : World} {tv : Value} {l : List Tkn} {x : α} {i o : Nat} {G : α → Value → World → Prop} {v : Value} (hG : G x v w') (hp : Pd w' b tv l i o) (hS : Stp [b] w w') : PC b w tv l (.ok x i o) G (.returned v) w' := ⟨v, rfl, hG, hp, hS⟩
theorem PC.err {α : Type} {b : Nat} {w w' : World} {tv : Value} {l : List Tkn} {a c : Int} {G : α → Value → World → Prop} (hS : Stp [b] w w') : PC b w tv l (.err a c) G (.panicked [⟨failV a c, false, false⟩]) w' := ⟨rfl, hS⟩
theorem PC.fail {α : Type} {b : Nat} {w w' : World} {tv : Value} {l : List Tkn} {i : Nat} {c : Int} {G : α → Value → World → Prop} (hS : Stp [b] w w') : PC b w tv l (failO l i c) G (.panicked [⟨failV (cur l i).pos c, false, false⟩]) w' := ⟨rfl, hS⟩
theorem failS (b : Nat) (tv : Value) (l : List Tkn) (i o : Nat) (c : Int) (w w0 : World) (hp : Pd w b tv l i o) (hS : Stp [b] w0 w) :
 Calls Tryz.prog 67 #[.pointer (some ⟨b, 0, none⟩), .int .i64 c] w (fun e w' => e = .panicked [⟨failV (cur l i).pos c, false, false⟩] ∧ Stp [b] w0 w') :=
 (fail_any b tv l i o c w hp).mono fun e w' ⟨h1, h2⟩ => ⟨h1, hS.trans (h2.mono (by simp))⟩
theorem PC.goes {α : Type} {b f : Nat} {args : Array Value} {w : World} {tv : Value} {l : List Tkn} {x : α} {i o : Nat} {r : Out α} {G : α → Value → World → Prop} (h : Calls Tryz.prog f args w (PC b w tv l r G)) (hr : r = .ok x i o) : Calls Tryz.prog f args w (Ret fun v w' => G x v w' ∧ Pd w' b tv l i o ∧ Stp [b] w w') := by
 subst hr; exact h
theorem PC.falls {α : Type} {b f : Nat} {args : Array Value} {w w0 : World} {tv : Value} {l : List Tkn} {a c : Int} {r : Out α} {G : α → Value → World → Prop} (h : Calls Tryz.prog f args w (PC b w tv l r G)) (hr : r = .err a c) (hS : Stp [b] w0 w) : Calls Tryz.prog f args w (fun e w' => e = .panicked [⟨failV a c, false, false⟩] ∧ Stp [b] w0 w') := by
 subst hr; exact h.mono fun e w' ⟨h1, h2⟩ => ⟨h1, hS.trans h2⟩
theorem mustP_any (b : Nat) (tv : Value) (l : List Tkn) (hL : Toks l) (s : Str) (hs0 : s ≠ []) (i o : Nat) (w : World) (hp : Pd w b tv l i o) :
 Calls Tryz.prog 68 #[.pointer (some ⟨b, 0, none⟩), str s] w (PC b w tv l (mustO l s i o) (fun _ v _ => v = .tuple #[])) := by
 have hn : (cur l i).text = s → i + 1 < l.length := fun h => hL.end_of hp.i_lt (by rw [h]; exact hs0)
 unfold mustO
 refine calls_of_WC2 (n := 10) Tryz.func68 rfl rfl rfl ?_
 refine W ?_
 refine CL rfl (evs2 rfl rfl) rfl (take_any b tv l s i o _ hp hn) ?_
 rintro _ w1 ⟨rfl, hp1, hS1⟩
 by_cases h : (cur l i).text = s
 · rw [if_pos h] at hp1 ⊢
   rw [decide_eq_true h]
   refine W ?_
   refine WR ?_
   exact PC.ok rfl hp1 hS1
 · rw [if_neg h] at hp1 ⊢
   rw [decide_eq_false h]
   refine W ?_
   refine WL_pcall rfl (evs2 rfl rfl) (failS b tv l i o 20 _ w hp1 hS1) rfl ?_
   intro w2 hw2
   repeat' (first | refine WQ_then_panic ?_ | refine WQ_block_panic ?_)
   refine WQ_panic ?_
   exact PC.fail hw2
theorem words_iff (C : Str) (W : List Str) (h1 : ∀ i ∈ List.range (C.length + 1), (C.drop i).head? = some 32 → (C.drop (i + 1)).takeWhile (fun c => decide (c ≠ 32)) ∈ W ∨ (C.drop (i + 1)).takeWhile (fun c => decide (c ≠ 32)) = [])
 (h2 : ∀ t ∈ W, Lib.contains C (32 :: t ++ [32]) = true) {t : Str} (h0 : t ≠ []) (hc : ∀ c ∈ t, c ≠ 32) : Lib.contains C (32 :: t ++ [32]) = decide (t ∈ W) := by
 by_cases ht : t ∈ W
 · rw [h2 t ht, decide_eq_true ht]
 · rw [decide_eq_false ht]
   unfold Lib.contains
   rw [decide_eq_false_iff_not, index_iff]
   rintro ⟨i, hi, h⟩
   cases hd : C.drop i with
   | nil => rw [hd] at h; simp at h
   | cons a l =>
     rw [hd] at h
     simp only [List.cons_append, List.isPrefixOf, Bool.and_eq_true, beq_iff_eq] at h
     obtain ⟨rfl, h⟩ := h
     have hl : C.drop (i + 1) = l := by
      have := congrArg List.tail hd
      simpa [List.tail_drop] using this
     have hw := take_word t l hc h
     have := h1 i (List.mem_range.2 (by omega)) (by rw [hd]; rfl)
     rw [hl, hw] at this
     exact this.elim ht h0
def allC : Str := [32, 114, 117, 108, 101, 32, 102, 114, 111, 109, 32, 111, 110, 32, 105, 102, 32, 100, 117, 101, 32, 117, 110, 108, 101, 115, 115, 32, 101, 108, 115, 101, 32, 116, 114, 117, 101, 32, 102, 97, 108, 115, 101, 32, 110, 111, 116, 32, 97, 110, 100, 32, 111, 114, 32, 116, 104, 101, 110, 32, 101, 110, 100, 32, 32, 100, 97, 121, 115, 32, 119, 101, 101, 107, 115, 32, 109, 111, 110, 116, 104, 115, 32, 99, 111, 117, 114, 116, 100, 97, 121, 115, 32, 32, 100, 97, 121, 32, 115, 101, 114, 118, 101, 100, 32, 101, 120, 116, 114, 97, 32, 98, 121, 32, 116, 111, 32, 99, 111, 117, 114, 116, 32, 97, 109, 111, 117, 110, 116, 32, 32, 110, 101, 120, 116, 32, 112, 114, 101, 118, 32, 108, 97, 116, 101, 114, 32, 101, 97, 114, 108, 105, 101, 114, 32, 98, 101, 116, 119, 101, 101, 110, 32]
def unitC : Str := [32, 100, 97, 121, 115, 32, 119, 101, 101, 107, 115, 32, 109, 111, 110, 116, 104, 115, 32, 99, 111, 117, 114, 116, 100, 97, 121, 115, 32]
def fieldC : Str := [32, 100, 97, 121, 32, 115, 101, 114, 118, 101, 100, 32, 101, 120, 116, 114, 97, 32, 98, 121, 32, 116, 111, 32, 99, 111, 117, 114, 116, 32, 97, 109, 111, 117, 110, 116, 32]
def funcC : Str := [32, 110, 101, 120, 116, 32, 112, 114, 101, 118, 32, 108, 97, 116, 101, 114, 32, 101, 97, 114, 108, 105, 101, 114, 32, 98, 101, 116, 119, 101, 101, 110, 32]
theorem all_iff {t : Str} (h0 : t ≠ []) (hc : ∀ c ∈ t, c ≠ 32) : Lib.contains allC (32 :: t ++ [32]) = decide (t ∈ ruleW ++ unitW ++ fieldW ++ funcW) := words_iff allC _ (by decide +kernel) (by decide +kernel) h0 hc
theorem unit_iff {t : Str} (h0 : t ≠ []) (hc : ∀ c ∈ t, c ≠ 32) : Lib.contains unitC (32 :: t ++ [32]) = decide (t ∈ unitW) := words_iff unitC _ (by decide +kernel) (by decide +kernel) h0 hc
theorem field_iff {t : Str} (h0 : t ≠ []) (hc : ∀ c ∈ t, c ≠ 32) : Lib.contains fieldC (32 :: t ++ [32]) = decide (t ∈ fieldW) := words_iff fieldC _ (by decide +kernel) (by decide +kernel) h0 hc
theorem func_iff {t : Str} (h0 : t ≠ []) (hc : ∀ c ∈ t, c ≠ 32) : Lib.contains funcC (32 :: t ++ [32]) = decide (t ∈ funcW) := words_iff funcC _ (by decide +kernel) (by decide +kernel) h0 hc
theorem within_any (C : Str) (ws : List Str) (hW : [] ∉ ws) (t : Str) (m : Int) (w : World) (hm : w.cell? ⟨1, 0, none⟩ = some (.int .i64 m)) (hC : C.length ≤ 1000000) (htl : t.length ≤ 4000)
 (hiff : t ≠ [] → Lib.contains C (32 :: t ++ [32]) = decide (t ∈ ws)) :
 Calls Tryz.prog 118 #[str C, str t] w (Ret fun r w' => r = .bool (decide (t ∈ ws)) ∧ Stp [] w w') := by
 refine calls_of_WC2 (n := 14) Tryz.func118 rfl rfl rfl ?_
 by_cases h : t = []
 · subst h
   repeat' (first | refine W1 ?_ | (exfalso; omega) | (refine VG ?_ ?_ <;> intro hg) | (refine VC ?_ ?_ <;> intro hc))
   all_goals
    refine WR ?_
    rw [decide_eq_false hW]
    exact .mk ⟨rfl, Stp.refl _ _⟩
 · have e1 : Lib.contains C ([32] ++ t ++ [32]) = decide (t ∈ ws) := hiff h
   repeat' (first | refine W1 ?_ | (exfalso; omega) | (refine VG ?_ ?_ <;> intro hg) | (refine VC ?_ ?_ <;> intro hc))
   rotate_left
   · exact absurd h (by assumption)
   refine WL_addT rfl rfl (by simp; omega) rfl ?_
   repeat' (first | refine W1 ?_ | (exfalso; omega) | (refine VG ?_ ?_ <;> intro hg) | (refine VC ?_ ?_ <;> intro hc))
   refine WL_addT rfl rfl (by simp; omega) rfl ?_
   repeat' (first | refine W1 ?_ | (exfalso; omega) | (refine VG ?_ ?_ <;> intro hg) | (refine VC ?_ ?_ <;> intro hc))
   refine CL rfl (evs2 rfl rfl) rfl (contains_any C ([32] ++ t ++ [32]) m _ (by omega) hm) ?_
   rintro _ w1 ⟨rfl, hS1⟩
   rw [e1]
   refine W ?_
   refine WR ?_
   exact .mk ⟨rfl, hS1⟩
theorem token_any (b : Nat) (tv : Value) (l : List Tkn) (hL : Toks l) (k : Int) (hk : k ≠ 0) (i o : Nat) (w : World) (hp : Pd w b tv l i o) :
 Calls Tryz.prog 70 #[.pointer (some ⟨b, 0, none⟩), .int .i64 k] w (PC b w tv l (tokenO l k i o) (fun t v _ => v = .agg (Flat.enc t).toArray)) := by
 obtain ⟨hb, hs, hi, hl, ho⟩ := id hp
 have hn : (cur l i).kind = k → i + 1 < l.length := fun h => hL.end_of_kind hi (by rw [h]; exact hk)
 have hmax := hs.max
 have hs0 := hs
 unfold tokenO
 rw [cur_of hi] at hn ⊢
 refine calls_of_WC2 (n := 30) Tryz.func70 rfl rfl rfl ?_
 refine W ?_
 refine WL_eff OE_alloc rfl ?_
 rintro _ w0 ⟨b4, rfl, hb4, e4, hS0⟩
 have n4 : b4 ≠ b := by have := hb.lt; omega
 replace hb := hb.up hS0
 replace hs := hs.up hS0
 refine W ?_
 refine WC_drawn 12 [] [11] [(0, 0), (1, 0), (2, 0), (3, 1), (4, 0), (5, 0), (6, 0), (7, 1), (8, 0), (9, 1), (10, 2), (11, 2)] rfl mixed (by kernel_rfl) (by kernel_rfl) (by kernel_rfl) (fun w1 hS1 => ?_)
 replace hb := hb.up hS1
 replace hs := hs.up hS1
 replace e4 := e4.up hS1
 replace hS0 := hS0.trans hS1
 clear hS1
 refine D ?_
 refine WD_eff rfl trivial OE_alloc (fun _ _ ⟨_, _, _, _, h⟩ => h) rfl ?_
 rintro _ w2 ⟨b5, rfl, hb5, e5, hS2⟩
 have n5 : b5 ≠ b := by have := hb.lt; omega
 have n54 : b5 ≠ b4 := by have := e4.lt; omega
 refine WD_late0 rfl trivial (OE_storeA (us := Flat.enc l[i]) rfl rfl rfl rfl (Flat.one _) e5 rfl) rfl ?_
 rintro _ w3 ⟨hT, e5⟩
 have hT0 := hS2.own hT (fun c hc => .inr (by simp at hc; omega))
 clear hT hS2
 replace hb := hb.up hT0
 replace hs := hs.up hT0
 replace e4 := e4.up hT0
 replace hS0 := hS0.trans hT0
 clear hT0 hb5
 refine D ?_
 refine W ?_
 have hp3 : Pd w3 b tv l i o := ⟨hb, hs, hi, hl, ho⟩
 by_cases h : l[i].kind = k
 · rw [if_pos h]
   have hi1 := hn h
   repeat' (first | refine W1 ?_ | (exfalso; omega) | (refine VG ?_ ?_ <;> intro hg) | (refine VC ?_ ?_ <;> intro hc))
   refine WL_eff0 (OE_store1 (u := .int .i64 ((i + 1 : Nat) : Int)) rfl (by show some _ = some _; simp) rfl rfl hb (by simp)) ?_
   rintro _ w4 ⟨hT, hb2⟩
   replace e4 := e4.ext hT (by simpa using n4)
   replace e5 := e5.ext hT (by simpa using n5)
   replace hs := hs.ext (X' := [b]) hT (fun c hc => hc) (fun c hc => .inl hc)
   refine W ?_
   refine WL_eff0 (OE_storeA (us := Flat.enc l[i]) rfl rfl rfl rfl (Flat.one _) e4 rfl) ?_
   rintro _ w5 ⟨hT5, e4⟩
   refine W ?_
   refine WQ_retc (cs := Flat.enc l[i]) rfl rfl rfl e4 rfl ?_
   have hTT := ((hS0.mono (by simp)).trans hT).own hT5 (fun c hc => .inr (by simp at hc; omega))
   exact PC.ok rfl ⟨hb2.ext hT5 (by simpa using n4.symm), hs0.ext hTT (fun c hc => hc) (fun c hc => .inl hc), hi1, hl, ho⟩ hTT
 · rw [if_neg h]
   repeat' (first | refine W1 ?_ | (exfalso; omega) | (refine VG ?_ ?_ <;> intro hg) | (refine VC ?_ ?_ <;> intro hc))
   refine WL_pcall rfl (evs2 rfl rfl) (failS b tv l i o 20 _ w hp3 (hS0.mono (by simp))) rfl ?_
   intro w2 hw2
   repeat' (first | refine WQ_then_panic ?_ | refine WQ_block_panic ?_)
   refine WQ_panic ?_
   exact PC.fail hw2
end Go.Proofs.YtgpibcgebpgmiaaGreatDoor
namespace Go.Eng
open Go Go.RowKit Go.Proofs
abbrev bts (s : Str) : ByteArray := ⟨s.toArray⟩
def Itr (w : World) (b : Nat) (s : Str) (p : Nat) : Prop := w.heap[b]? = some (.stringIter (bts s) p)
theorem Itr.lt {w : World} {b p : Nat} {s : Str} (h : Itr w b s p) : b < w.heap.size := (Array.getElem?_eq_some_iff.1 h).1
def dec (s : Str) (p : Nat) : Nat × Nat := Utf8.decode (bts s) p
theorem bts_size (s : Str) : (bts s).size = s.length := by simp [ByteArray.size]
theorem dec_ascii {s : Str} {p : Nat} (h : p < s.length) (ha : (s[p]).toNat < 128) : dec s p = ((s[p]).toNat, 1) := by
 have h1 : p < (bts s).size := by rw [bts_size]; exact h
 have e : (bts s)[p]'h1 = s[p] := by simp [bts, ByteArray.getElem_eq_getElem_data]
 have := decode_ascii (bts s) p h1 (by rw [e]; exact ha)
 rw [e] at this
 exact this
theorem dec_high {s : Str} {p : Nat} (h : p < s.length) (ha : 128 ≤ (s[p]).toNat) : 128 ≤ (dec s p).1 ∧ 1 ≤ (dec s p).2 := by
 have h1 : p < (bts s).size := by rw [bts_size]; exact h
 have e : (bts s)[p]'h1 = s[p] := by simp [bts, ByteArray.getElem_eq_getElem_data]
 exact decode_high (bts s) p h1 (by rw [e]; exact ha)
theorem dec_pos {s : Str} {p : Nat} (h : p < s.length) : 1 ≤ (dec s p).2 := by
 by_cases ha : (s[p]).toNat < 128
 · rw [dec_ascii h ha]; exact Nat.le_refl _
 · exact (dec_high h (by omega)).2
section
variable {P : Program} {n : Nat} {e : Env} {w : World} {d : Option Nat} {ty : TypeId} {pos : String} {af : Array Edge} {g : Option (Nat × Bool)}
theorem OE_range {x : Operand} {t : TypeId} {s : Str} [hu : Und P t .string] (hx : ev e x = some (str s)) : OE P n ⟨d, .range t x, ty, pos, af, g⟩ e w (fun v w' => ∃ b, v = .pointer (some ⟨b, 0, none⟩) ∧ w.heap.size ≤ b ∧ Itr w' b s 0 ∧ Stp [] w w') :=
 OE_value (v := .pointer (some ⟨w.heap.size, 0, none⟩)) (w' := w.iter (bts s) 0) (fun a ha => by
  have := run_range_string (P := P) w t (bts s) hu.h
  simp [execOp, ha.ev hx, this]) ⟨w.heap.size, rfl, Nat.le_refl _, World.iter_heap _ _ _, Stp.alloc _ _ _⟩
theorem OE_next {x : Operand} {s : Str} {b p : Nat} (hx : ev e x = some (.pointer (some ⟨b, 0, none⟩))) (hI : Itr w b s p) (hp : p < s.length) :
 OE P n ⟨d, .next x true, ty, pos, af, g⟩ e w (fun v w' => v = .tuple #[.bool true, .int .i64 p, .int .i32 ((dec s p).1 : Int)] ∧ Itr w' b s (p + (dec s p).2) ∧ Stp [b] w w') := by
 have hlt := hI.lt
 have hp' : p < (bts s).size := by rw [bts_size]; exact hp
 unfold Itr at hI
 refine OE_value (v := .tuple #[.bool true, .int .i64 p, .int .i32 ((dec s p).1 : Int)]) (w' := { w with heap := w.heap.setIfInBounds b (.stringIter (bts s) (p + (dec s p).2)) }) (fun a ha => ?_) ⟨rfl, ?_, ⟨rfl, rfl, rfl, by simp, fun k hk hn => ?_⟩⟩
 · simp [execOp, ha.ev hx, Instr.next, getObj, setObj, Sem.run, hI, hp', goInt, dec]
 · show (w.heap.setIfInBounds b _)[b]? = _
   simp [hlt]
 · show (w.heap.setIfInBounds b _)[k]? = _
   exact Array.getElem?_setIfInBounds_ne (by simpa using fun h => hn (by simp [h]))
theorem OE_nextEnd {x : Operand} {s : Str} {b p : Nat} (hx : ev e x = some (.pointer (some ⟨b, 0, none⟩))) (hI : Itr w b s p) (hp : ¬ p < s.length) :
 OE P n ⟨d, .next x true, ty, pos, af, g⟩ e w (fun v w' => v = .tuple #[.bool false] ∧ w' = w) := by
 have hp' : ¬ p < (bts s).size := by rw [bts_size]; exact hp
 unfold Itr at hI
 refine OE_value (v := .tuple #[.bool false]) (w' := w) (fun a ha => ?_) ⟨rfl, rfl⟩
 simp [execOp, ha.ev hx, Instr.next, getObj, Sem.run, hI, hp']
theorem PR_field {x : Operand} {t : TypeId} {i : Nat} {u v : Value} (hx : ev e x = some u) (hb : ∀ w, (Instr.field t u i).run P w = .ok v w) : PR P n ⟨d, .field t x i, ty, pos, af, g⟩ e w v :=
 ⟨fun a ha => by simp [execOp, ha.ev hx, hb]⟩
end
end Go.Eng
namespace Go.Proofs.YtgpibcgebpgmiaaGreatDoor
open Go Go.Eng Go.RowKit Go.Proofs
theorem cell_up {w w' : World} {b : Nat} {m : Int} (hm : w.cell? ⟨1, 0, none⟩ = some (.int .i64 m)) (hb : b ≠ 1) (hS : Stp [b] w w') : w'.cell? ⟨1, 0, none⟩ = some (.int .i64 m) :=
 hS.cell (by simpa using fun h => hb h.symm) hm
theorem tknText (t : Tkn) (w : World) : (Instr.field 61 (.agg (Flat.enc t).toArray) 2).run Tryz.prog w = .ok (str t.text) w := by kernel_rfl
theorem tknNum (t : Tkn) (w : World) : (Instr.field 61 (.agg (Flat.enc t).toArray) 3).run Tryz.prog w = .ok (.int .i64 t.num) w := by kernel_rfl
theorem name_any (b : Nat) (tv : Value) (l : List Tkn) (hL : Toks l) (i o : Nat) (m : Int) (w : World) (hm : w.cell? ⟨1, 0, none⟩ = some (.int .i64 m)) (hp : Pd w b tv l i o) :
 Calls Tryz.prog 69 #[.pointer (some ⟨b, 0, none⟩)] w (PC b w tv l (nameO l i o) (fun s v _ => v = str s)) := by
 unfold nameO
 refine calls_of_WC1 (n := 11) Tryz.func69 rfl rfl rfl ?_
 refine W ?_
 refine CL rfl (evs1 rfl) rfl (next_any b tv l i o _ hp) ?_
 rintro _ w1 ⟨rfl, hS1⟩
 have hp1 := hp.up hS1
 refine W ?_
 refine CL rfl (evs2 rfl rfl) rfl (within_any allC (ruleW ++ unitW ++ fieldW ++ funcW) (by decide +kernel) (cur l i).text m _ (hS1.cell (by simp) hm) (by decide +kernel) (hL.tl i) (fun h => all_iff h (hL.sp i))) ?_
 rintro _ w2 ⟨rfl, hS2⟩
 have hp2 := hp1.up hS2
 have hS := (hS1.trans hS2).mono (S' := [b]) (by simp)
 by_cases h : (cur l i).text ∈ ruleW ++ unitW ++ fieldW ++ funcW
 · rw [if_pos h, decide_eq_true h]
   refine W ?_
   refine WL_pcall rfl (evs2 rfl rfl) (failS b tv l i o 20 _ w hp2 hS) rfl ?_
   intro w3 hw3
   repeat' (first | refine WQ_then_panic ?_ | refine WQ_block_panic ?_)
   refine WQ_panic ?_
   exact PC.fail hw3
 · rw [if_neg h, decide_eq_false h]
   refine W ?_
   cases hr : tokenO l 1 i o with
   | err a c =>
     refine WL_pcall rfl (evs2 rfl rfl) (PC.falls (token_any b tv l hL 1 (by decide) i o _ hp2) hr hS) rfl ?_
     intro w3 hw3
     repeat' (first | refine WQ_then_panic ?_ | refine WQ_block_panic ?_)
     refine WQ_panic ?_
     exact PC.err hw3
   | ok t i1 o1 =>
     refine CL rfl (evs2 rfl rfl) rfl (PC.goes (token_any b tv l hL 1 (by decide) i o _ hp2) hr) ?_
     rintro _ w3 ⟨rfl, hp3, hS3⟩
     refine WL_pure (PR_field rfl (tknText t)) rfl ?_
     refine W ?_
     refine WR ?_
     exact PC.ok rfl hp3 (hS.trans hS3)
theorem opens_any (b : Nat) (tv : Value) (l : List Tkn) (hL : Toks l) (s : Str) (hs0 : s ≠ []) (i o : Nat) (w : World) (hp : Pd w b tv l i o) :
 Calls Tryz.prog 161 #[.pointer (some ⟨b, 0, none⟩), str s] w (PC b w tv l (opensO l s i o) (fun _ v _ => v = .tuple #[])) := by
 have hn : (cur l i).text = s → i + 1 < l.length := fun h => hL.end_of hp.i_lt (by rw [h]; exact hs0)
 unfold opensO
 refine calls_of_WC2 (n := 31) Tryz.func161 rfl rfl rfl ?_
 refine W ?_
 refine CL rfl (evs1 rfl) rfl (next_any b tv l i o _ hp) ?_
 rintro _ w1 ⟨rfl, hS1⟩
 have hp1 := hp.up hS1
 have hS := hS1.mono (S' := [b]) (by simp)
 by_cases h : (cur l i).text = s
 · have hi1 := hn h
   rw [if_pos h]
   obtain ⟨hb, hs, hi, hl, ho⟩ := id hp1
   repeat' (first | refine W1 ?_ | (exfalso; omega) | (refine VG ?_ ?_ <;> intro hg) | (refine VC ?_ ?_ <;> intro hc))
   · exact absurd h (by assumption)
   · refine WL_pcall rfl (evs2 rfl rfl) (failS b tv l i o 2 _ w hp1 hS) rfl ?_
     intro w3 hw3
     repeat' (first | refine WQ_then_panic ?_ | refine WQ_block_panic ?_)
     refine WQ_panic ?_
     rw [if_pos (by omega)]
     exact PC.fail hw3
   · refine WL_eff0 (OE_store1 (u := .int .i64 ((i + 1 : Nat) : Int)) rfl (by show some _ = some _; simp) rfl rfl hb (by simp)) ?_
     rintro _ w2 ⟨hT, hb2⟩
     replace hs := hs.ext (X' := [b]) hT (fun c hc => hc) (fun c hc => .inl hc)
     refine W ?_
     refine WL_eff0 (OE_store1 (u := .int .i64 ((o + 1 : Nat) : Int)) rfl (by show some _ = some _; simp) rfl rfl hb2 (by simp)) ?_
     rintro _ w3 ⟨hT3, hb3⟩
     replace hs := hs.ext (X' := [b]) hT3 (fun c hc => hc) (fun c hc => .inl hc)
     refine W ?_
     first | refine WQ_ret0 rfl ?_ | refine WQ_end0 rfl ?_
     rw [if_neg (by omega)]
     exact PC.ok rfl ⟨hb3, hs, hi1, hl, by omega⟩ ((hS.trans hT).trans hT3)
 · rw [if_neg h]
   repeat' (first | refine W1 ?_ | (exfalso; omega) | (refine VG ?_ ?_ <;> intro hg) | (refine VC ?_ ?_ <;> intro hc))
   · refine WL_pcall rfl (evs2 rfl rfl) (failS b tv l i o 20 _ w hp1 hS) rfl ?_
     intro w3 hw3
     repeat' (first | refine WQ_then_panic ?_ | refine WQ_block_panic ?_)
     refine WQ_panic ?_
     exact PC.fail hw3
   all_goals exact absurd h (by assumption)
theorem closes_any (b : Nat) (tv : Value) (l : List Tkn) (hL : Toks l) (s : Str) (hs0 : s ≠ []) (i o : Nat) (ho0 : 0 < o) (w : World) (hp : Pd w b tv l i o) :
 Calls Tryz.prog 197 #[.pointer (some ⟨b, 0, none⟩), str s] w (PC b w tv l (closesO l s i o) (fun _ v _ => v = .tuple #[])) := by
 unfold closesO
 refine calls_of_WC2 (n := 14) Tryz.func197 rfl rfl rfl ?_
 refine W ?_
 cases hr : mustO l s i o with
 | err a c =>
   refine WL_pcall rfl (evs2 rfl rfl) (PC.falls (mustP_any b tv l hL s hs0 i o _ hp) hr (Stp.refl _ _)) rfl ?_
   intro w3 hw3
   repeat' (first | refine WQ_then_panic ?_ | refine WQ_block_panic ?_)
   refine WQ_panic ?_
   exact PC.err hw3
 | ok x i1 o1 =>
   have ho1 : o1 = o := by
    unfold mustO failO at hr
    split at hr <;> simp at hr
    omega
   refine CL rfl (evs2 rfl rfl) rfl (PC.goes (mustP_any b tv l hL s hs0 i o _ hp) hr) ?_
   rintro _ w1 ⟨rfl, hp1, hS⟩
   obtain ⟨hb, hs, hi, hl, ho⟩ := id hp1
   refine W ?_
   refine WL_eff0 (OE_store1 (u := .int .i64 ((o1 - 1 : Nat) : Int)) rfl (by show some _ = some _; simp; omega) rfl rfl hb (by simp)) ?_
   rintro _ w3 ⟨hT3, hb3⟩
   replace hs := hs.ext (X' := [b]) hT3 (fun c hc => hc) (fun c hc => .inl hc)
   refine W ?_
   refine WR ?_
   exact PC.ok rfl ⟨hb3, hs, hi, hl, by omega⟩ (hS.trans hT3)
theorem levelOf_any (s : Str) (w : World) : Calls Tryz.prog 135 #[str s] w (Ret fun r w' => r = .int .i64 (levelO s : Int) ∧ w' = w) := by
 unfold levelO
 refine calls_of_WC1 (n := 20) Tryz.func135 rfl rfl rfl ?_
 repeat' (first | refine W1 ?_ | (exfalso; omega) | (refine VG ?_ ?_ <;> intro hg) | (refine VC ?_ ?_ <;> intro hc))
 all_goals refine WR ?_
 all_goals refine .mk ⟨?_, rfl⟩
 all_goals simp_all
theorem arguments_any (s : Str) (w : World) : Calls Tryz.prog 218 #[str s] w (Ret fun r w' => r = .int .i64 (argsO s : Int) ∧ w' = w) := by
 unfold argsO
 refine calls_of_WC1 (n := 9) Tryz.func218 rfl rfl rfl ?_
 repeat' (first | refine W1 ?_ | (exfalso; omega) | (refine VG ?_ ?_ <;> intro hg) | (refine VC ?_ ?_ <;> intro hc))
 all_goals refine WR ?_
 all_goals refine .mk ⟨?_, rfl⟩
 all_goals simp_all
end Go.Proofs.YtgpibcgebpgmiaaGreatDoor
namespace Go.Eng
open Go Go.RowKit Go.Proofs
theorem mustO_open {l : List Tkn} {s : Str} {i o : Nat} {u : Unit} {i' o' : Nat} (h : mustO l s i o = .ok u i' o') : o' = o := by
 unfold mustO failO at h; split at h <;> simp at h; omega
theorem mustO_i {l : List Tkn} {s : Str} {i o : Nat} {u : Unit} {i' o' : Nat} (h : mustO l s i o = .ok u i' o') : i' = i + 1 ∧ (cur l i).text = s := by
 unfold mustO failO at h; split at h <;> simp at h; exact ⟨by omega, by assumption⟩
theorem tokenO_open {l : List Tkn} {k : Int} {i o : Nat} {t : Tkn} {i' o' : Nat} (h : tokenO l k i o = .ok t i' o') : o' = o ∧ i' = i + 1 ∧ t = cur l i ∧ t.kind = k := by
 unfold tokenO failO at h; split at h <;> simp at h
 obtain ⟨rfl, rfl, rfl⟩ := h
 exact ⟨rfl, rfl, rfl, by assumption⟩
theorem opensO_open {l : List Tkn} {s : Str} {i o : Nat} {u : Unit} {i' o' : Nat} (h : opensO l s i o = .ok u i' o') : o' = o + 1 ∧ i' = i + 1 ∧ (cur l i).text = s := by
 unfold opensO failO at h; split at h
 · split at h <;> simp at h
   exact ⟨by omega, by omega, by assumption⟩
 · simp at h
theorem closesO_open {l : List Tkn} {s : Str} {i o : Nat} {u : Unit} {i' o' : Nat} (h : closesO l s i o = .ok u i' o') : o' = o - 1 ∧ i' = i + 1 ∧ (cur l i).text = s := by
 unfold closesO at h
 cases hm : mustO l s i o with
 | err a c => rw [hm] at h; simp [Out.bind] at h
 | ok x j p =>
   rw [hm] at h
   simp [Out.bind] at h
   have := mustO_open hm
   have := mustO_i hm
   exact ⟨by omega, by omega, this.2⟩
theorem manyO_open {m : Nat → Nat → Option (Out Nd)} {sep : Nat → Nat → Nat → Out Unit} (hm : ∀ i o x i' o', m i o = some (.ok x i' o') → o' = o) (hs : ∀ k i o u i' o', sep k i o = .ok u i' o' → o' = o) :
 ∀ (n k : Nat) (ks : List Nd) (i o : Nat) (ks' : List Nd) (i' o' : Nat), manyO m sep n k ks i o = some (.ok ks' i' o') → o' = o
 | 0, k, ks, i, o, ks', i', o', h => by simp [manyO] at h; omega
 | n + 1, k, ks, i, o, ks', i', o', h => by
   simp only [manyO] at h
   cases h1 : sep k i o with
   | err a c => rw [h1] at h; simp at h
   | ok u i1 o1 =>
     rw [h1] at h
     simp only at h
     cases h2 : m i1 o1 with
     | none => rw [h2] at h; simp at h
     | some r =>
       rw [h2] at h
       cases r with
       | err a c => simp at h
       | ok x i2 o2 =>
         simp only at h
         have := manyO_open hm hs n _ _ _ _ _ _ _ h
         have := hm _ _ _ _ _ h2
         have := hs _ _ _ _ _ _ h1
         omega
theorem commaO_open {l : List Tkn} {k i o : Nat} {u : Unit} {i' o' : Nat} (h : commaO l k i o = .ok u i' o') : o' = o := by
 unfold commaO at h
 split at h
 · exact mustO_open h
 · simp at h; omega
theorem thenO_open {l : List Tkn} {k i o : Nat} {u : Unit} {i' o' : Nat} (h : thenO l k i o = .ok u i' o') : o' = o := mustO_open h
theorem exprO_open (l : List Tkn) : ∀ (f : Nat) (c : Call) (i o : Nat) (x : Nd) (i' o' : Nat), exprO l f c i o = some (.ok x i' o') → o' = o
 | 0, c, i, o, x, i', o', h => by simp [exprO] at h
 | f + 1, .expr k, i, o, x, i', o', h => by
   have ih := exprO_open l f
   rw [exprO] at h
   split at h
   · split at h
     · simp at h
     · rename_i h1
       have := opensO_open h1
       split at h
       · simp at h
       · simp at h
       · rename_i h2
         have := ih _ _ _ _ _ _ h2
         simp at h
         omega
   · split at h
     · exact ih _ _ _ _ _ _ h
     · split at h
       · simp at h
       · simp at h
       · rename_i h2
         have := ih _ _ _ _ _ _ h2
         have := ih _ _ _ _ _ _ h
         omega
 | f + 1, .loop k y, i, o, x, i', o', h => by
   have ih := exprO_open l f
   rw [exprO] at h
   split at h
   · split at h
     · simp at h
     · simp at h
     · rename_i h2
       have h3 := ih _ _ _ _ _ _ h2
       split at h
       · have := ih _ _ _ _ _ _ h
         omega
       · split at h
         · simp at h; omega
         · have := ih _ _ _ _ _ _ h
           omega
   · simp at h; omega
 | f + 1, .prim, i, o, x, i', o', h => by
   have ih := exprO_open l f
   rw [exprO] at h
   repeat' split at h
   all_goals try (simp at h; done)
   all_goals try (simp at h; omega)
   · rename_i h1 _ _ _ _ h2 _ _ _ _ h3
     have := opensO_open h1; have := ih _ _ _ _ _ _ h2; have := closesO_open h3
     simp at h; omega
   · rename_i h1 _ _ _ _ h2 _ _ _ _ h3 _ _ _ _ h4
     have := opensO_open h1; have := ih _ _ _ _ _ _ h2; have := manyO_open (fun _ _ _ _ _ h => ih _ _ _ _ _ _ h) (fun _ _ _ _ _ _ h => thenO_open h) _ _ _ _ _ _ _ _ h3; have := closesO_open h4
     simp at h; omega
   · rename_i h1 _ _ _ _ h2 _ _ _ _ h3 _ _ _ _ h4
     have := tokenO_open h1; have := opensO_open h2; have := manyO_open (fun _ _ _ _ _ h => ih _ _ _ _ _ _ h) (fun _ _ _ _ _ _ h => commaO_open h) _ _ _ _ _ _ _ _ h3; have := closesO_open h4
     simp at h; omega
   all_goals (simp [failO] at h)
theorem manyO_le {m : Nat → Nat → Option (Out Nd)} {sep : Nat → Nat → Nat → Out Unit} (hm : ∀ i o x i' o', m i o = some (.ok x i' o') → i ≤ i') (hs : ∀ k i o u i' o', sep k i o = .ok u i' o' → i ≤ i') :
 ∀ (n k : Nat) (ks : List Nd) (i o : Nat) (ks' : List Nd) (i' o' : Nat), manyO m sep n k ks i o = some (.ok ks' i' o') → i ≤ i'
 | 0, k, ks, i, o, ks', i', o', h => by simp [manyO] at h; omega
 | n + 1, k, ks, i, o, ks', i', o', h => by
   simp only [manyO] at h
   cases h1 : sep k i o with
   | err a c => rw [h1] at h; simp at h
   | ok u i1 o1 =>
     rw [h1] at h
     simp only at h
     cases h2 : m i1 o1 with
     | none => rw [h2] at h; simp at h
     | some r =>
       rw [h2] at h
       cases r with
       | err a c => simp at h
       | ok x i2 o2 =>
         simp only at h
         have := manyO_le hm hs n _ _ _ _ _ _ _ h
         have := hm _ _ _ _ _ h2
         have := hs _ _ _ _ _ _ h1
         omega
theorem commaO_le {l : List Tkn} {k i o : Nat} {u : Unit} {i' o' : Nat} (h : commaO l k i o = .ok u i' o') : i ≤ i' := by
 unfold commaO at h
 split at h
 · have := (mustO_i h).1; omega
 · simp at h; omega
theorem thenO_le {l : List Tkn} {k i o : Nat} {u : Unit} {i' o' : Nat} (h : thenO l k i o = .ok u i' o') : i ≤ i' := by have := (mustO_i h).1; omega
def Call.lo : Call → Nat → Nat
 | .expr _, i => i + 1
 | .prim, i => i + 1
 | .loop _ _, i => i
theorem exprO_le (l : List Tkn) : ∀ (f : Nat) (c : Call) (i o : Nat) (x : Nd) (i' o' : Nat), exprO l f c i o = some (.ok x i' o') → c.lo i ≤ i'
 | 0, c, i, o, x, i', o', h => by simp [exprO] at h
 | f + 1, .expr k, i, o, x, i', o', h => by
   have ih := exprO_le l f
   rw [exprO] at h
   simp only [Call.lo]
   split at h
   · split at h
     · simp at h
     · rename_i h1
       have := opensO_open h1
       split at h
       · simp at h
       · simp at h
       · rename_i h2
         have := ih _ _ _ _ _ _ h2
         simp only [Call.lo] at this
         simp at h
         omega
   · split at h
     · exact ih _ _ _ _ _ _ h
     · split at h
       · simp at h
       · simp at h
       · rename_i h2
         have h3 := ih _ _ _ _ _ _ h2
         have := ih _ _ _ _ _ _ h
         simp only [Call.lo] at this h3
         omega
 | f + 1, .loop k y, i, o, x, i', o', h => by
   have ih := exprO_le l f
   rw [exprO] at h
   simp only [Call.lo]
   split at h
   · split at h
     · simp at h
     · simp at h
     · rename_i h2
       have h3 := ih _ _ _ _ _ _ h2
       simp only [Call.lo] at h3
       split at h
       · have := ih _ _ _ _ _ _ h
         simp only [Call.lo] at this
         omega
       · split at h
         · simp at h; omega
         · have := ih _ _ _ _ _ _ h
           simp only [Call.lo] at this
           omega
   · simp at h; omega
 | f + 1, .prim, i, o, x, i', o', h => by
   have ih := exprO_le l f
   rw [exprO] at h
   simp only [Call.lo]
   repeat' split at h
   all_goals try (simp at h; done)
   all_goals try (simp at h; omega)
   · rename_i h1 _ _ _ _ h2 _ _ _ _ h3
     have := opensO_open h1; have h2 := ih _ _ _ _ _ _ h2; have := closesO_open h3
     simp only [Call.lo] at h2
     simp at h; omega
   · rename_i h1 _ _ _ _ h2 _ _ _ _ h3 _ _ _ _ h4
     have := opensO_open h1; have h2 := ih _ _ _ _ _ _ h2; have := manyO_le (fun _ _ _ _ _ h => by have := ih _ _ _ _ _ _ h; simp only [Call.lo] at this; omega) (fun _ _ _ _ _ _ h => thenO_le h) _ _ _ _ _ _ _ _ h3; have := closesO_open h4
     simp only [Call.lo] at h2
     simp at h; omega
   · rename_i h1 _ _ _ _ h2 _ _ _ _ h3 _ _ _ _ h4
     have := tokenO_open h1; have := opensO_open h2; have := manyO_le (fun _ _ _ _ _ h => by have := ih _ _ _ _ _ _ h; simp only [Call.lo] at this; omega) (fun _ _ _ _ _ _ h => commaO_le h) _ _ _ _ _ _ _ _ h3; have := closesO_open h4
     simp at h; omega
   all_goals (simp [failO] at h)
theorem manyO_some {m : Nat → Nat → Option (Out Nd)} {sep : Nat → Nat → Nat → Out Unit} (i0 : Nat) (ht : ∀ i o, i0 ≤ i → m i o ≠ none) (hm : ∀ i o x i' o', m i o = some (.ok x i' o') → i ≤ i') (hs : ∀ k i o u i' o', sep k i o = .ok u i' o' → i ≤ i') :
 ∀ (n k : Nat) (ks : List Nd) (i o : Nat), i0 ≤ i → manyO m sep n k ks i o ≠ none
 | 0, k, ks, i, o, h0 => by simp [manyO]
 | n + 1, k, ks, i, o, h0 => by
   simp only [manyO]
   cases h1 : sep k i o with
   | err a c => simp
   | ok u i1 o1 =>
     have := hs _ _ _ _ _ _ h1
     simp only
     cases h2 : m i1 o1 with
     | none => exact absurd h2 (ht _ _ (by omega))
     | some r =>
       cases r with
       | err a c => simp
       | ok x i2 o2 =>
         have := hm _ _ _ _ _ h2
         exact manyO_some i0 ht hm hs n _ _ _ _ (by omega)
theorem cur_out {l : List Tkn} {i : Nat} (h : l.length ≤ i) : cur l i = default := by simp [cur, List.getD, h]
theorem in_of_text {l : List Tkn} {i : Nat} (h : (cur l i).text ≠ []) : i < l.length := by
 by_cases hl : i < l.length
 · exact hl
 · rw [cur_out (by omega)] at h; exact absurd rfl h
def Call.need (n : Nat) : Call → Nat → Nat
 | .expr k, i => 10 * (n - i) + (10 - k)
 | .prim, i => 10 * (n - i) + 1
 | .loop _ _, i => 10 * (n - i) + 1
def Call.fine : Call → Prop
 | .expr k => 1 ≤ k ∧ k ≤ 8
 | .prim => True
 | .loop k _ => 1 ≤ k ∧ k ≤ 7
theorem levelO_nil {s : Str} {k : Nat} (h : levelO s = k) (hk : 1 ≤ k) : s ≠ [] := by
 rintro rfl
 have : levelO [] = 0 := by decide
 omega
theorem exprO_some (l : List Tkn) : ∀ (f : Nat) (c : Call) (i o : Nat), c.fine → c.need l.length i ≤ f → exprO l f c i o ≠ none
 | 0, c, i, o, hc, h => by
   cases c <;> simp only [Call.need, Call.fine] at h hc <;> omega
 | f + 1, .expr k, i, o, hc, h => by
   have ih := exprO_some l f
   simp only [Call.need, Call.fine] at h hc
   rw [exprO]
   split
   · rename_i hsp
     have hi : i < l.length := in_of_text (by rcases hsp with ⟨_, h⟩ | ⟨_, h⟩ <;> rw [h] <;> decide)
     split
     · simp
     · rename_i h1
       have := opensO_open h1
       split
       · rename_i h2; exact absurd h2 (ih _ _ _ hc (by simp only [Call.need]; omega))
       · simp
       · simp
   · split
     · exact ih _ _ _ trivial (by simp only [Call.need]; omega)
     · split
       · rename_i h2; exact absurd h2 (ih _ _ _ (by simp only [Call.fine]; omega) (by simp only [Call.need]; omega))
       · simp
       · rename_i h2
         have h3 := exprO_le l _ _ _ _ _ _ _ h2
         simp only [Call.lo] at h3
         exact ih _ _ _ (by simp only [Call.fine]; omega) (by simp only [Call.need]; omega)
 | f + 1, .loop k y, i, o, hc, h => by
   have ih := exprO_some l f
   simp only [Call.need, Call.fine] at h hc
   rw [exprO]
   split
   · rename_i hlv
     have hi : i < l.length := in_of_text (levelO_nil hlv hc.1)
     split
     · rename_i h2; exact absurd h2 (ih _ _ _ (by simp only [Call.fine]; omega) (by simp only [Call.need]; omega))
     · simp
     · rename_i h2
       have h3 := exprO_le l _ _ _ _ _ _ _ h2
       simp only [Call.lo] at h3
       split
       · exact ih _ _ _ hc (by simp only [Call.need]; omega)
       · split
         · simp
         · exact ih _ _ _ hc (by simp only [Call.need]; omega)
   · simp
 | f + 1, .prim, i, o, hc, h => by
   have ih := exprO_some l f
   have hle : ∀ i o x i' o', exprO l f (.expr 1) i o = some (.ok x i' o') → i ≤ i' := fun _ _ _ _ _ h => by have := exprO_le l _ _ _ _ _ _ _ h; simp only [Call.lo] at this; omega
   simp only [Call.need, Call.fine] at h hc
   have hrec : ∀ j o, i < l.length → i + 1 ≤ j → exprO l f (.expr 1) j o ≠ none := fun j o hi hj => ih _ _ _ (by simp [Call.fine]) (by simp only [Call.need]; omega)
   rw [exprO]
   have hpar := fun h => in_of_text (l := l) (i := i) h
   split
   · simp
   split
   · simp
   split
   · simp
   split
   · simp
   split
   · rename_i ht
     have hi := hpar (by rw [ht]; decide)
     split
     · simp
     · rename_i h1
       have := opensO_open h1
       split
       · rename_i h2; exact absurd h2 (hrec _ _ hi (by omega))
       · simp
       · split <;> simp
   split
   · rename_i ht
     have hi := hpar (by rw [ht]; decide)
     split
     · simp
     · rename_i h1
       have := opensO_open h1
       split
       · rename_i h2; exact absurd h2 (hrec _ _ hi (by omega))
       · simp
       · rename_i h2
         have := hle _ _ _ _ _ h2
         split
         · rename_i h3; exact absurd h3 (manyO_some (i + 1) (fun j o hj => hrec j o hi hj) hle (fun _ _ _ _ _ _ h => thenO_le h) _ _ _ _ _ (by omega))
         · simp
         · split <;> simp
   split
   · rename_i ht
     have hi := hpar (fun h0 => by rw [h0] at ht; revert ht; decide)
     split
     · simp
     · rename_i h1
       have := tokenO_open h1
       split
       · simp
       · rename_i h2
         have := opensO_open h2
         split
         · rename_i h3; exact absurd h3 (manyO_some (i + 1) (fun j o hj => hrec j o hi hj) hle (fun _ _ _ _ _ _ h => commaO_le h) _ _ _ _ _ (by omega))
         · simp
         · split <;> simp
   split <;> simp
theorem wholeO_eq (l : List Tkn) (i o : Nat) : exprO l (fuelO l i) (.expr 1) i o = some (wholeO l i o) := by
 have := exprO_some l (fuelO l i) (.expr 1) i o (by simp [Call.fine]) (by simp only [Call.need, fuelO]; omega)
 unfold wholeO
 cases h : exprO l (fuelO l i) (.expr 1) i o with
 | none => exact absurd h this
 | some r => rfl
end Go.Eng
