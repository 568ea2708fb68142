/-
Merged by program out of own texts: Ty, Nd0, Typ1, Eng10, Typ2, Typ3, Typ4, Typ5, Typ6, Typ7, Typ8, Typ9, Typ10, Typ13, Cmp1, Cmp2, Cmp3, Cmp4, Cmp5, Cmp6, Cmp7, Cmp8, Prn1, Nam1, Nam2, Nam3, Nam4, Gen1, Gen3, Rg1, Rul1, Ver3, Ver5, Ver7a, Ver7b, Ver7c, Ver9, Arg15, Arg16, Srt1, Use1, Eng18, Eng19, Tyo1, Cty0.
-/
import Derived.Test.YtjdjdoefppebkaaGreatDoorM1
import Derived.Test.YtjdjdoefppebkaaGreatDoorRows
import Derived.MapKept
import Derived.Laws.StructEq
import Derived.ChangeKeysEq
import Derived.Test.YtjdjdoefppebkaaGreatDoorTie
import Derived.Test.YtjdjdoefppebkaaGreatDoorCards
import Derived.Laws.BitsAllLaws
import Derived.Laws.Bits64
import Derived.Lib.SlBytesRow
import Derived.Lib.AppendStr
import Derived.Laws.BytesArg
import Derived.Laws.Cover3
set_option linter.unusedVariables false
set_option linter.unusedSimpArgs false
namespace Go.Proofs.YtjdjdoefppebkaaGreatDoor
open Go Go.Eng
theorem mixed:Tryz.prog.follows .mixedOrders=true:=by kernel_rfl
abbrev ZqN:=uM Tryz.underlying3
instance ZsW:Siz Tryz.prog 3 1:=⟨by kernel_rfl⟩
instance ZsX:Byt Tryz.prog 3 8:=⟨by kernel_rfl⟩
instance ZsY:Zer Tryz.prog 3 (.int .i64 0):=⟨by kernel_rfl⟩
abbrev ZqO:=uM Tryz.underlying4
instance ZsZ:Siz Tryz.prog 4 1:=⟨by kernel_rfl⟩
abbrev ZqP:=uM Tryz.underlying5
instance Zt0:Siz Tryz.prog 5 1:=⟨by kernel_rfl⟩
abbrev ZqQ:=uM Tryz.underlying9
instance Zt1:Siz Tryz.prog 9 1:=⟨by kernel_rfl⟩
abbrev Zna:=uM Tryz.underlying20
abbrev Znb:=uM Tryz.underlying21
abbrev Znc:=uM Tryz.underlying22
instance Zsm:Siz Tryz.prog 22 1:=⟨by kernel_rfl⟩
instance Zsn:Zer Tryz.prog 22 (.slice none 0 0):=⟨by kernel_rfl⟩
abbrev Znd:=uM Tryz.underlying24
instance Zso:Siz Tryz.prog 24 5:=⟨by kernel_rfl⟩
instance Zq9:Fld Tryz.prog 24 0 0:=⟨_,_,0,Tryz.underlying24,rfl,rfl,by kernel_rfl⟩
instance Zqa:Fld Tryz.prog 24 1 1:=⟨_,_,0,Tryz.underlying24,rfl,rfl,by kernel_rfl⟩
instance Zqb:Fld Tryz.prog 24 2 2:=⟨_,_,0,Tryz.underlying24,rfl,rfl,by kernel_rfl⟩
instance Zqc:Fld Tryz.prog 24 3 3:=⟨_,_,0,Tryz.underlying24,rfl,rfl,by kernel_rfl⟩
instance Zqd:Fld Tryz.prog 24 4 4:=⟨_,_,0,Tryz.underlying24,rfl,rfl,by kernel_rfl⟩
abbrev Zne:=uM Tryz.underlying25
instance Zsp:Siz Tryz.prog 25 1:=⟨by kernel_rfl⟩
abbrev Znf:=uM Tryz.underlying27
instance Zsq:Siz Tryz.prog 27 4:=⟨by kernel_rfl⟩
instance Zsr:Byt Tryz.prog 27 56:=⟨by kernel_rfl⟩
instance Zss:Zer Tryz.prog 27 (.agg #[.int .i64 0,.int .i64 0,.string ByteArray.empty,.slice none 0 0]):=⟨by kernel_rfl⟩
instance Zqe:Fld Tryz.prog 27 0 0:=⟨_,_,0,Tryz.underlying27,rfl,rfl,by kernel_rfl⟩
instance Zqf:Fld Tryz.prog 27 1 1:=⟨_,_,0,Tryz.underlying27,rfl,rfl,by kernel_rfl⟩
instance Zqg:Fld Tryz.prog 27 2 2:=⟨_,_,0,Tryz.underlying27,rfl,rfl,by kernel_rfl⟩
instance Zqh:Fld Tryz.prog 27 3 3:=⟨_,_,0,Tryz.underlying27,rfl,rfl,by kernel_rfl⟩
abbrev Zng:=uM Tryz.underlying29
instance Zst:Siz Tryz.prog 29 7:=⟨by kernel_rfl⟩
instance Zsu:Zer Tryz.prog 29 (.agg #[.int .i64 0,.int .i64 0,.int .i64 0,.int .i64 0,.int .i64 0,.int .i64 0,.int .i64 0]):=⟨by kernel_rfl⟩
instance Zqi:Fld Tryz.prog 29 0 0:=⟨_,_,0,Tryz.underlying29,rfl,rfl,by kernel_rfl⟩
instance Zqj:Fld Tryz.prog 29 1 1:=⟨_,_,0,Tryz.underlying29,rfl,rfl,by kernel_rfl⟩
instance Zqk:Fld Tryz.prog 29 2 2:=⟨_,_,0,Tryz.underlying29,rfl,rfl,by kernel_rfl⟩
instance Zql:Fld Tryz.prog 29 3 3:=⟨_,_,0,Tryz.underlying29,rfl,rfl,by kernel_rfl⟩
instance Zqm:Fld Tryz.prog 29 4 4:=⟨_,_,0,Tryz.underlying29,rfl,rfl,by kernel_rfl⟩
instance Zqn:Fld Tryz.prog 29 5 5:=⟨_,_,0,Tryz.underlying29,rfl,rfl,by kernel_rfl⟩
instance Zqo:Fld Tryz.prog 29 6 6:=⟨_,_,0,Tryz.underlying29,rfl,rfl,by kernel_rfl⟩
abbrev Znh:=uM Tryz.underlying30
abbrev Zni:=uM Tryz.underlying31
instance Zsv:Siz Tryz.prog 31 1:=⟨by kernel_rfl⟩
abbrev Znj:=uM Tryz.underlying32
instance Zsw:Siz Tryz.prog 32 1:=⟨by kernel_rfl⟩
abbrev Znk:=uM Tryz.underlying33
instance Zsx:Siz Tryz.prog 33 1:=⟨by kernel_rfl⟩
abbrev Znl:=uM Tryz.underlying35
instance Zsy:Siz Tryz.prog 35 2:=⟨by kernel_rfl⟩
instance Zsz:Zer Tryz.prog 35 (.agg #[.int .i64 0,.slice none 0 0]):=⟨by kernel_rfl⟩
instance Zqp:Fld Tryz.prog 35 1 1:=⟨_,_,0,Tryz.underlying35,rfl,rfl,by kernel_rfl⟩
abbrev Znm:=uM Tryz.underlying37
instance ZsA:Siz Tryz.prog 37 12:=⟨by kernel_rfl⟩
instance ZsB:Zer Tryz.prog 37 (.agg #[.bool false,.bool false,.bool false,.bool false,.bool false,.bool false,.bool false,.slice none 0 0,.slice none 0 0,.int .i64 0,.slice none 0 0,.int .i64 0]):=⟨by kernel_rfl⟩
instance Zqq:Fld Tryz.prog 37 0 0:=⟨_,_,6,Tryz.underlying37,rfl,rfl,by kernel_rfl⟩
instance Zqr:Fld Tryz.prog 37 1 7:=⟨_,_,0,Tryz.underlying37,rfl,rfl,by kernel_rfl⟩
instance Zqs:Fld Tryz.prog 37 2 8:=⟨_,_,0,Tryz.underlying37,rfl,rfl,by kernel_rfl⟩
instance Zqt:Fld Tryz.prog 37 3 9:=⟨_,_,1,Tryz.underlying37,rfl,rfl,by kernel_rfl⟩
abbrev Znn:=uM Tryz.underlying40
instance ZsC:Siz Tryz.prog 40 1:=⟨by kernel_rfl⟩
abbrev Zno:=uM Tryz.underlying41
instance ZsD:Siz Tryz.prog 41 1:=⟨by kernel_rfl⟩
instance ZsE:Zer Tryz.prog 41 (.int .i64 0):=⟨by kernel_rfl⟩
abbrev Znp:=uM Tryz.underlying45
instance ZsF:Siz Tryz.prog 45 1:=⟨by kernel_rfl⟩
instance ZsG:Zer Tryz.prog 45 (.slice none 0 0):=⟨by kernel_rfl⟩
abbrev Znq:=uM Tryz.underlying51
instance ZsH:Siz Tryz.prog 51 2:=⟨by kernel_rfl⟩
instance ZsI:Byt Tryz.prog 51 16:=⟨by kernel_rfl⟩
instance ZsJ:Zer Tryz.prog 51 (.agg #[.int .i64 0,.int .i64 0]):=⟨by kernel_rfl⟩
instance Zqu:Fld Tryz.prog 51 0 0:=⟨_,_,0,Tryz.underlying51,rfl,rfl,by kernel_rfl⟩
instance Zqv:Fld Tryz.prog 51 1 1:=⟨_,_,0,Tryz.underlying51,rfl,rfl,by kernel_rfl⟩
abbrev Znr:=uM Tryz.underlying77
instance ZsK:Siz Tryz.prog 77 3:=⟨by kernel_rfl⟩
instance ZsL:Byt Tryz.prog 77 24:=⟨by kernel_rfl⟩
instance ZsM:Zer Tryz.prog 77 (.agg #[.int .i64 0,.int .i64 0,.int .i64 0]):=⟨by kernel_rfl⟩
instance Zqw:Fld Tryz.prog 77 0 0:=⟨_,_,0,Tryz.underlying77,rfl,rfl,by kernel_rfl⟩
instance Zqx:Fld Tryz.prog 77 1 1:=⟨_,_,0,Tryz.underlying77,rfl,rfl,by kernel_rfl⟩
instance Zqy:Fld Tryz.prog 77 2 2:=⟨_,_,0,Tryz.underlying77,rfl,rfl,by kernel_rfl⟩
abbrev Zns:=uM Tryz.underlying83
instance ZsN:Siz Tryz.prog 83 7:=⟨by kernel_rfl⟩
instance ZsO:Zer Tryz.prog 83 (.agg #[.int .i64 0,.int .i64 0,.int .i64 0,.int .i64 0,.int .i64 0,.int .i64 0,.int .i64 0]):=⟨by kernel_rfl⟩
abbrev Znt:=uM Tryz.underlying88
instance ZsP:Siz Tryz.prog 88 1:=⟨by kernel_rfl⟩
instance ZsQ:Zer Tryz.prog 88 (.slice none 0 0):=⟨by kernel_rfl⟩
abbrev Znu:=uM Tryz.underlying93
instance ZsR:Siz Tryz.prog 93 7:=⟨by kernel_rfl⟩
instance ZsS:Zer Tryz.prog 93 (.agg #[.string ByteArray.empty,.int .i64 0,.string ByteArray.empty,.slice none 0 0,.slice none 0 0,.string ByteArray.empty,.string ByteArray.empty]):=⟨by kernel_rfl⟩
instance Zqz:Fld Tryz.prog 93 3 3:=⟨_,_,0,Tryz.underlying93,rfl,rfl,by kernel_rfl⟩
instance ZqA:Fld Tryz.prog 93 4 4:=⟨_,_,0,Tryz.underlying93,rfl,rfl,by kernel_rfl⟩
abbrev Znv:=uM Tryz.underlying97
instance ZsT:Siz Tryz.prog 97 13:=⟨by kernel_rfl⟩
instance ZsU:Byt Tryz.prog 97 184:=⟨by kernel_rfl⟩
instance ZsV:Zer Tryz.prog 97 (.agg #[.string ByteArray.empty,.int .i64 0,.string ByteArray.empty,.int .i64 0,.int .i64 0,.string ByteArray.empty,.slice none 0 0,.int .i64 0,.int .i64 0,.string ByteArray.empty,.slice none 0 0,.string ByteArray.empty,.string ByteArray.empty]):=⟨by kernel_rfl⟩
instance ZqB:Fld Tryz.prog 97 0 0:=⟨_,_,0,Tryz.underlying97,rfl,rfl,by kernel_rfl⟩
instance ZqC:Fld Tryz.prog 97 1 1:=⟨_,_,0,Tryz.underlying97,rfl,rfl,by kernel_rfl⟩
instance ZqD:Fld Tryz.prog 97 2 2:=⟨_,_,0,Tryz.underlying97,rfl,rfl,by kernel_rfl⟩
instance ZqE:Fld Tryz.prog 97 3 3:=⟨_,_,3,Tryz.underlying97,rfl,rfl,by kernel_rfl⟩
instance ZqF:Fld Tryz.prog 97 4 7:=⟨_,_,3,Tryz.underlying97,rfl,rfl,by kernel_rfl⟩
instance ZqG:Fld Tryz.prog 97 5 11:=⟨_,_,0,Tryz.underlying97,rfl,rfl,by kernel_rfl⟩
instance ZqH:Fld Tryz.prog 97 6 12:=⟨_,_,0,Tryz.underlying97,rfl,rfl,by kernel_rfl⟩
instance Znw:Fld Tryz.prog 103 0 0:=⟨_,_,0,Tryz.underlying103,rfl,rfl,by kernel_rfl⟩
instance Znx:Fld Tryz.prog 103 1 1:=⟨_,_,0,Tryz.underlying103,rfl,rfl,by kernel_rfl⟩
abbrev ZjV:=uM Tryz.underlying111
instance ZqR:Siz Tryz.prog 111 2:=⟨by kernel_rfl⟩
instance ZqS:Byt Tryz.prog 111 16:=⟨by kernel_rfl⟩
instance ZqT:Zer Tryz.prog 111 (.agg #[.int .i64 0,.int .i64 0]):=⟨by kernel_rfl⟩
abbrev ZjW:=uM Tryz.underlying119
abbrev ZjX:=uM Tryz.underlying124
instance Zny:Fld Tryz.prog 126 0 0:=⟨_,_,6,Tryz.underlying126,rfl,rfl,by kernel_rfl⟩
instance Znz:Fld Tryz.prog 126 1 7:=⟨_,_,11,Tryz.underlying126,rfl,rfl,by kernel_rfl⟩
instance ZnA:Fld Tryz.prog 126 2 19:=⟨_,_,0,Tryz.underlying126,rfl,rfl,by kernel_rfl⟩
instance ZnB:Fld Tryz.prog 126 3 20:=⟨_,_,0,Tryz.underlying126,rfl,rfl,by kernel_rfl⟩
instance ZnC:Fld Tryz.prog 126 4 21:=⟨_,_,0,Tryz.underlying126,rfl,rfl,by kernel_rfl⟩
instance ZnD:Fld Tryz.prog 126 5 22:=⟨_,_,0,Tryz.underlying126,rfl,rfl,by kernel_rfl⟩
instance ZnE:Fld Tryz.prog 126 6 23:=⟨_,_,0,Tryz.underlying126,rfl,rfl,by kernel_rfl⟩
instance ZnF:Fld Tryz.prog 126 7 24:=⟨_,_,0,Tryz.underlying126,rfl,rfl,by kernel_rfl⟩
instance ZqU:Zer Tryz.prog 156 (.agg #[.slice none 0 0]):=⟨by kernel_rfl⟩
instance ZnG:Fld Tryz.prog 156 0 0:=⟨_,_,0,Tryz.underlying156,rfl,rfl,by kernel_rfl⟩
abbrev ZjY:=uM Tryz.underlying157
abbrev ZjZ:=uM Tryz.underlying159
instance ZqV:Siz Tryz.prog 159 1:=⟨by kernel_rfl⟩
instance ZqW:Zer Tryz.prog 159 (.nilFunc):=⟨by kernel_rfl⟩
abbrev Zk0:=uM Tryz.underlying167
instance ZqX:Siz Tryz.prog 167 4:=⟨by kernel_rfl⟩
instance ZqY:Byt Tryz.prog 167 40:=⟨by kernel_rfl⟩
instance ZqZ:Zer Tryz.prog 167 (.agg #[.int .i64 0,.int .i64 0,.string ByteArray.empty,.int .i64 0]):=⟨by kernel_rfl⟩
instance ZnH:Fld Tryz.prog 167 0 0:=⟨_,_,0,Tryz.underlying167,rfl,rfl,by kernel_rfl⟩
instance ZnI:Fld Tryz.prog 167 1 1:=⟨_,_,0,Tryz.underlying167,rfl,rfl,by kernel_rfl⟩
instance ZnJ:Fld Tryz.prog 167 2 2:=⟨_,_,0,Tryz.underlying167,rfl,rfl,by kernel_rfl⟩
instance ZnK:Fld Tryz.prog 167 3 3:=⟨_,_,0,Tryz.underlying167,rfl,rfl,by kernel_rfl⟩
abbrev Zk1:=uM Tryz.underlying168
instance ZnL:Fld Tryz.prog 170 0 0:=⟨_,_,0,Tryz.underlying170,rfl,rfl,by kernel_rfl⟩
instance ZnM:Fld Tryz.prog 170 1 1:=⟨_,_,0,Tryz.underlying170,rfl,rfl,by kernel_rfl⟩
instance ZnN:Fld Tryz.prog 170 2 2:=⟨_,_,0,Tryz.underlying170,rfl,rfl,by kernel_rfl⟩
abbrev Zk2:=uM Tryz.underlying187
instance Zr0:Siz Tryz.prog 187 9:=⟨by kernel_rfl⟩
instance Zr1:Byt Tryz.prog 187 72:=⟨by kernel_rfl⟩
instance Zr2:Zer Tryz.prog 187 (.agg #[.int .i64 0,.int .i64 0,.int .i64 0,.int .i64 0,.int .i64 0,.int .i64 0,.int .i64 0,.int .i64 0,.int .i64 0]):=⟨by kernel_rfl⟩
instance ZnO:Fld Tryz.prog 187 0 0:=⟨_,_,0,Tryz.underlying187,rfl,rfl,by kernel_rfl⟩
instance ZnP:Fld Tryz.prog 187 1 1:=⟨_,_,0,Tryz.underlying187,rfl,rfl,by kernel_rfl⟩
instance ZnQ:Fld Tryz.prog 187 2 2:=⟨_,_,0,Tryz.underlying187,rfl,rfl,by kernel_rfl⟩
instance ZnR:Fld Tryz.prog 187 3 3:=⟨_,_,0,Tryz.underlying187,rfl,rfl,by kernel_rfl⟩
instance ZnS:Fld Tryz.prog 187 4 4:=⟨_,_,0,Tryz.underlying187,rfl,rfl,by kernel_rfl⟩
instance ZnT:Fld Tryz.prog 187 5 5:=⟨_,_,0,Tryz.underlying187,rfl,rfl,by kernel_rfl⟩
instance ZnU:Fld Tryz.prog 187 6 6:=⟨_,_,0,Tryz.underlying187,rfl,rfl,by kernel_rfl⟩
instance ZnV:Fld Tryz.prog 187 7 7:=⟨_,_,0,Tryz.underlying187,rfl,rfl,by kernel_rfl⟩
instance ZnW:Fld Tryz.prog 187 8 8:=⟨_,_,0,Tryz.underlying187,rfl,rfl,by kernel_rfl⟩
instance Zr3:Siz Tryz.prog 190 2:=⟨by kernel_rfl⟩
instance Zr4:Byt Tryz.prog 190 16:=⟨by kernel_rfl⟩
instance Zr5:Zer Tryz.prog 190 (.agg #[.int .i64 0,.int .i64 0]):=⟨by kernel_rfl⟩
instance ZnX:Fld Tryz.prog 190 0 0:=⟨_,_,0,Tryz.underlying190,rfl,rfl,by kernel_rfl⟩
abbrev Zk3:=uM Tryz.underlying204
instance Zr6:Zer Tryz.prog 204 (.slice none 0 0):=⟨by kernel_rfl⟩
abbrev Zk4:=uM Tryz.underlying210
instance Zr7:Siz Tryz.prog 210 2:=⟨by kernel_rfl⟩
instance Zr8:Zer Tryz.prog 210 (.agg #[.int .i64 0,.int .i64 0]):=⟨by kernel_rfl⟩
instance ZnY:Fld Tryz.prog 210 0 0:=⟨_,_,0,Tryz.underlying210,rfl,rfl,by kernel_rfl⟩
instance ZnZ:Fld Tryz.prog 210 1 1:=⟨_,_,0,Tryz.underlying210,rfl,rfl,by kernel_rfl⟩
abbrev Zk5:=uM Tryz.underlying227
abbrev Zk6:=uM Tryz.underlying238
abbrev Zk7:=uM Tryz.underlying241
instance Zr9:Siz Tryz.prog 241 3:=⟨by kernel_rfl⟩
instance Zra:Zer Tryz.prog 241 (.agg #[.int .i64 0,.int .i64 0,.int .i64 0]):=⟨by kernel_rfl⟩
abbrev Zk8:=uM Tryz.underlying243
abbrev Zk9:=uM Tryz.underlying262
abbrev Zka:=uM Tryz.underlying263
abbrev Zkb:=uM Tryz.underlying274
abbrev Zkc:=uM Tryz.underlying291
instance Zrb:Siz Tryz.prog 291 3:=⟨by kernel_rfl⟩
instance Zrc:Zer Tryz.prog 291 (.agg #[.int .i64 0,.int .i64 0,.int .i64 0]):=⟨by kernel_rfl⟩
instance Zo0:Fld Tryz.prog 291 0 0:=⟨_,_,0,Tryz.underlying291,rfl,rfl,by kernel_rfl⟩
instance Zo1:Fld Tryz.prog 291 1 1:=⟨_,_,0,Tryz.underlying291,rfl,rfl,by kernel_rfl⟩
instance Zo2:Fld Tryz.prog 291 2 2:=⟨_,_,0,Tryz.underlying291,rfl,rfl,by kernel_rfl⟩
abbrev Zkd:=uM Tryz.underlying297
abbrev Zke:=uM Tryz.underlying303
abbrev Zkf:=uM Tryz.underlying322
abbrev Zkg:=uM Tryz.underlying326
abbrev Zkh:=uM Tryz.underlying329
instance Zrd:Siz Tryz.prog 329 2:=⟨by kernel_rfl⟩
instance Zre:Byt Tryz.prog 329 16:=⟨by kernel_rfl⟩
instance Zrf:Zer Tryz.prog 329 (.agg #[.int .i64 0,.int .i64 0]):=⟨by kernel_rfl⟩
instance Zo3:Fld Tryz.prog 329 0 0:=⟨_,_,0,Tryz.underlying329,rfl,rfl,by kernel_rfl⟩
abbrev Zki:=uM Tryz.underlying340
instance Zrg:Siz Tryz.prog 342 2:=⟨by kernel_rfl⟩
instance Zo4:Fld Tryz.prog 342 1 1:=⟨_,_,0,Tryz.underlying342,rfl,rfl,by kernel_rfl⟩
abbrev Zkj:=uM Tryz.underlying343
instance Zrh:Siz Tryz.prog 343 8:=⟨by kernel_rfl⟩
instance Zri:Zer Tryz.prog 343 (.agg #[.nilFunc,.nilFunc,.nilFunc,.nilFunc,.nilFunc,.nilFunc,.nilFunc,.nilFunc]):=⟨by kernel_rfl⟩
abbrev Zkk:=uM Tryz.underlying345
abbrev Zo5:=mkF Tryz.func12
abbrev Zo6:=mkF Tryz.func14
abbrev Zo7:=mkF Tryz.func18
abbrev Zo8:=mkF Tryz.func20
abbrev Zo9:=mkF Tryz.func23
abbrev Zoa:=mkF Tryz.func27
abbrev Zob:=mkF Tryz.func28
abbrev Zoc:=mkF Tryz.func34
abbrev Zod:=mkF Tryz.func35
abbrev Zoe:=mkF Tryz.func36
abbrev Zof:=mkF Tryz.func37
abbrev Zog:=mkF Tryz.func38
abbrev Zoh:=mkF Tryz.func40
abbrev Zoi:=mkF Tryz.func41
abbrev Zoj:=mkF Tryz.func42
abbrev Zok:=mkF Tryz.func43
abbrev Zol:=mkF Tryz.func44
abbrev Zom:=mkF Tryz.func45
abbrev Zon:=mkF Tryz.func48
abbrev Zoo:=mkF Tryz.func49
abbrev Zop:=mkF Tryz.func50
abbrev Zoq:=mkF Tryz.func57
abbrev Zor:=mkF Tryz.func58
abbrev Zos:=mkF Tryz.func59
abbrev Zot:=mkF Tryz.func63
abbrev Zou:=mkF Tryz.func64
abbrev Zov:=mkF Tryz.func76
abbrev Zow:=mkF Tryz.func77
abbrev Zox:=mkF Tryz.func78
abbrev Zoy:=mkF Tryz.func79
abbrev Zoz:=mkF Tryz.func81
abbrev ZoA:=mkF Tryz.func82
abbrev ZoB:=mkF Tryz.func83
abbrev ZoC:=mkF Tryz.func84
abbrev ZoD:=mkF Tryz.func85
abbrev ZoE:=mkF Tryz.func86
abbrev ZoF:=mkF Tryz.func87
abbrev ZoG:=mkF Tryz.func88
abbrev ZoH:=mkF Tryz.func89
abbrev ZoI:=mkF Tryz.func90
abbrev ZoJ:=mkF Tryz.func91
abbrev ZoK:=mkF Tryz.func92
abbrev ZoL:=mkF Tryz.func94
abbrev ZoM:=mkF Tryz.func95
abbrev ZoN:=mkF Tryz.func96
abbrev ZoO:=mkF Tryz.func97
abbrev ZoP:=mkF Tryz.func98
abbrev ZoQ:=mkF Tryz.func99
abbrev Zkl:=mkF Tryz.func109
abbrev Zkm:=mkF Tryz.func110
abbrev Zkn:=mkF Tryz.func111
abbrev Zko:=mkF Tryz.func112
abbrev Zkp:=mkF Tryz.func117
abbrev Zkq:=mkF Tryz.func118
abbrev Zkr:=mkF Tryz.func119
abbrev Zks:=mkF Tryz.func120
abbrev Zkt:=mkF Tryz.func127
abbrev Zku:=mkF Tryz.func136
abbrev Zkv:=mkF Tryz.func137
abbrev Zkw:=mkF Tryz.func138
abbrev Zkx:=mkF Tryz.func139
abbrev Zky:=mkF Tryz.func140
abbrev Zkz:=mkF Tryz.func141
abbrev ZkA:=mkF Tryz.func142
abbrev ZkB:=mkF Tryz.func143
abbrev ZkC:=mkF Tryz.func144
abbrev ZkD:=mkF Tryz.func145
abbrev ZkE:=mkF Tryz.func146
abbrev ZkF:=mkF Tryz.func147
abbrev ZkG:=mkF Tryz.func148
abbrev ZkH:=mkF Tryz.func149
abbrev ZkI:=mkF Tryz.func150
abbrev ZkJ:=mkF Tryz.func151
abbrev ZkK:=mkF Tryz.func152
abbrev ZkL:=mkF Tryz.func153
abbrev ZkM:=mkF Tryz.func154
abbrev ZkN:=mkF Tryz.func155
abbrev ZkO:=mkF Tryz.func156
abbrev ZkP:=mkF Tryz.func157
abbrev ZkQ:=mkF Tryz.func158
abbrev ZkR:=mkF Tryz.func159
abbrev ZkS:=mkF Tryz.func161
abbrev ZkT:=mkF Tryz.func164
abbrev ZkU:=mkF Tryz.func165
abbrev ZkV:=mkF Tryz.func166
abbrev ZkW:=mkF Tryz.func167
abbrev ZkX:=mkF Tryz.func168
abbrev ZkY:=mkF Tryz.func169
abbrev ZkZ:=mkF Tryz.func170
abbrev Zl0:=mkF Tryz.func171
abbrev Zl1:=mkF Tryz.func172
abbrev Zl2:=mkF Tryz.func173
abbrev Zl3:=mkF Tryz.func174
abbrev Zl4:=mkF Tryz.func175
abbrev Zl5:=mkF Tryz.func176
abbrev Zl6:=mkF Tryz.func177
abbrev Zl7:=mkF Tryz.func178
abbrev Zl8:=mkF Tryz.func179
abbrev Zl9:=mkF Tryz.func180
abbrev Zla:=mkF Tryz.func185
abbrev Zlb:=mkF Tryz.func186
abbrev Zlc:=mkF Tryz.func187
abbrev Zld:=mkF Tryz.func202
abbrev Zle:=mkF Tryz.func203
abbrev Zlf:=mkF Tryz.func204
abbrev Zlg:=mkF Tryz.func205
abbrev Zlh:=mkF Tryz.func206
abbrev Zli:=mkF Tryz.func207
abbrev Zlj:=mkF Tryz.func208
abbrev Zlk:=mkF Tryz.func209
abbrev Zll:=mkF Tryz.func210
abbrev Zlm:=mkF Tryz.func211
abbrev Zln:=mkF Tryz.func212
abbrev Zlo:=mkF Tryz.func213
abbrev Zlp:=mkF Tryz.func214
abbrev Zlq:=mkF Tryz.func215
abbrev Zlr:=mkF Tryz.func217
abbrev Zls:=mkF Tryz.func224
abbrev Zlt:=mkF Tryz.func225
abbrev Zlu:=mkF Tryz.func226
abbrev Zlv:=mkF Tryz.func227
abbrev Zlw:=mkF Tryz.func228
abbrev Zlx:=mkF Tryz.func229
abbrev Zly:=mkF Tryz.func230
abbrev Zlz:=mkF Tryz.func231
abbrev ZlA:=mkF Tryz.func232
abbrev ZlB:=mkF Tryz.func233
abbrev ZlC:=mkF Tryz.func234
abbrev ZlD:=mkF Tryz.func235
abbrev ZlE:=mkF Tryz.func236
abbrev ZlF:=mkF Tryz.func238
abbrev ZlG:=mkF Tryz.func239
abbrev ZlH:=mkF Tryz.func251
abbrev ZlI:=mkF Tryz.func252
abbrev ZlJ:=mkF Tryz.func253
abbrev ZlK:=mkF Tryz.func254
abbrev ZlL:=mkF Tryz.func255
abbrev ZlM:=mkF Tryz.func256
abbrev ZlN:=mkF Tryz.func257
abbrev ZlO:=mkF Tryz.func258
abbrev ZlP:=mkF Tryz.func264
abbrev ZlQ:=mkF Tryz.func267
abbrev ZlR:=mkF Tryz.func268
abbrev ZlS:=mkF Tryz.func269
abbrev ZlT:=mkF Tryz.func270
abbrev ZlU:=mkF Tryz.func271
abbrev ZlV:=mkF Tryz.func272
abbrev ZlW:=mkF Tryz.func273
abbrev ZlX:=mkF Tryz.func274
abbrev ZlY:=mkF Tryz.func275
abbrev ZlZ:=mkF Tryz.func280
abbrev Zm0:=mkF Tryz.func281
abbrev Zm1:=mkF Tryz.func282
abbrev Zm2:=mkF Tryz.func283
abbrev Zm3:=mkF Tryz.func284
abbrev Zm4:=mkF Tryz.func285
abbrev Zm5:=mkF Tryz.func286
abbrev Zm6:=mkF Tryz.func292
abbrev Zm7:=mkF Tryz.func293
abbrev Zm8:=mkF Tryz.func294
abbrev Zm9:=mkF Tryz.func297
abbrev Zma:=mkF Tryz.func300
abbrev Zmb:=mkF Tryz.func305
abbrev Zmc:=mkF Tryz.func306
abbrev Zmd:=mkF Tryz.func307
abbrev Zme:=mkF Tryz.func310
abbrev Zmf:=mkF Tryz.func312
abbrev Zmg:=mkF Tryz.func314
abbrev Zmh:=mkF Tryz.func325
abbrev Zmi:=mkF Tryz.func329
abbrev Zmj:=mkF Tryz.func330
abbrev Zmk:=mkF Tryz.func331
abbrev Zml:=mkF Tryz.func339
abbrev Zmm:=mkF Tryz.func341
abbrev Zmn:=mkF Tryz.func342
abbrev Zmo:=mkF Tryz.func344
abbrev Zmp:=mkF Tryz.func346
abbrev Zmq:=mkF Tryz.func347
abbrev Zmr:=mkF Tryz.func348
abbrev Zms:=mkF Tryz.func354
abbrev CC (f:Nat) (a:Array Value) (w:World) (G:Value→World→Prop):=Calls Tryz.prog f a w (Ret G)
attribute [instance] ZqN ZqO ZqP ZqQ Zna Znb Znc Znd Zne Znf Zng Znh Zni Znj Znk Znl Znm Znn Zno Znp Znq Znr Zns Znt Znu Znv ZjV ZjW ZjX ZjY ZjZ Zk0 Zk1 Zk2 Zk3 Zk4 Zk5 Zk6 Zk7 Zk8 Zk9 Zka Zkb Zkc Zkd Zke Zkf Zkg Zkh Zki Zkj Zkk Zo5 Zo6 Zo7 Zo8 Zo9 Zoa Zob Zoc Zod Zoe Zof Zog Zoh Zoi Zoj Zok Zol Zom Zon Zoo Zop Zoq Zor Zos Zot Zou Zov Zow Zox Zoy Zoz ZoA ZoB ZoC ZoD ZoE ZoF ZoG ZoH ZoI ZoJ ZoK ZoL ZoM ZoN ZoO ZoP ZoQ Zkl Zkm Zkn Zko Zkp Zkq Zkr Zks Zkt Zku Zkv Zkw Zkx Zky Zkz ZkA ZkB ZkC ZkD ZkE ZkF ZkG ZkH ZkI ZkJ ZkK ZkL ZkM ZkN ZkO ZkP ZkQ ZkR ZkS ZkT ZkU ZkV ZkW ZkX ZkY ZkZ Zl0 Zl1 Zl2 Zl3 Zl4 Zl5 Zl6 Zl7 Zl8 Zl9 Zla Zlb Zlc Zld Zle Zlf Zlg Zlh Zli Zlj Zlk Zll Zlm Zln Zlo Zlp Zlq Zlr Zls Zlt Zlu Zlv Zlw Zlx Zly Zlz ZlA ZlB ZlC ZlD ZlE ZlF ZlG ZlH ZlI ZlJ ZlK ZlL ZlM ZlN ZlO ZlP ZlQ ZlR ZlS ZlT ZlU ZlV ZlW ZlX ZlY ZlZ Zm0 Zm1 Zm2 Zm3 Zm4 Zm5 Zm6 Zm7 Zm8 Zm9 Zma Zmb Zmc Zmd Zme Zmf Zmg Zmh Zmi Zmj Zmk Zml Zmm Zmn Zmo Zmp Zmq Zmr Zms
end Go.Proofs.YtjdjdoefppebkaaGreatDoor
namespace Go.Eng
open Go Go.RowKit Go.Proofs
inductive Nd where
 | mk (kind n:Int) (s:Str) (kids:List Nd)
namespace Nd
def kind:Nd→Int|mk k _ _ _=>k
def num:Nd→Int|mk _ n _ _=>n
def word:Nd→Str|mk _ _ s _=>s
def kids:Nd→List Nd|mk _ _ _ l=>l
theorem eta (x:Nd):x=mk x.kind x.num x.word x.kids:=by cases x;rfl
theorem ind {P:Nd→Prop} (h:∀ k n s l,(∀ x∈l,P x)→P (mk k n s l)):∀ x,P x
 | mk k n s l=>h k n s l (fun x hx=>ind h x)
 decreasing_by
  have:=List.sizeOf_lt_of_mem hx
  simp only [mk.sizeOf_spec]
  omega
end Nd
inductive Z4D (X:List Nat) (w:World):Nd→List Value→Prop
 | mk (k n : Int) (s : Str) (l : List Nd) (p : Option Addr) (c : Nat) (b o : Nat) (css : Nat → List Value) (hl : l.length ≤ c) (hm : c ≤ maxLen) (hn : p = none → c = 0)
    (hp:0<l.length→p=some ⟨b,o,none⟩∧b<w.heap.size∧b∉X) (hr:∀ i (h:i<l.length),Z4D X w l[i] (css i))
    (hc:∀ i,i<l.length→∀ j u,(css i)[j]?=some u→w.cell? ⟨b,o+i * 4+j,none⟩=some u) :
    Z4D X w (.mk k n s l) [.int .i64 k,.int .i64 n,str s,.slice p l.length c]
theorem Z4D.ext {X S X':List Nat} {w w':World} {x:Nd} {cs:List Value} (h:Z4D X w x cs) (hS:Stp S w w') (h1:∀ b∈S,b∈X) (h2:∀ b∈X',b∈X∨w.heap.size≤b):Z4D X' w' x cs:=by
 induction h with
 | mk k n s l p c b o css hl hm hn hp hr hc ih=>
   refine .mk k n s l p c b o css hl hm hn (fun h0=>?_) ih (fun i hi j u hu=>?_)
   obtain ⟨e1,e2,e3⟩:=hp h0
   refine ⟨e1,Xa e2 hS.size,fun hb=>?_⟩
   rcases h2 b hb with h|h
   exact e3 h
   omega
   obtain ⟨_,_,e3⟩:=hp (by omega)
   exact hS.cell (fun hb=>e3 (h1 b hb)) (hc i hi j u hu)
instance:Zf Nd where
 k:=4
 rep:=Z4D
 len:=by intro X w x cs h;cases h;rfl
 one:=by
  intro X w x cs h u hu
  cases h
  simp at hu
  rcases hu with rfl|rfl|rfl|rfl<;>rfl
 ext:=Z4D.ext
def NdV (X:List Nat) (w:World) (v:Value) (x:Nd):Prop:=∃ kv,v=.agg #[.int .i64 x.kind,.int .i64 x.num,str x.word,kv]∧SlV X w kv x.kids
theorem Zfs {X:List Nat} {w:World} {x:Nd} {cs:List Value} (h:Z4D X w x cs):∃ kv,cs=[.int .i64 x.kind,.int .i64 x.num,str x.word,kv]∧SlV X w kv x.kids:=by
 cases h with
 | mk k n s l p c b o css hl hm hn hp hr hc=>
   refine ⟨_,rfl,p,c,rfl,hl,hm,hn,fun i hi=>?_⟩
   obtain ⟨e1,e2,e3⟩:=hp (by show 0<l.length;have:i<l.length:=hi;omega)
   exact ⟨b,o,css i,e1,e2,e3,hr i hi,hc i hi⟩
theorem Z2Y {X:List Nat} {w:World} {k n:Int} {s:Str} {l:List Nd} {kv:Value} (h:SlV X w kv l):Z4D X w (.mk k n s l) [.int .i64 k,.int .i64 n,str s,kv]:=by
 obtain ⟨p,c,rfl,hl,hm,hn,hc⟩:=h
 have hall:∀ i:Fin l.length,∃ cs:List Value,∃ b o,p=some ⟨b,o,none⟩∧b<w.heap.size∧b∉X∧Z4D X w l[i] cs∧∀ j u,cs[j]?=some u→w.cell? ⟨b,o+i * 4+j,none⟩=some u:=by
  intro i
  obtain ⟨b,o,cs,h1,h2,h3,h4,h5⟩:=hc i i.2
  exact ⟨cs,b,o,h1,h2,h3,h4,h5⟩
 obtain ⟨f,hf⟩:=Classical.axiomOfChoice hall
 by_cases h0:0<l.length
 obtain ⟨b,o,e1,e2,e3,_⟩:=hf ⟨0,h0⟩
 refine .mk k n s l p c b o (fun i=>if h:i<l.length then f ⟨i,h⟩ else []) hl hm hn (fun _=>⟨e1,e2,e3⟩) (fun i hi=>?_) (fun i hi j u hu=>?_)
 obtain ⟨_,_,_,_,_,g,_⟩:=hf ⟨i,hi⟩
 simpa [hi] using g
 obtain ⟨b',o',g1,_,_,_,g⟩:=hf ⟨i,hi⟩
 rw [e1] at g1
 simp only [Xj,Addr.mk.injEq] at g1
 obtain ⟨rfl,rfl,_⟩:=g1
 exact g j u (by simpa [hi] using hu)
 exact .mk k n s l p c 0 0 (fun _=>[]) hl hm hn (fun h=>absurd h h0) (fun i hi=>by omega) (fun i hi=>by omega)
theorem NdV.up {X:List Nat} {w w':World} {v:Value} {x:Nd} (h:NdV X w v x) (hS:Stp [] w w'):NdV X w' v x:=by
 obtain ⟨kv,rfl,hs⟩:=h
 exact ⟨kv,rfl,hs.up hS⟩
theorem SlV.nd {X:List Nat} {w:World} {v:Value} {l:List Nd} {i:Nat} (h:SlV X w v l) (hi:i<l.length):∃ kv,SlV X w kv l[i].kids∧∀ j u,[Value.int .i64 l[i].kind,.int .i64 l[i].num,str l[i].word,kv][j]?=some u→w.cell? (ZL v i 4 j)=some u:=by
 obtain ⟨cs,hr,hc⟩:=h.cell hi
 obtain ⟨kv,rfl,hs⟩:=Zfs hr
 exact ⟨kv,hs,hc⟩
section
variable {P:Program} {n:Nat} {e:Env} {w:World} {d:Option Nat} {ty:TypeId} {pos:String} {af:Array Edge} {g:Option (Nat×Bool)}
theorem ZC {X:List Nat} {v:Value} {l:List Nd} {i:Nat} {kv:Value} {x:Operand} {t:TypeId} {D:TypeDesc} [hu:Und P t D] (hA:JX D=true) [hsz:Siz P t 4] (hx:ev e x=some (.pointer (some (ZL v i 4 0)))) (hs:SlV X w v l) (hi:i<l.length)
 (hc:∀ j u,[Value.int .i64 l[i].kind,.int .i64 l[i].num,str l[i].word,kv][j]?=some u→w.cell? (ZL v i 4 j)=some u) :
 PR P n ⟨d,.load t x,ty,pos,af,g⟩ e w (.agg #[.int .i64 l[i].kind,.int .i64 l[i].num,str l[i].word,kv]):=by
 obtain ⟨p,l',c,rfl⟩:=hs.isSome hi
 refine Z3S (cs:=[.int .i64 l[i].kind,.int .i64 l[i].num,str l[i].word,kv]) hA hx rfl (fun j u hu=>?_)
 have:=hc j u hu
 simpa [ZL] using this
end
end Go.Eng
namespace Go.Proofs.YtjdjdoefppebkaaGreatDoor
open Go Go.Eng Go.RowKit
abbrev ndC (x:Nd) (kv:Value):List Value:=[.int .i64 x.kind,.int .i64 x.num,str x.word,kv]
theorem Zk {X:List Nat} {w:World} {x:Nd} {kv:Value} {l:List Nd} (h:SlV X w kv l):∀ c∈ndC x kv,c.oneCell'=true:=by
 intro c hc
 simp only [ndC,Xf,Xk,or_false] at hc
 rcases hc with rfl|rfl|rfl|rfl
 rfl
 rfl
 rfl
 exact h.one
def Z1k:Nat→Nd→Bool
 | 0,_=>false
 | m+1,x=>x.kids.all (Z1k m)
theorem Z85 {α:Type} (p:α→Bool) (l:List α) (k:Nat) (hk:k<l.length):(l.take (k+1)).all p=((l.take k).all p && p l[k]):=by
 rw [Xu hk,Ybb]
 simp
theorem ZbK (m:Nat):∀ (X:List Nat) (v:Value) (x:Nd) (z:Int) (w:World),z=(m:Int)→m≤1000→NdV X w v x→
 CC 91 #[v,.int .i64 z] w fun r w'=>r=.bool (Z1k m x)∧Stp [] w w':=by
 induction m with
 | zero=>
   intro X v x z w hz hm hx
   obtain ⟨kv,rfl,hs⟩:=hx
   refine cW2 22 Tryz.func91 ?_
   refine W ?_
   refine Z3 (Zs rfl) rfl ?_
   rintro _ w1 ⟨b,rfl,hb,hblk,hS⟩
   repeat'(first|refine W1 ?_|omega|refine VG ?_ ?_<;>intro hg|refine VC ?_ ?_<;>intro hc)
   refine WR ?_
   exact .mk ⟨rfl,hS⟩
 | succ m ih=>
   intro X v x z w hz hm hx
   obtain ⟨kv,rfl,hs⟩:=hx
   have hmax:=hs.max
   refine cW2 22 Tryz.func91 ?_
   refine W ?_
   refine Z3 (Zs rfl) rfl ?_
   rintro _ w1 ⟨b,rfl,hb,hblk,hS⟩
   replace hblk:Blk w1 b _ (ndC x kv):=hblk
   replace hs:=hs.up hS
   repeat'(first|refine W1 ?_|omega|refine VG ?_ ?_<;>intro hg|refine VC ?_ ?_<;>intro hc)
   have hs0:=hs
   refine ZD (σ:=Nat) (fun k=>[(1,.int .i64 z),(10,kv),(11,.int .i64 (x.kids.length:Int)),(12,.int .i64 k)]) (fun k w'=>k≤x.kids.length∧Stp [] w1 w'∧(x.kids.take k).all (Z1k m)=true) (fun k=>x.kids.length - k) 0 ⟨rfl,rfl,rfl,rfl,trivial⟩ ⟨Xy _,Stp.refl _ _,rfl⟩ ?_
   clear hs
   rintro k w2 ⟨hk,hS2,hall⟩
   have hs:=hs0.up hS2
   by_cases hlt:k<x.kids.length
   · have hnx:=Z85 (Z1k m) x.kids k hlt
     rw [hall,Bool.true_and] at hnx
     obtain ⟨kv2,hs2,hc2⟩:=hs.nd hlt
     repeat'(first|refine W1 ?_|omega|refine VG ?_ ?_<;>intro hg|refine VC ?_ ?_<;>intro hc)
     apply Z7 (ZC rfl rfl hs hlt hc2) rfl
     refine Z3 Z6 rfl ?_
     rintro _ w3 ⟨b3,rfl,hb3,hblk3,hS3⟩
     refine Z0 (Z1 (us:=ndC x.kids[k] kv2) rfl rfl rfl rfl (Zk hs2) hblk3 rfl) ?_
     rintro _ w4 ⟨hS4,hblk4⟩
     have hS34:=hS3.own hS4 (fun b hb=>.inr (by simp at hb;omega))
     replace hS2:=hS2.trans hS34
     replace hs2:=hs2.up hS34
     refine W ?_
     refine CL rfl (Z9 rfl rfl) rfl (ih X _ x.kids[k] _ _ (by omega) (by omega) ⟨kv2,rfl,hs2⟩) ?_
     rintro _ w5 ⟨rfl,hS5⟩
     replace hS2:=hS2.trans hS5
     cases hq:Z1k m x.kids[k] with
     | true=>
       refine W ?_
       exact Zr (k+1) ⟨rfl,rfl,rfl,rfl,trivial⟩ ⟨hlt,hS2,by rw [hnx,hq]⟩ (by omega)
     | false=>
       refine W ?_
       refine WR ?_
       refine .mk ⟨?_,hS.trans hS2⟩
       have:Z1k (m+1) x=false:=by
        show x.kids.all (Z1k m)=false
        rw [List.all_eq_false]
        exact ⟨_,Xg hlt,by simp [hq]⟩
       rw [this]
   have hke:k=x.kids.length:=by omega
   subst hke
   rw [XL] at hall
   focus repeat'(first|refine W1 ?_|omega|refine VG ?_ ?_<;>intro hg|refine VC ?_ ?_<;>intro hc)
   refine WR ?_
   refine .mk ⟨?_,hS.trans hS2⟩
   show _=Value.bool (x.kids.all (Z1k m))
   rw [hall]
end Go.Proofs.YtjdjdoefppebkaaGreatDoor
namespace Go.Eng
open Go Go.RowKit Go.Proofs
class ZbL (P:Program) (kt:Nat) (κ:outParam Type) [DecidableEq κ] where
 enc:κ→Value
 chk:∀ (em:Bool) (a:κ) (w:World),(Instr.checkKey em 10000 kt (enc a)).run P w=.ok () w
 find:∀ (a:κ) (es:List MapEntry) (l:List κ) (w:World),es.map (·.key)=l.map enc→
  (Instr.findKey kt (enc a) es).run P w=.ok ((l.findIdx? (fun b=>decide (b=a))).bind fun i=>(es[i]?).map fun e=>(i,e.val)) w
def Z03 {κ:Type} (enc:κ→Value) (w:World) (r:Nat) (l:List (κ×Value)):Prop:=
 ∃ (es:Array MapEntry) (clock:Nat),w.heap[r]?=some (.map es clock)∧es.toList.map (·.key)=l.map (fun p=>enc p.1)∧es.toList.map (·.val)=l.map (·.2)
theorem Z03.lt {κ:Type} {enc:κ→Value} {w:World} {r:Nat} {l:List (κ×Value)} (h:Z03 enc w r l):r<w.heap.size:=by
 obtain ⟨es,c,h1,_⟩:=h
 exact (Xl.1 h1).1
theorem Z03.ext {κ:Type} {enc:κ→Value} {S:List Nat} {w w':World} {r:Nat} {l:List (κ×Value)} (h:Z03 enc w r l) (hS:Stp S w w') (hr:r∉S):Z03 enc w' r l:=by
 have hlt:=h.lt
 obtain ⟨es,c,h1,h2⟩:=h
 exact ⟨es,c,by rw [hS.block r hlt hr];exact h1,h2⟩
theorem Z03.up {κ:Type} {enc:κ→Value} {w w':World} {r:Nat} {l:List (κ×Value)} (h:Z03 enc w r l) (hS:Stp [] w w'):Z03 enc w' r l:=h.ext hS (by simp)
def Z2Z {κ:Type} [DecidableEq κ] (l:List (κ×Value)) (a:κ) (z:Value):Value:=match l.find? (fun p=>decide (p.1=a)) with|some p=>p.2|none=>z
theorem Z4T {d:TypeDesc} {κ:Type} [DecidableEq κ] (enc:κ→Value) (h:∀ a b:κ,Instr.sameNow d (enc a) (enc b)=some (decide (a=b))) (a:κ):∀ (es:List MapEntry) (l:List κ) (i:Nat),es.map (·.key)=l.map enc→
 Instr.findNow d (enc a) es i=some ((l.findIdx? (fun b=>decide (b=a))).bind fun j=>(es[j]?).map fun e=>(i+j,e.val))
 | [],[],i,_=>by simp [Instr.findNow]
 | [],_ :: _,i,h=>by simp at h
 | _ :: _,[],i,h=>by simp at h
 | e :: es, b :: l, i, hk => by
   simp only [Xn,Yay] at hk
   obtain ⟨h1,h2⟩:=hk
   have ih:=Z4T enc h a es l (i+1) h2
   simp only [Instr.findNow,h1,h]
   by_cases hab:a=b
   subst hab
   simp [YaI]
   · have hba:¬ b=a:=fun h=>hab h.symm
     simp only [decide_eq_false hab,ih,YaI,decide_eq_false hba,XG,if_false]
     cases l.findIdx? (fun b=>decide (b=a)) with
     | none=>rfl
     | some j=>
       simp only [XQ,YaH,Yav]
       rw [show i+1+j=i+(j+1) by omega]
theorem Z4G {P:Program} {kt:Nat} {κ:Type} [DecidableEq κ] (enc:κ→Value) (h:∀ (a b:κ) (w:World),(Op.equal kt (enc a) (enc b)).run P w=.ok (decide (a=b)) w) (a:κ) (w:World):∀ (es:List MapEntry) (l:List κ) (i:Nat),es.map (·.key)=l.map enc→
 (Instr.findAsking kt (enc a) es i).run P w=.ok ((l.findIdx? (fun b=>decide (b=a))).bind fun j=>(es[j]?).map fun e=>(i+j,e.val)) w
 | [],[],i,_=>by simp [Instr.findAsking]
 | [],_ :: _,i,h=>by simp at h
 | _ :: _,[],i,h=>by simp at h
 | e :: es, b :: l, i, hk => by
   simp only [Xn,Yay] at hk
   obtain ⟨h1,h2⟩:=hk
   have ih:=Z4G enc h a w es l (i+1) h2
   simp only [Instr.findAsking,h1]
   by_cases hab:a=b
   subst hab
   simp [YaI,h]
   · have hba:¬ b=a:=fun h=>hab h.symm
     simp only [Sem.run_bind,h,decide_eq_false hab,Result.andThen,YaI,decide_eq_false hba,XG,if_false,ih]
     cases l.findIdx? (fun b=>decide (b=a)) with
     | none=>rfl
     | some j=>
       simp only [XQ,YaH,Yav]
       rw [show i+1+j=i+(j+1) by omega]
instance {P:Program} {kt:Nat} [hu:Und P kt (.int .i64)]:ZbL P kt Int where
 enc:=fun z=>.int .i64 z
 chk:=fun em a w=>MapKept.run_checkKey (k:=.int .i64 a) hu.h (by simp [MapKept.IsKey]) em 9999
 find:=fun a es l w hk=>by
  have:=Z4T (d:=.int .i64) (fun z:Int=>Value.int .i64 z) (fun a b=>by simp [Instr.sameNow,Yan]) a es l 0 hk
  simpa using MapKept.run_findKey (w:=w) hu.h this
instance Zj2 {P:Program} {kt:Nat} [hu:Und P kt .string]:ZbL P kt Str where
 enc:=str
 chk:=fun em a w=>MapKept.run_checkKey (k:=str a) hu.h (by simp [MapKept.IsKey]) em 9999
 find:=fun a es l w hk=>by
  have:=Z4T (d:=.string) str (fun a b=>by
   simp only [Instr.sameNow,Xj]
   rw [beq_toListBytes,Zho]) a es l 0 hk
  simpa using MapKept.run_findKey (w:=w) hu.h this
section
variable {P:Program} {n:Nat} {e:Env} {w:World} {d:Option Nat} {ty:TypeId} {pos:String} {af:Array Edge} {g:Option (Nat×Bool)}
theorem Z16 {t:TypeId} {κ:Type} (enc:κ→Value):OE P n ⟨d,.makeMap t none,ty,pos,af,g⟩ e w (fun v w'=>∃ r,v=.map (some r)∧w.heap.size≤r∧Z03 enc w' r []∧Stp [] w w'):=
 Z0q (v:=.map (some w.heap.size)) (w':=w.alloc (.map #[] 0)) (fun a ha=>by
  simp [execOp,run_makeMap]) ⟨_,rfl,Xo _,⟨#[],0,heap_alloc_new w _,rfl,rfl⟩,Stp.alloc _ _ _⟩
theorem ZbM {κ:Type} [DecidableEq κ] {l:List κ} {a:κ} (h:∀ b∈l,¬ b=a):l.findIdx? (fun b=>decide (b=a))=none:=by
 rw [X2]
 intro b hb
 simp [h b hb]
theorem Z77 {mt kt et r:Nat} {κ:Type} [DecidableEq κ] [hm:Und P mt (.map kt et)] [K:ZbL P kt κ] {l:List (κ×Value)} {a:κ} {v:Value} (hr:Z03 K.enc w r l) (hn:∀ p∈l,¬ p.1=a) :
 ∃ w',(Instr.mapUpdate mt (.map (some r)) (K.enc a) v).run P w=.ok () w'∧Z03 K.enc w' r (l++[(a,v)])∧Stp [r] w w':=by
 obtain ⟨es,clock,h1,h2,h3⟩:=hr
 have hf:(Instr.findKey kt (K.enc a) es.toList).run P w=.ok none w:=by
  have hk:es.toList.map (·.key)=(l.map (·.1)).map K.enc:=by rw [h2,YaX];rfl
  rw [K.find a es.toList (l.map (·.1)) w hk,ZbM (by simpa using hn)]
  rfl
 have hlt:r<w.heap.size:=(Xl.1 h1).1
 refine ⟨{ w with heap:=w.heap.setIfInBounds r (.map (es.push { key:=K.enc a,val:=v,born:=clock }) (clock+1)) },?_,?_,?_⟩
 simp [Instr.mapUpdate,run_underlying hm.h,MapKept.run_getObj_map h1,K.chk,hf,MapKept.run_setObj_map _ h1,Result.andThen]
 refine ⟨es.push { key:=K.enc a,val:=v,born:=clock },clock+1,by simp [hlt],?_,?_⟩
 simp [h2]
 simp [h3]
 refine ⟨rfl,rfl,rfl,by simp,fun b hb hn=>?_⟩
 simp only [Xq] at hn
 simp [Yas (fun h=>hn h.symm)]
theorem Zy {mt kt et r:Nat} {κ:Type} [DecidableEq κ] {x y z:Operand} [hm:Und P mt (.map kt et)] [K:ZbL P kt κ] {l:List (κ×Value)} {a:κ} {v:Value} (hx:ev e x=some (.map (some r))) (hy:ev e y=some (K.enc a)) (hz:ev e z=some v) (hr:Z03 K.enc w r l) (hn:∀ p∈l,¬ p.1=a) :
 OE P n ⟨d,.insert mt x y z,ty,pos,af,g⟩ e w (fun _ w'=>Z03 K.enc w' r (l++[(a,v)])∧Stp [r] w w'):=by
 obtain ⟨w',h1,h2,h3⟩:=Z77 (mt:=mt) (v:=v) hr hn
 exact Z5a (w':=w') (fun c hc=>by simp [execOp,hc.ev hx,hc.ev hy,hc.ev hz,h1]) ⟨h2,h3⟩
theorem Z8l {mt kt et r:Nat} {κ:Type} [DecidableEq κ] {x y z:Operand} [hm:Und P mt (.map kt et)] [K:ZbL P kt κ] {l:List (κ×Value)} {a:κ} {v:Value} (hx:ev e x=some (.map (some r))) (hy:ev e y=some (K.enc a)) (hz:ev e z=some v) (hr:Z03 K.enc w r l) (hn:∀ p∈l,¬ p.1=a) :
 OE P n ⟨d,.mapUpdate mt x y z,ty,pos,af,g⟩ e w (fun _ w'=>Z03 K.enc w' r (l++[(a,v)])∧Stp [r] w w'):=by
 obtain ⟨w',h1,h2,h3⟩:=Z77 (mt:=mt) (v:=v) hr hn
 exact Z5a (w':=w') (fun c hc=>by simp [execOp,hc.ev hx,hc.ev hy,hc.ev hz,h1]) ⟨h2,h3⟩
theorem Z1z {mt kt et r:Nat} {κ:Type} [DecidableEq κ] {x y:Operand} {z:Value} [hm:Und P mt (.map kt et)] [K:ZbL P kt κ] [hz:Zer P et z] {l:List (κ×Value)} {a:κ} (hx:ev e x=some (.map (some r))) (hy:ev e y=some (K.enc a)) (hr:Z03 K.enc w r l) :
 PR P n ⟨d,.lookup mt x y false,ty,pos,af,g⟩ e w (Z2Z l a z):=by
 refine ⟨fun c hc=>?_⟩
 obtain ⟨es,clock,h1,h2,h3⟩:=hr
 have hk:es.toList.map (·.key)=(l.map (·.1)).map K.enc:=by rw [h2,YaX];rfl
 have hf:=K.find a es.toList (l.map (·.1)) w hk
 have hlen:es.toList.length=l.length:=by have:=congrArg List.length h3;simpa using this
 have hv:∀ i:Nat,(es.toList[i]?).map (fun x:MapEntry=>x.val)=(l[i]?).map (fun x:κ×Value=>x.2):=fun i=>by
  have:=congrArg (fun x=>x[i]?) h3
  simpa using this
 have hfind:Z2Z l a z=match (l.map (·.1)).findIdx? (fun b=>decide (b=a)) with|some i=>((es.toList[i]?).map (fun x:MapEntry=>x.val)).getD z|none=>z:=by
  unfold Z2Z
  rw [List.findIdx?_map]
  cases hi:l.findIdx? ((fun b=>decide (b=a)) ∘ fun x=>x.1) with
  | none=>
    have:l.find? (fun p=>decide (p.1=a))=none:=by
     rw [Yad]
     intro p hp
     have:=(X2.1 hi) p hp
     simpa using this
    rw [this]
  | some i=>
    obtain ⟨hlt,hp,hb⟩:=XW.1 hi
    have:l.find? (fun p=>decide (p.1=a))=some l[i]:=by
     rw [X1]
     exact ⟨by simpa using hp,i,hlt,rfl,fun j hj=>by simpa using hb j hj⟩
    rw [this]
    simp only [hv,XA hlt,YaH,Yae]
 rw [hfind]
 simp only [execOp,hc.ev hx,hc.ev hy]
 cases hi:(l.map (·.1)).findIdx? (fun b=>decide (b=a)) with
 | none=>
   rw [hi] at hf
   simp [Instr.lookup,run_underlying hm.h,MapKept.run_getObj_map h1,K.chk,hf,Result.andThen,Zer.run]
 | some i=>
   obtain ⟨hlt,_⟩:=XW.1 hi
   have hlt':i<es.toList.length:=by rw [hlen];simpa using hlt
   rw [hi] at hf
   simp only [XQ,XA hlt',YaH] at hf
   simp [Instr.lookup,run_underlying hm.h,MapKept.run_getObj_map h1,K.chk,hf,Result.andThen,XA hlt']
end
end Go.Eng
namespace Go.Proofs.YtjdjdoefppebkaaGreatDoor
open Go Go.Eng Go.RowKit
def idx {α:Type} (p:α→Bool) (xs:List α):Int:=match xs.findIdx? p with|some i=>(i:Int)|none=>-1
theorem ZdA {α:Type} {p:α→Bool} {xs:List α} {k:Nat} (hk:k<xs.length) (hp:p xs[k]=true) (hb:∀ j (h:j<xs.length),j<k→p xs[j]=false):idx p xs=k:=by
 have:xs.findIdx? p=some k:=XW.2 ⟨hk,hp,fun j hj=>by simp [hb j (by omega) hj]⟩
 simp [idx,this]
theorem Za4 {α:Type} {p:α→Bool} {xs:List α} (hb:∀ j (h:j<xs.length),p xs[j]=false):idx p xs=-1:=by
 have:xs.findIdx? p=none:=by
  rw [X2]
  intro x hx
  obtain ⟨j,hj,rfl⟩:=Xs hx
  simp [hb j hj]
 simp [idx,this]
abbrev isS (a:Str):Str→Bool:=fun x=>decide (x=a)
theorem Z8m (X:List Nat) (v:Value) (l:List Str) (a:Str) (w:World) (hs:SlV X w v l):CC 161 #[v,str a] w fun r w'=>r=.int .i64 (idx (isS a) l)∧Stp [] w w':=by
 have hmax:=hs.max
 refine cW2 19 Tryz.func161 ?_
 refine W ?_
 refine ZD (σ:=Nat) (fun k=>[(0,v),(1,str a),(8,.int .i64 k),(7,.int .i64 (l.length:Int))]) (fun k w'=>k≤l.length∧Stp [] w w'∧∀ j (h:j<l.length),j<k→isS a l[j]=false) (fun k=>l.length - k) 0 ⟨rfl,rfl,rfl,rfl,trivial⟩ ⟨Xy _,Stp.refl _ _,fun j _ h=>absurd h (XI _)⟩ ?_
 have hs0:=hs
 clear hs
 rintro k w1 ⟨hk,hS,hno⟩
 have hs:=hs0.up hS
 by_cases hlt:k<l.length
 focus repeat'(first|refine W1 ?_|omega|refine VG ?_ ?_<;>intro hg|refine VC ?_ ?_<;>intro hc)
 refine WR ?_
 have he':isS a l[k]=true:=by simpa [isS,eq_comm] using hc
 exact .mk ⟨by rw [ZdA hlt he' hno],hS⟩
 refine Zr (k+1) ⟨rfl,rfl,rfl,rfl,trivial⟩ ⟨hlt,hS,fun j h hj=>?_⟩ (by omega)
 by_cases e:j=k
 subst e;simpa [isS,eq_comm] using hc
 exact hno j h (by omega)
 have hke:k=l.length:=by omega
 subst hke
 focus repeat'(first|refine W1 ?_|omega|refine VG ?_ ?_<;>intro hg|refine VC ?_ ?_<;>intro hc)
 refine WR ?_
 exact .mk ⟨by rw [Za4 (fun j h=>hno j h h)],hS⟩
def Zg:List Str:=[[100,97,121],[115,101,114,118,101,100],[101,120,116,114,97],[98,121],[116,111],[99,111,117,114,116],[97,109,111,117,110,116]]
abbrev Z30:Value:=.slice (some ⟨0,0,none⟩) 7 7
def ZZ (a:Str):Int×Int×Bool:=
 let i:=idx (isS a) Zg
 if i<0 then (0,0,false) else if i≤1 then (i,3,true) else (i,1,true)
abbrev Zrj (x:Int×Int×Bool):Value:=.tuple #[.int .i64 x.1,.int .i64 x.2.1,.bool x.2.2]
theorem Z8n (a:Str) (w:World) (hF:SlV [] w Z30 Zg):CC 81 #[str a] w fun r w'=>r=Zrj (ZZ a)∧Stp [] w w':=by
 refine cW1 17 Tryz.func81 ?_
 refine W ?_
 apply Z7 (Z8k rfl) rfl
 refine W ?_
 refine CL rfl (Z9 rfl rfl) rfl (Z8m [] _ _ a _ hF) ?_
 rintro _ w1 ⟨rfl,hS⟩
 unfold ZZ
 generalize idx (isS a) Zg=i
 repeat'(first|refine W1 ?_|refine VG ?_ ?_<;>intro hg|refine VC ?_ ?_<;>intro hc)
 all_goals (refine WR ?_)
 exact .mk ⟨by simp only [if_pos hc],hS⟩
 rename_i h1
 exact .mk ⟨by simp only [if_neg h1,if_pos hc],hS⟩
 rename_i h1
 exact .mk ⟨by simp only [if_neg h1,if_neg hc],hS⟩
theorem _root_.Go.Eng.Row.slv0 {α:Type} [Zf α] {w:World} {base T:Nat} {v:Value} {xs:List α} (h:Row [] w base T v xs):SlV [] w v xs:=h.slv (by simp)
def Z0E (k n:Int) (s:Str):Int:=
 if k=4 then (if n=0 then (ZZ s).2.1 else 0) else if ¬ s=[] then 0
 else if k=1 then (if 0≤n∧n≤2147483647 then 1 else 0) else if k=2 then (if 0≤n∧n≤1 then 2 else 0) else if k=3 then (if 0≤n∧n≤3652058 then 3 else 0) else 0
theorem Z8o {a:Str} (h:(ZZ a).2.2=false):(ZZ a).2.1=0:=by
 unfold ZZ at h ⊢
 dsimp only at h ⊢
 split<;>rename_i h1
 rfl
 rw [if_neg h1] at h
 split at h<;>simp at h
theorem Zft (X:List Nat) (v:Value) (x:Nd) (w:World) (hx:NdV X w v x) (hF:SlV [] w Z30 Zg) :
 CC 178 #[v] w fun r w'=>r=.int .i64 (Z0E x.kind x.num x.word)∧Stp [] w w':=by
 obtain ⟨kv,rfl,hs⟩:=hx
 refine cW1 50 Tryz.func178 ?_
 refine W ?_
 refine Z3 (Zs rfl) rfl ?_
 rintro _ w1 ⟨b,rfl,hb,hblk,hS⟩
 replace hblk:Blk w1 b _ (ndC x kv):=hblk
 replace hF:=hF.up hS
 repeat'(first|refine W1 ?_|omega|refine VG ?_ ?_<;>intro hg|refine VC ?_ ?_<;>intro hc)
 refine CL rfl (Zp rfl) rfl (Z8n x.word _ hF) ?_
 rintro _ w2 ⟨rfl,hS2⟩
 replace hS:=hS.trans hS2
 focus repeat'(first|refine W1 ?_|omega|refine VG ?_ ?_<;>intro hg|refine VC ?_ ?_<;>intro hc)
 refine WR ?_
 refine .mk ⟨?_,hS⟩
 simp only [Z0E]
 rw [if_pos (by assumption),if_pos (by assumption)]
 rfl
 all_goals first
  | (refine Z3 (Z16 (fun z : Int => Value.int .i64 z)) rfl ?_
     rintro _ w2 ⟨r,rfl,hr,hm,hS2⟩
     have hbl:=hblk.lt
     have hsz:=hS.size
     replace hblk:=hblk.up hS2
     replace hS:=hS.trans hS2
     refine Z0 (Zy (a:=(1:Int)) (v:=.int .i64 1) rfl rfl rfl hm (by simp)) ?_
     rintro _ w3 ⟨hm,hS3⟩
     replace hblk:=hblk.ext hS3 (by simp;omega)
     replace hS:=hS.own hS3 (fun b hb=>.inr (by simp at hb;omega))
     refine Z0 (Zy (a:=(2:Int)) (v:=.int .i64 2) rfl rfl rfl hm (by simp)) ?_
     rintro _ w4 ⟨hm,hS4⟩
     replace hblk:=hblk.ext hS4 (by simp;omega)
     replace hS:=hS.own hS4 (fun b hb=>.inr (by simp at hb;omega))
     refine Z0 (Zy (a:=(3:Int)) (v:=.int .i64 3) rfl rfl rfl hm (by simp)) ?_
     rintro _ w5 ⟨hm,hS5⟩
     replace hblk:=hblk.ext hS5 (by simp;omega)
     replace hS:=hS.own hS5 (fun b hb=>.inr (by simp at hb;omega))
     refine W ?_
     apply Z7 (Z1z (a:=x.kind) rfl rfl hm) rfl
     refine W ?_
     refine WR ?_
     refine .mk ⟨?_,hS⟩
     have hw:x.word=[]:=by first|assumption|exact Decidable.not_not.1 (by assumption)
     simp only [Z0E,hw,not_true_eq_false,if_false]
     first
      | (have hk : x.kind = 1 := by assumption
         rw [hk,if_neg (by decide),if_pos rfl,if_pos (by omega)];rfl)
      | (have hk : x.kind = 2 := by assumption
         rw [hk,if_neg (by decide),if_neg (by decide),if_pos rfl,if_pos (by omega)];rfl)
      | (have hk : x.kind = 3 := by assumption
         rw [hk,if_neg (by decide),if_neg (by decide),if_neg (by decide),if_pos rfl,if_pos (by omega)];rfl))
  | skip
 all_goals (refine WR ?_)
 all_goals
  refine .mk ⟨?_,hS⟩
  simp only [Z0E]
  repeat' split
  all_goals first|rfl|omega|(exfalso;simp_all;done)|(exfalso;simp_all;omega)
def Z24 (l want:List Int):Bool:=decide (l=want∧∀ x∈l,x≠0)
theorem Jv (a:Int) (w:World):(Instr.buildSlice 22 1 #[(0,.int .i64 a)]).run Tryz.prog w=.ok (.slice (some ⟨w.heap.size,0,none⟩) 1 1) (w.alloc (.cells #[.int .i64 a] 3)):=by kernel_rfl
theorem Z78 (a b:Int) (w:World):(Instr.buildSlice 22 2 #[(0,.int .i64 a),(1,.int .i64 b)]).run Tryz.prog w=.ok (.slice (some ⟨w.heap.size,0,none⟩) 2 2) (w.alloc (.cells #[.int .i64 a,.int .i64 b] 3)):=by kernel_rfl
theorem Zc.stp {w w':World} {T len:Nat} {cs:List Value} {v:Value} (h:Zc w T len cs v w'):Stp [] w w':=h.choose_spec.2.2.2
def Z0f:List Str:=[[43],[45],[42]]
def Z25:List Str:=[[60],[60,61],[61],[33,61],[62],[62,61]]
def Z0g:List Str:=[[97,110,100],[111,114]]
def ZbN (s:Str) (l:List Int):Int:=
 if 0≤idx (isS s) Z0f∧Z24 l [1,1]=true then 1 else if 0≤idx (isS s) Z25∧(Z24 l [1,1]=true∨Z24 l [3,3]=true) then 2 else if 0≤idx (isS s) Z0g∧Z24 l [2,2]=true then 2 else 0
structure Sig where
 kind:Int
 s:Str
 a:Int
 b:Int
 c:Int
 deriving DecidableEq
abbrev Z5e (x:Sig):Value:=.agg #[.int .i64 x.kind,str x.s,.int .i64 x.a,.int .i64 x.b,.int .i64 x.c]
theorem Zmt (x y:Sig) (w:World):(Op.equal 246 (Z5e x) (Z5e y)).run Tryz.prog w=.ok (decide (x=y)) w:=by
 have h1:Program.stoodInHeld Tryz.prog 246=false:=by kernel_rfl
 obtain ⟨i,hi⟩:∃ i,Tryz.prog.info? 3=some i:=by
  have:=(inferInstance:Siz Tryz.prog 3 1).h
  cases h:Tryz.prog.info? 3 with
  | none=>rw [h] at this;cases this
  | some i=>exact ⟨i,rfl⟩
 have hc:Tryz.prog.cellsOf 3=1:=by kernel_rfl
 obtain ⟨k,s,a,b,c⟩:=x
 obtain ⟨k',s',a',b',c'⟩:=y
 simp [Z5e,Op.equal,Op.maxDepth,run_equalIn_struct,h1,Program.fieldsOf,Tryz.underlying246,Op.eqFields,part,Und.isAgg,Siz.run,JX,run_equalIn_int w _ _ .i64 .i64 _ _ Tryz.underlying3,run_equalIn_string w _ _ _ _ Tryz.underlying9,run_equalIn_array w _ _ _ Tryz.underlying241 hi,hc,Op.eqItems,List.range_succ_eq_map]
 repeat' split
 all_goals simp_all
theorem ZhI (em:Bool) (x:Sig) (w:World):(Instr.checkKey em 10000 246 (Z5e x)).run Tryz.prog w=.ok () w:=by kernel_rfl
instance:ZbL Tryz.prog 246 Sig where
 enc:=Z5e
 chk:=ZhI
 find:=fun a es l w hk=>by
  have h2:=run_findKey_eq (P:=Tryz.prog) (k:=246) w (by kernel_rfl) (Z5e a) es
  have h3:=Z4G Z5e Zmt a w es l 0 hk
  simp only [XO] at h3
  exact h2.trans h3
abbrev Za5 (a b c:Int):Value:=.agg #[.int .i64 a,.int .i64 b,.int .i64 c]
theorem ZhJ (a:Int) (w:World):(Instr.build 241 #[(0,.int .i64 a)]).run Tryz.prog w=.ok (Za5 a 0 0) w:=by kernel_rfl
theorem Z9a (a b:Int) (w:World):(Instr.build 241 #[(0,.int .i64 a),(1,.int .i64 b)]).run Tryz.prog w=.ok (Za5 a b 0) w:=by kernel_rfl
theorem Z6Q (k a b c:Int) (s:Str) (w:World):(Instr.build 246 #[(0,.int .i64 k),(1,str s),(2,Za5 a b c)]).run Tryz.prog w=.ok (Z5e ⟨k,s,a,b,c⟩) w:=by kernel_rfl
theorem Zfu (a b c d:Str) (w:World):(Instr.buildSlice 119 4 #[(0,str a),(1,str b),(2,str c),(3,str d)]).run Tryz.prog w=.ok (.slice (some ⟨w.heap.size,0,none⟩) 4 4) (w.alloc (.cells #[str a,str b,str c,str d] 9)):=by kernel_rfl
abbrev Zfv:=Sig×Value
def ent:Nat→Zfv
 | 5=>(⟨5,[45],1,0,0⟩,.int .i64 1)
 | 10=>(⟨5,[110,111,116],2,0,0⟩,.int .i64 2)
 | 15=>(⟨10,[110,101,120,116],3,0,0⟩,.int .i64 3)
 | 20=>(⟨10,[112,114,101,118],3,0,0⟩,.int .i64 3)
 | 26=>(⟨10,[108,97,116,101,114],3,3,0⟩,.int .i64 3)
 | 32=>(⟨10,[101,97,114,108,105,101,114],3,3,0⟩,.int .i64 3)
 | _=>(⟨10,[98,101,116,119,101,101,110],3,3,0⟩,.int .i64 1)
def Z6G:List Nat:=[5,10,15,20,26,32,38]
def J6:List Str:=[[100,97,121,115],[119,101,101,107,115],[109,111,110,116,104,115],[99,111,117,114,116,100,97,121,115]]
def Z1v (u:Str):List Zfv:=[(⟨7,u,3,1,0⟩,.int .i64 3),(⟨8,u,3,1,0⟩,.int .i64 3)]
def Z2x:List Zfv:=Z6G.map ent++J6.flatMap Z1v
theorem ZbO:(Z2x.map (·.1)).Nodup:=by decide
theorem ZdB {κ:Type} [DecidableEq κ] {l m:List (κ×Value)} (hp:l.Perm m) (hn:(m.map (·.1)).Nodup) (a:κ) (z:Value):Z2Z l a z=Z2Z m a z:=by
 have hn':(l.map (·.1)).Nodup:=(hp.map _).nodup_iff.2 hn
 have key:∀ (l m:List (κ×Value)),(∀ p,p∈l→p∈m)→(m.map (·.1)).Nodup→∀ p,l.find? (fun p=>decide (p.1=a))=some p→m.find? (fun p=>decide (p.1=a))=some p:=by
  intro l m hs hm p hf
  have hpm:=hs p (X3 hf)
  have hpa:p.1=a:=by simpa using YaU hf
  cases hq:m.find? (fun p=>decide (p.1=a)) with
  | none=>exact absurd (Yad.1 hq p hpm) (by simp [hpa])
  | some q=>
    have hqm:=X3 hq
    have hqa:q.1=a:=by simpa using YaU hq
    obtain ⟨i,hi,rfl⟩:=Xs hpm
    obtain ⟨j,hj,rfl⟩:=Xs hqm
    have:i=j:=by
     have h1:=(List.getElem_inj (xs:=m.map (·.1)) (i:=i) (j:=j) (h₀:=by simpa using hi) (h₁:=by simpa using hj) hm).1 (by simp [hpa,hqa])
     exact h1
    subst this
    rfl
 unfold Z2Z
 cases h1:l.find? (fun p=>decide (p.1=a)) with
 | some p=>rw [key l m (fun p h=>hp.mem_iff.1 h) hn p h1]
 | none=>
   cases h2:m.find? (fun p=>decide (p.1=a)) with
   | none=>rfl
   | some p=>rw [key m l (fun p h=>hp.mem_iff.2 h) hn' p h2] at h1;cases h1
theorem Z79 (w:World):CC 180 #[] w fun r w'=>∃ (m:Nat) (l:List Zfv),r=.map (some m)∧Z03 Z5e w' m l∧l.Perm Z2x∧Stp [] w w':=by
 refine cW0 62 Tryz.func180 ?_
 refine W ?_
 refine ZDr 41 [] [5,10,15,20,26,32,38] [(1,0),(2,0),(3,0),(4,0),(6,0),(7,0),(8,0),(9,0),(11,0),(12,0),(13,0),(14,0),(16,0),(17,0),(18,0),(19,0),(21,0),(22,0),(23,0),(24,0),(25,0),(27,0),(28,0),(29,0),(30,0),(31,0),(33,0),(34,0),(35,0),(36,0),(37,0),(0,2),(5,279241165504),(39,0),(40,0)] (fun w1 hS1=>?_)
 repeat'(first|refine D1 ?_|(apply Z0R;exact rfl;first|(apply Z2X (vs:=[(0,.int .i64 _)]);exact trivial;exact rfl;exact ZhJ _;exact rfl)|(apply Z2X (vs:=[(0,.int .i64 _),(1,.int .i64 _)]);exact trivial;exact rfl;exact Z9a _ _;exact rfl)|(apply Z2X (vs:=[(0,.int .i64 _),(1,str _),(2,Za5 _ _ _)]);exact trivial;exact rfl;exact Z6Q _ _ _ _ _;exact rfl)))
 refine Zb rfl trivial (Z16 Z5e) (fun _ _ h=>h.choose_spec.2.2.2) rfl ?_
 rintro _ w2 ⟨m,rfl,hm,hmap,hS2⟩
 have hw1:=hS1.size
 refine Zjo Z6G (fun rem w'=>∃ l,Z03 Z5e w' m l∧(l++rem.map ent).Perm (Z6G.map ent)∧Stp [m] w2 w') rfl (by decide) (by decide) ⟨[],hmap,by simp,Stp.refl _ _⟩ ?_ ?_
 · rintro rem j w' hsub hj ⟨l,hl,hp,hS⟩
   have hkeys:((l++rem.map ent).map (·.1)).Nodup:=(hp.map (·.1)).nodup_iff.2 (by decide)
   have hfresh:∀ p∈l,¬ p.1=(ent j).1:=by
    intro p hp e
    rw [Yaq,List.nodup_append] at hkeys
    exact hkeys.2.2 p.1 (X4 hp) (ent j).1 (by rw [YaX];exact Yax.2 ⟨j,hj,rfl⟩) e
   have gen:∀ w'',Z03 Z5e w'' m (l++[ent j])→Stp [m] w' w''→∃ l,Z03 Z5e w'' m l∧(l++(rem.erase j).map ent).Perm (Z6G.map ent)∧Stp [m] w2 w'':=by
    intro w'' h1 h2
    refine ⟨_,h1,?_,hS.trans h2⟩
    refine List.Perm.trans ?_ hp
    rw [Xr]
    exact List.Perm.append_left l (((List.perm_cons_erase hj).map ent).symm)
   have hjis:=hsub.subset hj
   simp only [Z6G,Xf,Xk,or_false] at hjis
   rcases hjis with rfl|rfl|rfl|rfl|rfl|rfl|rfl
   all_goals exact ⟨_,rfl,rfl,trivial,(Zy (v:=.int .i64 _) rfl rfl rfl hl hfresh).mono (fun _ w'' ⟨h1,h2⟩=>⟨.inr rfl,gen w'' h1 h2⟩)⟩
 rintro w3 ⟨l,hl,hp,hS3⟩
 rw [Xv,Xz] at hp
 have hS:Stp [] w w3:=(hS1.trans hS2).own hS3 (fun b hb=>.inr (by simp at hb;omega))
 have hmw:w.heap.size≤m:=by omega
 clear hmap hS2 hS3
 repeat'(first|refine D1 ?_|refine Z0r rfl rfl rfl rfl (fun hg=>?_) (fun hg=>?_)|(refine JY rfl rfl rfl rfl (fun hg=>?_) (fun hg=>?_)<;>refine D1 ?_)|fail)
 refine W ?_
 refine Z3 (Z2 (vs:=[(0,str [100,97,121,115]),(1,str [119,101,101,107,115]),(2,str [109,111,110,116,104,115]),(3,str [99,111,117,114,116,100,97,121,115])]) rfl (Zfu _ _ _ _)) rfl ?_
 rintro uv w4 hN
 have hu:SlV [m] w4 uv J6:=hN.slv (fun b hb=>by simp at hb;subst hb;exact hl.lt) rfl rfl (by simp [J6,maxLen])
 have hS4:=Zc.stp hN
 clear hN
 replace hl:=hl.up hS4
 replace hS:=hS.trans hS4
 have hkind:∀ p∈l,p.1.kind=5∨p.1.kind=10:=fun p hpl=>by
  have hpe:=hp.mem_iff.1 hpl
  simp only [Z6G,Xn,Xv,Xf,Xk,or_false] at hpe
  rcases hpe with rfl|rfl|rfl|rfl|rfl|rfl|rfl<;>decide
 have hseen:∀ k (h:k<J6.length),∀ p∈(J6.take k).flatMap Z1v,¬ p.1.s=J6[k]:=by
  intro k h
  match k,h with
  | 0,_=>(show ∀ p∈(J6.take 0).flatMap Z1v,¬ p.1.s=J6[0]'(by decide));decide
  | 1,_=>(show ∀ p∈(J6.take 1).flatMap Z1v,¬ p.1.s=J6[1]'(by decide));decide
  | 2,_=>(show ∀ p∈(J6.take 2).flatMap Z1v,¬ p.1.s=J6[2]'(by decide));decide
  | 3,_=>(show ∀ p∈(J6.take 3).flatMap Z1v,¬ p.1.s=J6[3]'(by decide));decide
 refine W ?_
 refine ZD (σ:=Nat) (fun k=>[(1,.int .i64 1),(3,.int .i64 3),(4,.map (some m)),(40,uv),(41,.int .i64 4),(42,.int .i64 k)]) (fun k w'=>k≤4∧Z03 Z5e w' m (l++(J6.take k).flatMap Z1v)∧Stp [m] w4 w') (fun k=>4 - k) 0 ⟨rfl,rfl,rfl,rfl,rfl,rfl,trivial⟩ ⟨by omega,by simpa using hl,Stp.refl _ _⟩ ?_
 rintro k w5 ⟨hk,hmk,hS5⟩
 have hu5:SlV [m] w5 uv J6:=hu.ext hS5 (by simp) (fun b hb=>.inl hb)
 by_cases hlt:k<4
 have hlt2:k<J6.length:=hlt
 have hfr:∀ (t:Int),¬ t=5→¬ t=10→∀ p∈l++(J6.take k).flatMap Z1v,¬ p.1=⟨t,J6[k],3,1,0⟩:=by
  intro t h5 h10 p hpm e
  rcases Xt.1 hpm with h|h
  have:=hkind p h
  rw [e] at this
  rcases this with h|h
  exact h5 h
  exact h10 h
  exact hseen k hlt2 p h (by rw [e])
 focus repeat'(first|refine W1 ?_|omega|refine VG ?_ ?_<;>intro hg|refine VC ?_ ?_<;>intro hc)
 apply Ze (vs:=[(0,.int .i64 3),(1,.int .i64 1)]) rfl (Z9a _ _) rfl
 apply Ze (vs:=[(0,.int .i64 7),(1,str _),(2,Za5 _ _ _)]) rfl (Z6Q _ _ _ _ _) rfl
 refine W ?_
 refine Z0 (Z8l (a:=(⟨7,J6[k],3,1,0⟩:Sig)) (v:=.int .i64 3) rfl rfl rfl hmk (hfr 7 (by decide) (by decide))) ?_
 rintro _ w6 ⟨hm6,hS6⟩
 refine W ?_
 apply Ze (vs:=[(0,.int .i64 3),(1,.int .i64 1)]) rfl (Z9a _ _) rfl
 apply Ze (vs:=[(0,.int .i64 8),(1,str _),(2,Za5 _ _ _)]) rfl (Z6Q _ _ _ _ _) rfl
 refine W ?_
 refine Z0 (Z8l (a:=(⟨8,J6[k],3,1,0⟩:Sig)) (v:=.int .i64 3) rfl rfl rfl hm6 (fun p hpm e=>by
  rcases Xt.1 hpm with h|h
  exact hfr 8 (by decide) (by decide) p h e
  simp only [Xq] at h
  subst h
  simp at e)) ?_
 rintro _ w7 ⟨hm7,hS7⟩
 refine W ?_
 refine Zr (k+1) ⟨rfl,rfl,rfl,rfl,rfl,rfl,trivial⟩ ⟨by omega,?_,(hS5.trans hS6).trans hS7⟩ (by omega)
 rw [Xu hlt2,YaW]
 have e:l++((J6.take k).flatMap Z1v++[J6[k]].flatMap Z1v)=(l++(J6.take k).flatMap Z1v++[((⟨7,J6[k],3,1,0⟩:Sig),Value.int .i64 3)])++[((⟨8,J6[k],3,1,0⟩:Sig),Value.int .i64 3)]:=by simp [Z1v]
 rw [e]
 exact hm7
 have hke:k=4:=by omega
 subst hke
 focus repeat'(first|refine W1 ?_|omega|refine VG ?_ ?_<;>intro hg|refine VC ?_ ?_<;>intro hc)
 refine WR ?_
 exact .mk ⟨m,_,rfl,hmk,hp.append_right _,hS.own hS5 (fun b hb=>.inr (by simp at hb;omega))⟩
def ZbP (x:Sig):Value:=Z2Z Z2x x (.int .i64 0)
def Z1A (s:Str) (a b:Int):Int:=
 if s∈Z0f then (if a=b∧a=1 then 1 else 0) else if s∈Z25 then (if a=b∧¬ a=2 then 2 else 0) else if s∈Z0g then (if a=b∧a=2 then 2 else 0) else 0
theorem ZbQ (s:Str) (a b c:Int) (w:World):CC 179 #[str s,Za5 a b c] w fun r w'=>r=.int .i64 (Z1A s a b)∧Stp [] w w':=by
 refine cW2 46 Tryz.func179 ?_
 refine W ?_
 refine Z3 (Zs rfl) rfl ?_
 rintro _ w1 ⟨q,rfl,hq,hblk,hS⟩
 replace hblk:Blk w1 q _ [.int .i64 a,.int .i64 b,.int .i64 c]:=hblk
 refine W ?_
 by_cases hA:s∈Z0f
 · unfold Z1A
   rw [if_pos hA]
   simp only [Z0f,Xf,Xk,or_false] at hA
   rcases hA with rfl|rfl|rfl
   all_goals (repeat'(first|refine W1 ?_|omega|refine VG ?_ ?_<;>intro hg|refine VC ?_ ?_<;>intro hc))
   all_goals (refine WR ?_)
   all_goals refine .mk ⟨?_,hS⟩
   all_goals first
    | rw [if_pos ⟨by assumption,by assumption⟩]
    | rw [if_neg (fun h=>by omega)]
 by_cases hC:s∈Z25
 · unfold Z1A
   rw [if_neg hA,if_pos hC]
   simp only [Z25,Xf,Xk,or_false] at hC
   rcases hC with rfl|rfl|rfl|rfl|rfl|rfl
   all_goals (repeat'(first|refine W1 ?_|omega|refine VG ?_ ?_<;>intro hg|refine VC ?_ ?_<;>intro hc))
   all_goals (refine WR ?_)
   all_goals refine .mk ⟨?_,hS⟩
   all_goals first
    | rw [show (if a=b∧¬ a=2 then (2:Int) else 0)=2 from if_pos (by omega)]
    | rw [show (if a=b∧¬ a=2 then (2:Int) else 0)=0 from if_neg (by omega)]
 by_cases hL:s∈Z0g
 · unfold Z1A
   rw [if_neg hA,if_neg hC,if_pos hL]
   simp only [Z0g,Xf,Xk,or_false] at hL
   rcases hL with rfl|rfl
   all_goals (repeat'(first|refine W1 ?_|omega|refine VG ?_ ?_<;>intro hg|refine VC ?_ ?_<;>intro hc))
   all_goals (refine WR ?_)
   all_goals refine .mk ⟨?_,hS⟩
   all_goals first
    | rw [if_pos ⟨by assumption,by assumption⟩]
    | rw [if_neg (fun h=>by omega)]
 unfold Z1A
 rw [if_neg hA,if_neg hC,if_neg hL]
 simp only [Z0f,Z25,Z0g,Xf,Xk,or_false,not_or] at hA hC hL
 obtain ⟨a1,a2,a3⟩:=hA
 obtain ⟨b1,b2,b3,b4,b5,b6⟩:=hC
 obtain ⟨c1,c2⟩:=hL
 repeat'(first|refine W1 ?_|refine Z6M rfl (fun hc=>absurd hc (by assumption)) (fun hc=>?_))
 refine WR ?_
 exact .mk ⟨rfl,hS⟩
theorem _root_.Go.Eng.SlV.any {α:Type} [Zf α] {X:List Nat} {w:World} {v:Value} {xs:List α} (h:SlV X w v xs):SlV [] w v xs:=h.ext (Stp.refl [] w) (by simp) (by simp)
theorem _root_.Go.Eng.SlV.new {α:Type} [Zf α] {X:List Nat} {w w':World} {v:Value} {xs:List α} (h:SlV X w v xs) (hS:Stp [] w w') (b:Nat) (hb:w.heap.size≤b):SlV [b] w' v xs:=
 h.ext hS (by simp) (fun c hc=>.inr (by simp at hc;omega))
theorem _root_.Go.Eng.SlV.on {α:Type} [Zf α] {X S:List Nat} {w w':World} {v:Value} {xs:List α} (h:SlV X w v xs) (hS:Stp S w w') (hs:∀ b∈S,b∈X):SlV X w' v xs:=h.ext hS hs (fun _ h=>.inl h)
def Z3u (x:Sig):Int:=match ZbP x with|.int _ z=>z|_=>0
theorem Za6 (x:Sig):ZbP x=.int .i64 (Z3u x):=by
 have:∀ p∈Z2x,∃ z,p.2=Value.int .i64 z:=by
  intro p hp
  simp only [Z2x,Z6G,J6,Xn,Xv,XY,Yak,Z1v,Xp,XS,Xz,Xf,Xk,or_false,ent] at hp
  rcases hp with rfl|rfl|rfl|rfl|rfl|rfl|rfl|rfl|rfl|rfl|rfl|rfl|rfl|rfl|rfl<;>exact ⟨_,rfl⟩
 unfold Z3u ZbP Z2Z
 cases h:Z2x.find? (fun p=>decide (p.1=x)) with
 | none=>rfl
 | some p=>
   obtain ⟨z,hz⟩:=this p (X3 h)
   simp only [hz]
def Jb (k n:Int) (s:Str) (ts:List Int):Int:=
 if ts.length > 3 then 0 else if (0:Int)∈ts then 0 else if ts=[] then Z0E k n s else if ¬ n=0 then 0
 else if k=9∧s=[]∧ts.getD 0 0=2∧ts.getD 1 0=ts.getD 2 0 then ts.getD 1 0
 else if k=6∧ts.getD 2 0=0 then Z1A s (ts.getD 0 0) (ts.getD 1 0) else Z3u ⟨k,s,ts.getD 0 0,ts.getD 1 0,ts.getD 2 0⟩
def Zd:Nd→Int
 | .mk k n s l=>Jb k n s (l.map Zd)
theorem Z08 (x:Nd):Zd x=Jb x.kind x.num x.word (x.kids.map Zd):=by
 cases x
 rw [Zd]
 rfl
def ZbR (ts:List Int) (k:Nat):List Value:=[.int .i64 (if 0<k then ts.getD 0 0 else 0),.int .i64 (if 1<k then ts.getD 1 0 else 0),.int .i64 (if 2<k then ts.getD 2 0 else 0)]
theorem Zfw (ts:List Int) (k:Nat) (hk:k<3):(ZbR ts k).set (0+k * 1) (.int .i64 (ts.getD k 0))=ZbR ts (k+1):=by
 match k,hk with
 | 0,_=>rfl
 | 1,_=>rfl
 | 2,_=>rfl
theorem Zfx (ts:List Int) (k:Nat) (hk:k<3):(ZbR ts (k+1))[0+k * 1]?=some (.int .i64 (ts.getD k 0)):=by
 match k,hk with
 | 0,_=>rfl
 | 1,_=>rfl
 | 2,_=>rfl
theorem Zfy (ts:List Int) (h:ts.length≤3):ZbR ts ts.length=[.int .i64 (ts.getD 0 0),.int .i64 (ts.getD 1 0),.int .i64 (ts.getD 2 0)]:=by
 match ts,h with
 | [],_=>rfl
 | [a],_=>rfl
 | [a,b],_=>rfl
 | [a,b,c],_=>rfl
theorem Zmu (x:Nd):∀ (X XF:List Nat) (v:Value) (w:World),NdV X w v x→SlV XF w Z30 Zg→
 CC 92 #[v] w fun r w'=>r=.int .i64 (Zd x)∧Stp [] w w':=by
 induction x using Nd.ind with
 | h k n s l ih=>
 intro X XF v w hx hF
 generalize hxe:Nd.mk k n s l=x at *
 have ih':∀ y∈x.kids,∀ (X XF:List Nat) (v:Value) (w:World),NdV X w v y→SlV XF w Z30 Zg→CC 92 #[v] w fun r w'=>r=.int .i64 (Zd y)∧Stp [] w w':=by
  subst hxe;exact ih
 clear ih hxe k n s l
 have hx0:=hx
 obtain ⟨kv,rfl,hs⟩:=hx
 have hmax:=hs.max
 rw [Z08]
 have hlen:(x.kids.map Zd).length=x.kids.length:=by simp
 have hget:∀ k (h:k<x.kids.length),(x.kids.map Zd).getD k 0=Zd x.kids[k]:=fun k h=>by simp [List.getD,h]
 generalize hts:x.kids.map Zd=ts at *
 refine cW1 80 Tryz.func92 ?_
 refine W ?_
 refine Z3 (Zs rfl) rfl ?_
 rintro _ w1 ⟨b,rfl,hb,hblk,hS⟩
 replace hblk:Blk w1 b _ (ndC x kv):=hblk
 replace hs:=hs.up hS
 replace hF:=hF.up hS
 have hlt:=hblk.lt
 refine W ?_
 refine Z3 Z6 rfl ?_
 rintro _ w2 ⟨q,rfl,hq,harr,hS2⟩
 replace harr:Blk w2 q _ (ZbR ts 0):=harr
 replace hblk:=hblk.up hS2
 replace hs:=hs.new hS2 q hq
 replace hF:=hF.new hS2 q hq
 replace hS:=hS.trans hS2
 have hwq:w.heap.size≤q:=Xh (Xh hb (Nat.le_of_lt hlt)) hq
 have hbq:¬ b=q:=by omega
 repeat'(first|refine W1 ?_|omega|refine VG ?_ ?_<;>intro hg|refine VC ?_ ?_<;>intro hc)
 refine WR ?_
 refine .mk ⟨?_,hS⟩
 unfold Jb
 rw [if_pos (by omega)]
 have hl3:x.kids.length≤3:=by omega
 refine Z1K (σ:=Unit) (fun _=>[(1,.pointer (some ⟨b,0,none⟩)),(3,.pointer (some ⟨q,0,none⟩))]) (fun _ w'=>Stp [q] w2 w'∧Blk w' q 241 [.int .i64 (ts.getD 0 0),.int .i64 (ts.getD 1 0),.int .i64 (ts.getD 2 0)]∧¬ (0:Int)∈ts) ?_ ?_
 have hs0:=hs
 have hF0:=hF
 refine ZD (σ:=Nat) (fun k=>[(1,.pointer (some ⟨b,0,none⟩)),(3,.pointer (some ⟨q,0,none⟩)),(11,kv),(12,.int .i64 (x.kids.length:Int)),(13,.int .i64 k)]) (fun k w'=>k≤x.kids.length∧Stp [q] w2 w'∧Blk w' q 241 (ZbR ts k)∧¬ (0:Int)∈ts.take k) (fun k=>x.kids.length - k) 0 ⟨rfl,rfl,rfl,rfl,rfl,trivial⟩ ⟨Xy _,Stp.refl _ _,harr,by simp⟩ ?_
 clear hs hF harr
 rintro k w3 ⟨hk,hS3,harr,hno⟩
 have hs:=hs0.on hS3 (by simp)
 have hF:=hF0.on hS3 (by simp)
 by_cases hlt:k<x.kids.length
 have hk3:k<3:=by omega
 have hg:=hget k hlt
 have hset:=Zfw ts k hk3
 have hgt:=Zfx ts k hk3
 rw [hg] at hset hgt
 obtain ⟨kv2,hs2,hc2⟩:=hs.nd hlt
 focus repeat'(first|refine W1 ?_|omega|refine VG ?_ ?_<;>intro hg|refine VC ?_ ?_<;>intro hc)
 apply Z7 (ZC rfl rfl hs hlt hc2) rfl
 refine Z3 Z6 rfl ?_
 rintro _ w4 ⟨b4,rfl,hb4,hblk4,hS4⟩
 have harl:=harr.lt
 replace harr:=harr.up hS4
 refine W ?_
 refine Z0 (Z1 (us:=ndC x.kids[k] kv2) rfl rfl rfl rfl (Zk hs2) hblk4 rfl) ?_
 rintro _ w5 ⟨hS5,hblk5⟩
 have h4q:¬ b4=q:=by omega
 replace harr:=harr.ext hS5 (by simp;omega)
 have hS45:=hS4.own hS5 (fun c hc=>.inr (by simp at hc;omega))
 replace hs2:=hs2.up hS45
 replace hF:=hF.up hS45
 refine W ?_
 refine CL rfl (Zp rfl) rfl (ih' x.kids[k] (Xg hlt) _ _ _ _ ⟨kv2,rfl,hs2⟩ hF) ?_
 rintro _ w6 ⟨rfl,hS6⟩
 replace harr:=harr.up hS6
 refine W ?_
 refine Z0 (Zj (u:=.int .i64 (Zd x.kids[k])) rfl rfl rfl rfl harr (by simp [ZbR];omega)) ?_
 rintro _ w7 ⟨hS7,harr⟩
 rw [hset] at harr
 have hS37:=((hS3.trans (hS45.mono (by simp))).trans (hS6.mono (by simp))).trans hS7
 have hnx:ts.take (k+1)=ts.take k++[Zd x.kids[k]]:=by
  rw [Xu (by omega)]
  congr 2
  subst hts
  simp
 focus repeat'(first|refine W1 ?_|omega|refine VG ?_ ?_<;>intro hg|refine VC ?_ ?_<;>intro hc)
 apply Zfh rfl rfl (harr.cell hgt) rfl
 focus repeat'(first|refine W1 ?_|omega|refine VG ?_ ?_<;>intro hg|refine VC ?_ ?_<;>intro hc)
 refine WR ?_
 have h0':Zd x.kids[k]=0:=hc
 refine .mk ⟨?_,hS.own hS37 (fun c hc=>.inr (by simp at hc;omega))⟩
 unfold Jb
 rw [if_neg (by omega),if_pos]
 have:Zd x.kids[k]∈ts:=by
  subst hts
  exact X4 (Xg hlt)
 rwa [h0'] at this
 refine Zr (k+1) ⟨rfl,rfl,rfl,rfl,rfl,trivial⟩ ⟨hlt,hS37,harr,?_⟩ (by omega)
 rw [hnx,Xt]
 rintro (h|h)
 exact hno h
 simp only [Xq] at h
 exact hc h.symm
 have hke:k=x.kids.length:=by omega
 subst hke
 focus repeat'(first|refine W1 ?_|omega|refine VG ?_ ?_<;>intro hg|refine VC ?_ ?_<;>intro hc)
 rw [← hlen,Zfy ts (by omega)] at harr
 rw [← hlen,XL] at hno
 exact ZI () ⟨rfl,rfl,trivial⟩ ⟨hS3,harr,hno⟩
 rintro _ w3 ⟨hS3,harr,hno⟩
 replace hblk:=hblk.ext hS3 (by simpa using hbq)
 replace hF:=hF.on hS3 (by simp)
 replace hs:=hs.on hS3 (by simp)
 replace hS:=hS.own hS3 (fun c hc=>.inr (by simp at hc;omega))
 unfold Jb
 rw [if_neg (by omega),if_neg hno]
 by_cases h0:x.kids.length=0
 rw [if_pos (XE.1 (by omega))]
 focus repeat'(first|refine W1 ?_|omega|refine VG ?_ ?_<;>intro hg|refine VC ?_ ?_<;>intro hc)
 refine CL rfl (Zp rfl) rfl (Zft [q] _ x _ ⟨kv,rfl,hs⟩ hF.any) ?_
 rintro _ w4 ⟨rfl,hS4⟩
 refine W ?_
 refine WR ?_
 exact .mk ⟨rfl,hS.trans hS4⟩
 rw [if_neg (fun h=>h0 (by rw [← hlen,h];rfl))]
 clear hget hts
 generalize ts.getD 0 0=a at *
 generalize ts.getD 1 0=bb at *
 generalize ts.getD 2 0=c at *
 repeat'(first|refine W1 ?_|omega|refine VG ?_ ?_<;>intro hg|refine VC ?_ ?_<;>intro hc)
 refine WR ?_
 exact .mk ⟨by rw [if_pos (by assumption)],hS⟩
 all_goals rw [if_neg (by assumption)]
 all_goals first
  | (have h9 : x.kind = 9 ∧ x.word = [] ∧ a = 2 ∧ bb = c := ⟨by assumption, by assumption, by assumption, by assumption⟩
     rw [if_pos h9]
     refine WR ?_
     exact .mk ⟨rfl,hS⟩)
  | rw [show (if x.kind = 9 ∧ x.word = [] ∧ a = 2 ∧ bb = c then bb else if x.kind = 6 ∧ c = 0 then Z1A x.word a bb else Z3u ⟨x.kind, x.word, a, bb, c⟩) = if x.kind = 6 ∧ c = 0 then Z1A x.word a bb else Z3u ⟨x.kind, x.word, a, bb, c⟩ from if_neg (fun h => by
     obtain ⟨h1,h2,h3,h4⟩:=h
     first|omega|contradiction)]
 all_goals first
  | (have h6 : x.kind = 6 ∧ c = 0 := ⟨by assumption, by assumption⟩
     rw [if_pos h6]
     refine CL rfl (Z9 rfl rfl) rfl (ZbQ x.word a bb c _) ?_
     rintro _ w4 ⟨rfl,hS4⟩
     refine W ?_
     refine WR ?_
     exact .mk ⟨rfl,hS.trans hS4⟩)
  | rw [show (if x.kind=6∧c=0 then Z1A x.word a bb else Z3u ⟨x.kind,x.word,a,bb,c⟩)=Z3u ⟨x.kind,x.word,a,bb,c⟩ from if_neg (fun h=>by omega)]
 all_goals
  refine ZDr 9 [] [] [(1,0),(2,1),(3,0),(4,1),(5,1),(6,0),(0,2),(7,2),(8,0)] (fun w1 hS1=>?_)
  replace hblk:=hblk.up hS1
  replace harr:=harr.up hS1
  replace hS:=hS.trans hS1
  refine D ?_
  apply Z0R
  exact rfl
  apply Z2X (vs:=[(0,.int .i64 _),(1,str _),(2,Za5 _ _ _)])
  exact trivial
  exact rfl
  exact Z6Q _ _ _ _ _
  exact rfl
  refine Zb rfl trivial (Z5 rfl Z4O (Z79 _)) (fun _ _ h=>h.choose_spec.choose_spec.2.2.2) rfl ?_
  rintro _ w5 ⟨m,ll,rfl,hm,hp,hS5⟩
  have hmg:=Za6 ⟨x.kind,x.word,a,bb,c⟩
  unfold ZbP at hmg
  rw [← ZdB hp ZbO] at hmg
  refine Zb rfl trivial (Zj1 (Z1z (a:=(⟨x.kind,x.word,a,bb,c⟩:Sig)) rfl rfl hm)) (fun _ _ h=>h.2 ▸ Stp.refl _ _) rfl ?_
  rintro _ _ ⟨rfl,rfl⟩
  rw [hmg]
  refine D ?_
  refine W ?_
  refine WR ?_
  exact .mk ⟨rfl,hS.trans hS5⟩
theorem ZoR:∀ p∈Z2x,∃ z,p.2=Value.int .i64 z:=by
 intro p hp
 simp only [Z2x,Z6G,J6,Xn,Xv,XY,Yak,Z1v,Xp,XS,Xz,Xf,Xk,or_false,ent] at hp
 rcases hp with rfl|rfl|rfl|rfl|rfl|rfl|rfl|rfl|rfl|rfl|rfl|rfl|rfl|rfl|rfl<;>exact ⟨_,rfl⟩
theorem ZdC {x:Sig} (h:¬ ∃ p∈Z2x,p.1=x):Z3u x=0:=by
 unfold Z3u ZbP Z2Z
 have:Z2x.find? (fun p=>decide (p.1=x))=none:=by
  rw [Yad]
  intro p hp
  simpa using fun e=>h ⟨p,hp,e⟩
 rw [this]
def Z1e:List Str:=[[110,101,120,116],[112,114,101,118]]
def Z1f:List Str:=[[108,97,116,101,114],[101,97,114,108,105,101,114]]
theorem Z3v {s:Str} {l:List Str}:0≤idx (isS s) l↔s∈l:=by
 unfold idx
 cases h:l.findIdx? (isS s) with
 | none=>
   rw [X2] at h
   constructor
   intro h0
   simp at h0
   intro hm
   have:=h s hm
   simp at this
 | some i=>
   obtain ⟨hi,hp,_⟩:=XW.1 h
   constructor
   intro _
   have:l[i]=s:=by simpa using hp
   rw [← this]
   exact Xg _
   intro _
   simp
def Z8p (s:Str) (l:List Int):Int:=
 if 0≤idx (isS s) Z1e∧Z24 l [3]=true then 3 else if 0≤idx (isS s) Z1f∧Z24 l [3,3]=true then 3 else if s=[98,101,116,119,101,101,110]∧Z24 l [3,3]=true then 1 else 0
def Z7a (k n:Int) (s:Str) (ts:List Int):Int:=
 if ts=[] then Z0E k n s else if ¬ n=0 then 0
 else if k=5 then (if s=[45]∧Z24 ts [1]=true∨s=[110,111,116]∧Z24 ts [2]=true then ts.getD 0 0 else 0)
 else if k=6 then ZbN s ts
 else if k=7∨k=8 then (if 0≤idx (isS s) J6∧Z24 ts [3,1]=true then 3 else 0)
 else if k=9 then (if s=[]∧ts.length=3∧Z24 ts [2,ts.getD 1 0,ts.getD 1 0]=true then ts.getD 1 0 else 0)
 else if k=10 then Z8p s ts else 0
theorem Za7 {l m:List Int}:Z24 l m=true↔l=m∧∀ x∈l,x≠0:=by simp [Z24]
theorem ZcL {l m:List Int} (h:¬ (l=m∧∀ x∈l,x≠0)):Z24 l m=false:=by simp [Z24];simpa using h
theorem ZdD (k n:Int) (s:Str) (ts:List Int) (h0:¬ ts=[]) (hb:(0:Int)∈ts∨ts.length > 3):Z7a k n s ts=0:=by
 have hno:∀ m:List Int,m.length≤3→Z24 ts m=false:=fun m hm=>ZcL (fun ⟨h1,h2⟩=>by
  rcases hb with hb|hb
  exact h2 0 hb rfl
  rw [h1] at hb;omega)
 unfold Z7a ZbN Z8p
 simp only [hno _ (show [(1:Int)].length≤3 by decide),hno _ (show [(2:Int)].length≤3 by decide),hno _ (show [(3:Int)].length≤3 by decide),hno [1,1] (by decide),hno [3,3] (by decide),hno [2,2] (by decide),hno [3,1] (by decide),hno [2,ts.getD 1 0,ts.getD 1 0] (by simp),if_neg h0]
 simp
theorem ZhK (s:Str) (a b:Int) (ha:a≠0) (hb:b≠0) (hr:1≤a∧a≤3) (hr2:1≤b∧b≤3):ZbN s [a,b]=Z1A s a b:=by
 unfold ZbN Z1A
 simp only [Z3v,Za7]
 have e:∀ c d:Int,([a,b]=[c,d]∧∀ x∈[a,b],x≠0)↔(a=c∧b=d):=fun c d=>by simp [ha,hb]
 simp only [e]
 by_cases hA:s∈Z0f
 have hC:¬ s∈Z25:=by
  simp only [Z0f,Xf,Xk,or_false] at hA
  rcases hA with rfl|rfl|rfl<;>decide
 have hL:¬ s∈Z0g:=by
  simp only [Z0f,Xf,Xk,or_false] at hA
  rcases hA with rfl|rfl|rfl<;>decide
 simp only [hA,hC,hL,true_and,false_and,if_false,if_true]
 by_cases h1:a=1∧b=1
 rw [if_pos h1,if_pos ⟨by omega,by omega⟩]
 rw [if_neg h1,if_neg (fun h=>by omega)]
 simp only [hA,false_and,if_false]
 by_cases hC:s∈Z25
 have hL:¬ s∈Z0g:=by
  simp only [Z25,Xf,Xk,or_false] at hC
  rcases hC with rfl|rfl|rfl|rfl|rfl|rfl<;>decide
 simp only [hC,hL,true_and,false_and,if_false,if_true]
 by_cases h1:a=1∧b=1∨a=3∧b=3
 rw [if_pos h1,if_pos ⟨by omega,by omega⟩]
 rw [if_neg h1,if_neg (fun h=>by omega)]
 simp only [hC,false_and,if_false]
 by_cases hL:s∈Z0g
 simp only [hL,true_and,if_true]
 by_cases h1:a=2∧b=2
 rw [if_pos h1,if_pos ⟨by omega,by omega⟩]
 rw [if_neg h1,if_neg (fun h=>by omega)]
 simp only [hL,false_and,if_false]
def Zfz:List Sig:=Z2x.map (·.1)
def ZbS (k:Int) (s:Str) (a b c:Int):Int:=
 if c=0 then
  if b=0 then (if k=5∧s=[45]∧a=1 then 1 else if k=5∧s=[110,111,116]∧a=2 then 2 else if k=10∧s∈Z1e∧a=3 then 3 else 0)
  else if a=3∧b=3∧k=10∧s∈Z1f then 3 else if a=3∧b=3∧k=10∧s=[98,101,116,119,101,101,110] then 1 else if a=3∧b=1∧(k=7∨k=8)∧s∈J6 then 3 else 0
 else 0
theorem ZfA:∀ x∈Zfz,Z3u x=ZbS x.kind x.s x.a x.b x.c:=by
 intro x hx
 simp only [Zfz,Z2x,Z6G,J6,Xn,Xv,XY,Yak,Z1v,Xp,XS,Xz,Xf,Xk,or_false,ent] at hx
 rcases hx with rfl|rfl|rfl|rfl|rfl|rfl|rfl|rfl|rfl|rfl|rfl|rfl|rfl|rfl|rfl<;>decide
theorem Z6R (k:Int) (s:Str) (a b c:Int):Z3u ⟨k,s,a,b,c⟩=ZbS k s a b c:=by
 by_cases hx:(⟨k,s,a,b,c⟩:Sig)∈Zfz
 exact ZfA _ hx
 rw [ZdC (fun ⟨p,hp,e⟩=>hx (e ▸ X4 hp))]
 unfold ZbS
 symm
 split
 rename_i hc
 subst hc
 split
 rename_i hb
 subst hb
 split
 rename_i h;obtain ⟨rfl,rfl,rfl⟩:=h;exact absurd (by decide) hx
 split
 rename_i h;obtain ⟨rfl,rfl,rfl⟩:=h;exact absurd (by decide) hx
 split
 rename_i h
 obtain ⟨rfl,h,rfl⟩:=h
 simp only [Z1e,Xf,Xk,or_false] at h
 rcases h with rfl|rfl<;>exact absurd (by decide) hx
 rfl
 split
 rename_i h
 obtain ⟨rfl,rfl,rfl,h⟩:=h
 simp only [Z1f,Xf,Xk,or_false] at h
 rcases h with rfl|rfl<;>exact absurd (by decide) hx
 split
 rename_i h;obtain ⟨rfl,rfl,rfl,rfl⟩:=h;exact absurd (by decide) hx
 split
 rename_i h
 obtain ⟨rfl,rfl,h1,h⟩:=h
 simp only [J6,Xf,Xk,or_false] at h
 rcases h1 with rfl|rfl<;>rcases h with rfl|rfl|rfl|rfl<;>exact absurd (by decide) hx
 rfl
 rfl
theorem ZoS {a x:Int} (ha:a≠0):Z24 [a] [x]=decide (a=x):=by simp [Z24,ha]
theorem ZoT {a b x y:Int} (ha:a≠0) (hb:b≠0):Z24 [a,b] [x,y]=decide (a=x∧b=y):=by simp [Z24,ha,hb]
theorem ZoU {a b c x y z:Int} (ha:a≠0) (hb:b≠0) (hc:c≠0):Z24 [a,b,c] [x,y,z]=decide (a=x∧b=y∧c=z):=by simp [Z24,ha,hb,hc]
theorem JS {l m:List Int} (h:¬ l.length=m.length):Z24 l m=false:=ZcL (fun h'=>h (by rw [h'.1]))
theorem ZfB (k n:Int) (s:Str) (ts:List Int) (hr:∀ t∈ts,0≤t∧t≤3):Z7a k n s ts=Jb k n s ts:=by
 by_cases h0:ts=[]
 subst h0;simp [Z7a,Jb]
 by_cases hb:(0:Int)∈ts∨ts.length > 3
 rw [ZdD k n s ts h0 hb]
 unfold Jb
 rcases hb with hb|hb
 simp [hb]
 simp [show ts.length > 3 from hb]
 have hz:¬ (0:Int)∈ts:=fun h=>hb (.inl h)
 have hl:¬ ts.length > 3:=fun h=>hb (.inr h)
 unfold Z7a Jb
 rw [if_neg h0,if_neg hl,if_neg hz,if_neg h0]
 by_cases hn:¬ n=0
 rw [if_pos hn,if_pos hn]
 rw [if_neg hn,if_neg hn]
 match ts,h0,hl with
 | [a], _, _=>
   have ha:a≠0:=fun e=>hz (by simp [e])
   have hra:=hr a (by simp)
   simp only [Xm,XH,Ya2,Z6R,Z8p,ZbN,Z3v,ZoS ha,JS (show ¬ [a].length=[(1:Int),1].length by simp),JS (show ¬ [a].length=[(3:Int),3].length by simp),JS (show ¬ [a].length=[(2:Int),2].length by simp),JS (show ¬ [a].length=[(3:Int),1].length by simp),decide_eq_true_eq]
   have hb0:Z1A s a 0=0:=by
    unfold Z1A
    have h1:¬ (a=0∧a=1):=fun h=>ha h.1
    have h2:¬ (a=0∧¬ a=2):=fun h=>ha h.1
    have h3:¬ (a=0∧a=2):=fun h=>ha h.1
    simp only [if_neg h1,if_neg h2,if_neg h3,ite_self]
   simp only [hb0,ZbS,Xc,Xe,XG,and_false,or_self,if_false]
   grind (splits:=40)
 | [a, b], _, _=>
   have ha:a≠0:=fun e=>hz (by simp [e])
   have hb:b≠0:=fun e=>hz (by simp [e])
   have hra:=hr a (by simp)
   have hrb:=hr b (by simp)
   simp only [Xm,XH,Ya2,Z6R,Z8p,ZhK s a b ha hb (by omega) (by omega),Z3v,ZoT ha hb,JS (show ¬ [a,b].length=[(1:Int)].length by simp),JS (show ¬ [a,b].length=[(2:Int)].length by simp),JS (show ¬ [a,b].length=[(3:Int)].length by simp),decide_eq_true_eq]
   simp only [ZbS,Xc,Xe,XG,and_false,or_self,if_false]
   grind (splits:=40)
 | [a, b, c], _, _=>
   have ha:a≠0:=fun e=>hz (by simp [e])
   have hb:b≠0:=fun e=>hz (by simp [e])
   have hc:c≠0:=fun e=>hz (by simp [e])
   have hra:=hr a (by simp)
   have hrb:=hr b (by simp)
   have hrc:=hr c (by simp)
   simp only [Xm,XH,Z6R,Z8p,ZbN,Z3v,ZoU ha hb hc,JS (show ¬ [a,b,c].length=[(1:Int)].length by simp),JS (show ¬ [a,b,c].length=[(2:Int)].length by simp),JS (show ¬ [a,b,c].length=[(3:Int)].length by simp),JS (show ¬ [a,b,c].length=[(1:Int),1].length by simp),JS (show ¬ [a,b,c].length=[(3:Int),3].length by simp),JS (show ¬ [a,b,c].length=[(2:Int),2].length by simp),JS (show ¬ [a,b,c].length=[(3:Int),1].length by simp),decide_eq_true_eq]
   simp only [ZbS,Xc,Xe,XG,and_false,or_self,if_false]
   grind (splits:=40)
 | _ :: _ :: _ :: _ :: _,_,hl=>exact absurd (by simp) hl
theorem Za8 (k n:Int) (s:Str):0≤Z0E k n s∧Z0E k n s≤3:=by
 have h:0≤(ZZ s).2.1∧(ZZ s).2.1≤3:=by
  unfold ZZ
  dsimp only
  split
  simp
  split<;>simp
 unfold Z0E
 grind
theorem Za9 (k n:Int) (s:Str) (ts:List Int) (hr:∀ t∈ts,0≤t∧t≤3):0≤Jb k n s ts∧Jb k n s ts≤3:=by
 unfold Jb
 split
 omega
 split
 omega
 split
 exact Za8 _ _ _
 split
 omega
 have hg:∀ i,0≤ts.getD i 0∧ts.getD i 0≤3:=by
  intro i
  by_cases hi:i<ts.length
  have:=hr ts[i] (Xg hi)
  simpa [List.getD,hi] using this
  simp [List.getD,List.getElem?_eq_none (Nat.le_of_not_lt hi)]
 split
 exact hg 1
 split
 unfold Z1A
 split
 split<;>omega
 split
 split<;>omega
 split
 split<;>omega
 omega
 rw [Z6R]
 unfold ZbS
 grind
theorem Z2F (x:Nd):0≤Zd x∧Zd x≤3:=by
 induction x using Nd.ind with
 | h k n s l ih=>
 rw [Z08]
 refine Za9 _ _ _ _ (fun t ht=>?_)
 obtain ⟨y,hy,rfl⟩:=Yax.1 ht
 exact ih y hy
theorem ZhL (x:Nd):Zd x=Z7a x.kind x.num x.word (x.kids.map Zd):=by
 rw [Z08,ZfB]
 intro t ht
 obtain ⟨y,hy,rfl⟩:=Yax.1 ht
 exact Z2F y
def Zw:Nd→Nat
 | .mk k n s l=>1+(l.map Zw).foldl max 0
theorem Z09 (x:Nd):Zw x=1+(x.kids.map Zw).foldl max 0:=by
 cases x
 rw [Zw]
 rfl
theorem Z5f (l:List Nat):∀ (m b:Nat),l.foldl max m≤b↔m≤b∧∀ x∈l,x≤b:=by
 induction l with
 | nil=>intro m b;simp
 | cons y r ih=>
   intro m b
   rw [YaV,ih]
   simp only [Xf,forall_eq_or_imp]
   constructor
   rintro ⟨h1,h2⟩
   exact ⟨by omega,by omega,h2⟩
   rintro ⟨h1,h2,h3⟩
   exact ⟨by omega,h3⟩
theorem ZbT (m:Nat):∀ x:Nd,Z1k m x=decide (Zw x≤m):=by
 induction m with
 | zero=>
   intro x
   rw [Z09]
   simp [Z1k]
 | succ m ih=>
   intro x
   rw [Z09]
   have e:(1+(x.kids.map Zw).foldl max 0≤m+1)↔∀ y∈x.kids,Zw y≤m:=by
    rw [show (1+(x.kids.map Zw).foldl max 0≤m+1)↔(x.kids.map Zw).foldl max 0≤m by omega,Z5f]
    simp
   rw [X0,decide_eq_true_iff,e]
   simp only [Z1k,XD]
   exact ⟨fun h y hy=>by have:=h y hy;rw [ih] at this;simpa using this,fun h y hy=>by rw [ih];simpa using h y hy⟩
theorem Z1l {x y:Nd} (h:y∈x.kids):Zw y<Zw x:=by
 rw [Z09 x]
 have:=(Z5f (x.kids.map Zw) 0 ((x.kids.map Zw).foldl max 0)).1 (Xo _)
 have:=this.2 (Zw y) (X4 h)
 omega
theorem ZfC (X XF:List Nat) (v:Value) (x:Nd) (w:World) (hx:NdV X w v x) (hF:SlV XF w Z30 Zg) :
 CC 38 #[v] w fun r w'=>r=.tuple #[.int .i64 (if Zw x≤12 then Zd x else 0),.int .i64 (if Zw x≤12 then (if Zd x=0 then 21 else 0) else 2)]∧Stp [] w w':=by
 obtain ⟨kv,rfl,hs⟩:=hx
 refine cW1 13 Tryz.func38 ?_
 refine W ?_
 refine Z3 (Zs rfl) rfl ?_
 rintro _ w1 ⟨b,rfl,hbb,hblk,hS⟩
 replace hblk:Blk w1 b _ (ndC x kv):=hblk
 replace hs:=hs.up hS;replace hF:=hF.up hS
 refine W ?_
 refine CL rfl (Z9 rfl rfl) rfl (ZbK 12 X _ x 12 _ rfl (by omega) ⟨kv,rfl,hs⟩) ?_
 rintro _ w2 ⟨rfl,hS2⟩
 replace hs:=hs.up hS2;replace hF:=hF.up hS2;replace hblk:=hblk.up hS2
 replace hS:=hS.trans hS2
 rw [ZbT]
 by_cases hn:Zw x≤12
 rw [decide_eq_true hn,if_pos hn,if_pos hn]
 refine W ?_
 refine CL rfl (Zp rfl) rfl (Zmu x X XF _ _ ⟨kv,rfl,hs⟩ hF) ?_
 rintro _ w3 ⟨rfl,hS3⟩
 replace hS:=hS.trans hS3
 focus repeat'(first|refine W1 ?_|omega|refine VG ?_ ?_<;>intro hg|refine VC ?_ ?_<;>intro hc)
 refine WR ?_
 exact .mk ⟨by rw [if_neg hc],hS⟩
 refine WR ?_
 have h0:Zd x=0:=by omega
 exact .mk ⟨by rw [if_pos h0,h0],hS⟩
 rw [decide_eq_false hn,if_neg hn,if_neg hn]
 refine W ?_
 refine WR ?_
 exact .mk ⟨rfl,hS⟩
def JJ:Nd→Nat
 | .mk k n s l=>1+(l.map JJ).sum
theorem Z31 (x:Nd):JJ x=1+(x.kids.map JJ).sum:=by
 cases x
 rw [JJ]
 rfl
theorem Z7b {x:Nd} (h:Zd x≠0):x.kids.length≤3∧∀ y∈x.kids,Zd y≠0:=by
 rw [Z08] at h
 unfold Jb at h
 refine ⟨?_,fun y hy e=>?_⟩
 by_cases hl:(x.kids.map Zd).length > 3
 rw [if_pos hl] at h;exact absurd rfl h
 simpa using hl
 by_cases hl:(x.kids.map Zd).length > 3
 rw [if_pos hl] at h;exact absurd rfl h
 rw [if_neg hl,if_pos (by rw [← e];exact X4 hy)] at h
 exact absurd rfl h
def ZhM:List Str:=[[110,101,120,116],[112,114,101,118],[108,97,116,101,114],[101,97,114,108,105,101,114],[98,101,116,119,101,101,110]]
inductive ZoV (k:Int) (s:Str) (m:Nat):Prop
 | neg (h:k=5) (hs:s=[45]∨s=[110,111,116]) (hm:m=1)
 | bin (h:k=6) (hs:s∈Z0f∨s∈Z25∨s∈Z0g) (hm:m=2)
 | unit (h:k=7∨k=8) (hs:s∈J6) (hm:m=2)
 | cond (h:k=9) (hm:m=3)
 | call (h:k=10) (hs:s∈ZhM) (hm:1≤m∧m≤2)
theorem Zaa {x:Nd} (h:Zd x≠0) (hk:x.kids≠[]):x.num=0∧ZoV x.kind x.word x.kids.length:=by
 have hl:=(Z7b h).1
 rw [ZhL] at h
 have hlen:(x.kids.map Zd).length=x.kids.length:=by simp
 have hne:¬ x.kids.map Zd=[]:=by simpa using hk
 generalize x.kids.map Zd=ts at *
 rw [← hlen]
 unfold Z7a at h
 rw [if_neg hne] at h
 have hn:x.num=0:=Decidable.byContradiction (fun hn=>by rw [if_pos hn] at h;exact absurd rfl h)
 refine ⟨hn,?_⟩
 rw [if_neg (by simpa using hn)] at h
 have hlm:∀ m:List Int,Z24 ts m=true→ts.length=m.length:=fun m hm=>by rw [(Za7.1 hm).1]
 by_cases k5:x.kind=5
 rw [if_pos k5] at h
 split at h
 rename_i hh
 rcases hh with ⟨h1,h2⟩|⟨h1,h2⟩
 exact .neg k5 (.inl h1) (hlm _ h2)
 exact .neg k5 (.inr h1) (hlm _ h2)
 exact absurd rfl h
 rw [if_neg k5] at h
 by_cases k6:x.kind=6
 rw [if_pos k6] at h
 unfold ZbN at h
 simp only [Z3v] at h
 split at h
 rename_i hh;exact .bin k6 (.inl hh.1) (hlm _ hh.2)
 split at h
 rename_i hh
 rcases hh.2 with h2|h2
 exact .bin k6 (.inr (.inl hh.1)) (hlm _ h2)
 exact .bin k6 (.inr (.inl hh.1)) (hlm _ h2)
 split at h
 rename_i hh;exact .bin k6 (.inr (.inr hh.1)) (hlm _ hh.2)
 exact absurd rfl h
 rw [if_neg k6] at h
 by_cases k78:x.kind=7∨x.kind=8
 rw [if_pos k78] at h
 simp only [Z3v] at h
 split at h
 rename_i hh;exact .unit k78 hh.1 (hlm _ hh.2)
 exact absurd rfl h
 rw [if_neg k78] at h
 by_cases k9:x.kind=9
 rw [if_pos k9] at h
 split at h
 rename_i hh;exact .cond k9 hh.2.1
 exact absurd rfl h
 rw [if_neg k9] at h
 by_cases k10:x.kind=10
 rw [if_pos k10] at h
 unfold Z8p at h
 simp only [Z3v] at h
 split at h
 rename_i hh
 refine .call k10 ?_ (by have:=hlm _ hh.2;simp at this;omega)
 have:=hh.1
 simp only [Z1e,ZhM,Xf,Xk,or_false] at this ⊢
 rcases this with h|h<;>simp [h]
 split at h
 rename_i hh
 refine .call k10 ?_ (by have:=hlm _ hh.2;simp at this;omega)
 have:=hh.1
 simp only [Z1f,ZhM,Xf,Xk,or_false] at this ⊢
 rcases this with h|h<;>simp [h]
 split at h
 rename_i hh
 refine .call k10 ?_ (by have:=hlm _ hh.2;simp at this;omega)
 simp [ZhM,hh.1]
 exact absurd rfl h
 rw [if_neg k10] at h
 exact absurd rfl h
theorem ZbU {x:Nd} (h:Zd x≠0) (hk:x.kids=[]):1≤x.kind∧x.kind≤4:=by
 rw [Z08,hk] at h
 simp [Jb] at h
 unfold Z0E at h
 grind
end Go.Proofs.YtjdjdoefppebkaaGreatDoor
namespace Go.Eng
open Go
structure Ins where
 op:Int
 n:Int
 deriving DecidableEq,Inhabited
instance:Zi Ins where
 k:=2
 enc:=fun x=>[.int .i64 x.op,.int .i64 x.n]
 len:=fun _=>rfl
 one:=by intro x u hu;simp at hu;rcases hu with rfl|rfl<;>rfl
def agg {α:Type} [Zi α] (x:α):Value:=.agg (Zi.enc x).toArray
theorem Row.keep {β:Type} [Zi β] {X S:List Nat} {w w':World} {base T:Nat} {v:Value} {xs:List β} (h:Row X w base T v xs) (hS:Stp S w w') (hd:∀ b∈S,b∉ob v):Row X w' base T v xs:=by
 have h':Row S w base T v xs:=h
 have:=h'.ext (X':=X) hS (fun b hb=>⟨hb,hd b hb⟩)
 obtain ⟨css,h1,h2,h3⟩:=h
 refine ⟨css,h1,h2,?_⟩
 have h4:Row S w base T v xs:=⟨css,h1,h2,h3⟩
 obtain ⟨ho,hr⟩:=h3
 refine ⟨ho,?_⟩
 rcases hr with hn|⟨q,cap,cur,rfl,hb,hg,rest⟩
 exact .inl hn
 refine .inr ⟨q,cap,cur,rfl,hb,?_,rest⟩
 rw [hS.block q (Xl.1 hg).1 (fun hq=>hd q hq (by simp [ob]))]
 exact hg
end Go.Eng
namespace Go.Proofs.YtjdjdoefppebkaaGreatDoor
open Go Go.Eng Go.RowKit
theorem Zmv (a b:Int) (w:World):(Instr.build 51 #[(0,.int .i64 a),(1,.int .i64 b)]).run Tryz.prog w=.ok (agg (Ins.mk a b)) w:=by kernel_rfl
theorem ZhN (d:Ins) (w:World):(Instr.buildSlice 40 1 #[(0,agg d)]).run Tryz.prog w=.ok (.slice (some ⟨w.heap.size,0,none⟩) 1 1) (w.alloc (.cells (Zi.enc d).toArray 51)):=by kernel_rfl
structure Cod (w:World) (bc base:Nat) (v:Value) (xs:List Ins):Prop where
 blk:Blk w bc 156 [v]
 row:Row [] w base 51 v xs
 apart:bc∉ob v
 low:bc<base
 top:base≤w.heap.size
def Z1u (w:World) (bc base:Nat) (v:Value) (ys:List Ins) (w':World):Prop:=
 ∃ v',Cod w' bc base v' ys∧Stp (bc :: ob v) w w'∧∀ b∈ob v',b∈ob v∨w.heap.size≤b
theorem Cod.up {w w':World} {bc base:Nat} {v:Value} {xs:List Ins} (h:Cod w bc base v xs) (hS:Stp [] w w'):Cod w' bc base v xs:=
 ⟨h.blk.up hS,h.row.up hS,h.apart,h.low,Xh h.top hS.size⟩
theorem Z1u.pre {w0 w w':World} {bc base:Nat} {v:Value} {ys:List Ins} (hS:Stp [] w0 w) (h:Z1u w bc base v ys w'):Z1u w0 bc base v ys w':=by
 obtain ⟨v',h1,h2,h3⟩:=h
 exact ⟨v',h1,(hS.mono (by simp)).trans h2,fun b hb=>(h3 b hb).imp id (fun h=>Xh hS.size h)⟩
theorem Z1u.next {w w1 w2:World} {bc base:Nat} {v v1:Value} {zs:List Ins} (hS:Stp (bc :: ob v) w w1) (hb:∀ b∈ob v1,b∈ob v∨w.heap.size≤b) (h:Z1u w1 bc base v1 zs w2):Z1u w bc base v zs w2:=by
 obtain ⟨v',h1,h2,h3⟩:=h
 refine ⟨v',h1,?_,fun b hb'=>?_⟩
 exact hS.own h2 (fun b hb'=>by
  rcases Xf.1 hb' with rfl|h
  exact .inl (by simp)
  exact (hb b h).imp (fun h=>XK _ h) id)
 rcases h3 b hb' with h|h
 exact hb b h
 exact .inr (Xh hS.size h)
theorem Zj3 {w w':World} {bc:Nat} {v v':Value} {α:Type} [Zf α] {u:Value} {xs:List α} (h:SlV (bc :: ob v) w u xs) (hS:Stp (bc :: ob v) w w') (hb:∀ b∈ob v',b∈ob v∨w.heap.size≤b):SlV (bc :: ob v') w' u xs:=
 h.ext hS (fun _ h=>h) (fun b hb'=>by
  rcases Xf.1 hb' with rfl|h
  exact .inl (by simp)
  exact (hb b h).imp (fun h=>XK _ h) id)
theorem Z1m (bc base:Nat) (v:Value) (xs:List Ins) (op n:Int) (w:World) (hc:Cod w bc base v xs) (hl:xs.length≤1000000) :
 CC 77 #[.pointer (some ⟨bc,0,none⟩),.int .i64 op,.int .i64 n] w fun r w'=>r=.int .i64 (xs.length:Int)∧Z1u w bc base v (xs++[⟨op,n⟩]) w':=by
 obtain ⟨hblk,hrow,hap,hlow,htop⟩:=hc
 refine cW3 25 Tryz.func77 ?_
 refine W ?_
 apply Ze (vs:=[(0,.int .i64 op),(1,.int .i64 n)]) rfl (Zmv _ _) rfl
 refine Z3 (Z2 (vs:=[(0,agg (Ins.mk op n))]) rfl (ZhN _)) rfl ?_
 rintro bv w1 hN
 have hbv:SlV (ob v++[]) w1 bv [Ins.mk op n]:=hN.slv (fun b hb=>(hrow.ob_le b (by simpa using hb)).2) rfl rfl (by simp [maxLen])
 have hS1:=Zc.stp hN
 clear hN
 have hrow1:=hrow.up hS1
 have hblk1:=hblk.up hS1
 have h1:=hS1.size
 refine Z3 (Z05 (X:=[]) (base:=base) rfl (by decide) rfl rfl hrow1 hbv (by simp only [Xc,Xe];omega) (by simp only [Xc,Xe,maxLen];omega) (by omega)) rfl ?_
 rintro v' w2 ⟨hrow2,hS2,hob⟩
 have hblk2:=hblk1.ext hS2 hap
 have hbl:=hblk1.lt
 refine W ?_
 refine Z0 (Zj (u:=v') rfl rfl hrow2.slv0.cells hrow2.slv0.one hblk2 (by simp)) ?_
 rintro _ w3 ⟨hS3,hblk3⟩
 replace hblk3:Blk w3 bc 156 [v']:=hblk3
 have hap':bc∉ob v':=fun hb=>by
  rcases hob bc hb with h|h
  exact hap h
  omega
 have hrow3:=hrow2.keep hS3 (fun b hb=>by simp at hb;subst hb;exact hap')
 have hs3:=hrow3.slv0
 have hll:(xs++[Ins.mk op n]).length≤1000001:=by simp only [Xb,Xc,Xe];omega
 refine W ?_
 refine WR ?_
 refine .mk ⟨?_,v',⟨hblk3,hrow3,hap',hlow,?_⟩,?_,?_⟩
 simp only [Xb,Xc,Xe]
 congr 1
 omega
 exact Xh htop (Xh h1 (Xh hS2.size hS3.size))
 exact ((hS1.mono (by simp)).trans (hS2.mono (fun x hx=>by simp [hx]))).trans (hS3.mono (fun x hx=>by simp at hx;simp [hx]))
 intro b hb
 rcases hob b hb with h|h
 exact .inl h
 exact .inr (by omega)
theorem Zab (bc base:Nat) (v:Value) (xs:List Ins) (k:Nat) (w:World) (hc:Cod w bc base v xs) (hk:k<xs.length) (hl:xs.length≤1000000) :
 CC 227 #[.pointer (some ⟨bc,0,none⟩),.int .i64 (k:Int)] w fun r w'=>Z1u w bc base v (xs.set k ⟨xs[k].op,(xs.length:Int)⟩) w':=by
 obtain ⟨hblk,hrow,hap,hlow,htop⟩:=hc
 refine cW2 16 Tryz.func227 ?_
 refine W ?_
 refine ZDr 13 [] [12] [(0,0),(1,0),(2,0),(3,1),(4,0),(5,0),(6,0),(7,0),(8,1),(9,0),(10,0),(11,0),(12,2)] (fun w1 hS1=>?_)
 replace hblk:=hblk.up hS1
 replace hrow:=hrow.up hS1
 have hs:=hrow.slv0
 have hsz:=hS1.size
 refine D ?_
 refine JR rfl trivial (Z5O (β:=Ins) (i:=k) (y':=⟨xs[k].op,(xs.length:Int)⟩) rfl rfl rfl rfl rfl hrow hk (by decide) rfl) rfl ?_
 rintro _ w2 ⟨hrow2,hS2⟩
 refine D ?_
 refine W ?_
 refine WR ?_
 refine .mk ⟨v,⟨hblk.ext hS2 hap,hrow2,hap,hlow,by have:=hS2.size;omega⟩,?_,fun b hb=>.inl hb⟩
 exact (hS1.mono (by simp)).trans (hS2.mono (fun x hx=>by simp [hx]))
structure Fr (w0 w:World) (bc base:Nat) (v0 v:Value) (xs:List Ins):Prop where
 cod:Cod w bc base v xs
 stp:Stp (bc :: ob v0) w0 w
 sub:∀ b∈ob v,b∈ob v0∨w0.heap.size≤b
theorem Fr.start {w:World} {bc base:Nat} {v:Value} {xs:List Ins} (h:Cod w bc base v xs):Fr w w bc base v v xs:=⟨h,Stp.refl _ _,fun b hb=>.inl hb⟩
theorem Fr.step {w0 w w':World} {bc base:Nat} {v0 v:Value} {xs ys:List Ins} (h:Fr w0 w bc base v0 v xs) (k:Z1u w bc base v ys w'):∃ v',Fr w0 w' bc base v0 v' ys:=by
 obtain ⟨v',h1,h2,h3⟩:=Z1u.next h.stp h.sub k
 exact ⟨v',h1,h2,h3⟩
theorem Fr.up {w0 w w':World} {bc base:Nat} {v0 v:Value} {xs:List Ins} (h:Fr w0 w bc base v0 v xs) (hS:Stp [] w w'):Fr w0 w' bc base v0 v xs:=⟨h.cod.up hS,h.stp.trans (hS.mono (by simp)),h.sub⟩
theorem Fr.fin {w0 w:World} {bc base:Nat} {v0 v:Value} {xs:List Ins} (h:Fr w0 w bc base v0 v xs):Z1u w0 bc base v0 xs w:=⟨v,h.cod,h.stp,h.sub⟩
theorem Fr.sl {w0 w:World} {bc base:Nat} {v0 v:Value} {xs:List Ins} {α:Type} [Zf α] {u:Value} {ys:List α} (h:Fr w0 w bc base v0 v xs) (hs:SlV (bc :: ob v0) w0 u ys):SlV (bc :: ob v) w u ys:=Zj3 hs h.stp h.sub
theorem Fr.bk {w0 w:World} {bc base b T:Nat} {v0 v:Value} {xs:List Ins} {cs:List Value} (h:Fr w0 w bc base v0 v xs) (hb:Blk w0 b T cs) (hn:b∉bc :: ob v0):Blk w b T cs:=hb.ext h.stp hn
abbrev Cf:=Nat→List Ins
def chC (c y n:Cf) (p0:Nat):List Ins:=
 c p0 ++ [⟨14, ((p0 + (c p0).length + 1 + (y (p0 + (c p0).length + 1)).length + 1 : Nat) : Int)⟩] ++ y (p0 + (c p0).length + 1) ++
   [⟨13,((p0+(c p0).length+1+(y (p0+(c p0).length+1)).length+1+(n (p0+(c p0).length+1+(y (p0+(c p0).length+1)).length+1)).length:Nat):Int)⟩]++n (p0+(c p0).length+1+(y (p0+(c p0).length+1)).length+1)
def Z2h (x:Nd) (f:Cf):Prop:=∀ (w:World) (bc base:Nat) (v nv:Value) (xs:List Ins),Cod w bc base v xs→NdV (bc :: ob v) w nv x→SlV (bc :: ob v) w Z30 Zg→xs.length+(f xs.length).length≤100000→
 CC 76 #[.pointer (some ⟨bc,0,none⟩),nv] w fun r w'=>Z1u w bc base v (xs++f xs.length) w'
theorem Z4U {x y n:Nd} {f g h:Cf} (hx:Z2h x f) (hy:Z2h y g) (hn:Z2h n h) (w:World) (bc base:Nat) (v xv yv nv:Value) (xs:List Ins) (hc:Cod w bc base v xs)
 (gx:NdV (bc :: ob v) w xv x) (gy:NdV (bc :: ob v) w yv y) (gn:NdV (bc :: ob v) w nv n) (hF:SlV (bc :: ob v) w Z30 Zg) (hl:xs.length+(chC f g h xs.length).length≤100000) :
 CC 137 #[.pointer (some ⟨bc,0,none⟩),xv,yv,nv] w fun r w'=>Z1u w bc base v (xs++chC f g h xs.length) w':=by
 have hl':=hl
 unfold chC at hl'
 simp only [Xb,Xc,Xe] at hl'
 obtain ⟨xk,rfl,sx⟩:=gx
 obtain ⟨yk,rfl,sy⟩:=gy
 obtain ⟨nk,rfl,sn⟩:=gn
 refine cW4 29 Tryz.func137 ?_
 refine W ?_
 refine Z3 (Zs rfl) rfl ?_
 rintro _ w1 ⟨b1,rfl,hb1,k1,hS1⟩
 replace k1:Blk w1 b1 _ (ndC x xk):=k1
 refine Z3 (Zs rfl) rfl ?_
 rintro _ w2 ⟨b2,rfl,hb2,k2,hS2⟩
 replace k2:Blk w2 b2 _ (ndC y yk):=k2
 refine Z3 (Zs rfl) rfl ?_
 rintro _ w3 ⟨b3,rfl,hb3,k3,hS3⟩
 replace k3:Blk w3 b3 _ (ndC n nk):=k3
 have hS:=(hS1.trans hS2).trans hS3
 have l1:=k1.lt
 have l2:=k2.lt
 have l3:=k3.lt
 replace k1:=(k1.up hS2).up hS3
 replace k2:=k2.up hS3
 have hobv:∀ b∈bc :: ob v,b<w.heap.size:=fun b hb=>by
  rcases Xf.1 hb with rfl|h
  exact hc.blk.lt
  exact (hc.row.ob_le b h).2
 have n1:b1∉bc :: ob v:=fun h=>by have:=hobv _ h;omega
 have n2:b2∉bc :: ob v:=fun h=>by have:=hobv _ h;omega
 have n3:b3∉bc :: ob v:=fun h=>by have:=hobv _ h;omega
 replace hc:=hc.up hS
 replace sx:=sx.up hS
 replace sy:=sy.up hS
 replace sn:=sn.up hS
 replace hF:=hF.up hS
 have l1:=k1.lt
 have l2:=k2.lt
 have l3:=k3.lt
 have main:∀ ys w',Z1u w3 bc base v ys w'→Z1u w bc base v ys w':=fun ys w' h=>h.pre hS
 refine W ?_
 have fr:=Fr.start hc
 refine CL rfl (Z9 rfl rfl) rfl (hx _ bc base _ _ _ fr.cod ⟨xk,rfl,fr.sl sx⟩ (fr.sl hF) (by omega)) ?_
 rintro _ w4 hq
 obtain ⟨v4,fr⟩:=fr.step hq
 refine W ?_
 refine CL rfl (ZH rfl rfl rfl) rfl (Z1m bc base _ _ 14 0 _ fr.cod (by simp only [Xb];omega)) ?_
 rintro _ w5 ⟨rfl,hq⟩
 obtain ⟨v5,fr⟩:=fr.step hq
 have q2:=fr.bk k2 n2
 refine W ?_
 have e1:(xs++f xs.length++[(⟨14,0⟩:Ins)]).length=xs.length+(f xs.length).length+1:=by simp only [Xb,Xc,Xe]
 refine CL rfl (Z9 rfl rfl) rfl (hy _ bc base _ _ _ fr.cod ⟨yk,rfl,fr.sl sy⟩ (fr.sl hF) (by rw [e1];omega)) ?_
 rintro _ w6 hq
 obtain ⟨v6,fr⟩:=fr.step hq
 rw [e1] at fr
 refine W ?_
 refine CL rfl (ZH rfl rfl rfl) rfl (Z1m bc base _ _ 13 0 _ fr.cod (by simp only [Xb,Xc,Xe];omega)) ?_
 rintro _ w7 ⟨rfl,hq⟩
 obtain ⟨v7,fr⟩:=fr.step hq
 refine W ?_
 have hch:=chC.eq_1 f g h xs.length
 generalize hA:f xs.length=A at *
 generalize hp:xs.length+A.length+1=p at *
 generalize hB:g p=B at *
 generalize hqq:p+B.length+1=q at *
 generalize hD:h q=D at *
 have e2:((xs++A).length:Int)=((xs.length+A.length:Nat):Int):=by simp only [Xb]
 rw [e2]
 refine CL rfl (Z9 rfl rfl) rfl (Zab bc base _ _ (xs.length+A.length) _ fr.cod (by simp only [Xb,Xc,Xe];omega) (by simp only [Xb,Xc,Xe];omega)) ?_
 rintro _ w8 hq
 obtain ⟨v8,fr⟩:=fr.step hq
 have e3:∀ (l:List Ins) (h:xs.length+A.length<l.length),l=xs++A++[⟨14,0⟩]++B++[⟨13,0⟩]→l.set (xs.length+A.length) ⟨l[xs.length+A.length].op,(l.length:Int)⟩=xs++A++[⟨14,(q:Int)⟩]++B++[⟨13,0⟩]:=by
  intro l h hl
  have hop:l[xs.length+A.length].op=14:=by
   have:l[xs.length+A.length]?=some ⟨14,0⟩:=by
    rw [hl]
    simp
   rw [XA h] at this
   rw [XJ this]
  have hlen:(l.length:Int)=(q:Int):=by
   rw [hl]
   simp only [Xb,Xc,Xe]
   omega
  rw [hop,hlen,hl]
  simp
 rw [e3 _ _ rfl] at fr
 have q3:=fr.bk k3 n3
 refine W ?_
 have e4:(xs++A++[(⟨14,(q:Int)⟩:Ins)]++B++[(⟨13,0⟩:Ins)]).length=q:=by simp only [Xb,Xc,Xe];omega
 refine CL rfl (Z9 rfl rfl) rfl (hn _ bc base _ _ _ fr.cod ⟨nk,rfl,fr.sl sn⟩ (fr.sl hF) (by rw [e4,hD];omega)) ?_
 rintro _ w9 hq
 obtain ⟨v9,fr⟩:=fr.step hq
 rw [e4,hD] at fr
 refine W ?_
 have e5:((xs++A++[(⟨14,0⟩:Ins)]++B).length:Int)=((p+B.length:Nat):Int):=by simp only [Xb,Xc,Xe];omega
 rw [e5]
 refine CL rfl (Z9 rfl rfl) rfl (Zab bc base _ _ (p+B.length) _ fr.cod (by simp only [Xb,Xc,Xe];omega) (by simp only [Xb,Xc,Xe];omega)) ?_
 rintro _ w10 hq
 obtain ⟨v10,fr⟩:=fr.step hq
 rw [hch]
 have e6:∀ (l:List Ins) (hl:p+B.length<l.length),l=xs++A++[⟨14,(q:Int)⟩]++B++[⟨13,0⟩]++D→l.set (p+B.length) ⟨l[p+B.length].op,(l.length:Int)⟩=xs++(A++[⟨14,(q:Int)⟩]++B++[⟨13,((q+D.length:Nat):Int)⟩]++D):=by
  intro l h hl
  have e7:(xs++A++[(⟨14,(q:Int)⟩:Ins)]++B).length=p+B.length:=by simp only [Xb,Xc,Xe];omega
  have hl2:l=(xs++A++[⟨14,(q:Int)⟩]++B)++⟨13,0⟩ :: D:=by rw [hl];simp
  have hop:l[p+B.length].op=13:=by
   have:l[p+B.length]?=some ⟨13,0⟩:=by
    rw [hl2,Yam (by omega),e7]
    simp
   rw [XA h] at this
   rw [XJ this]
  have hlen:(l.length:Int)=((q+D.length:Nat):Int):=by
   rw [hl2,Xb,e7]
   simp only [Xc]
   omega
  rw [hop,hlen,hl2,List.set_append_right _ _ (by omega),e7]
  simp
 rw [e6 _ _ rfl] at fr
 refine W ?_
 refine WR ?_
 exact .mk (main _ _ fr.fin)
def Z9b (X:List Nat) (w:World) (r:Nat) (es:List (Str×List Int)):Prop:=
 ∃ l:List (Str×Value),Z03 str w r l∧l.length=es.length∧∀ i (h:i<l.length) (h':i<es.length),l[i].1=es[i].1∧SlV (r :: X) w l[i].2 es[i].2
theorem Z9b.up {X:List Nat} {w w':World} {r:Nat} {es:List (Str×List Int)} (h:Z9b X w r es) (hS:Stp [] w w'):Z9b X w' r es:=by
 obtain ⟨l,h1,h2,h3⟩:=h
 exact ⟨l,h1.up hS,h2,fun i h h'=>⟨(h3 i h h').1,(h3 i h h').2.up hS⟩⟩
theorem J0 {P:Program} {n:Nat} {e:Env} {w:World} {d:Option Nat} {ty:TypeId} {pos:String} {af:Array Edge} {g:Option (Nat×Bool)} {mt kt et r:Nat} {x y z:Operand} [hm:Und P mt (.map kt et)] [hk:Und P kt .string] {X:List Nat} {es:List (Str×List Int)} {a:Str} {v:Value} {xs:List Int} (hx:ev e x=some (.map (some r))) (hy:ev e y=some (str a)) (hz:ev e z=some v)
 (hr:Z9b X w r es) (hv:SlV (r :: X) w v xs) (hn:∀ p∈es,¬ p.1=a):OE P n ⟨d,.insert mt x y z,ty,pos,af,g⟩ e w (fun _ w'=>Z9b X w' r (es++[(a,xs)])∧Stp [r] w w'):=by
 obtain ⟨l,h1,h2,h3⟩:=hr
 have hfr:∀ p∈l,¬ p.1=a:=by
  intro p hp
  obtain ⟨i,hi,rfl⟩:=Xs hp
  rw [(h3 i hi (by omega)).1]
  exact hn _ (Xg _)
 refine (Zy (K:=inferInstance) hx hy hz h1 hfr).mono ?_
 rintro _ w' ⟨g1,g2⟩
 refine ⟨⟨_,g1,by simp [h2],fun i h h'=>?_⟩,g2⟩
 by_cases hi:i<l.length
 have hi':i<es.length:=by omega
 rw [XP hi,XP hi']
 exact ⟨(h3 i hi hi').1,(h3 i hi hi').2.on g2 (by simp)⟩
 have hil:i=l.length:=by simp at h;omega
 subst hil
 rw [XN (Xo _),XN (by omega)]
 simp only [Ya8,h2,List.getElem_cons_zero]
 exact ⟨trivial,hv.on g2 (by simp)⟩
def Z9c:List (Str×List Int):=[([43],[5]),([42],[7]),([110,111,116],[12]),([60],[9]),([60,61],[10]),([61],[11]),([62],[10,12]),([62,61],[9,12]),([33,61],[11,12]),([100,97,121,115],[15]),([119,101,101,107,115],[16]),([109,111,110,116,104,115],[17]),([99,111,117,114,116,100,97,121,115],[18]),([110,101,120,116],[19]),([112,114,101,118],[20]),([108,97,116,101,114],[21]),([101,97,114,108,105,101,114],[22]),([98,101,116,119,101,101,110],[23])]
theorem Z86 (X:List Nat) (w:World) (hX:∀ b∈X,b<w.heap.size):CC 228 #[] w fun r w'=>∃ m,r=.map (some m)∧Z9b X w' m Z9c∧Stp [] w w':=by
 refine cW0 21 Tryz.func228 ?_
 refine W ?_
 refine Z3 (Z16 str) rfl ?_
 rintro _ w1 ⟨m,rfl,hm,hmap,hS⟩
 have hmp:Z9b X w1 m []:=⟨[],hmap,rfl,fun i h=>absurd h (XI _)⟩
 have hml:=hmap.lt
 clear hmap
 have hXw:∀ b∈m :: X,b≤m:=fun b hb=>(Xf.1 hb).elim (fun h=>by omega) (fun h=>by have:=hX b h;omega)
 refine Z3 (Z2 (vs:=[(0,.int .i64 5)]) rfl (Jv _)) rfl ?_
 rintro bv w2 hN
 have hbv:SlV (m :: X) w2 bv [(5:Int)]:=hN.slv (fun b hb=>by have:=hXw b hb;omega) rfl rfl (by simp [maxLen])
 have hS2:=Zc.stp hN
 clear hN
 replace hmp:=hmp.up hS2
 have hml2:=hS2.size
 refine Z0 (J0 (a:=[43]) rfl rfl rfl hmp hbv (by decide)) ?_
 clear hmp
 rintro _ w3 ⟨hmp,hS3⟩
 have hml3:=hS3.size
 replace hml:=Xa (Xa hml hml2) hml3
 replace hS:=(hS.trans hS2).own hS3 (fun b hb=>.inr (by simp at hb;omega))
 clear hS2 hS3 hbv hml2 hml3
 refine Z3 (Z2 (vs:=[(0,.int .i64 7)]) rfl (Jv _)) rfl ?_
 rintro bv w2 hN
 have hbv:SlV (m :: X) w2 bv [(7:Int)]:=hN.slv (fun b hb=>by have:=hXw b hb;omega) rfl rfl (by simp [maxLen])
 have hS2:=Zc.stp hN
 clear hN
 replace hmp:=hmp.up hS2
 have hml2:=hS2.size
 refine Z0 (J0 (a:=[42]) rfl rfl rfl hmp hbv (by decide)) ?_
 clear hmp
 rintro _ w3 ⟨hmp,hS3⟩
 have hml3:=hS3.size
 replace hml:=Xa (Xa hml hml2) hml3
 replace hS:=(hS.trans hS2).own hS3 (fun b hb=>.inr (by simp at hb;omega))
 clear hS2 hS3 hbv hml2 hml3
 refine Z3 (Z2 (vs:=[(0,.int .i64 12)]) rfl (Jv _)) rfl ?_
 rintro bv w2 hN
 have hbv:SlV (m :: X) w2 bv [(12:Int)]:=hN.slv (fun b hb=>by have:=hXw b hb;omega) rfl rfl (by simp [maxLen])
 have hS2:=Zc.stp hN
 clear hN
 replace hmp:=hmp.up hS2
 have hml2:=hS2.size
 refine Z0 (J0 (a:=[110,111,116]) rfl rfl rfl hmp hbv (by decide)) ?_
 clear hmp
 rintro _ w3 ⟨hmp,hS3⟩
 have hml3:=hS3.size
 replace hml:=Xa (Xa hml hml2) hml3
 replace hS:=(hS.trans hS2).own hS3 (fun b hb=>.inr (by simp at hb;omega))
 clear hS2 hS3 hbv hml2 hml3
 refine Z3 (Z2 (vs:=[(0,.int .i64 9)]) rfl (Jv _)) rfl ?_
 rintro bv w2 hN
 have hbv:SlV (m :: X) w2 bv [(9:Int)]:=hN.slv (fun b hb=>by have:=hXw b hb;omega) rfl rfl (by simp [maxLen])
 have hS2:=Zc.stp hN
 clear hN
 replace hmp:=hmp.up hS2
 have hml2:=hS2.size
 refine Z0 (J0 (a:=[60]) rfl rfl rfl hmp hbv (by decide)) ?_
 clear hmp
 rintro _ w3 ⟨hmp,hS3⟩
 have hml3:=hS3.size
 replace hml:=Xa (Xa hml hml2) hml3
 replace hS:=(hS.trans hS2).own hS3 (fun b hb=>.inr (by simp at hb;omega))
 clear hS2 hS3 hbv hml2 hml3
 refine Z3 (Z2 (vs:=[(0,.int .i64 10)]) rfl (Jv _)) rfl ?_
 rintro bv w2 hN
 have hbv:SlV (m :: X) w2 bv [(10:Int)]:=hN.slv (fun b hb=>by have:=hXw b hb;omega) rfl rfl (by simp [maxLen])
 have hS2:=Zc.stp hN
 clear hN
 replace hmp:=hmp.up hS2
 have hml2:=hS2.size
 refine Z0 (J0 (a:=[60,61]) rfl rfl rfl hmp hbv (by decide)) ?_
 clear hmp
 rintro _ w3 ⟨hmp,hS3⟩
 have hml3:=hS3.size
 replace hml:=Xa (Xa hml hml2) hml3
 replace hS:=(hS.trans hS2).own hS3 (fun b hb=>.inr (by simp at hb;omega))
 clear hS2 hS3 hbv hml2 hml3
 refine Z3 (Z2 (vs:=[(0,.int .i64 11)]) rfl (Jv _)) rfl ?_
 rintro bv w2 hN
 have hbv:SlV (m :: X) w2 bv [(11:Int)]:=hN.slv (fun b hb=>by have:=hXw b hb;omega) rfl rfl (by simp [maxLen])
 have hS2:=Zc.stp hN
 clear hN
 replace hmp:=hmp.up hS2
 have hml2:=hS2.size
 refine Z0 (J0 (a:=[61]) rfl rfl rfl hmp hbv (by decide)) ?_
 clear hmp
 rintro _ w3 ⟨hmp,hS3⟩
 have hml3:=hS3.size
 replace hml:=Xa (Xa hml hml2) hml3
 replace hS:=(hS.trans hS2).own hS3 (fun b hb=>.inr (by simp at hb;omega))
 clear hS2 hS3 hbv hml2 hml3
 refine Z3 (Z2 (vs:=[(0,.int .i64 10),(1,.int .i64 12)]) rfl (Z78 _ _)) rfl ?_
 rintro bv w2 hN
 have hbv:SlV (m :: X) w2 bv [(10:Int),(12:Int)]:=hN.slv (fun b hb=>by have:=hXw b hb;omega) rfl rfl (by simp [maxLen])
 have hS2:=Zc.stp hN
 clear hN
 replace hmp:=hmp.up hS2
 have hml2:=hS2.size
 refine Z0 (J0 (a:=[62]) rfl rfl rfl hmp hbv (by decide)) ?_
 clear hmp
 rintro _ w3 ⟨hmp,hS3⟩
 have hml3:=hS3.size
 replace hml:=Xa (Xa hml hml2) hml3
 replace hS:=(hS.trans hS2).own hS3 (fun b hb=>.inr (by simp at hb;omega))
 clear hS2 hS3 hbv hml2 hml3
 refine Z3 (Z2 (vs:=[(0,.int .i64 9),(1,.int .i64 12)]) rfl (Z78 _ _)) rfl ?_
 rintro bv w2 hN
 have hbv:SlV (m :: X) w2 bv [(9:Int),(12:Int)]:=hN.slv (fun b hb=>by have:=hXw b hb;omega) rfl rfl (by simp [maxLen])
 have hS2:=Zc.stp hN
 clear hN
 replace hmp:=hmp.up hS2
 have hml2:=hS2.size
 refine Z0 (J0 (a:=[62,61]) rfl rfl rfl hmp hbv (by decide)) ?_
 clear hmp
 rintro _ w3 ⟨hmp,hS3⟩
 have hml3:=hS3.size
 replace hml:=Xa (Xa hml hml2) hml3
 replace hS:=(hS.trans hS2).own hS3 (fun b hb=>.inr (by simp at hb;omega))
 clear hS2 hS3 hbv hml2 hml3
 refine Z3 (Z2 (vs:=[(0,.int .i64 11),(1,.int .i64 12)]) rfl (Z78 _ _)) rfl ?_
 rintro bv w2 hN
 have hbv:SlV (m :: X) w2 bv [(11:Int),(12:Int)]:=hN.slv (fun b hb=>by have:=hXw b hb;omega) rfl rfl (by simp [maxLen])
 have hS2:=Zc.stp hN
 clear hN
 replace hmp:=hmp.up hS2
 have hml2:=hS2.size
 refine Z0 (J0 (a:=[33,61]) rfl rfl rfl hmp hbv (by decide)) ?_
 clear hmp
 rintro _ w3 ⟨hmp,hS3⟩
 have hml3:=hS3.size
 replace hml:=Xa (Xa hml hml2) hml3
 replace hS:=(hS.trans hS2).own hS3 (fun b hb=>.inr (by simp at hb;omega))
 clear hS2 hS3 hbv hml2 hml3
 refine Z3 (Z2 (vs:=[(0,.int .i64 15)]) rfl (Jv _)) rfl ?_
 rintro bv w2 hN
 have hbv:SlV (m :: X) w2 bv [(15:Int)]:=hN.slv (fun b hb=>by have:=hXw b hb;omega) rfl rfl (by simp [maxLen])
 have hS2:=Zc.stp hN
 clear hN
 replace hmp:=hmp.up hS2
 have hml2:=hS2.size
 refine Z0 (J0 (a:=[100,97,121,115]) rfl rfl rfl hmp hbv (by decide)) ?_
 clear hmp
 rintro _ w3 ⟨hmp,hS3⟩
 have hml3:=hS3.size
 replace hml:=Xa (Xa hml hml2) hml3
 replace hS:=(hS.trans hS2).own hS3 (fun b hb=>.inr (by simp at hb;omega))
 clear hS2 hS3 hbv hml2 hml3
 refine Z3 (Z2 (vs:=[(0,.int .i64 16)]) rfl (Jv _)) rfl ?_
 rintro bv w2 hN
 have hbv:SlV (m :: X) w2 bv [(16:Int)]:=hN.slv (fun b hb=>by have:=hXw b hb;omega) rfl rfl (by simp [maxLen])
 have hS2:=Zc.stp hN
 clear hN
 replace hmp:=hmp.up hS2
 have hml2:=hS2.size
 refine Z0 (J0 (a:=[119,101,101,107,115]) rfl rfl rfl hmp hbv (by decide)) ?_
 clear hmp
 rintro _ w3 ⟨hmp,hS3⟩
 have hml3:=hS3.size
 replace hml:=Xa (Xa hml hml2) hml3
 replace hS:=(hS.trans hS2).own hS3 (fun b hb=>.inr (by simp at hb;omega))
 clear hS2 hS3 hbv hml2 hml3
 refine Z3 (Z2 (vs:=[(0,.int .i64 17)]) rfl (Jv _)) rfl ?_
 rintro bv w2 hN
 have hbv:SlV (m :: X) w2 bv [(17:Int)]:=hN.slv (fun b hb=>by have:=hXw b hb;omega) rfl rfl (by simp [maxLen])
 have hS2:=Zc.stp hN
 clear hN
 replace hmp:=hmp.up hS2
 have hml2:=hS2.size
 refine Z0 (J0 (a:=[109,111,110,116,104,115]) rfl rfl rfl hmp hbv (by decide)) ?_
 clear hmp
 rintro _ w3 ⟨hmp,hS3⟩
 have hml3:=hS3.size
 replace hml:=Xa (Xa hml hml2) hml3
 replace hS:=(hS.trans hS2).own hS3 (fun b hb=>.inr (by simp at hb;omega))
 clear hS2 hS3 hbv hml2 hml3
 refine Z3 (Z2 (vs:=[(0,.int .i64 18)]) rfl (Jv _)) rfl ?_
 rintro bv w2 hN
 have hbv:SlV (m :: X) w2 bv [(18:Int)]:=hN.slv (fun b hb=>by have:=hXw b hb;omega) rfl rfl (by simp [maxLen])
 have hS2:=Zc.stp hN
 clear hN
 replace hmp:=hmp.up hS2
 have hml2:=hS2.size
 refine Z0 (J0 (a:=[99,111,117,114,116,100,97,121,115]) rfl rfl rfl hmp hbv (by decide)) ?_
 clear hmp
 rintro _ w3 ⟨hmp,hS3⟩
 have hml3:=hS3.size
 replace hml:=Xa (Xa hml hml2) hml3
 replace hS:=(hS.trans hS2).own hS3 (fun b hb=>.inr (by simp at hb;omega))
 clear hS2 hS3 hbv hml2 hml3
 refine Z3 (Z2 (vs:=[(0,.int .i64 19)]) rfl (Jv _)) rfl ?_
 rintro bv w2 hN
 have hbv:SlV (m :: X) w2 bv [(19:Int)]:=hN.slv (fun b hb=>by have:=hXw b hb;omega) rfl rfl (by simp [maxLen])
 have hS2:=Zc.stp hN
 clear hN
 replace hmp:=hmp.up hS2
 have hml2:=hS2.size
 refine Z0 (J0 (a:=[110,101,120,116]) rfl rfl rfl hmp hbv (by decide)) ?_
 clear hmp
 rintro _ w3 ⟨hmp,hS3⟩
 have hml3:=hS3.size
 replace hml:=Xa (Xa hml hml2) hml3
 replace hS:=(hS.trans hS2).own hS3 (fun b hb=>.inr (by simp at hb;omega))
 clear hS2 hS3 hbv hml2 hml3
 refine Z3 (Z2 (vs:=[(0,.int .i64 20)]) rfl (Jv _)) rfl ?_
 rintro bv w2 hN
 have hbv:SlV (m :: X) w2 bv [(20:Int)]:=hN.slv (fun b hb=>by have:=hXw b hb;omega) rfl rfl (by simp [maxLen])
 have hS2:=Zc.stp hN
 clear hN
 replace hmp:=hmp.up hS2
 have hml2:=hS2.size
 refine Z0 (J0 (a:=[112,114,101,118]) rfl rfl rfl hmp hbv (by decide)) ?_
 clear hmp
 rintro _ w3 ⟨hmp,hS3⟩
 have hml3:=hS3.size
 replace hml:=Xa (Xa hml hml2) hml3
 replace hS:=(hS.trans hS2).own hS3 (fun b hb=>.inr (by simp at hb;omega))
 clear hS2 hS3 hbv hml2 hml3
 refine Z3 (Z2 (vs:=[(0,.int .i64 21)]) rfl (Jv _)) rfl ?_
 rintro bv w2 hN
 have hbv:SlV (m :: X) w2 bv [(21:Int)]:=hN.slv (fun b hb=>by have:=hXw b hb;omega) rfl rfl (by simp [maxLen])
 have hS2:=Zc.stp hN
 clear hN
 replace hmp:=hmp.up hS2
 have hml2:=hS2.size
 refine Z0 (J0 (a:=[108,97,116,101,114]) rfl rfl rfl hmp hbv (by decide)) ?_
 clear hmp
 rintro _ w3 ⟨hmp,hS3⟩
 have hml3:=hS3.size
 replace hml:=Xa (Xa hml hml2) hml3
 replace hS:=(hS.trans hS2).own hS3 (fun b hb=>.inr (by simp at hb;omega))
 clear hS2 hS3 hbv hml2 hml3
 refine Z3 (Z2 (vs:=[(0,.int .i64 22)]) rfl (Jv _)) rfl ?_
 rintro bv w2 hN
 have hbv:SlV (m :: X) w2 bv [(22:Int)]:=hN.slv (fun b hb=>by have:=hXw b hb;omega) rfl rfl (by simp [maxLen])
 have hS2:=Zc.stp hN
 clear hN
 replace hmp:=hmp.up hS2
 have hml2:=hS2.size
 refine Z0 (J0 (a:=[101,97,114,108,105,101,114]) rfl rfl rfl hmp hbv (by decide)) ?_
 clear hmp
 rintro _ w3 ⟨hmp,hS3⟩
 have hml3:=hS3.size
 replace hml:=Xa (Xa hml hml2) hml3
 replace hS:=(hS.trans hS2).own hS3 (fun b hb=>.inr (by simp at hb;omega))
 clear hS2 hS3 hbv hml2 hml3
 refine Z3 (Z2 (vs:=[(0,.int .i64 23)]) rfl (Jv _)) rfl ?_
 rintro bv w2 hN
 have hbv:SlV (m :: X) w2 bv [(23:Int)]:=hN.slv (fun b hb=>by have:=hXw b hb;omega) rfl rfl (by simp [maxLen])
 have hS2:=Zc.stp hN
 clear hN
 replace hmp:=hmp.up hS2
 have hml2:=hS2.size
 refine Z0 (J0 (a:=[98,101,116,119,101,101,110]) rfl rfl rfl hmp hbv (by decide)) ?_
 clear hmp
 rintro _ w3 ⟨hmp,hS3⟩
 have hml3:=hS3.size
 replace hml:=Xa (Xa hml hml2) hml3
 replace hS:=(hS.trans hS2).own hS3 (fun b hb=>.inr (by simp at hb;omega))
 clear hS2 hS3 hbv hml2 hml3
 refine W ?_
 refine WR ?_
 exact .mk ⟨m,rfl,hmp,hS⟩
def opF (s:Str):List Int:=match Z9c.find? (fun p=>decide (p.1=s)) with|some p=>p.2|none=>[]
theorem ZcM (s:Str):(opF s).length≤2:=by
 unfold opF
 cases h:Z9c.find? (fun p=>decide (p.1=s)) with
 | none=>simp
 | some p=>
   have hp:=X3 h
   have:∀ p∈Z9c,p.2.length≤2:=by decide
   exact this p hp
theorem Z9b.get {X:List Nat} {w:World} {m:Nat} (h:Z9b X w m Z9c) (s:Str):∃ l:List (Str×Value),Z03 str w m l∧SlV X w (Z2Z l s (.slice none 0 0)) (opF s):=by
 obtain ⟨l,h1,h2,h3⟩:=h
 refine ⟨l,h1,?_⟩
 unfold Z2Z opF
 have hf:(l.find? (fun p=>decide (p.1=s))=none∧Z9c.find? (fun p=>decide (p.1=s))=none)∨∃ i,∃ (h:i<l.length) (h':i<Z9c.length),l.find? (fun p=>decide (p.1=s))=some l[i]∧Z9c.find? (fun p=>decide (p.1=s))=some Z9c[i]:=by
  cases hq:l.find? (fun p=>decide (p.1=s)) with
  | none=>
    left
    refine ⟨rfl,?_⟩
    rw [Yad]
    intro p hp
    obtain ⟨i,hi,rfl⟩:=Xs hp
    have:=Yad.1 hq l[i] (Xg (by omega))
    rwa [(h3 i (by omega) hi).1] at this
  | some p=>
    right
    obtain ⟨hp,i,hi,rfl,hb⟩:=X1.1 hq
    refine ⟨i,hi,by omega,rfl,?_⟩
    rw [X1]
    refine ⟨by rw [← (h3 i hi (by omega)).1];exact hp,i,by omega,rfl,fun j hj=>?_⟩
    rw [← (h3 j (by omega) (by omega)).1]
    exact hb j hj
 rcases hf with ⟨e1,e2⟩|⟨i,h,h',e1,e2⟩
 rw [e1,e2]
 exact ⟨none,0,rfl,Xo _,by simp [maxLen],fun _=>rfl,fun i h=>absurd h (XI _)⟩
 rw [e1,e2]
 exact (h3 i h h').2.ext (Stp.refl [] w) (by simp) (fun b hb=>.inl (XK _ hb))
def JL:List Cf→Nat→List Ins
 | [],_=>[]
 | c :: r,p=>c p++JL r (p+(c p).length)
theorem Z6o (a b:List Cf) (p:Nat):JL (a++b) p=JL a p++JL b (p+(JL a p).length):=by
 induction a generalizing p with
 | nil=>simp [JL]
 | cons c r ih=>
   simp only [Xp,JL,ih,Xb,Xr]
   rw [XT]
theorem ZdE (cs:List Cf) (p i:Nat) (h:i<cs.length):JL (cs.take (i+1)) p=JL (cs.take i) p++cs[i] (p+(JL (cs.take i) p).length):=by
 rw [Xu h,Z6o]
 simp [JL]
theorem ZcN (cs:List Cf) (p i:Nat):(JL (cs.take i) p).length≤(JL cs p).length:=by
 have:JL cs p=JL (cs.take i) p++JL (cs.drop i) (p+(JL (cs.take i) p).length):=by rw [← Z6o,XV]
 rw [this,Xb]
 omega
def Z87 (l:List Int):List Ins:=l.map (fun o=>⟨o,0⟩)
def Z17 (k:Int) (s:Str) (cs:List Cf) (p:Nat):List Ins:=JL cs p++(if k=8∨k=5∧s=[45] then [⟨8,0⟩] else [])++Z87 (opF s)
theorem Z5Q (x:Nd) (cs:List Cf) (hcl:cs.length=x.kids.length) (hcs:∀ i (h:i<x.kids.length) (h':i<cs.length),Z2h x.kids[i] cs[i]) (w:World) (bc base:Nat) (v nv:Value) (xs:List Ins) (hc:Cod w bc base v xs)
 (hx:NdV (bc :: ob v) w nv x) (hF:SlV (bc :: ob v) w Z30 Zg) (hl:xs.length+(Z17 x.kind x.word cs xs.length).length≤100000) :
 CC 138 #[.pointer (some ⟨bc,0,none⟩),nv] w fun r w'=>Z1u w bc base v (xs++Z17 x.kind x.word cs xs.length) w':=by
 have hl':=hl
 unfold Z17 at hl'
 simp only [Xb] at hl'
 obtain ⟨kv,rfl,hs⟩:=hx
 have hmax:=hs.max
 refine cW2 47 Tryz.func138 ?_
 refine W ?_
 refine Z3 (Zs rfl) rfl ?_
 rintro _ wA ⟨b,rfl,hb,hblk,hS⟩
 replace hblk:Blk wA b _ (ndC x kv):=hblk
 have hobv:∀ b∈bc :: ob v,b<w.heap.size:=fun b hb=>by
  rcases Xf.1 hb with rfl|h
  exact hc.blk.lt
  exact (hc.row.ob_le b h).2
 have nb:b∉bc :: ob v:=fun h=>by have:=hobv _ h;omega
 replace hc:=hc.up hS
 replace hs:=hs.up hS
 replace hF:=hF.up hS
 have main:∀ ys w',Z1u wA bc base v ys w'→Z1u w bc base v ys w':=fun ys w' h=>h.pre hS
 refine W ?_
 refine Z1K (σ:=Value) (fun u=>[(0,.pointer (some ⟨bc,0,none⟩)),(3,.pointer (some ⟨b,0,none⟩))]) (fun u w'=>Fr wA w' bc base v u (xs++JL cs xs.length)) ?_ ?_
 refine ZD (σ:=Nat×Value) (fun q=>[(0,.pointer (some ⟨bc,0,none⟩)),(3,.pointer (some ⟨b,0,none⟩)),(9,kv),(10,.int .i64 (x.kids.length:Int)),(11,.int .i64 (q.1:Int))]) (fun q w'=>q.1≤x.kids.length∧Fr wA w' bc base v q.2 (xs++JL (cs.take q.1) xs.length)) (fun q=>x.kids.length - q.1) (0,v) ⟨rfl,rfl,rfl,rfl,rfl,trivial⟩ ⟨Xy _,by simpa [JL] using Fr.start hc⟩ ?_
 rintro ⟨j,u⟩ w2 ⟨hj,fr⟩
 dsimp only at hj fr ⊢
 by_cases hlt:j<x.kids.length
 have hs2:=fr.sl hs
 obtain ⟨kv2,hk2,hc2⟩:=hs2.nd hlt
 have hst:=ZdE cs xs.length j (by omega)
 have hle:=ZcN cs xs.length (j+1)
 have hle0:=ZcN cs xs.length j
 rw [hst,Xb] at hle
 focus repeat'(first|refine W1 ?_|omega|refine VG ?_ ?_<;>intro hg|refine VC ?_ ?_<;>intro hc)
 apply Z7 (ZC rfl rfl hs2 hlt hc2) rfl
 refine Z3 Z6 rfl ?_
 rintro _ w3 ⟨b3,rfl,hb3,hblk3,hS3⟩
 refine Z0 (Z1 (us:=ndC x.kids[j] kv2) rfl rfl rfl rfl (Zk hk2) hblk3 rfl) ?_
 rintro _ w4 ⟨hS4,hblk4⟩
 have hS34:=hS3.own hS4 (fun c hc=>.inr (by simp at hc;omega))
 replace fr:=fr.up hS34
 replace hk2:=hk2.up hS34
 refine W ?_
 have hlen:(xs++JL (cs.take j) xs.length).length=xs.length+(JL (cs.take j) xs.length).length:=Xb
 refine CL rfl (Z9 rfl rfl) rfl (hcs j hlt (by omega) _ bc base _ _ _ fr.cod ⟨kv2,rfl,hk2⟩ (fr.sl hF) (by rw [hlen];omega)) ?_
 rintro _ w5 hq
 obtain ⟨u5,fr⟩:=fr.step hq
 rw [hlen,Xr,← hst] at fr
 refine W ?_
 exact Zr (j+1,u5) ⟨rfl,rfl,rfl,rfl,rfl,trivial⟩ ⟨by dsimp only;omega,fr⟩ (by dsimp only;omega)
 have hje:j=x.kids.length:=by omega
 subst hje
 rw [← hcl,XL] at fr
 focus repeat'(first|refine W1 ?_|omega|refine VG ?_ ?_<;>intro hg|refine VC ?_ ?_<;>intro hc)
 exact ZI u ⟨rfl,rfl,trivial⟩ fr
 rintro u w2 fr
 have hbk:=fr.bk hblk nb
 unfold Z17
 generalize JL cs xs.length=A at *
 rw [← Xr,← Xr]
 refine ZeT (σ:=Value) (fun u=>[(0,.pointer (some ⟨bc,0,none⟩)),(3,.pointer (some ⟨b,0,none⟩))]) (fun u w'=>Fr wA w' bc base v u (xs++A++if x.kind=8∨x.kind=5∧x.word=[45] then [⟨8,0⟩] else [])) ?_ ?_
 by_cases hneg:x.kind=8∨x.kind=5∧x.word=[45]
 · have hln:(xs++A).length≤1000000:=by simp only [Xb];omega
   rw [if_pos hneg]
   repeat'(first|refine W1 ?_|omega|refine VG ?_ ?_<;>intro hg|refine VC ?_ ?_<;>intro hc)
   all_goals first
    | (refine CL rfl (ZH rfl rfl rfl) rfl (Z1m bc base _ _ 8 0 _ fr.cod hln) ?_
       rintro _ w3 ⟨rfl,hq⟩
       obtain ⟨u3,fr⟩:=fr.step hq
       refine W ?_
       exact ZI u3 ⟨rfl,rfl,trivial⟩ fr)
    | (exfalso;rcases hneg with h|⟨h1,h2⟩<;>first|omega|contradiction)
 · rw [if_neg hneg,Xz]
   have hn8:¬ x.kind=8:=fun h=>hneg (.inl h)
   repeat'(first|refine W1 ?_|omega|refine VG ?_ ?_<;>intro hg|refine VC ?_ ?_<;>intro hc)
   all_goals first
    | exact ZI u ⟨rfl,rfl,trivial⟩ fr
    | (exfalso;exact hneg (.inr ⟨by assumption,by assumption⟩))
 rintro u3 w3 fr
 have hbk:=fr.bk hblk nb
 have hol:=ZcM x.word
 generalize hB:xs++A++(if x.kind=8∨x.kind=5∧x.word=[45] then [(⟨8,0⟩:Ins)] else [])=B at *
 have hBl:B.length≤200000:=by
  rw [← hB]
  simp only [Xb]
  have:(if x.kind=8∨x.kind=5∧x.word=[45] then [(⟨8,0⟩:Ins)] else []).length≤1:=by split<;>simp
  omega
 refine W ?_
 refine ZDr 6 [] [] [(1,0),(2,1),(5,0),(0,2),(3,2),(4,0)] (fun w1 hS1=>?_)
 replace fr:=fr.up hS1
 replace hbk:=hbk.up hS1
 have hou:∀ b∈bc :: ob u3,b<w1.heap.size:=fun b hb=>(Xf.1 hb).elim (fun h=>h ▸ fr.cod.blk.lt) (fun h=>(fr.cod.row.ob_le b h).2)
 refine D ?_
 refine Zb rfl trivial (Z5 rfl Z4O (Z86 (bc :: ob u3) _ hou)) (fun _ _ h=>h.choose_spec.2.2) rfl ?_
 rintro _ w5 ⟨m,rfl,hm,hS5⟩
 replace fr:=fr.up hS5
 obtain ⟨l,hml,hsl⟩:=hm.get x.word
 refine Zb rfl trivial (Zj1 (Z1z (K:=inferInstance) (a:=x.word) rfl rfl hml)) (fun _ _ h=>h.2 ▸ Stp.refl _ _) rfl ?_
 rintro _ _ ⟨rfl,rfl⟩
 generalize Z2Z l x.word (.slice none 0 0)=ov at *
 generalize opF x.word=O at *
 refine D ?_
 refine W ?_
 refine ZD (σ:=Nat×Value) (fun q=>[(0,.pointer (some ⟨bc,0,none⟩)),(37,ov),(38,.int .i64 (O.length:Int)),(39,.int .i64 (q.1:Int))]) (fun q w'=>q.1≤O.length∧SlV (bc :: ob q.2) w' ov O∧Fr wA w' bc base v q.2 (B++Z87 (O.take q.1))) (fun q=>O.length - q.1) (0,u3) ⟨rfl,rfl,rfl,rfl,trivial⟩ ⟨Xy _,hsl,by simpa [Z87] using fr⟩ ?_
 clear fr hsl hou
 rintro ⟨j,u⟩ w6 ⟨hj,hsl,fr⟩
 dsimp only at hj fr ⊢
 by_cases hlt:j<O.length
 have hln:(B++Z87 (O.take j)).length≤1000000:=by simp only [Xb,Z87,XM,XR];omega
 focus repeat'(first|refine W1 ?_|omega|refine VG ?_ ?_<;>intro hg|refine VC ?_ ?_<;>intro hc)
 refine CL rfl (ZH rfl rfl rfl) rfl (Z1m bc base _ _ O[j] 0 _ fr.cod hln) ?_
 rintro _ w7 ⟨rfl,hq⟩
 obtain ⟨u7,hc7,hS7,hb7⟩:=id hq
 have hsl7:SlV (bc :: ob u7) w7 ov O:=Zj3 hsl hS7 hb7
 have fr7:Fr wA w7 bc base v u7 (B++Z87 (O.take j)++[⟨O[j],0⟩]):=by
  refine ⟨hc7,?_,fun b hb=>?_⟩
  exact fr.stp.own hS7 (fun b hb=>by
   rcases Xf.1 hb with rfl|h
   exact .inl (by simp)
   exact (fr.sub b h).imp (fun h=>XK _ h) id)
  rcases hb7 b hb with h|h
  exact fr.sub b h
  exact .inr (Xh fr.stp.size h)
 refine W ?_
 refine Zr (j+1,u7) ⟨rfl,rfl,rfl,rfl,trivial⟩ ⟨by dsimp only;omega,hsl7,?_⟩ (by dsimp only;omega)
 dsimp only
 rw [Xu hlt]
 unfold Z87 at fr7 ⊢
 rw [Yaq,← Xr]
 exact fr7
 have hje:j=O.length:=by omega
 subst hje
 rw [XL] at fr
 focus repeat'(first|refine W1 ?_|omega|refine VG ?_ ?_<;>intro hg|refine VC ?_ ?_<;>intro hc)
 refine WR ?_
 exact .mk (main _ _ fr.fin)
def Z32 (k n:Int) (s:Str):Ins:=if k=1 then ⟨1,n⟩ else if k=2 then ⟨2,n⟩ else if k=3 then ⟨3,n⟩ else ⟨4,(ZZ s).1⟩
def Z2y:Cf:=fun _=>[]
def Z1n (k n:Int) (s:Str) (cs:List Cf) (p:Nat):List Ins:=
 if cs.length=0 then [Z32 k n s]
 else if k=9 then chC (cs.getD 0 Z2y) (cs.getD 1 Z2y) (cs.getD 2 Z2y) p
 else if k=6∧s=[97,110,100] then chC (cs.getD 0 Z2y) (cs.getD 1 Z2y) (fun _=>[⟨2,0⟩]) p
 else if k=6∧s=[111,114] then chC (cs.getD 0 Z2y) (fun _=>[⟨2,1⟩]) (cs.getD 1 Z2y) p
 else if k=6∧s=[45] then Z17 k s cs p++[⟨6,0⟩]
 else Z17 k s cs p
def Zq:Nd→Nat→List Ins
 | .mk k n s l=>Z1n k n s (l.map Zq)
theorem Z7c (x:Nd):Zq x=Z1n x.kind x.num x.word (x.kids.map Zq):=by
 cases x
 rw [Zq]
 rfl
theorem ZfD (w:World):(Instr.build 27 #[(0,.int .i64 2)]).run Tryz.prog w=.ok (.agg #[.int .i64 2,.int .i64 0,str [],.slice none 0 0]) w:=by kernel_rfl
theorem ZfE (w:World):(Instr.build 27 #[(0,.int .i64 2),(1,.int .i64 1)]).run Tryz.prog w=.ok (.agg #[.int .i64 2,.int .i64 1,str [],.slice none 0 0]) w:=by kernel_rfl
theorem Jt {α:Type} [Zf α] (X:List Nat) (w:World):SlV (α:=α) X w (.slice none 0 0) []:=⟨none,0,rfl,Xo _,by simp [maxLen],fun _=>rfl,fun i h=>absurd h (XI _)⟩
theorem Zac (z:Int):Z2h (.mk 2 z [] []) (fun _=>[⟨2,z⟩]):=by
 intro w bc base v nv xs hc hx hF hl
 obtain ⟨kv,rfl,hs⟩:=hx
 refine cW2 63 Tryz.func76 ?_
 refine W ?_
 refine Z3 (Zs rfl) rfl ?_
 rintro _ w1 ⟨b,rfl,hb,hblk,hS⟩
 replace hblk:Blk w1 b _ [.int .i64 2,.int .i64 z,str [],kv]:=hblk
 refine W ?_
 refine CL rfl (ZH rfl rfl rfl) rfl (Z1m bc base _ _ 2 z _ (hc.up hS) (by omega)) ?_
 rintro _ w2 ⟨rfl,hq⟩
 refine W ?_
 refine WR ?_
 exact .mk (hq.pre hS)
theorem ZdF (x:Nd) (cs:List Cf) (hcl:cs.length=x.kids.length) (hcs:∀ i (h:i<x.kids.length) (h':i<cs.length),Z2h x.kids[i] cs[i]) (w:World) (bc base:Nat) (v nv:Value) (xs:List Ins) (hc:Cod w bc base v xs)
 (hx:NdV (bc :: ob v) w nv x) (hF:SlV (bc :: ob v) w Z30 Zg) (hl:xs.length+(Z17 x.kind x.word cs xs.length).length≤100000) :
 CC 226 #[.pointer (some ⟨bc,0,none⟩),nv] w fun r w'=>Z1u w bc base v (xs++(Z17 x.kind x.word cs xs.length++[⟨6,0⟩])) w':=by
 obtain ⟨kv,rfl,hs⟩:=hx
 refine cW2 9 Tryz.func226 ?_
 refine W ?_
 refine Z3 (Zs rfl) rfl ?_
 rintro _ w1 ⟨b,rfl,hb,hblk,hS⟩
 replace hblk:Blk w1 b _ (ndC x kv):=hblk
 have fr:=Fr.start (hc.up hS)
 refine W ?_
 refine CL rfl (Z9 rfl rfl) rfl (Z5Q x cs hcl hcs _ bc base _ _ _ fr.cod ⟨kv,rfl,hs.up hS⟩ (hF.up hS) hl) ?_
 rintro _ w2 hq
 obtain ⟨v2,fr⟩:=fr.step hq
 refine W ?_
 refine CL rfl (ZH rfl rfl rfl) rfl (Z1m bc base _ _ 6 0 _ fr.cod (by simp only [Xb];omega)) ?_
 rintro _ w3 ⟨rfl,hq⟩
 obtain ⟨v3,fr⟩:=fr.step hq
 rw [Xr] at fr
 refine W ?_
 refine WR ?_
 exact .mk (fr.fin.pre hS)
theorem Ju {α:Type} [Zf α] {X:List Nat} {w w':World} {v u:Value} {l:List α} {i k j:Nat} (hs:SlV X w v l) (hi:i<l.length) (hS:Stp X w w') (h:w.cell? (ZL v i k j)=some u):w'.cell? (ZL v i k j)=some u:=by
 obtain ⟨p,c,rfl,_,_,_,hc⟩:=hs
 obtain ⟨b,o,cs,rfl,_,hx,_⟩:=hc i hi
 exact hS.cell hx h
theorem ZhO (x:Nd) (cs:List Cf) (hk2:x.kids.length=2) (hcl:cs.length=x.kids.length) (hcs:∀ i (h:i<x.kids.length) (h':i<cs.length),Z2h x.kids[i] cs[i]) (w:World) (bc base:Nat) (v nv:Value) (xs:List Ins) (hc:Cod w bc base v xs)
 (hx:NdV (bc :: ob v) w nv x) (hF:SlV (bc :: ob v) w Z30 Zg) (hl:xs.length+(chC (cs.getD 0 Z2y) (cs.getD 1 Z2y) (fun _=>[⟨2,0⟩]) xs.length).length≤100000) :
 CC 224 #[.pointer (some ⟨bc,0,none⟩),nv] w fun r w'=>Z1u w bc base v (xs++chC (cs.getD 0 Z2y) (cs.getD 1 Z2y) (fun _=>[⟨2,0⟩]) xs.length) w':=by
 obtain ⟨kv,rfl,hs⟩:=hx
 have h0:0<x.kids.length:=by omega
 have h1:1<x.kids.length:=by omega
 have g0:cs.getD 0 Z2y=cs[0]'(by omega):=by simp [List.getD,hcl,h0]
 have g1:cs.getD 1 Z2y=cs[1]'(by omega):=by simp [List.getD,hcl,h1]
 rw [g0,g1] at hl ⊢
 refine cW2 15 Tryz.func224 ?_
 refine W ?_
 refine Z3 (Zs rfl) rfl ?_
 rintro _ wA ⟨b,rfl,hb,hblk,hS⟩
 replace hblk:Blk wA b _ (ndC x kv):=hblk
 replace hs:=hs.up hS
 have nb:b∉bc :: ob v:=fun h=>by
  rcases Xf.1 h with rfl|h
  have:=hc.blk.lt;omega
  have:=(hc.row.ob_le b h).2;omega
 refine W ?_
 refine Z2g 11 (bc :: ob v) [] [(0,0),(1,0),(2,1),(3,0),(4,1),(5,0),(6,1),(7,0),(8,1),(9,0),(10,2)] rfl mixed (by kernel_rfl) (by kernel_rfl) (by kernel_rfl) (fun w1 hS1=>?_)
 replace hs:=hs.up hS1
 replace hblk:=hblk.up hS1
 replace hS:=hS.trans hS1
 obtain ⟨u0,s0,c0⟩:=hs.nd h0
 obtain ⟨u1,s1,c1⟩:=hs.nd h1
 refine D ?_
 try (refine ZN rfl trivial (fun w' hS'=>ZP rfl rfl (hblk.ext hS' nb) rfl) rfl ?_)
 refine D ?_
 refine ZN rfl trivial (fun w' hS'=>ZC rfl rfl (hs.on hS' (fun _ h=>h)) h0 (fun j u hj=>Ju hs h0 hS' (c0 j u hj))) rfl ?_
 refine D ?_
 try (refine ZN rfl trivial (fun w' hS'=>ZP rfl rfl (hblk.ext hS' nb) rfl) rfl ?_)
 refine D ?_
 refine ZN rfl trivial (fun w' hS'=>ZC rfl rfl (hs.on hS' (fun _ h=>h)) h1 (fun j u hj=>Ju hs h1 hS' (c1 j u hj))) rfl ?_
 refine D ?_
 apply Z0R
 exact rfl
 apply Z2X (vs:=[(0,.int .i64 2)])
 exact trivial
 exact rfl
 exact ZfD
 exact rfl
 refine Zb rfl trivial (Z5 rfl (Z3n rfl rfl rfl rfl) (Z4U (x:=x.kids[0]) (y:=x.kids[1]) (n:=.mk 2 0 [] []) (hcs 0 h0 (by omega)) (hcs 1 h1 (by omega)) (Zac 0) _ bc base v _ _ _ xs (hc.up hS) ⟨u0,rfl,s0⟩ ⟨u1,rfl,s1⟩ ⟨_,rfl,Jt _ _⟩ (hF.up hS) hl)) (fun _ _ h=>by obtain ⟨_,_,h2,_⟩:=h;exact h2) rfl ?_
 rintro _ w5 hq
 refine D ?_
 refine W ?_
 refine WR ?_
 exact .mk (hq.pre hS)
theorem Zmw (x:Nd) (cs:List Cf) (hk2:x.kids.length=2) (hcl:cs.length=x.kids.length) (hcs:∀ i (h:i<x.kids.length) (h':i<cs.length),Z2h x.kids[i] cs[i]) (w:World) (bc base:Nat) (v nv:Value) (xs:List Ins) (hc:Cod w bc base v xs)
 (hx:NdV (bc :: ob v) w nv x) (hF:SlV (bc :: ob v) w Z30 Zg) (hl:xs.length+(chC (cs.getD 0 Z2y) (fun _=>[⟨2,1⟩]) (cs.getD 1 Z2y) xs.length).length≤100000) :
 CC 225 #[.pointer (some ⟨bc,0,none⟩),nv] w fun r w'=>Z1u w bc base v (xs++chC (cs.getD 0 Z2y) (fun _=>[⟨2,1⟩]) (cs.getD 1 Z2y) xs.length) w':=by
 obtain ⟨kv,rfl,hs⟩:=hx
 have h0:0<x.kids.length:=by omega
 have h1:1<x.kids.length:=by omega
 have g0:cs.getD 0 Z2y=cs[0]'(by omega):=by simp [List.getD,hcl,h0]
 have g1:cs.getD 1 Z2y=cs[1]'(by omega):=by simp [List.getD,hcl,h1]
 rw [g0,g1] at hl ⊢
 refine cW2 15 Tryz.func225 ?_
 refine W ?_
 refine Z3 (Zs rfl) rfl ?_
 rintro _ wA ⟨b,rfl,hb,hblk,hS⟩
 replace hblk:Blk wA b _ (ndC x kv):=hblk
 replace hs:=hs.up hS
 have nb:b∉bc :: ob v:=fun h=>by
  rcases Xf.1 h with rfl|h
  have:=hc.blk.lt;omega
  have:=(hc.row.ob_le b h).2;omega
 refine W ?_
 refine Z2g 11 (bc :: ob v) [] [(0,0),(1,0),(2,1),(3,0),(4,1),(5,0),(6,0),(7,1),(8,0),(9,1),(10,2)] rfl mixed (by kernel_rfl) (by kernel_rfl) (by kernel_rfl) (fun w1 hS1=>?_)
 replace hs:=hs.up hS1
 replace hblk:=hblk.up hS1
 replace hS:=hS.trans hS1
 obtain ⟨u0,s0,c0⟩:=hs.nd h0
 obtain ⟨u1,s1,c1⟩:=hs.nd h1
 refine D ?_
 try (refine ZN rfl trivial (fun w' hS'=>ZP rfl rfl (hblk.ext hS' nb) rfl) rfl ?_)
 refine D ?_
 refine ZN rfl trivial (fun w' hS'=>ZC rfl rfl (hs.on hS' (fun _ h=>h)) h0 (fun j u hj=>Ju hs h0 hS' (c0 j u hj))) rfl ?_
 refine D ?_
 apply Z0R
 exact rfl
 apply Z2X (vs:=[(0,.int .i64 2),(1,.int .i64 1)])
 exact trivial
 exact rfl
 exact ZfE
 exact rfl
 refine D ?_
 try (refine ZN rfl trivial (fun w' hS'=>ZP rfl rfl (hblk.ext hS' nb) rfl) rfl ?_)
 refine D ?_
 refine ZN rfl trivial (fun w' hS'=>ZC rfl rfl (hs.on hS' (fun _ h=>h)) h1 (fun j u hj=>Ju hs h1 hS' (c1 j u hj))) rfl ?_
 refine Zb rfl trivial (Z5 rfl (Z3n rfl rfl rfl rfl) (Z4U (x:=x.kids[0]) (y:=.mk 2 1 [] []) (n:=x.kids[1]) (hcs 0 h0 (by omega)) (Zac 1) (hcs 1 h1 (by omega)) _ bc base v _ _ _ xs (hc.up hS) ⟨u0,rfl,s0⟩ ⟨_,rfl,Jt _ _⟩ ⟨u1,rfl,s1⟩ (hF.up hS) hl)) (fun _ _ h=>by obtain ⟨_,_,h2,_⟩:=h;exact h2) rfl ?_
 rintro _ w5 hq
 refine D ?_
 refine W ?_
 refine WR ?_
 exact .mk (hq.pre hS)
theorem SlV.nil {α:Type} [Zf α] {X:List Nat} {w:World} {v:Value} {l:List α} (h:SlV X w v l):SlV [] w v l:=h.ext (Stp.refl [] w) (by simp) (by simp)
theorem Zad (x:Nd) (hk6:x.kind=6) (cs:List Cf) (hk2:x.kids.length=2) (hcl:cs.length=x.kids.length) (hcs:∀ i (h:i<x.kids.length) (h':i<cs.length),Z2h x.kids[i] cs[i]) (w:World) (bc base:Nat) (v nv:Value) (xs:List Ins) (hcd:Cod w bc base v xs)
 (hx:NdV (bc :: ob v) w nv x) (hF:SlV (bc :: ob v) w Z30 Zg) (hl:xs.length+(Z1n x.kind x.num x.word cs xs.length).length≤100000) :
 CC 136 #[.pointer (some ⟨bc,0,none⟩),nv] w fun r w'=>Z1u w bc base v (xs++Z1n x.kind x.num x.word cs xs.length) w':=by
 have hne:¬ cs.length=0:=by omega
 have hn9:¬ x.kind=9:=by omega
 unfold Z1n at hl ⊢
 rw [if_neg hne,if_neg hn9] at hl ⊢
 obtain ⟨kv,rfl,hs⟩:=hx
 refine cW2 17 Tryz.func136 ?_
 refine W ?_
 refine Z3 (Zs rfl) rfl ?_
 rintro _ wA ⟨b,rfl,hb,hblk,hS⟩
 replace hblk:Blk wA b _ (ndC x kv):=hblk
 have main:∀ ys w',Z1u wA bc base v ys w'→Z1u w bc base v ys w':=fun ys w' h=>h.pre hS
 replace hcd:=hcd.up hS
 replace hs:=hs.up hS
 replace hF:=hF.up hS
 repeat'(first|refine W1 ?_|omega|refine VG ?_ ?_<;>intro hg|refine VC ?_ ?_<;>intro hc)
 rw [if_pos ⟨hk6,by assumption⟩] at hl ⊢
 refine CL rfl (Z9 rfl rfl) rfl (ZhO x cs hk2 hcl hcs _ bc base _ _ _ hcd ⟨kv,rfl,hs⟩ hF hl) ?_
 rintro _ w2 hq
 refine W ?_
 refine WR ?_
 exact .mk (main _ _ hq)
 rw [if_neg (fun h=>absurd h.2 (by assumption)),if_pos ⟨hk6,by assumption⟩] at hl ⊢
 refine CL rfl (Z9 rfl rfl) rfl (Zmw x cs hk2 hcl hcs _ bc base _ _ _ hcd ⟨kv,rfl,hs⟩ hF hl) ?_
 rintro _ w2 hq
 refine W ?_
 refine WR ?_
 exact .mk (main _ _ hq)
 rw [if_neg (fun h=>absurd h.2 (by assumption)),if_neg (fun h=>absurd h.2 (by assumption)),if_pos ⟨hk6,by assumption⟩] at hl ⊢
 rw [Xb] at hl
 refine CL rfl (Z9 rfl rfl) rfl (ZdF x cs hcl hcs _ bc base _ _ _ hcd ⟨kv,rfl,hs⟩ hF (by omega)) ?_
 rintro _ w2 hq
 refine W ?_
 refine WR ?_
 exact .mk (main _ _ hq)
 rw [if_neg (fun h=>absurd h.2 (by assumption)),if_neg (fun h=>absurd h.2 (by assumption)),if_neg (fun h=>absurd h.2 (by assumption))] at hl ⊢
 refine CL rfl (Z9 rfl rfl) rfl (Z5Q x cs hcl hcs _ bc base _ _ _ hcd ⟨kv,rfl,hs⟩ hF hl) ?_
 rintro _ w2 hq
 refine W ?_
 refine WR ?_
 exact .mk (main _ _ hq)
theorem ZbV {x:Nd} (h:x.kids=[]) (p:Nat):Zq x p=[Z32 x.kind x.num x.word]:=by
 rw [Z7c,h]
 simp [Z1n]
theorem ZbW {x:Nd} (h:x.kids≠[]):(x.kids.map Zq).length≠0:=by simpa using h
theorem ZbX {x:Nd} {i:Nat} (h:i<x.kids.length):(x.kids.map Zq).getD i Z2y=Zq x.kids[i]:=by simp [List.getD,h]
theorem ZhP (x:Nd):Zd x≠0→Z2h x (Zq x):=by
 induction x using Nd.ind with
 | h k n s l ih=>
 intro hty
 have hkt:=(Z7b hty).2
 have hcs:∀ i (h:i<(Nd.mk k n s l).kids.length) (h':i<((Nd.mk k n s l).kids.map Zq).length),Z2h (Nd.mk k n s l).kids[i] ((Nd.mk k n s l).kids.map Zq)[i]:=by
  intro i h h'
  rw [YaC]
  exact ih _ (Xg h) (hkt _ (Xg h))
 have hcl:((Nd.mk k n s l).kids.map Zq).length=(Nd.mk k n s l).kids.length:=by simp
 have hsh:=Zaa hty
 have hlf:=ZbU hty
 have hcN:=Z7c (.mk k n s l)
 have hcL:=ZbV (x:=.mk k n s l)
 have hkl:(Nd.mk k n s l).kids≠[]→5≤(Nd.mk k n s l).kind:=by
  intro h
  rcases (hsh h).2 with ⟨h,_,_⟩|⟨h,_,_⟩|⟨h,_,_⟩|⟨h,_⟩|⟨h,_,_⟩<;>omega
 have hk6:(Nd.mk k n s l).kind=6→(Nd.mk k n s l).kids.length=2:=by
  intro h6
  by_cases h0:(Nd.mk k n s l).kids=[]
  have:=hlf h0;omega
  rcases (hsh h0).2 with ⟨h,_,_⟩|⟨h,_,hm⟩|⟨h,_,_⟩|⟨h,_⟩|⟨h,_,_⟩<;>omega
 have hk9:(Nd.mk k n s l).kind=9→(Nd.mk k n s l).kids.length=3:=by
  intro h6
  by_cases h0:(Nd.mk k n s l).kids=[]
  have:=hlf h0;omega
  rcases (hsh h0).2 with ⟨h,_,_⟩|⟨h,_,hm⟩|⟨h,_,_⟩|⟨h,hm⟩|⟨h,_,_⟩<;>omega
 have hgD:=fun i=>ZbX (x:=.mk k n s l) (i:=i)
 generalize (Nd.mk k n s l)=x at *
 clear ih
 intro w bc base v nv xs hcd hx hF hl
 obtain ⟨kv,rfl,hs⟩:=hx
 refine cW2 63 Tryz.func76 ?_
 refine W ?_
 refine Z3 (Zs rfl) rfl ?_
 rintro _ wA ⟨b,rfl,hb,hblk,hS⟩
 replace hblk:Blk wA b _ (ndC x kv):=hblk
 have main:∀ ys w',Z1u wA bc base v ys w'→Z1u w bc base v ys w':=fun ys w' h=>h.pre hS
 have hobv:∀ b∈bc :: ob v,b<w.heap.size:=fun b hb=>by
  rcases Xf.1 hb with rfl|h
  exact hcd.blk.lt
  exact (hcd.row.ob_le b h).2
 have nb:b∉bc :: ob v:=fun h=>by have:=hobv _ h;omega
 replace hcd:=hcd.up hS
 replace hs:=hs.up hS
 replace hF:=hF.up hS
 have leaf:∀ op n,[(⟨op,n⟩:Ins)]=Zq x xs.length→∀ w',Z1u wA bc base v (xs++[⟨op,n⟩]) w'→Z1u w bc base v (xs++Zq x xs.length) w':=fun op n h w' h'=>h ▸ main _ _ h'
 repeat'(first|refine W1 ?_|omega|refine VG ?_ ?_<;>intro hg|refine VC ?_ ?_<;>intro hc)
 have h0:x.kids=[]:=Decidable.byContradiction (fun h=>by have:=hkl h;omega)
 refine CL rfl (ZH rfl rfl rfl) rfl (Z1m bc base _ _ 1 x.num _ hcd (by omega)) ?_
 rintro _ w2 ⟨rfl,hq⟩
 refine W ?_
 refine WR ?_
 exact .mk (leaf _ _ (by rw [hcL h0,Z32,if_pos (by assumption)]) _ hq)
 have h0:x.kids=[]:=Decidable.byContradiction (fun h=>by have:=hkl h;omega)
 refine CL rfl (ZH rfl rfl rfl) rfl (Z1m bc base _ _ 2 x.num _ hcd (by omega)) ?_
 rintro _ w2 ⟨rfl,hq⟩
 refine W ?_
 refine WR ?_
 exact .mk (leaf _ _ (by rw [hcL h0,Z32,if_neg (by assumption),if_pos (by assumption)]) _ hq)
 have h0:x.kids=[]:=Decidable.byContradiction (fun h=>by have:=hkl h;omega)
 refine CL rfl (ZH rfl rfl rfl) rfl (Z1m bc base _ _ 3 x.num _ hcd (by omega)) ?_
 rintro _ w2 ⟨rfl,hq⟩
 refine W ?_
 refine WR ?_
 exact .mk (leaf _ _ (by rw [hcL h0,Z32,if_neg (by assumption),if_neg (by assumption),if_pos (by assumption)]) _ hq)
 have h0:x.kids=[]:=Decidable.byContradiction (fun h=>by have:=hkl h;omega)
 refine CL rfl (Zp rfl) rfl (Z8n x.word _ (SlV.nil hF)) ?_
 rintro _ w2 ⟨rfl,hS2⟩
 refine W ?_
 refine CL rfl (ZH rfl rfl rfl) rfl (Z1m bc base _ _ 4 (ZZ x.word).1 _ (hcd.up hS2) (by omega)) ?_
 rintro _ w3 ⟨rfl,hq⟩
 refine W ?_
 refine WR ?_
 exact .mk (leaf _ _ (by rw [hcL h0,Z32,if_neg (by assumption),if_neg (by assumption),if_neg (by assumption)]) _ (hq.pre hS2))
 have h6:x.kind=6:=by assumption
 rw [hcN] at hl ⊢
 refine CL rfl (Z9 rfl rfl) rfl (Zad x h6 _ (hk6 h6) hcl hcs _ bc base _ _ _ hcd ⟨kv,rfl,hs⟩ hF hl) ?_
 rintro _ w2 hq
 refine W ?_
 refine WR ?_
 exact .mk (main _ _ hq)
 have h9:x.kind=9:=by assumption
 have h3:=hk9 h9
 have e9:Zq x=chC (Zq (x.kids[0]'(by omega))) (Zq (x.kids[1]'(by omega))) (Zq (x.kids[2]'(by omega))):=by
  funext p
  rw [hcN,Z1n,if_neg (by omega),if_pos h9,hgD 0 (by omega),hgD 1 (by omega),hgD 2 (by omega)]
 have c0:=hcs 0 (by omega) (by omega)
 have c1:=hcs 1 (by omega) (by omega)
 have c2:=hcs 2 (by omega) (by omega)
 rw [YaC] at c0 c1 c2
 rw [e9] at hl ⊢
 have h0:0<x.kids.length:=by omega
 have h1:1<x.kids.length:=by omega
 have h2:2<x.kids.length:=by omega
 refine Z2g 14 (bc :: ob v) [] [(0,0),(1,0),(2,1),(3,0),(4,1),(5,0),(6,1),(7,0),(8,1),(9,0),(10,1),(11,0),(12,1),(13,2)] rfl mixed (by kernel_rfl) (by kernel_rfl) (by kernel_rfl) (fun w1 hS1=>?_)
 replace hs:=hs.up hS1
 replace hblk:=hblk.up hS1
 replace hS:=hS.trans hS1
 obtain ⟨u0,s0,d0⟩:=hs.nd h0
 obtain ⟨u1,s1,d1⟩:=hs.nd h1
 obtain ⟨u2,s2,d2⟩:=hs.nd h2
 refine D ?_
 try (refine ZN rfl trivial (fun w' hS'=>ZP rfl rfl (hblk.ext hS' nb) rfl) rfl ?_)
 refine D ?_
 refine ZN rfl trivial (fun w' hS'=>ZC rfl rfl (hs.on hS' (fun _ h=>h)) h0 (fun j u hj=>Ju hs h0 hS' (d0 j u hj))) rfl ?_
 refine D ?_
 try (refine ZN rfl trivial (fun w' hS'=>ZP rfl rfl (hblk.ext hS' nb) rfl) rfl ?_)
 refine D ?_
 refine ZN rfl trivial (fun w' hS'=>ZC rfl rfl (hs.on hS' (fun _ h=>h)) h1 (fun j u hj=>Ju hs h1 hS' (d1 j u hj))) rfl ?_
 refine D ?_
 try (refine ZN rfl trivial (fun w' hS'=>ZP rfl rfl (hblk.ext hS' nb) rfl) rfl ?_)
 refine D ?_
 refine ZN rfl trivial (fun w' hS'=>ZC rfl rfl (hs.on hS' (fun _ h=>h)) h2 (fun j u hj=>Ju hs h2 hS' (d2 j u hj))) rfl ?_
 refine D ?_
 refine Zb rfl trivial (Z5 rfl (Z3n rfl rfl rfl rfl) (Z4U c0 c1 c2 _ bc base v _ _ _ xs (hcd.up hS1) ⟨u0,rfl,s0⟩ ⟨u1,rfl,s1⟩ ⟨u2,rfl,s2⟩ (hF.up hS1) hl)) (fun _ _ h=>by obtain ⟨_,_,h2,_⟩:=h;exact h2) rfl ?_
 rintro _ w5 hq
 refine D ?_
 refine W ?_
 refine WR ?_
 exact .mk (hq.pre hS)
 have h0:x.kids≠[]:=fun h=>by have:=hlf h;omega
 have e0:Z1n x.kind x.num x.word (x.kids.map Zq) xs.length=Z17 x.kind x.word (x.kids.map Zq) xs.length:=by
  rw [Z1n,if_neg (ZbW h0),if_neg (by assumption),if_neg (fun h=>absurd h.1 (by assumption)),if_neg (fun h=>absurd h.1 (by assumption)),if_neg (fun h=>absurd h.1 (by assumption))]
 rw [hcN,e0] at hl ⊢
 refine CL rfl (Z9 rfl rfl) rfl (Z5Q x _ hcl hcs _ bc base _ _ _ hcd ⟨kv,rfl,hs⟩ hF hl) ?_
 rintro _ w2 hq
 refine W ?_
 refine WR ?_
 exact .mk (main _ _ hq)
theorem ZfF (l:List Nd) (h:∀ y∈l,∀ p,(Zq y p).length≤8 * JJ y) (p:Nat):(JL (l.map Zq) p).length≤8 * (l.map JJ).sum:=by
 induction l generalizing p with
 | nil=>simp [JL]
 | cons x r ih=>
   simp only [Xn,JL,Xb,List.sum_cons]
   have h1:=h x (by simp) p
   have h2:=ih (fun y hy=>h y (by simp [hy])) (p+(Zq x p).length)
   omega
theorem ZfG (l:List Int):(Z87 l).length=l.length:=by simp [Z87]
theorem ZfH {l:List Nd} (h:∀ y∈l,∀ p,(Zq y p).length≤8 * JJ y) (i p:Nat):((l.map Zq).getD i Z2y p).length≤8 * (l.map JJ).getD i 0:=by
 by_cases hi:i<l.length
 simp [List.getD,hi]
 exact h _ (Xg hi) p
 simp [List.getD,hi,Z2y]
theorem ZfI (l:List Nat):l.getD 0 0+l.getD 1 0+l.getD 2 0≤l.sum:=by
 rcases l with _|⟨a,_|⟨b,_|⟨c,r⟩⟩⟩<;>simp<;>omega
theorem Z9d (c y n:Cf) (A B C:Nat) (hc:∀ p,(c p).length≤A) (hy:∀ p,(y p).length≤B) (hn:∀ p,(n p).length≤C) (p:Nat):(chC c y n p).length≤A+B+C+2:=by
 unfold chC
 simp only [Xb,Xc,Xe]
 have h1:=hc p
 have h2:=hy (p+(c p).length+1)
 have h3:=hn (p+(c p).length+1+(y (p+(c p).length+1)).length+1)
 omega
theorem ZdG (x:Nd):∀ p,(Zq x p).length≤8 * JJ x:=by
 induction x using Nd.ind with
 | h k n s l ih=>
 intro p
 rw [Z7c,Z31]
 show (Z1n k n s (l.map Zq) p).length≤8 * (1+(l.map JJ).sum)
 have hs:=ZfI (l.map JJ)
 have g:=ZfH ih
 have hp:(Z17 k s (l.map Zq) p).length≤8 * (l.map JJ).sum+3:=by
  unfold Z17
  simp only [Xb,ZfG]
  have h1:=ZfF l ih p
  have h2:=ZcM s
  have h3:(if k=8∨k=5∧s=[45] then [(⟨8,0⟩:Ins)] else []).length≤1:=by split<;>simp
  omega
 unfold Z1n
 split
 simp;omega
 split
 refine Xh (Z9d _ _ _ _ _ _ (g 0) (g 1) (g 2) p) (by omega)
 split
 refine Xh (Z9d _ _ _ _ _ 1 (g 0) (g 1) (fun _=>by simp) p) (by omega)
 split
 refine Xh (Z9d _ _ _ _ 1 _ (g 0) (fun _=>by simp) (g 1) p) (by omega)
 split
 simp only [Xb,Xc,Xe];omega
 omega
def Jm (x:Nd):List Ins:=Zq x 0++[⟨24,0⟩]
def Z2z (x:Nd):Int:=if Zw x≤12 then (if Zd x=0 then 21 else if (Jm x).length > 200 then 2 else 0) else 2
def ZoW (w:World) (x:Nd) (r:Value) (w':World):Prop:=∃ cv,r=.tuple #[cv,.int .i64 (Z2z x)]∧(∀ X:List Nat,(∀ b∈X,b<w.heap.size)→SlV X w' cv (if Z2z x=0 then Jm x else []))∧Stp [] w w'
theorem Z3W (v:Value) (x:Nd) (w:World) (hsz:JJ x≤1000) (hx:NdV [] w v x) (hF:SlV [] w Z30 Zg) :
 Calls Tryz.prog 27 #[v] w (Ret (ZoW w x)):=by
 have hN:=hx
 obtain ⟨kv,rfl,hs⟩:=hx
 refine cW1 24 Tryz.func27 ?_
 refine W ?_
 refine Z3 (Zs rfl) rfl ?_
 rintro _ w1 ⟨b,rfl,hb,hblk,hS⟩
 replace hblk:Blk w1 b _ (ndC x kv):=hblk
 replace hs:=hs.up hS;replace hN:=hN.up hS;replace hF:=hF.up hS
 refine W ?_
 refine CL rfl (Zp rfl) rfl (ZfC [] [] _ x _ hN hF) ?_
 rintro _ w2 ⟨rfl,hS2⟩
 replace hs:=hs.up hS2;replace hN:=hN.up hS2;replace hF:=hF.up hS2;replace hblk:=hblk.up hS2
 replace hS:=hS.trans hS2
 by_cases hn:Zw x≤12
 case neg=>
  rw [if_neg hn,if_neg hn]
  have he:Z2z x=2:=by rw [Z2z,if_neg hn]
  repeat'(first|refine W1 ?_|omega|refine VG ?_ ?_<;>intro hg|refine VC ?_ ?_<;>intro hc)
  refine WR ?_
  refine .mk ⟨_,by rw [he];rfl,fun X hX=>?_,hS⟩
  rw [he,if_neg (by decide)]
  exact Jt _ _
 by_cases ht:Zd x=0
 rw [if_pos hn,if_pos hn,if_pos ht]
 have he:Z2z x=21:=by rw [Z2z,if_pos hn,if_pos ht]
 focus repeat'(first|refine W1 ?_|omega|refine VG ?_ ?_<;>intro hg|refine VC ?_ ?_<;>intro hc)
 refine WR ?_
 refine .mk ⟨_,by rw [he];rfl,fun X hX=>?_,hS⟩
 rw [he,if_neg (by decide)]
 exact Jt _ _
 rw [if_pos hn,if_pos hn,if_neg ht]
 repeat'(first|refine W1 ?_|omega|refine VG ?_ ?_<;>intro hg|refine VC ?_ ?_<;>intro hc)
 refine Z3 Z6 rfl ?_
 rintro _ w3 ⟨bc,rfl,hbc,hblkc,hS3⟩
 replace hblk:=hblk.up hS3
 replace hblkc:Blk w3 bc 156 [.slice none 0 0]:=hblkc
 refine W ?_
 have hcod:Cod w3 bc w3.heap.size (.slice none 0 0) []:=⟨hblkc,Row.nil,by simp [ob],hblkc.lt,Xo _⟩
 have fr:=Fr.start hcod
 have hlen:=ZdG x 0
 refine CL rfl (Z9 rfl rfl) rfl (ZhP x ht _ bc _ _ _ [] hcod ⟨kv,rfl,?_⟩ ?_ ?_) ?_
 refine hs.ext hS3 (by simp) (fun c hc=>.inr ?_)
 simp [ob] at hc;omega
 refine hF.ext hS3 (by simp) (fun c hc=>.inr ?_)
 simp [ob] at hc;omega
 simp only [Xe];omega
 rintro _ w4 hq
 obtain ⟨v4,fr⟩:=fr.step hq
 rw [XS,Xe] at fr
 refine W ?_
 refine CL rfl (ZH rfl rfl rfl) rfl (Z1m bc _ _ _ 24 0 _ fr.cod (by omega)) ?_
 rintro _ w5 ⟨rfl,hq⟩
 obtain ⟨v5,fr⟩:=fr.step hq
 have hfin:Stp [] w w5:=hS.trans (hS3.own fr.stp (fun c hc=>.inr (by simp [ob] at hc;omega)))
 have hrow:=fr.cod.row
 have hblk5:=fr.cod.blk
 have hslv:=hrow.slv0
 have hel:((Zq x 0++[(⟨24,0⟩:Ins)]).length:Int)=(Jm x).length:=rfl
 by_cases hg:(Jm x).length > 200
 have he:Z2z x=2:=by rw [Z2z,if_pos hn,if_neg ht,if_pos hg]
 focus repeat'(first|refine W1 ?_|omega|refine VG ?_ ?_<;>intro hg|refine VC ?_ ?_<;>intro hc)
 refine WR ?_
 refine .mk ⟨_,by rw [he],fun X hX=>?_,hfin⟩
 rw [he,if_neg (by decide)]
 exact Jt _ _
 have he:Z2z x=0:=by rw [Z2z,if_pos hn,if_neg ht,if_neg hg]
 focus repeat'(first|refine W1 ?_|omega|refine VG ?_ ?_<;>intro hg|refine VC ?_ ?_<;>intro hc)
 refine WR ?_
 refine .mk ⟨_,by rw [he],fun X hX=>?_,hfin⟩
 rw [he,if_pos rfl]
 exact Row.slv (X:=X) hrow (fun b hb=>by have:=hX b hb;have:=hS.size;have:=hS3.size;omega)
end Go.Proofs.YtjdjdoefppebkaaGreatDoor
namespace Go.Eng
open Go Go.RowKit Go.Proofs
theorem Zc.slvG {α:Type} [Zf α] {w w':World} {X:List Nat} {T len:Nat} {cs:List Value} {v:Value} {ys:List α} {css:List (List Value)} (h:Zc w T len cs v w') (hX:∀ b∈X,b<w.heap.size) (hl:len=ys.length) (hcl:css.length=ys.length)
 (hc:cs=css.flatten) (hr:∀ i (hi:i<ys.length) (hi':i<css.length),Zf.rep X w ys[i] css[i]) (hm:ys.length≤maxLen):SlV X w' v ys:=by
 obtain ⟨b,rfl,hb,hblk,hS⟩:=h
 subst hl
 subst hc
 have hk:∀ c∈css,c.length=Zf.k α:=by
  intro c hc
  obtain ⟨i,hi,rfl⟩:=Xs hc
  exact Zf.len (hr i (by omega) hi)
 refine ⟨some ⟨b,0,none⟩,ys.length,rfl,Xo _,hm,fun h=>by simp at h,fun i hi=>⟨b,0,css[i]'(by omega),rfl,hblk.lt,fun hx=>by have:=hX b hx;omega,Zf.ext (hr i hi (by omega)) hS (by simp) (fun b hb=>.inl hb),fun j u hu=>?_⟩⟩
 refine hblk.cell ?_
 have:=Z1x css hk i (by omega) j u hu
 rw [XO]
 exact this
theorem SlV.wk {α:Type} [Zf α] {X X':List Nat} {w:World} {v:Value} {l:List α} (h:SlV X w v l) (hs:∀ b∈X',b∈X):SlV X' w v l:=h.ext (Stp.refl [] w) (by simp) (fun b hb=>.inl (hs b hb))
end Go.Eng
namespace Go.Proofs.YtjdjdoefppebkaaGreatDoor
open Go Go.Eng Go.RowKit
theorem Z5g (x:Nd):Zw x≤JJ x:=by
 induction x using Nd.ind with
 | h k n s l ih=>
 rw [Z09,Z31]
 show 1+(l.map Zw).foldl max 0≤1+(l.map JJ).sum
 have:∀ (l:List Nd) (a:Nat),(∀ x∈l,Zw x≤JJ x)→(l.map Zw).foldl max a≤a+(l.map JJ).sum:=by
  intro l
  induction l with
  | nil=>intro a _;simp
  | cons y r ihr=>
    intro a h
    simp only [Xn,YaV,List.sum_cons]
    have h1:=ihr (max a (Zw y)) (fun x hx=>h x (by simp [hx]))
    have h2:=h y (by simp)
    omega
 have:=this l 0 ih
 omega
theorem Z0F (k n:Int) (s:Str) (p:Option Addr) (l c:Nat) (w:World):(Instr.buildSlice 25 1 #[(0,.agg #[.int .i64 k,.int .i64 n,str s,.slice p l c])]).run Tryz.prog w=.ok (.slice (some ⟨w.heap.size,0,none⟩) 1 1) (w.alloc (.cells #[.int .i64 k,.int .i64 n,str s,.slice p l c] 27)):=by kernel_rfl
def Z6H:Str:=[32,114,117,108,101,32,102,114,111,109,32,111,110,32,105,102,32,100,117,101,32,117,110,108,101,115,115,32,101,108,115,101,32,111,114,32,97,110,100,32,110,111,116,32,116,114,117,101,32,102,97,108,115,101,32,116,104,101,110,32,101,110,100,32,100,97,121,115,32,119,101,101,107,115,32,109,111,110,116,104,115,32,99,111,117,114,116,100,97,121,115,32,110,101,120,116,32,112,114,101,118,32,108,97,116,101,114,32,101,97,114,108,105,101,114,32,98,101,116,119,101,101,110,32]
def Zae:List Str:=[[114,117,108,101],[102,114,111,109],[111,110],[105,102],[100,117,101],[117,110,108,101,115,115],[101,108,115,101],[111,114],[97,110,100],[110,111,116],[116,114,117,101],[102,97,108,115,101],[116,104,101,110],[101,110,100],[100,97,121,115],[119,101,101,107,115],[109,111,110,116,104,115],[99,111,117,114,116,100,97,121,115],[110,101,120,116],[112,114,101,118],[108,97,116,101,114],[101,97,114,108,105,101,114],[98,101,116,119,101,101,110]]
theorem Z5R:∀ (s sub:List UInt8),0≤Lib.index s sub↔∃ i,i≤s.length∧sub.isPrefixOf (s.drop i)=true
 | [], sub => by
   unfold Lib.index
   cases sub with
   | nil=>simp
   | cons a l=>simp
 | b :: l, sub => by
   have ih:=Z5R l sub
   have hge:=Lib.index_ge l sub
   unfold Lib.index
   by_cases hp:sub.isPrefixOf (b :: l)=true
   rw [if_pos hp]
   exact ⟨fun _=>⟨0,by omega,hp⟩,fun _=>by omega⟩
   rw [if_neg hp]
   have e:(0:Int)≤(if (Lib.index l sub == -1)=true then -1 else Lib.index l sub+1)↔0≤Lib.index l sub:=by
    by_cases h1:Lib.index l sub=-1
    rw [if_pos (by simpa using h1)];omega
    rw [if_neg (by simpa using h1)];omega
   rw [e,ih]
   constructor
   rintro ⟨i,hi,h⟩
   exact ⟨i+1,by simpa using hi,h⟩
   · rintro ⟨i,hi,h⟩
     cases i with
     | zero=>exact absurd h hp
     | succ i=>exact ⟨i,by simpa using hi,h⟩
theorem Z5S:∀ (t r:List UInt8),(∀ c∈t,c≠32)→(t++[32]).isPrefixOf r=true→r.takeWhile (fun c=>decide (c≠32))=t
 | [], r, _, h => by
   cases r with
   | nil=>simp at h
   | cons a l=>
     simp [List.isPrefixOf] at h
     subst h
     rfl
 | c :: t, r, hc, h => by
   cases r with
   | nil=>simp at h
   | cons a l=>
     simp only [Xp,List.isPrefixOf,Xi,beq_iff_eq] at h
     obtain ⟨rfl,h⟩:=h
     have h1:=hc c (by simp)
     rw [List.takeWhile_cons_of_pos (by simpa using h1),Z5S t l (fun x hx=>hc x (by simp [hx])) h]
theorem ZdH:∀ i∈List.range (Z6H.length+1),(Z6H.drop i).head?=some 32→(Z6H.drop (i+1)).takeWhile (fun c=>decide (c≠32))∈Zae∨(Z6H.drop (i+1)).takeWhile (fun c=>decide (c≠32))=[]:=by decide +kernel
theorem ZhQ:∀ t∈Zae,Lib.contains Z6H (32 :: t++[32])=true:=by decide +kernel
theorem ZhR {t:Str} (h0:t≠[]) (hc:∀ c∈t,c≠32):Lib.contains Z6H (32 :: t++[32])=decide (t∈Zae):=by
 by_cases ht:t∈Zae
 rw [ZhQ t ht,decide_eq_true ht]
 · rw [decide_eq_false ht]
   unfold Lib.contains
   rw [decide_eq_false_iff_not,Z5R]
   rintro ⟨i,hi,h⟩
   cases hd:Z6H.drop i with
   | nil=>rw [hd] at h;simp at h
   | cons a l=>
     rw [hd] at h
     simp only [Xp,List.isPrefixOf,Xi,beq_iff_eq] at h
     obtain ⟨rfl,h⟩:=h
     have hl:Z6H.drop (i+1)=l:=by
      have:=congrArg List.tail hd
      simpa [List.tail_drop] using this
     have hw:=Z5S t l hc h
     have:=ZdH i (Ybf.2 (by omega)) (by rw [hd];rfl)
     rw [hl,hw] at this
     exact this.elim ht h0
abbrev ZhS (c:Int):Prop:=(97≤c∧c≤122)∨(48≤c∧c≤57)
def Z7d (s:Str):Bool:=decide (0<s.length∧s.length≤12∧97≤Z0e s 0∧Z0e s 0≤122∧∀ i,i<s.length→ZhS (Z0e s i))
def JZ (s:Str):Bool:=Z7d s && decide (s∉Zae∧s∉Zg)
theorem Z5h (a b:Str) (m:Int) (w:World) (ha:a.length<4294967281) (hm:w.cell? ⟨2,0,none⟩=some (.int .i64 m)) :
 CC 176 #[str a,str b] w fun r w'=>r=.bool (Lib.contains a b)∧Stp [] w w':=by
 refine (Tryz.strings_Contains ⟨a.toArray⟩ ⟨b.toArray⟩ m w (by rw [Z0C];exact ha) hm).mono ?_
 rintro e w' ⟨rfl,rfl⟩
 exact .mk ⟨rfl,Stp.refl _ _⟩
theorem Zaf {l:List Str} {s:Str}:0≤idx (isS s) l↔s∈l:=by
 unfold idx
 cases h:l.findIdx? (isS s) with
 | none=>
   rw [X2] at h
   simp only
   constructor
   intro h1;omega
   intro h1
   have:=h s h1
   simp [isS] at this
 | some i=>
   obtain ⟨hi,hp,_⟩:=XW.1 h
   simp only
   constructor
   intro _
   have:l[i]=s:=by simpa [isS] using hp
   rw [← this];exact Xg hi
   intro _;omega
theorem Z88 (X:List Nat) (v:Value) (l:List Str) (a:Str) (w:World) (hs:SlV X w v l) :
 CC 177 #[v,str a] w fun r w'=>r=.bool (decide (a∈l))∧Stp [] w w':=by
 refine cW2 9 Tryz.func177 ?_
 refine W ?_
 refine CL rfl (Z9 rfl rfl) rfl (Z8m X v l a _ hs) ?_
 rintro _ w1 ⟨rfl,hS⟩
 refine W ?_
 refine WR ?_
 exact .mk ⟨by congr 1;exact decide_eq_decide.2 Zaf,hS⟩
theorem Z33 (s:Str) (m:Int) (w:World) (hF:SlV [] w Z30 Zg) (hm:w.cell? ⟨2,0,none⟩=some (.int .i64 m)) :
 CC 89 #[str s] w fun r w'=>r=.bool (JZ s)∧Stp [] w w':=by
 refine cW1 55 Tryz.func89 ?_
 refine W ?_
 by_cases h0:s.length≠0∧s.length≤12∧97≤Z0e s 0∧Z0e s 0≤122
 case neg=>
  have hn:JZ s=false:=by
   unfold JZ Z7d
   rw [decide_eq_false (fun h=>h0 ⟨by omega,h.2.1,h.2.2.1,h.2.2.2.1⟩)]
   rfl
  by_cases hl:s.length≠0
  focus repeat'(first|refine W1 ?_|omega|refine VG ?_ ?_<;>intro hg|refine VC ?_ ?_<;>intro hc)
  refine WR ?_
  exact .mk ⟨by rw [hn],Stp.refl _ _⟩
  refine WR ?_
  exact .mk ⟨by rw [hn],Stp.refl _ _⟩
  refine JD (i:=0) rfl rfl rfl (by omega) rfl ?_
  focus repeat'(first|refine W1 ?_|omega|refine VG ?_ ?_<;>intro hg|refine VC ?_ ?_<;>intro hc)
  refine WR ?_
  exact .mk ⟨by rw [hn],Stp.refl _ _⟩
  refine JD (i:=0) rfl rfl rfl (by omega) rfl ?_
  focus repeat'(first|refine W1 ?_|omega|refine VG ?_ ?_<;>intro hg|refine VC ?_ ?_<;>intro hc)
  refine WR ?_
  exact .mk ⟨by rw [hn],Stp.refl _ _⟩
  obtain rfl:s=[]:=XE.1 (by omega)
  focus repeat'(first|refine W1 ?_|omega|refine VG ?_ ?_<;>intro hg|refine VC ?_ ?_<;>intro hc)
  refine WR ?_
  exact .mk ⟨by rw [hn],Stp.refl _ _⟩
 obtain ⟨h1,h2,h3,h4⟩:=h0
 have hne:¬ s=[]:=fun h=>by rw [h] at h1;exact h1 rfl
 repeat'(first|refine W1 ?_|omega|refine VG ?_ ?_<;>intro hg|refine VC ?_ ?_<;>intro hc)
 exact absurd (by assumption) hne
 refine JD (i:=0) rfl rfl rfl (by omega) rfl ?_
 repeat'(first|refine W1 ?_|omega|refine VG ?_ ?_<;>intro hg|refine VC ?_ ?_<;>intro hc)
 refine JD (i:=0) rfl rfl rfl (by omega) rfl ?_
 repeat'(first|refine W1 ?_|omega|refine VG ?_ ?_<;>intro hg|refine VC ?_ ?_<;>intro hc)
 refine Z3 (Za3 rfl (by omega)) rfl ?_
 rintro bv w1 ⟨hb,hS⟩
 replace hb:=hb [] (by simp)
 have hmx:=hb.max
 repeat'(first|refine W1 ?_|omega|refine VG ?_ ?_<;>intro hg|refine VC ?_ ?_<;>intro hc)
 refine ZD (σ:=Nat) (fun i=>[(0,str s),(23,bv),(24,.int .i64 (s.length:Int)),(25,.int .i64 (i:Int))]) (fun i w'=>i≤s.length∧Stp [] w1 w'∧∀ j,j<i→ZhS (Z0e s j)) (fun i=>s.length - i) 0 ⟨rfl,rfl,rfl,rfl,trivial⟩ ⟨Xy _,Stp.refl _ _,fun j hj=>absurd hj (XI _)⟩ ?_
 rintro i w2 ⟨hi,hS2,hall⟩
 try dsimp only at hi hall ⊢
 replace hb:=hb.up hS2
 replace hS:=hS.trans hS2
 by_cases hlt:i<s.length
 have hbi:Z0e s i=(s[i].toNat:Int):=Go.Eng.byte_at hlt
 by_cases hle:(97≤(s[i].toNat:Int)∧(s[i].toNat:Int)≤122)∨(48≤(s[i].toNat:Int)∧(s[i].toNat:Int)≤57)
 · have hall':∀ j,j<i+1→ZhS (Z0e s j):=fun j hj=>by
    by_cases e:j=i
    subst e;rw [hbi];exact hle
    exact hall j (by omega)
   repeat'(first|refine W1 ?_|omega|refine VG ?_ ?_<;>intro hg|refine VC ?_ ?_<;>intro hc)
   all_goals exact Zr (i+1) ⟨rfl,rfl,rfl,rfl,trivial⟩ ⟨hlt,hS2,hall'⟩ (Nat.sub_lt_sub_left hlt (Ya5 i))
 · have hn:JZ s=false:=by
    unfold JZ Z7d
    rw [decide_eq_false (fun h=>hle (by have:=h.2.2.2.2 i hlt;rw [hbi] at this;exact this))]
    rfl
   repeat'(first|refine W1 ?_|omega|refine VG ?_ ?_<;>intro hg|refine VC ?_ ?_<;>intro hc)
   all_goals
    refine WR ?_
    exact .mk ⟨by rw [hn],hS⟩
 obtain rfl:i=s.length:=by omega
 have hok:Z7d s=true:=decide_eq_true ⟨by omega,h2,h3,h4,hall⟩
 have hsp:∀ c∈s,c≠32:=fun c hc h=>by
  obtain ⟨j,hj,rfl⟩:=Xs hc
  have h5:=hall j hj
  rw [Go.Eng.byte_at hj,h] at h5
  exact absurd h5 (by decide)
 have hrl:Z6H.length<4294967281:=by
  have:Z6H.length≤200:=by decide +kernel
  omega
 have hres:Lib.contains Z6H ([32]++s++[32])=decide (s∈Zae):=ZhR hne hsp
 repeat'(first|refine W1 ?_|omega|refine VG ?_ ?_<;>intro hg|refine VC ?_ ?_<;>intro hc)
 refine ZQ rfl rfl (by simp;omega) rfl ?_
 repeat'(first|refine W1 ?_|omega|refine VG ?_ ?_<;>intro hg|refine VC ?_ ?_<;>intro hc)
 refine ZQ rfl rfl (by simp;omega) rfl ?_
 repeat'(first|refine W1 ?_|omega|refine VG ?_ ?_<;>intro hg|refine VC ?_ ?_<;>intro hc)
 refine CL rfl (Z9 rfl rfl) rfl (Z5h Z6H ([32]++s++[32]) m _ hrl (hS.cell (by simp) hm)) ?_
 rintro _ w3 ⟨rfl,hS3⟩
 rw [hres]
 replace hS:=hS.trans hS3
 by_cases hr:s∈Zae
 have hn:JZ s=false:=by
  unfold JZ
  rw [decide_eq_false (fun h=>h.1 hr),Ybg]
 rw [decide_eq_true hr]
 focus repeat'(first|refine W1 ?_|omega|refine VG ?_ ?_<;>intro hg|refine VC ?_ ?_<;>intro hc)
 refine WR ?_
 exact .mk ⟨by rw [hn],hS⟩
 rw [decide_eq_false hr]
 repeat'(first|refine W1 ?_|omega|refine VG ?_ ?_<;>intro hg|refine VC ?_ ?_<;>intro hc)
 refine Zdu rfl rfl ?_
 refine W ?_
 refine CL rfl (Z9 rfl rfl) rfl (Z88 [] _ Zg s _ (hF.up hS)) ?_
 rintro _ w4 ⟨rfl,hS4⟩
 repeat'(first|refine W1 ?_|omega|refine VG ?_ ?_<;>intro hg|refine VC ?_ ?_<;>intro hc)
 refine WR ?_
 refine .mk ⟨?_,hS.trans hS4⟩
 unfold JZ
 rw [hok]
 by_cases hf:s∈Zg<;>simp [hr,hf]
def Z1U (x:Nd) (want:Int):Int:=if Zw x≤12 then (if Zd x=0 then 21 else if Zd x=want then 0 else 21) else 2
theorem Zag (v:Value) (x:Nd) (want:Int) (w:World) (hx:NdV [] w v x) (hF:SlV [] w Z30 Zg):CC 90 #[v,.int .i64 want] w fun r w'=>r=.int .i64 (Z1U x want)∧Stp [] w w':=by
 obtain ⟨kv,rfl,hs⟩:=hx
 refine cW2 20 Tryz.func90 ?_
 refine W ?_
 refine Z3 (Zs rfl) rfl ?_
 rintro _ w1 ⟨b,rfl,hb,hblk,hS⟩
 replace hblk:Blk w1 b _ (ndC x kv):=hblk
 refine W ?_
 refine CL rfl (Zp rfl) rfl (ZfC [] [] _ x _ ⟨kv,rfl,hs.up hS⟩ (hF.up hS)) ?_
 rintro _ w2 ⟨rfl,hS2⟩
 replace hS:=hS.trans hS2
 unfold Z1U
 by_cases hn:Zw x≤12
 rw [if_pos hn,if_pos hn,if_pos hn]
 by_cases ht:Zd x=0
 rw [if_pos ht,if_pos ht]
 focus repeat'(first|refine W1 ?_|omega|refine VG ?_ ?_<;>intro hg|refine VC ?_ ?_<;>intro hc)
 refine WR ?_
 exact .mk ⟨rfl,hS⟩
 rw [if_neg ht,if_neg ht]
 by_cases hw:Zd x=want
 rw [if_pos hw]
 focus repeat'(first|refine W1 ?_|omega|refine VG ?_ ?_<;>intro hg|refine VC ?_ ?_<;>intro hc)
 refine WR ?_
 exact .mk ⟨rfl,hS⟩
 rw [if_neg hw]
 focus repeat'(first|refine W1 ?_|omega|refine VG ?_ ?_<;>intro hg|refine VC ?_ ?_<;>intro hc)
 refine WR ?_
 exact .mk ⟨rfl,hS⟩
 rw [if_neg hn,if_neg hn,if_neg hn]
 focus repeat'(first|refine W1 ?_|omega|refine VG ?_ ?_<;>intro hg|refine VC ?_ ?_<;>intro hc)
 refine WR ?_
 exact .mk ⟨rfl,hS⟩
structure Rul where
 name:Str
 frm:Int
 on:Str
 cnd:Nd
 due:Nd
 unl:Str
 els:Str
abbrev rlC (r:Rul) (ki kd:Value):List Value:=[str r.name,.int .i64 r.frm,str r.on,.int .i64 r.cnd.kind,.int .i64 r.cnd.num,str r.cnd.word,ki,.int .i64 r.due.kind,.int .i64 r.due.num,str r.due.word,kd,str r.unl,str r.els]
def ZhT (X:List Nat) (w:World) (v:Value) (r:Rul):Prop:=∃ ki kd,v=.agg (rlC r ki kd).toArray∧SlV X w ki r.cnd.kids∧SlV X w kd r.due.kids
def Z0T (r:Rul):Bool:=JZ r.name && JZ r.on && (decide (r.unl=[]) || JZ r.unl) && (decide (r.els=[]) || JZ r.els)
def Z2i (r:Rul):Int:=if Z0T r=false then 7 else if r.frm<0∨r.frm > 3652058 then 5 else if Z1U r.cnd 2≠0 then Z1U r.cnd 2 else Z1U r.due 3
theorem Z6p (v:Value) (r:Rul) (m:Int) (w:World) (hv:ZhT [] w v r) (hF:SlV [] w Z30 Zg) (hm:w.cell? ⟨2,0,none⟩=some (.int .i64 m)) :
 CC 37 #[v] w fun r' w'=>r'=.int .i64 (Z2i r)∧Stp [] w w':=by
 obtain ⟨ki,kd,rfl,hi,hd⟩:=hv
 refine cW1 55 Tryz.func37 ?_
 refine W ?_
 refine Z3 (Zs rfl) rfl ?_
 rintro _ w1 ⟨b,rfl,hb,hblk,hS⟩
 replace hblk:Blk w1 b _ (rlC r ki kd):=hblk
 refine W ?_
 refine CL rfl (Zp rfl) rfl (Z33 r.name m _ (hF.up hS) (hS.cell (by simp) hm)) ?_
 rintro _ w2 ⟨rfl,hT⟩
 replace hblk:=hblk.up hT
 replace hS:=hS.trans hT
 clear hT
 refine ZcJ (σ:=Bool) (fun q=>[(1,.pointer (some ⟨b,0,none⟩)),(2,.int .i64 0),(4,.bool q)]) (fun q w'=>Blk w' b 97 (rlC r ki kd)∧Stp [] w w'∧q=!Z0T r) ?_ ?_
 · cases hA:JZ r.name with
   | false=>
     refine W ?_
     exact ZI true ⟨rfl,rfl,rfl,trivial⟩ ⟨hblk,hS,by simp [Z0T, *]⟩
   | true=>
     refine W ?_
     refine CL rfl (Zp rfl) rfl (Z33 r.on m _ (hF.up hS) (hS.cell (by simp) hm)) ?_
     rintro _ w2 ⟨rfl,hT⟩
     replace hblk:=hblk.up hT
     replace hS:=hS.trans hT
     clear hT
     cases hB:JZ r.on with
     | false=>
       refine W ?_
       exact ZI true ⟨rfl,rfl,rfl,trivial⟩ ⟨hblk,hS,by simp [Z0T, *]⟩
     | true=>
       repeat'(first|refine W1 ?_|omega|refine VG ?_ ?_<;>intro hg|refine VC ?_ ?_<;>intro hc)
       · refine CL rfl (Zp rfl) rfl (Z33 r.unl m _ (hF.up hS) (hS.cell (by simp) hm)) ?_
         rintro _ w2 ⟨rfl,hT⟩
         replace hblk:=hblk.up hT
         replace hS:=hS.trans hT
         clear hT
         cases hC:JZ r.unl with
         | false=>
           refine W ?_
           exact ZI true ⟨rfl,rfl,rfl,trivial⟩ ⟨hblk,hS,by simp [Z0T, *]⟩
         | true=>
           repeat'(first|refine W1 ?_|omega|refine VG ?_ ?_<;>intro hg|refine VC ?_ ?_<;>intro hc)
           · refine CL rfl (Zp rfl) rfl (Z33 r.els m _ (hF.up hS) (hS.cell (by simp) hm)) ?_
             rintro _ w2 ⟨rfl,hT⟩
             replace hblk:=hblk.up hT
             replace hS:=hS.trans hT
             clear hT
             cases hD:JZ r.els with
             | false=>
               refine W ?_
               exact ZI true ⟨rfl,rfl,rfl,trivial⟩ ⟨hblk,hS,by simp [Z0T, *]⟩
             | true=>
               refine W ?_
               exact ZI false ⟨rfl,rfl,rfl,trivial⟩ ⟨hblk,hS,by simp [Z0T, *]⟩
           exact ZI false ⟨rfl,rfl,rfl,trivial⟩ ⟨hblk,hS,by simp [Z0T, *]⟩
       · refine CL rfl (Zp rfl) rfl (Z33 r.els m _ (hF.up hS) (hS.cell (by simp) hm)) ?_
         rintro _ w2 ⟨rfl,hT⟩
         replace hblk:=hblk.up hT
         replace hS:=hS.trans hT
         clear hT
         cases hD:JZ r.els with
         | false=>
           refine W ?_
           exact ZI true ⟨rfl,rfl,rfl,trivial⟩ ⟨hblk,hS,by simp [Z0T, *]⟩
         | true=>
           refine W ?_
           exact ZI false ⟨rfl,rfl,rfl,trivial⟩ ⟨hblk,hS,by simp [Z0T, *]⟩
       exact ZI false ⟨rfl,rfl,rfl,trivial⟩ ⟨hblk,hS,by simp [Z0T, *]⟩
 rintro q w3 ⟨hblk,hS,hq⟩
 try dsimp only at hq ⊢
 unfold Z2i
 cases hnm:Z0T r with
 | false=>
   rw [hnm] at hq
   subst hq
   refine W ?_
   refine WR ?_
   exact .mk ⟨rfl,hS⟩
 | true=>
   rw [hnm] at hq
   subst hq
   refine W ?_
   by_cases hr:r.frm<0∨r.frm > 3652058
   · repeat'(first|refine W1 ?_|omega|refine VG ?_ ?_<;>intro hg|refine VC ?_ ?_<;>intro hc)
     all_goals
      refine WR ?_
      exact .mk ⟨by rw [if_neg (by decide),if_pos hr],hS⟩
   repeat'(first|refine W1 ?_|omega|refine VG ?_ ?_<;>intro hg|refine VC ?_ ?_<;>intro hc)
   apply Z7 (Je (us:=ndC r.cnd ki) rfl rfl hblk rfl rfl) rfl
   refine W ?_
   refine CL rfl (Z9 rfl rfl) rfl (Zag _ r.cnd 2 _ ⟨ki,rfl,hi.up hS⟩ (hF.up hS)) ?_
   rintro _ w4 ⟨rfl,hT⟩
   replace hblk:=hblk.up hT
   replace hS:=hS.trans hT
   clear hT
   by_cases h2:Z1U r.cnd 2=0
   focus repeat'(first|refine W1 ?_|omega|refine VG ?_ ?_<;>intro hg|refine VC ?_ ?_<;>intro hc)
   apply Z7 (Je (us:=ndC r.due kd) rfl rfl hblk rfl rfl) rfl
   refine W ?_
   refine CL rfl (Z9 rfl rfl) rfl (Zag _ r.due 3 _ ⟨kd,rfl,hd.up hS⟩ (hF.up hS)) ?_
   rintro _ w5 ⟨rfl,hT⟩
   refine W ?_
   refine WR ?_
   exact .mk ⟨by rw [if_neg (by decide),if_neg hr,if_neg (by simpa using h2)],hS.trans hT⟩
   focus repeat'(first|refine W1 ?_|omega|refine VG ?_ ?_<;>intro hg|refine VC ?_ ?_<;>intro hc)
   refine WR ?_
   exact .mk ⟨by rw [if_neg (by decide),if_neg hr,if_pos h2],hS⟩
theorem Z1o (z:Int) (m:Int) (w:World) (hm:0<m) (hz:I64 z):CC 18 #[.int .i64 z,.int .i64 m] w fun r w'=>r=.int .i64 ((if z<0 then -(z+1) else z) % m)∧Stp [] w w':=by
 unfold I64 at hz
 refine cW2 13 Tryz.func18 ?_
 by_cases h:z<0
 focus repeat'(first|refine W1 ?_|omega|refine VG ?_ ?_<;>intro hg|refine VC ?_ ?_<;>intro hc)
 refine WR ?_
 exact .mk ⟨by rw [if_pos h],Stp.refl _ _⟩
 focus repeat'(first|refine W1 ?_|omega|refine VG ?_ ?_<;>intro hg|refine VC ?_ ?_<;>intro hc)
 refine WR ?_
 exact .mk ⟨by rw [if_neg h],Stp.refl _ _⟩
theorem Z0O (z m:Int) (hm:0<m):0≤z % m∧z % m<m:=⟨Ya9 _ (by omega),YaY _ hm⟩
theorem J9 (X:List Nat) (v:Value) (l:List Int) (i m:Int) (w:World) (hm:0<m) (hi:I64 i) (hs:SlV X w v l) (hl:∀ a∈l,I64 a):CC 94 #[v,.int .i64 i,.int .i64 m] w fun r w'=>∃ q:Nat,r=.int .i64 (q:Int)∧(q:Int)<m∧Stp [] w w':=by
 unfold I64 at hi
 have hmax:=hs.max
 refine cW3 21 Tryz.func94 ?_
 refine W ?_
 by_cases hgo:0≤i∧i<l.length
 obtain ⟨h0,h1⟩:=hgo
 obtain ⟨k,rfl⟩:∃ k:Nat,i=(k:Int):=⟨i.toNat,by omega⟩
 have hk:k<l.length:=by omega
 focus repeat'(first|refine W1 ?_|omega|refine VG ?_ ?_<;>intro hg|refine VC ?_ ?_<;>intro hc)
 refine CL rfl (Z9 rfl rfl) rfl (Z1o _ m _ hm (hl _ (Xg hk))) ?_
 rintro _ w2 ⟨rfl,hS⟩
 refine W ?_
 refine WR ?_
 have:=Z0O (if l[k]<0 then -(l[k]+1) else l[k]) m hm
 exact .mk ⟨_,by rw [Yat this.1],by rw [Yat this.1];exact this.2,hS⟩
 · repeat'(first|refine W1 ?_|omega|refine VG ?_ ?_<;>intro hg|refine VC ?_ ?_<;>intro hc)
   all_goals first
    | (refine WR ?_
       exact .mk ⟨0,rfl,by simpa using hm,Stp.refl _ _⟩)
theorem ZdI (k:Int) (s:Str) (p:Option Addr) (l c:Nat) (w:World):(Instr.build 27 #[(0,.int .i64 k),(2,str s),(3,.slice p l c)]).run Tryz.prog w=.ok (.agg #[.int .i64 k,.int .i64 0,str s,.slice p l c]) w:=by kernel_rfl
def szD:Nat→Nat
 | 0=>0
 | d+1=>1+3 * szD d
theorem ZbY {d:Nat} (h:1≤d):szD d=1+3 * szD (d - 1):=by
 cases d with
 | zero=>omega
 | succ d=>rfl
theorem Z3X {X:List Nat} {w:World} {y0:Nd} {k0:Value} (s0:SlV X w k0 y0.kids):∀ i (hi:i < [y0].length) (hi':i < [ndC y0 k0].length),Zf.rep X w [y0][i] [ndC y0 k0][i]
 | 0,_,_=>(show Z4D X w y0 (ndC y0 k0) by rw [y0.eta];exact Z2Y s0)
theorem Z1V {X:List Nat} {w:World} {y0 y1:Nd} {k0 k1:Value} (s0:SlV X w k0 y0.kids) (s1:SlV X w k1 y1.kids):∀ i (hi:i < [y0,y1].length) (hi':i < [ndC y0 k0,ndC y1 k1].length),Zf.rep X w [y0,y1][i] [ndC y0 k0,ndC y1 k1][i]
 | 0,_,_=>(show Z4D X w y0 (ndC y0 k0) by rw [y0.eta];exact Z2Y s0)
 | 1,_,_=>(show Z4D X w y1 (ndC y1 k1) by rw [y1.eta];exact Z2Y s1)
theorem Zj4 {X:List Nat} {w:World} {y0 y1 y2:Nd} {k0 k1 k2:Value} (s0:SlV X w k0 y0.kids) (s1:SlV X w k1 y1.kids) (s2:SlV X w k2 y2.kids):∀ i (hi:i < [y0,y1,y2].length) (hi':i < [ndC y0 k0,ndC y1 k1,ndC y2 k2].length),Zf.rep X w [y0,y1,y2][i] [ndC y0 k0,ndC y1 k1,ndC y2 k2][i]
 | 0,_,_=>(show Z4D X w y0 (ndC y0 k0) by rw [y0.eta];exact Z2Y s0)
 | 1,_,_=>(show Z4D X w y1 (ndC y1 k1) by rw [y1.eta];exact Z2Y s1)
 | 2,_,_=>(show Z4D X w y2 (ndC y2 k2) by rw [y2.eta];exact Z2Y s2)
theorem Z3Y (k n:Int) (w:World):(Instr.build 27 #[(0,.int .i64 k),(1,.int .i64 n)]).run Tryz.prog w=.ok (.agg #[.int .i64 k,.int .i64 n,str [],.slice none 0 0]) w:=by kernel_rfl
theorem Jw (k n:Int) (s:Str) (p:Option Addr) (l c:Nat) (k' n':Int) (s':Str) (p':Option Addr) (l' c':Nat) (w:World):(Instr.buildSlice 25 2 #[(0,.agg #[.int .i64 k,.int .i64 n,str s,.slice p l c]),(1,.agg #[.int .i64 k',.int .i64 n',str s',.slice p' l' c'])]).run Tryz.prog w=.ok (.slice (some ⟨w.heap.size,0,none⟩) 2 2) (w.alloc (.cells #[.int .i64 k,.int .i64 n,str s,.slice p l c,.int .i64 k',.int .i64 n',str s',.slice p' l' c'] 27)):=by kernel_rfl
theorem Zah (k n:Int) (s:Str) (p:Option Addr) (l c:Nat) (k' n':Int) (s':Str) (p':Option Addr) (l' c':Nat) (k'' n'':Int) (s'':Str) (p'':Option Addr) (l'' c'':Nat) (w:World):(Instr.buildSlice 25 3 #[(0,.agg #[.int .i64 k,.int .i64 n,str s,.slice p l c]),(1,.agg #[.int .i64 k',.int .i64 n',str s',.slice p' l' c']),(2,.agg #[.int .i64 k'',.int .i64 n'',str s'',.slice p'' l'' c''])]).run Tryz.prog w=.ok (.slice (some ⟨w.heap.size,0,none⟩) 3 3) (w.alloc (.cells #[.int .i64 k,.int .i64 n,str s,.slice p l c,.int .i64 k',.int .i64 n',str s',.slice p' l' c',.int .i64 k'',.int .i64 n'',str s'',.slice p'' l'' c''] 27)):=by kernel_rfl
theorem ZoX (k n:Int) (s:Str) (y0:Nd):JJ (.mk k n s [y0])=1+JJ y0:=by rw [Z31];simp [Nd.kids]
theorem ZoY (k n:Int) (s:Str) (y0 y1:Nd):JJ (.mk k n s [y0,y1])=1+JJ y0+JJ y1:=by rw [Z31];simp [Nd.kids];omega
theorem ZoZ (k n:Int) (s:Str) (y0 y1 y2:Nd):JJ (.mk k n s [y0,y1,y2])=1+JJ y0+JJ y1+JJ y2:=by rw [Z31];simp [Nd.kids];omega
theorem Zp0 (k n:Int) (s:Str):JJ (.mk k n s [])=1:=by rw [Z31];simp [Nd.kids]
theorem Zj5 (k n:Int) (s:Str):Zw (.mk k n s [])=1:=by rw [Z09];simp [Nd.kids]
theorem ZcO (k n:Int) (s:Str) (y0:Nd):Zw (.mk k n s [y0])=1+Zw y0:=by rw [Z09];simp [Nd.kids]
theorem Zai (k n:Int) (s:Str) (y0 y1:Nd):Zw (.mk k n s [y0,y1])=1+max (Zw y0) (Zw y1):=by rw [Z09];simp [Nd.kids]
theorem Zj6 (k n:Int) (s:Str) (y0 y1 y2:Nd):Zw (.mk k n s [y0,y1,y2])=1+max (max (Zw y0) (Zw y1)) (Zw y2):=by rw [Z09];simp [Nd.kids]
theorem ty0 {k n τ:Int} {s:Str} (h:Z0E k n s=τ):Zd (.mk k n s [])=τ:=by rw [Z08];exact h
theorem ty1 {k τ a:Int} {s:Str} {y0:Nd} (h0:Zd y0=a) (h:Jb k 0 s [a]=τ):Zd (.mk k 0 s [y0])=τ:=by rw [Z08];simp only [Nd.kind,Nd.num,Nd.word,Nd.kids,Xn,Xv,h0];exact h
theorem ty2 {k τ a b:Int} {s:Str} {y0 y1:Nd} (h0:Zd y0=a) (h1:Zd y1=b) (h:Jb k 0 s [a,b]=τ):Zd (.mk k 0 s [y0,y1])=τ:=by rw [Z08];simp only [Nd.kind,Nd.num,Nd.word,Nd.kids,Xn,Xv,h0,h1];exact h
theorem ty3 {k τ a b c:Int} {s:Str} {y0 y1 y2:Nd} (h0:Zd y0=a) (h1:Zd y1=b) (h2:Zd y2=c) (h:Jb k 0 s [a,b,c]=τ):Zd (.mk k 0 s [y0,y1,y2])=τ:=by rw [Z08];simp only [Nd.kind,Nd.num,Nd.word,Nd.kids,Xn,Xv,h0,h1,h2];exact h
abbrev Zmx:Nd:=.mk 0 0 [] []
abbrev Z3Z:Value:=.slice none 0 0
theorem ZcP (r:Rul) {X Y:List Nat} {w w':World} {ki kd:Value} (h1:SlV X w ki r.cnd.kids) (h2:SlV Y w' kd r.due.kids):∀ c∈rlC r ki kd,c.oneCell'=true:=by
 intro c hc
 have e1:=h1.one
 have e2:=h2.one
 simp only [rlC,Xf,Xk,or_false] at hc
 rcases hc with rfl|rfl|rfl|rfl|rfl|rfl|rfl|rfl|rfl|rfl|rfl|rfl|rfl<;>first|rfl|exact e1|exact e2
structure Cr where
 name:Str
 frm:Int
 on:Str
 cnd:List Ins
 due:List Ins
 unl:Str
 els:Str
abbrev crC (q:Cr) (kc kd:Value):List Value:=[str q.name,.int .i64 q.frm,str q.on,kc,kd,str q.unl,str q.els]
def CrV (X:List Nat) (w:World) (v:Value) (q:Cr):Prop:=∃ kc kd,v=.agg (crC q kc kd).toArray∧SlV X w kc q.cnd∧SlV X w kd q.due
theorem Z5i {q:Cr} {X Y:List Nat} {w w':World} {kc kd:Value} (h1:SlV X w kc q.cnd) (h2:SlV Y w' kd q.due):∀ c∈crC q kc kd,c.oneCell'=true:=by
 intro c hc
 have e1:=h1.one
 have e2:=h2.one
 simp only [crC,Xf,Xk,or_false] at hc
 rcases hc with rfl|rfl|rfl|rfl|rfl|rfl|rfl<;>first|rfl|exact e1|exact e2
def Z4H (r:Rul):Int:=if Z2i r≠0 then Z2i r else if Z2z r.cnd≠0 then Z2z r.cnd else Z2z r.due
abbrev crZ:Cr:=⟨[],0,[],[],[],[],[]⟩
def crF (r:Rul):Cr:=if Z4H r=0 then ⟨r.name,r.frm,r.on,Jm r.cnd,Jm r.due,r.unl,r.els⟩ else crZ
def Zp1 (w:World) (r:Rul) (v:Value) (w':World):Prop:=∃ cv,v=.tuple #[cv,.int .i64 (Z4H r)]∧(∀ X:List Nat,(∀ b∈X,b<w.heap.size)→CrV X w' cv (crF r))∧Stp [] w w'
theorem Z7e (w:World):(Instr.build 93 #[]).run Tryz.prog w=.ok (.agg (crC crZ Z3Z Z3Z).toArray) w:=by kernel_rfl
theorem ZhU (q:Cr) (p1 p2:Option Addr) (l1 c1 l2 c2:Nat) (w:World):(Instr.build 93 #[(0,str q.name),(1,.int .i64 q.frm),(2,str q.on),(3,.slice p1 l1 c1),(4,.slice p2 l2 c2),(5,str q.unl),(6,str q.els)]).run Tryz.prog w=.ok (.agg (crC q (.slice p1 l1 c1) (.slice p2 l2 c2)).toArray) w:=by kernel_rfl
theorem ZfJ (v:Value) (r:Rul) (w:World) (hv:ZhT [] w v r) (h1:JJ r.cnd≤1000) (h2:JJ r.due≤1000) (hF:SlV [] w Z30 Zg) (m:Int) (hm:w.cell? ⟨2,0,none⟩=some (.int .i64 m)) :
 Calls Tryz.prog 36 #[v] w (Ret (Zp1 w r)):=by
 obtain ⟨ki,kd,rfl,hi,hd⟩:=hv
 have hn1:=Z5g r.cnd
 have hn2:=Z5g r.due
 refine cW1 47 Tryz.func36 ?_
 refine W ?_
 refine Z3 (Zs rfl) rfl ?_
 rintro _ w1 ⟨b,rfl,hb,hblk,hS⟩
 replace hblk:Blk w1 b _ (rlC r ki kd):=hblk
 refine W ?_
 refine Z3 Z6 rfl ?_
 rintro _ w2 ⟨b2,rfl,hb2,e2,hT⟩
 have hb2w:w.heap.size≤b2:=Xh hS.size hb2
 replace hblk:=hblk.up hT
 replace hS:=hS.trans hT
 clear hT hb hb2
 refine W ?_
 try (refine Z7 (J8 rfl rfl hblk rfl) rfl ?_)
 refine W ?_
 refine CL rfl (Zp rfl) rfl (Z6p _ r m _ ⟨ki,kd,rfl,hi.up hS,hd.up hS⟩ (hF.up hS) (hS.cell (by simp) hm)) ?_
 rintro _ w3 ⟨rfl,hT⟩
 replace hblk:=hblk.up hT
 replace e2:=e2.up hT
 replace hS:=hS.trans hT
 clear hT
 by_cases hck:Z2i r=0
 case neg=>
  have hE:Z4H r=Z2i r:=by unfold Z4H;rw [if_pos hck]
  have hC:crF r=crZ:=by unfold crF;rw [hE,if_neg hck]
  repeat'(first|refine W1 ?_|omega|refine VG ?_ ?_<;>intro hg|refine VC ?_ ?_<;>intro hc)
  apply Ze (vs:=[]) rfl Z7e rfl
  refine W ?_
  refine Z0 (Z1 (us:=crC crZ Z3Z Z3Z) rfl rfl rfl rfl (Z5i (q:=crZ) (Jt [] w) (Jt [] w)) e2 rfl) ?_
  rintro _ w9 ⟨hT,e2⟩
  refine W ?_
  refine J5 rfl rfl rfl e2 rfl rfl ?_
  exact .mk ⟨_,by rw [hE]<;>rfl,fun X hX=>⟨Z3Z,Z3Z,by rw [hC],by rw [hC];exact Jt X _,by rw [hC];exact Jt X _⟩,hS.own hT (fun b hb=>.inr (by simp at hb;omega))⟩
 repeat'(first|refine W1 ?_|omega|refine VG ?_ ?_<;>intro hg|refine VC ?_ ?_<;>intro hc)
 apply Z7 (Je (us:=ndC r.cnd ki) rfl rfl hblk rfl rfl) rfl
 refine W ?_
 refine CL rfl (Zp rfl) rfl (Z3W _ r.cnd _ h1 ⟨ki,rfl,hi.up hS⟩ (hF.up hS)) ?_
 rintro _ w4 ⟨va,rfl,ha,hT⟩
 replace ha:=fun X (hX:∀ b∈X,b<w.heap.size)=>ha (b2 :: X) (fun b hb=>by
  rcases Xf.1 hb with rfl|h
  exact e2.lt
  exact Xa (hX b h) hS.size)
 replace hblk:=hblk.up hT
 replace e2:=e2.up hT
 replace hS:=hS.trans hT
 clear hT
 refine W ?_
 by_cases hc1:Z2z r.cnd=0
 case neg=>
  have hE:Z4H r=Z2z r.cnd:=by unfold Z4H;rw [if_neg (by simp [hck]),if_pos hc1]
  have hC:crF r=crZ:=by unfold crF;rw [hE,if_neg hc1]
  repeat'(first|refine W1 ?_|omega|refine VG ?_ ?_<;>intro hg|refine VC ?_ ?_<;>intro hc)
  apply Ze (vs:=[]) rfl Z7e rfl
  refine W ?_
  refine Z0 (Z1 (us:=crC crZ Z3Z Z3Z) rfl rfl rfl rfl (Z5i (q:=crZ) (Jt [] w) (Jt [] w)) e2 rfl) ?_
  rintro _ w9 ⟨hT,e2⟩
  refine W ?_
  refine J5 rfl rfl rfl e2 rfl rfl ?_
  exact .mk ⟨_,by rw [hE]<;>rfl,fun X hX=>⟨Z3Z,Z3Z,by rw [hC],by rw [hC];exact Jt X _,by rw [hC];exact Jt X _⟩,hS.own hT (fun b hb=>.inr (by simp at hb;omega))⟩
 rw [if_pos hc1] at ha
 repeat'(first|refine W1 ?_|omega|refine VG ?_ ?_<;>intro hg|refine VC ?_ ?_<;>intro hc)
 apply Z7 (Je (us:=ndC r.due kd) rfl rfl hblk rfl rfl) rfl
 refine W ?_
 refine CL rfl (Zp rfl) rfl (Z3W _ r.due _ h2 ⟨kd,rfl,hd.up hS⟩ (hF.up hS)) ?_
 rintro _ w5 ⟨vb,rfl,hb,hT⟩
 replace hb:=fun X (hX:∀ b∈X,b<w.heap.size)=>hb (b2 :: X) (fun b hb=>by
  rcases Xf.1 hb with rfl|h
  exact e2.lt
  exact Xa (hX b h) hS.size)
 replace ha:=fun X hX=>(ha X hX).up hT
 replace hblk:=hblk.up hT
 replace e2:=e2.up hT
 replace hS:=hS.trans hT
 clear hT
 refine W ?_
 have hE:Z4H r=Z2z r.due:=by unfold Z4H;rw [if_neg (by simp [hck]),if_neg (by simp [hc1])]
 by_cases hc2:Z2z r.due=0
 case neg=>
  have hC:crF r=crZ:=by unfold crF;rw [hE,if_neg hc2]
  repeat'(first|refine W1 ?_|omega|refine VG ?_ ?_<;>intro hg|refine VC ?_ ?_<;>intro hc)
  apply Ze (vs:=[]) rfl Z7e rfl
  refine W ?_
  refine Z0 (Z1 (us:=crC crZ Z3Z Z3Z) rfl rfl rfl rfl (Z5i (q:=crZ) (Jt [] w) (Jt [] w)) e2 rfl) ?_
  rintro _ w9 ⟨hT,e2⟩
  refine W ?_
  refine J5 rfl rfl rfl e2 rfl rfl ?_
  exact .mk ⟨_,by rw [hE]<;>rfl,fun X hX=>⟨Z3Z,Z3Z,by rw [hC],by rw [hC];exact Jt X _,by rw [hC];exact Jt X _⟩,hS.own hT (fun b hb=>.inr (by simp at hb;omega))⟩
 rw [if_pos hc2] at hb
 have hC:crF r=⟨r.name,r.frm,r.on,Jm r.cnd,Jm r.due,r.unl,r.els⟩:=by unfold crF;rw [hE,if_pos hc2]
 obtain ⟨p1,c1,rfl,-⟩:=id (ha [] (by simp))
 obtain ⟨p2,c2,rfl,-⟩:=id (hb [] (by simp))
 repeat'(first|refine W1 ?_|omega|refine VG ?_ ?_<;>intro hg|refine VC ?_ ?_<;>intro hc)
 apply Ze (vs:=[(0,str r.name),(1,.int .i64 r.frm),(2,str r.on),(3,.slice p1 (Jm r.cnd).length c1),(4,.slice p2 (Jm r.due).length c2),(5,str r.unl),(6,str r.els)]) rfl (ZhU ⟨r.name,r.frm,r.on,Jm r.cnd,Jm r.due,r.unl,r.els⟩ _ _ _ _ _ _) rfl
 refine Z0 (Z1 (us:=crC ⟨r.name,r.frm,r.on,Jm r.cnd,Jm r.due,r.unl,r.els⟩ (.slice p1 (Jm r.cnd).length c1) (.slice p2 (Jm r.due).length c2)) rfl rfl rfl rfl (Z5i (q:=⟨r.name,r.frm,r.on,Jm r.cnd,Jm r.due,r.unl,r.els⟩) (ha [] (by simp)) (hb [] (by simp))) e2 rfl) ?_
 rintro _ w9 ⟨hT,e2⟩
 refine W ?_
 refine J5 rfl rfl rfl e2 rfl rfl ?_
 exact .mk ⟨_,by rw [hE,hc2],fun X hX=>by
  rw [hC]
  exact ⟨_,_,rfl,((ha X hX).ext hT (by simp) (fun _ h=>.inl h)).wk (fun b h=>by simp [h]),((hb X hX).ext hT (by simp) (fun _ h=>.inl h)).wk (fun b h=>by simp [h])⟩,hS.own hT (fun b hb=>.inr (by simp at hb;omega))⟩
end Go.Proofs.YtjdjdoefppebkaaGreatDoor
namespace Go.Eng
open Go
end Go.Eng
namespace Go.Proofs.YtjdjdoefppebkaaGreatDoor
open Go Go.Eng Go.RowKit
def J7 (x:Ins):List Int×List Int×List Int×Bool:=
 if x.op=1 then ([],[],[1],decide (-2147483647≤x.n∧x.n≤2147483647))
 else if x.op=2 then ([],[],[2],decide (x.n=0∨x.n=1))
 else if x.op=3 then ([],[],[3],decide (0≤x.n∧x.n≤3652058))
 else if x.op=4 then ([],[],[if x.n=0∨x.n=1 then 3 else 1],decide (0≤x.n∧x.n<7))
 else if x.op=13 then ([],[],[],true)
 else if x.op=14 then ([2],[],[],true)
 else if x.op=5∨x.op=6∨x.op=7 then ([1,1],[],[1],decide (x.n=0))
 else if x.op=8 then ([1],[],[1],decide (x.n=0))
 else if x.op=9∨x.op=10∨x.op=11 then ([1,1],[3,3],[2],decide (x.n=0))
 else if x.op=12 then ([2],[],[2],decide (x.n=0))
 else if x.op=15∨x.op=16∨x.op=17∨x.op=18 then ([3,1],[],[3],decide (x.n=0))
 else if x.op=19∨x.op=20 then ([3],[],[3],decide (x.n=0))
 else if x.op=21∨x.op=22 then ([3,3],[],[3],decide (x.n=0))
 else if x.op=23 then ([3,3],[],[1],decide (x.n=0))
 else if x.op=24 then ([],[],[],decide (x.n=0))
 else ([],[],[],false)
abbrev Shp:=List Int
def Jn (x:Ins) (s:Shp):Option Shp:=
 let e:=J7 x
 let k:=s.length - e.1.length
 if e.2.2.2=true∧e.1.length≤s.length∧(s.drop k=e.1∨e.2.1≠[]∧s.drop k=e.2.1)∧(s.take k++e.2.2.1).length≤16 then some (s.take k++e.2.2.1) else none
def Z1p (st:List (Option Shp)) (t:Int) (sh:Shp):Option (List (Option Shp)):=
 if 0≤t∧t<st.length then
  match st.getD t.toNat none with
  | some s=>if s=sh then some st else none
  | none=>some (st.set t.toNat (some sh))
 else none
def Z2j (st:List (Option Shp)) (i:Nat) (x:Ins):Option (List (Option Shp)):=
 match st.getD i none with
 | none=>none
 | some s=>
   match Jn x s with
   | none=>none
   | some nx=>
     if x.op=24 then (if i+1=st.length∧s.length=1 then some st else none)
     else if x.op=13 then (if x.n > i then Z1p st x.n nx else none)
     else if x.op=14 then (if x.n > i then (Z1p st x.n nx).bind (fun st'=>Z1p st' ((i:Int)+1) nx) else none)
     else Z1p st ((i:Int)+1) nx
def Z9e (code:List Ins):Nat→List (Option Shp)→Option (List (Option Shp))
 | 0,st=>some st
 | k+1,st=>(Z9e code k st).bind (fun st'=>Z2j st' k (code.getD k ⟨0,0⟩))
def Z89 (code:List Ins):Int×Int:=
 if code.length=0∨code.length > 200 then (0,22) else
  match Z9e code code.length ((some []) :: List.replicate (code.length - 1) none) with
  | none=>(0,22)
  | some st=>(((st.getD (code.length - 1) none).getD []).headD 0,0)
theorem Z0G {st st':List (Option Shp)} {t:Int} {sh:Shp} (h:Z1p st t sh=some st'):st'.length=st.length:=by
 unfold Z1p at h
 split at h
 split at h
 split at h
 cases h;rfl
 cases h
 cases h;simp
 cases h
example:Z89 [⟨4,0⟩,⟨1,3⟩,⟨15,0⟩,⟨24,0⟩]=(3,0):=by decide
example:Z89 [⟨24,0⟩]=(0,22):=by decide
def okS (s:Shp):Prop:=∀ k∈s,k=1∨k=2∨k=3
theorem ZfK {s:Shp} (h:okS s) (k:Nat):okS (s.take k):=fun a ha=>h a (Yar ha)
theorem ZhV {s t:Shp} (h:okS s) (h':okS t):okS (s++t):=fun a ha=>(Xt.1 ha).elim (h a) (h' a)
theorem Zmy {op n:Int} (h:¬ (1≤op∧op≤24)):J7 ⟨op,n⟩=([],[],[],false):=by
 have h1:∀ k:Int,1≤k→k≤24→¬ op=k:=fun k h1 h2 e=>h (by omega)
 simp only [J7]
 rw [if_neg (h1 1 (by decide) (by decide))]
 rw [if_neg (h1 2 (by decide) (by decide))]
 rw [if_neg (h1 3 (by decide) (by decide))]
 rw [if_neg (h1 4 (by decide) (by decide))]
 rw [if_neg (h1 13 (by decide) (by decide))]
 rw [if_neg (h1 14 (by decide) (by decide))]
 rw [if_neg (not_or.2 ⟨h1 5 (by decide) (by decide),(not_or.2 ⟨h1 6 (by decide) (by decide),(h1 7 (by decide) (by decide))⟩)⟩)]
 rw [if_neg (h1 8 (by decide) (by decide))]
 rw [if_neg (not_or.2 ⟨h1 9 (by decide) (by decide),(not_or.2 ⟨h1 10 (by decide) (by decide),(h1 11 (by decide) (by decide))⟩)⟩)]
 rw [if_neg (h1 12 (by decide) (by decide))]
 rw [if_neg (not_or.2 ⟨h1 15 (by decide) (by decide),(not_or.2 ⟨h1 16 (by decide) (by decide),(not_or.2 ⟨h1 17 (by decide) (by decide),(h1 18 (by decide) (by decide))⟩)⟩)⟩)]
 rw [if_neg (not_or.2 ⟨h1 19 (by decide) (by decide),(h1 20 (by decide) (by decide))⟩)]
 rw [if_neg (not_or.2 ⟨h1 21 (by decide) (by decide),(h1 22 (by decide) (by decide))⟩)]
 rw [if_neg (h1 23 (by decide) (by decide))]
 rw [if_neg (h1 24 (by decide) (by decide))]
def Zaj (st:List (Option Shp)):Prop:=∀ s,some s∈st→okS s
theorem ZdJ (x:Ins):okS (J7 x).2.2.1:=by
 obtain ⟨op,n⟩:=x
 by_cases hr:1≤op∧op≤24
 have hn:op=1∨op=2∨op=3∨op=4∨op=5∨op=6∨op=7∨op=8∨op=9∨op=10∨op=11∨op=12∨op=13∨op=14∨op=15∨op=16∨op=17∨op=18∨op=19∨op=20∨op=21∨op=22∨op=23∨op=24:=by omega
 rcases hn with rfl|rfl|rfl|rfl|rfl|rfl|rfl|rfl|rfl|rfl|rfl|rfl|rfl|rfl|rfl|rfl|rfl|rfl|rfl|rfl|rfl|rfl|rfl|rfl
 intro k hk;simp [J7] at hk;omega
 intro k hk;simp [J7] at hk;omega
 intro k hk;simp [J7] at hk;omega
 show okS [if n=0∨n=1 then 3 else 1]
 intro k hk;simp at hk;subst hk;split<;>simp
 intro k hk;simp [J7] at hk;omega
 intro k hk;simp [J7] at hk;omega
 intro k hk;simp [J7] at hk;omega
 intro k hk;simp [J7] at hk;omega
 intro k hk;simp [J7] at hk;omega
 intro k hk;simp [J7] at hk;omega
 intro k hk;simp [J7] at hk;omega
 intro k hk;simp [J7] at hk;omega
 intro k hk;simp [J7] at hk
 intro k hk;simp [J7] at hk
 intro k hk;simp [J7] at hk;omega
 intro k hk;simp [J7] at hk;omega
 intro k hk;simp [J7] at hk;omega
 intro k hk;simp [J7] at hk;omega
 intro k hk;simp [J7] at hk;omega
 intro k hk;simp [J7] at hk;omega
 intro k hk;simp [J7] at hk;omega
 intro k hk;simp [J7] at hk;omega
 intro k hk;simp [J7] at hk;omega
 intro k hk;simp [J7] at hk
 rw [Zmy hr];intro k hk;simp at hk
theorem ZhW {x:Ins} {s nx:Shp} (hs:okS s) (h:Jn x s=some nx):okS nx:=by
 unfold Jn at h
 dsimp only at h
 split at h
 cases h;exact ZhV (ZfK hs _) (ZdJ x)
 cases h
theorem Z5j {st st':List (Option Shp)} {t:Int} {nx:Shp} (hst:Zaj st) (hn:okS nx) (h:Z1p st t nx=some st'):Zaj st':=by
 unfold Z1p at h
 split at h
 split at h
 split at h
 cases h;exact hst
 cases h
 cases h
 intro s hs
 rcases List.mem_or_eq_of_mem_set hs with h|h
 exact hst s h
 cases h;exact hn
 cases h
theorem ZhX {st st':List (Option Shp)} {i:Nat} {x:Ins} (hst:Zaj st) (h:Z2j st i x=some st'):Zaj st'∧st'.length=st.length:=by
 unfold Z2j at h
 split at h
 cases h
 rename_i s hs
 have hs0:okS s:=by
  refine hst s ?_
  have hi:i<st.length:=Nat.lt_of_not_le fun hle=>by simp [List.getD,Nat.not_lt.2 hle] at hs
  have:st.getD i none=st[i]:=by simp [List.getD,hi]
  rw [← hs,this];exact Xg hi
 split at h
 cases h
 rename_i nx hn
 have hnx:=ZhW hs0 hn
 split at h
 split at h
 cases h;exact ⟨hst,rfl⟩
 cases h
 split at h
 split at h
 exact ⟨Z5j hst hnx h,Z0G h⟩
 cases h
 split at h
 split at h
 obtain ⟨s1,h1,h2⟩:=X5.1 h
 exact ⟨Z5j (Z5j hst hnx h1) hnx h2,by rw [Z0G h2,Z0G h1]⟩
 cases h
 exact ⟨Z5j hst hnx h,Z0G h⟩
theorem ZfL {code:List Ins} {st0:List (Option Shp)} (h0:Zaj st0):∀ k st,Z9e code k st0=some st→Zaj st∧st.length=st0.length
 | 0,st,h=>by cases h;exact ⟨h0,rfl⟩
 | k + 1, st, h => by
   obtain ⟨s1,h1,h2⟩:=X5.1 h
   obtain ⟨a,b⟩:=ZfL h0 k s1 h1
   obtain ⟨c,d⟩:=ZhX a h2
   exact ⟨c,by omega⟩
theorem Zmz {st st':List (Option Shp)} {i:Nat} {x:Ins} (h0:∀ s,some s∈st→s.length≤16) (h:Z2j st i x=some st'):∀ s,some s∈st'→s.length≤16:=by
 have hr:∀ {st st':List (Option Shp)} {t:Int} {nx:Shp},(∀ s,some s∈st→s.length≤16)→nx.length≤16→Z1p st t nx=some st'→∀ s,some s∈st'→s.length≤16:=by
  intro st st' t nx hst hn h
  unfold Z1p at h
  split at h
  split at h
  split at h
  cases h;exact hst
  cases h
  cases h
  intro s hs
  rcases List.mem_or_eq_of_mem_set hs with h|h
  exact hst s h
  cases h;exact hn
  cases h
 have hn:∀ {s nx:Shp},Jn x s=some nx→nx.length≤16:=by
  intro s nx h
  unfold Jn at h
  dsimp only at h
  split at h
  rename_i hc
  cases h;exact hc.2.2.2
  cases h
 unfold Z2j at h
 split at h
 cases h
 split at h
 cases h
 rename_i nx hn'
 have hnx:=hn hn'
 split at h
 split at h
 cases h;exact h0
 cases h
 split at h
 split at h
 exact hr h0 hnx h
 cases h
 split at h
 split at h
 obtain ⟨s1,h1,h2⟩:=X5.1 h
 exact hr (hr h0 hnx h1) hnx h2
 cases h
 exact hr h0 hnx h
open Go Go.Eng Go.RowKit Go.Proofs Go.ChangeShapes Go.WideShapes Go.Deep
theorem ZqI:ownKnob Tryz.prog.godebug=none:=by kernel_rfl
theorem Zp2:laidOutB Tryz.prog=true:=by kernel_rfl
section
variable {H:Type} {enc:TypeId×Value→H} {w:World} {base:Nat} {spare:Nat→Bool} {held:Bool}
end
end Go.Proofs.YtjdjdoefppebkaaGreatDoor
namespace Go.Eng
open Go Go.RowKit Go.Proofs Go.ChangeShapes Go.WideShapes Go.Deep
section
variable {H:Type} {enc:TypeId×Value→H} {P:Program} {w:World} {base:Nat} {spare:Nat→Bool} {held:Bool}
end
end Go.Eng
namespace Go.Proofs.YtjdjdoefppebkaaGreatDoor
open Go Go.Eng Go.RowKit Go.Proofs Go.ChangeShapes Go.WideShapes Go.Deep
section
variable {H:Type} {enc:TypeId×Value→H} {w:World} {base:Nat} {spare:Nat→Bool} {held:Bool}
theorem k3:Tryz.prog.cellsOf 3=1:=by kernel_rfl
end
end Go.Proofs.YtjdjdoefppebkaaGreatDoor
namespace Go.Eng
open Go Go.RowKit
variable {X:List Nat} {w w':World} {base T:Nat} {v:Value} {zs ys:List Int}
def ZfM (w:World) (base T:Nat) (v:Value) (zs:List Int):Prop:=(v=.slice none 0 0∧zs=[])∨∃ g cap cur,v=.slice (some ⟨g,0,none⟩) zs.length cap∧base≤g∧w.heap[g]?=some (.cells cur T (0,0))∧zs.length≤cap∧cap≤maxLen∧cur.size=cap∧cur.toList.take zs.length=zs.map (Value.int .i64)
theorem Row.toI (h:Row X w base T v zs):ZfM w base T v zs:=by
 obtain ⟨css,hl,hr,hx,ho⟩:=h
 have hc:css=zs.map (fun x=>[Value.int .i64 x]):=by
  apply Ya6 (by simpa using hl)
  intro i h1 h2
  have:css[i]=[Value.int .i64 zs[i]]:=hr i (by omega) h1
  simp [this]
 rcases ho with ⟨rfl,hn⟩|⟨g,cap,cur,rfl,hb,hg,hnc,hcm,hcs,ht⟩
 exact .inl ⟨rfl,XE.1 hn⟩
 · refine .inr ⟨g,cap,cur,rfl,hb,hg,hnc,hcm,by simpa [Zf.k,Zi.k] using hcs,?_⟩
   have h2:cur.toList.take (zs.length * 1)=css.flatten:=ht
   rw [Nat.mul_one] at h2
   rw [h2,hc]
   clear h2 ht hx hr hl hc hnc hg hcs
   induction zs with
   | nil=>rfl
   | cons a l ih=>simp at ih ⊢;exact ih
theorem ZfM.toRow (h:ZfM w base T v zs):Row X w base T v zs:=by
 rcases h with ⟨rfl,rfl⟩|⟨g,cap,cur,rfl,hb,hg,hnc,hcm,hcs,ht⟩
 exact Row.nil
 · refine ⟨zs.map (fun x=>[Value.int .i64 x]),by simp,fun i h1 h2=>by simp;rfl,?_⟩
   have hf:(zs.map (fun x=>[Value.int .i64 x])).flatten=zs.map (Value.int .i64):=by
    clear ht hnc
    induction zs with
    | nil=>rfl
    | cons a l ih=>simp at ih ⊢;exact ih
   rw [hf]
   refine ⟨by simp [Zf.k,Zi.k],.inr ⟨g,cap,cur,rfl,hb,hg,hnc,hcm,by simpa [Zf.k,Zi.k] using hcs,by simpa [Zf.k,Zi.k] using ht⟩⟩
theorem Z9f {zs:List Int} (hs:zs.Pairwise (·≤·)):(Lib.compact zs).Pairwise (· < ·)∧∀ y,y∈Lib.compact zs↔y∈zs:=by
 have hd:∀ i j,i≤j→j<zs.length→zs.toArray[i]!≤zs.toArray[j]!:=by
  intro i j hij hj
  rcases Nat.lt_or_eq_of_le hij with h|rfl
  have:=List.pairwise_iff_getElem.1 hs i j (by omega) hj h
  simpa [getElem!_pos,hj,show i<zs.length by omega] using this
  exact Yaw _
 have key:∀ m,m≤zs.length→(Lib.compactUpTo zs.toArray m).Pairwise (· < ·)∧∀ y,y∈Lib.compactUpTo zs.toArray m↔∃ i,i<m∧y=zs.toArray[i]!:=by
  intro m
  induction m with
  | zero=>intro _;refine ⟨by simp [Lib.compactUpTo],fun y=>by simp [Lib.compactUpTo]⟩
  | succ m ih=>
    intro hm
    obtain ⟨i1,i2⟩:=ih (by omega)
    rw [Lib.compactUpTo_succ]
    by_cases hk:Lib.keeps zs.toArray m=true
    rw [if_pos hk]
    refine ⟨List.pairwise_append.2 ⟨i1,List.pairwise_singleton _ _,fun a ha b hb=>?_⟩,fun y=>?_⟩
    obtain ⟨i,hi,rfl⟩:=(i2 a).1 ha
    rw [Xq.1 hb]
    have hk':m=0∨zs.toArray[m]!≠zs.toArray[m - 1]!:=by simpa [Lib.keeps] using hk
    have h1:=hd i (m - 1) (by omega) (by omega)
    have h2:=hd (m - 1) m (by omega) (by omega)
    have h3:=hk'.resolve_left (by omega)
    omega
    rw [Xt,i2,Xq]
    constructor
    rintro (⟨i,hi,rfl⟩|rfl)
    exact ⟨i,by omega,rfl⟩
    exact ⟨m,by omega,rfl⟩
    rintro ⟨i,hi,rfl⟩
    by_cases hi':i<m
    exact .inl ⟨i,hi',rfl⟩
    exact .inr (by rw [show i=m by omega])
    rw [if_neg hk,Xz]
    have hk':¬ (m=0∨zs.toArray[m]!≠zs.toArray[m - 1]!):=by simpa [Lib.keeps] using hk
    have hm0:m≠0:=fun h=>hk' (.inl h)
    have he:zs.toArray[m]! = zs.toArray[m - 1]!:=Decidable.byContradiction fun h=>hk' (.inr h)
    refine ⟨i1,fun y=>?_⟩
    rw [i2]
    constructor
    rintro ⟨i,hi,rfl⟩
    exact ⟨i,by omega,rfl⟩
    rintro ⟨i,hi,rfl⟩
    by_cases hi':i<m
    exact ⟨i,hi',rfl⟩
    exact ⟨m - 1,by omega,by rw [show i=m by omega,he]⟩
 obtain ⟨h1,h2⟩:=key zs.length (Xo _)
 refine ⟨h1,fun y=>?_⟩
 show y∈Lib.compactUpTo zs.toArray zs.length↔_
 rw [h2]
 constructor
 rintro ⟨i,hi,rfl⟩
 simp [getElem!_pos,hi]
 intro h
 obtain ⟨i,hi,rfl⟩:=Xs h
 exact ⟨i,hi,by simp [getElem!_pos,hi]⟩
def Z7f (zs:List Int):List Int:=Lib.compact (zs.mergeSort fun x y=>decide (x≤y))
theorem ZbZ (zs:List Int):(Z7f zs).Pairwise (· < ·)∧∀ y,y∈Z7f zs↔y∈zs:=by
 have hp:(zs.mergeSort fun x y=>decide (x≤y)).Pairwise (·≤·):=by
  have:=List.pairwise_mergeSort (le:=fun (x y:Int)=>decide (x≤y)) (fun a b c h1 h2=>by simp at *;omega) (fun a b=>by simp;omega) zs
  exact this.imp (fun h=>by simpa using h)
 obtain ⟨h1,h2⟩:=Z9f hp
 exact ⟨h1,fun y=>by unfold Z7f;rw [h2];exact (List.mergeSort_perm zs _).mem_iff⟩
theorem Zak {g q:Nat} {cur:Array Value} (os:Array Obj) (h:w.heap[g]?=some (.cells cur T (0,0))) (hl:ys.length≤cur.size) :
 Stp [g] w (Go.Sort.grow (Go.Sort.putRow (Value.int .i64) (Go.Sort.ahead w q) g 0 ys.toArray) os)∧
 ∃ cur',(Go.Sort.grow (Go.Sort.putRow (Value.int .i64) (Go.Sort.ahead w q) g 0 ys.toArray) os).heap[g]?=some (.cells cur' T (0,0))∧cur'.size=cur.size∧cur'.toList.take ys.length=ys.map (Value.int .i64):=by
 have hlt:g<w.heap.size:=(Xl.1 h).1
 have hh:(Go.Sort.grow (Go.Sort.putRow (Value.int .i64) (Go.Sort.ahead w q) g 0 ys.toArray) os).heap=w.heap.modify g (Go.Sort.onCells (Go.Sort.putCells (Value.int .i64) 0 ys.toArray))++os:=rfl
 refine ⟨⟨rfl,rfl,rfl,by rw [hh];simp,fun b hb hn=>?_⟩,Go.Sort.putCells (Value.int .i64) 0 ys.toArray cur,?_,by simp [Go.Sort.putCells],?_⟩
 rw [hh,Yal (by simpa using hb),Array.getElem?_modify,if_neg (by simp at hn;exact fun e=>hn e.symm)]
 rw [hh,Yal (by simpa using hlt),Array.getElem?_modify,if_pos rfl,h]
 rfl
 apply Ya6
 simp [Go.Sort.putCells];omega
 intro i h1 h2
 have hi:i<ys.length:=by simpa using h2
 simp [Go.Sort.putCells,hi]
theorem Z8q {g:Nat} {cur:Array Value} (h:w.heap[g]?=some (.cells cur T (0,0))) (ht:cur.toList.take zs.length=zs.map (Value.int .i64)):Go.Sort.Holds (Value.int .i64) w g 0 zs.toArray:=by
 intro j hj
 have hj':j<zs.length:=by simpa using hj
 have hc:cur[j]?=some (.int .i64 zs[j]):=by
  have h1:(cur.toList.take zs.length)[j]?=some (.int .i64 zs[j]):=by rw [ht];simp [hj']
  rw [Yac,if_pos hj'] at h1
  simpa using h1
 constructor
 simp [World.cell?,h,hc,hj']
 simp [World.frozen?,h]
end Go.Eng
namespace Go.Proofs.YtjdjdoefppebkaaGreatDoor
open Go Go.Eng Go.RowKit
theorem ZfN {X:List Nat} {base T:Nat} {v:Value} {zs:List Int} (w:World) (h:Row X w base T v zs) (hsz:zs.length<4611686018427387904) :
 CC 82 #[v] w fun r w'=>r=.tuple #[]∧Row X w' base T v (zs.mergeSort fun x y=>decide (x≤y))∧Stp (ob v) w w':=by
 rcases h.toI with ⟨rfl,rfl⟩|⟨g,cap,cur,rfl,hb,hg,hnc,hcm,hcs,ht⟩
 refine (Tryz.slices_Sort_int_none none 0 w).mono ?_
 rintro _ _ ⟨rfl,rfl⟩
 exact .mk ⟨rfl,by simpa using Row.nil,Stp.refl _ _⟩
 have hlt:g<w.heap.size:=(Xl.1 hg).1
 refine (Tryz.slices_Sort_int g 0 cap zs w (Z8q hg ht) hlt hsz).mono ?_
 rintro _ _ ⟨rfl,q,os,rfl⟩
 have hl:(zs.mergeSort fun x y=>decide (x≤y)).length=zs.length:=List.length_mergeSort zs
 obtain ⟨hS,cur',h1,h2,h3⟩:=Zak (q:=q) os hg (ys:=zs.mergeSort fun x y=>decide (x≤y)) (by omega)
 refine .mk ⟨rfl,ZfM.toRow (.inr ⟨g,cap,cur',by rw [hl],hb,h1,by omega,hcm,by omega,h3⟩),hS⟩
theorem Zal {X:List Nat} {base T:Nat} {v:Value} {zs:List Int} (w:World) (h:Row X w base T v zs) (hsz:zs.length≤9223372036854775807) :
 CC 83 #[v] w fun r w'=>Row X w' base T r (Lib.compact zs)∧Stp (ob v) w w'∧ob r=ob v:=by
 rcases h.toI with ⟨rfl,rfl⟩|⟨g,cap,cur,rfl,hb,hg,hnc,hcm,hcs,ht⟩
 refine (Tryz.slices_Compact_int_empty none 0 w).mono ?_
 rintro _ _ ⟨rfl,rfl⟩
 exact .mk ⟨by rw [show Lib.compact ([]:List Int)=[] from rfl];exact Row.nil,Stp.refl _ _,rfl⟩
 refine (Tryz.slices_Compact_int g 0 cap zs w (Z8q hg ht) hsz hnc).mono ?_
 rintro _ _ ⟨rfl,q,rfl⟩
 have hcl:(Lib.compact zs).length≤zs.length:=by
  unfold Lib.compact Lib.compactUpTo
  rw [XM]
  exact Xh (YaP _ _) (by simp)
 have e:∀ W:World,W=Go.Sort.grow W #[]:=fun W=>by simp [Go.Sort.grow]
 rw [e (Go.Sort.putRow _ _ _ _ _)]
 obtain ⟨hS,cur',h1,h2,h3⟩:=Zak (q:=q) #[] hg (ys:=Lib.compact zs++List.replicate (zs.length - (Lib.compact zs).length) 0) (by simp;omega)
 refine .mk ⟨ZfM.toRow (.inr ⟨g,cap,cur',rfl,hb,h1,by omega,hcm,by omega,?_⟩),hS,rfl⟩
 have h4:=congrArg (List.take (Lib.compact zs).length) h3
 rw [YaB,Yap (by simp)] at h4
 rw [h4]
 simp
theorem Z7g (s:Str) (y:Int):((ZZ s).2.2=true∧y=(ZZ s).1)↔∃ i,i<7∧s=Zg.getD i []∧y=(i:Int):=by
 by_cases h0:s=[100,97,121]
 subst h0
 have e:ZZ [100,97,121]=(0,3,true):=by decide +kernel
 have u:∀ i,i<7→[100,97,121]=Zg.getD i []→i=0:=by decide +kernel
 rw [e]
 constructor
 rintro ⟨-,rfl⟩;exact ⟨0,by decide,by decide +kernel,rfl⟩
 rintro ⟨i,hi,he,rfl⟩;rw [u i hi he];exact ⟨rfl,rfl⟩
 by_cases h1:s=[115,101,114,118,101,100]
 subst h1
 have e:ZZ [115,101,114,118,101,100]=(1,3,true):=by decide +kernel
 have u:∀ i,i<7→[115,101,114,118,101,100]=Zg.getD i []→i=1:=by decide +kernel
 rw [e]
 constructor
 rintro ⟨-,rfl⟩;exact ⟨1,by decide,by decide +kernel,rfl⟩
 rintro ⟨i,hi,he,rfl⟩;rw [u i hi he];exact ⟨rfl,rfl⟩
 by_cases h2:s=[101,120,116,114,97]
 subst h2
 have e:ZZ [101,120,116,114,97]=(2,1,true):=by decide +kernel
 have u:∀ i,i<7→[101,120,116,114,97]=Zg.getD i []→i=2:=by decide +kernel
 rw [e]
 constructor
 rintro ⟨-,rfl⟩;exact ⟨2,by decide,by decide +kernel,rfl⟩
 rintro ⟨i,hi,he,rfl⟩;rw [u i hi he];exact ⟨rfl,rfl⟩
 by_cases h3:s=[98,121]
 subst h3
 have e:ZZ [98,121]=(3,1,true):=by decide +kernel
 have u:∀ i,i<7→[98,121]=Zg.getD i []→i=3:=by decide +kernel
 rw [e]
 constructor
 rintro ⟨-,rfl⟩;exact ⟨3,by decide,by decide +kernel,rfl⟩
 rintro ⟨i,hi,he,rfl⟩;rw [u i hi he];exact ⟨rfl,rfl⟩
 by_cases h4:s=[116,111]
 subst h4
 have e:ZZ [116,111]=(4,1,true):=by decide +kernel
 have u:∀ i,i<7→[116,111]=Zg.getD i []→i=4:=by decide +kernel
 rw [e]
 constructor
 rintro ⟨-,rfl⟩;exact ⟨4,by decide,by decide +kernel,rfl⟩
 rintro ⟨i,hi,he,rfl⟩;rw [u i hi he];exact ⟨rfl,rfl⟩
 by_cases h5:s=[99,111,117,114,116]
 subst h5
 have e:ZZ [99,111,117,114,116]=(5,1,true):=by decide +kernel
 have u:∀ i,i<7→[99,111,117,114,116]=Zg.getD i []→i=5:=by decide +kernel
 rw [e]
 constructor
 rintro ⟨-,rfl⟩;exact ⟨5,by decide,by decide +kernel,rfl⟩
 rintro ⟨i,hi,he,rfl⟩;rw [u i hi he];exact ⟨rfl,rfl⟩
 by_cases h6:s=[97,109,111,117,110,116]
 subst h6
 have e:ZZ [97,109,111,117,110,116]=(6,1,true):=by decide +kernel
 have u:∀ i,i<7→[97,109,111,117,110,116]=Zg.getD i []→i=6:=by decide +kernel
 rw [e]
 constructor
 rintro ⟨-,rfl⟩;exact ⟨6,by decide,by decide +kernel,rfl⟩
 rintro ⟨i,hi,he,rfl⟩;rw [u i hi he];exact ⟨rfl,rfl⟩
 constructor
 rintro ⟨h,-⟩
 exfalso
 have hn:Zg.findIdx? (isS s)=none:=X2.2 fun x hx=>by
  simp only [Zg,Xf,Xk,or_false] at hx
  rcases hx with rfl|rfl|rfl|rfl|rfl|rfl|rfl<;>simp only [isS,decide_eq_false_iff_not]<;>intro e<;>first|exact (absurd e h0)|exact (absurd e.symm h0)|exact (absurd e h1)|exact (absurd e.symm h1)|exact (absurd e h2)|exact (absurd e.symm h2)|exact (absurd e h3)|exact (absurd e.symm h3)|exact (absurd e h4)|exact (absurd e.symm h4)|exact (absurd e h5)|exact (absurd e.symm h5)|exact (absurd e h6)|exact (absurd e.symm h6)|skip
 simp [ZZ,idx,hn] at h
 · rintro ⟨i,hi,he,-⟩
   exfalso
   match i,hi with
   | 0,_=>exact h0 he
   | 1,_=>exact h1 he
   | 2,_=>exact h2 he
   | 3,_=>exact h3 he
   | 4,_=>exact h4 he
   | 5,_=>exact h5 he
   | 6,_=>exact h6 he
end Go.Proofs.YtjdjdoefppebkaaGreatDoor
namespace Go.Eng
open Go Go.RowKit Go.Proofs
section
variable {P:Program} {n:Nat} {e:Env} {w:World} {d:Option Nat} {ty:TypeId} {pos:String} {af:Array Edge} {g:Option (Nat×Bool)}
theorem ZhY {src dst:TypeId} {k k':IntKind} {x:Operand} {a:Int} {D:TypeDesc} [hs:Und P src D] [hd:Und P dst (.int k)] (hx:ev e x=some (.int k' a)) :
 PR P n ⟨d,.convert src dst x,ty,pos,af,g⟩ e w (.int k (k.wrap a)):=
 ⟨fun c ha => by
   have hk:P.intKind dst=k:=by simp [Program.intKind,hd.h]
   have:=run_convert_int (P:=P) w src dst k' a (by rw [hs.h];rfl) (by rw [hk];exact hd.h)
   simp [execOp,ha.ev hx,this,hk]⟩
theorem Z4q {src dst:TypeId} {k k':IntKind} {x:Operand} {a b:Int} {D:TypeDesc} [hs:Und P src D] [hd:Und P dst (.int k)] (hx:ev e x=some (.int k' a)) (hb:k.wrap a=b) :
 PR P n ⟨d,.convert src dst x,ty,pos,af,g⟩ e w (.int k b):=hb ▸ ZhY hx
section
variable {x y:Operand} {t u:TypeId} {k:IntKind} {a b:Int}
end
end
structure Fl where
 i:Nat
 d:Nat
 T:Nat
 z:Value
section rules
variable {P:Program} {n:Nat} {ops:Array Oper} {Lt:List Nat} {Q:Exit→Act→World→Prop} {F:List Fl} {rest join:List (Nat×Nat)} {e:Env} {J:World→List Nat→Prop}
variable {i d:Nat} {op:Op} {ty:TypeId} {pos:String} {af:Array Edge} {gd:Option (Nat×Bool)} {v:Value}
end rules
end Go.Eng
namespace Go.Proofs.YtjdjdoefppebkaaGreatDoor
open Go Go.Eng Go.RowKit
theorem Z34 {x y:Nd} (h:Zd x≠0) (hy:y∈x.kids):Zd y≠0:=by
 intro h0
 apply h
 rw [Z08]
 unfold Jb
 split
 rfl
 rw [if_pos (by rw [← h0];exact X4 hy)]
def Seg (C:List Ins) (p:Nat) (c:List Ins):Prop:=∃ A B,C=A++c++B∧A.length=p
theorem Seg.left {C a b:List Ins} {p:Nat} (h:Seg C p (a++b)):Seg C p a:=by
 obtain ⟨A,B,rfl,hp⟩:=h
 exact ⟨A,b++B,by simp,hp⟩
theorem Seg.right {C a b:List Ins} {p:Nat} (h:Seg C p (a++b)):Seg C (p+a.length) b:=by
 obtain ⟨A,B,rfl,hp⟩:=h
 exact ⟨A++a,B,by simp,by simp [hp]⟩
theorem Seg.at {C r:List Ins} {x:Ins} {p:Nat} (h:Seg C p (x :: r)):C.getD p ⟨0,0⟩=x:=by
 obtain ⟨A,B,rfl,hp⟩:=h
 subst hp
 simp
def Z5k (C:List Ins):Nat→Nat→List (Option Shp)→Option (List (Option Shp))
 | _,0,st=>some st
 | p,k+1,st=>(Z2j st p (C.getD p ⟨0,0⟩)).bind (Z5k C (p+1) k)
theorem Z1W (C:List Ins) (b:Nat):∀ (a p:Nat) (st:List (Option Shp)),Z5k C p (a+b) st=(Z5k C p a st).bind (Z5k C (p+a) b)
 | 0,p,st=>by simp [Z5k]
 | a + 1, p, st => by
   rw [show a+1+b=(a+b)+1 by omega,Z5k,Z5k]
   cases h:Z2j st p (C.getD p ⟨0,0⟩) with
   | none=>rfl
   | some st'=>
     simp only [XQ]
     rw [Z1W C b a (p+1) st',show p+1+a=p+(a+1) by omega]
theorem Z40 (C:List Ins) (p:Nat) (st:List (Option Shp)):Z5k C p 1 st=Z2j st p (C.getD p ⟨0,0⟩):=by
 rw [Z5k]
 cases Z2j st p (C.getD p ⟨0,0⟩)<;>rfl
theorem Z8r (C:List Ins) (st:List (Option Shp)):∀ k:Nat,Z9e C k st=Z5k C 0 k st
 | 0=>rfl
 | k + 1 => by
   rw [Z9e,Z1W,Z8r C st k]
   cases Z5k C 0 k st with
   | none=>rfl
   | some st'=>simp only [XQ,XO];rw [Z40]
def Z35 (C:List Ins) (p:Nat) (c:List Ins) (s s':Shp):Prop:=
 ∀ st : List (Option Shp), st.length = C.length → p + c.length < C.length → st[p]? = some (some s) → (∀ i, p < i → i < p + c.length → st[i]? = some none)→
   (st[p+c.length]?=some none∨st[p+c.length]?=some (some s'))→
   ∃ st',Z5k C p c.length st=some st'∧st'.length=C.length∧st'[p+c.length]?=some (some s')∧∀ i,p+c.length<i→st'[i]?=st[i]?
theorem Z9g {st:List (Option Shp)} {t:Nat} {sh:Shp} (h:t<st.length) (h2:st[t]?=some none∨st[t]?=some (some sh)) :
 ∃ st',Z1p st (t:Int) sh=some st'∧st'.length=st.length∧st'[t]?=some (some sh)∧∀ i,i≠t→st'[i]?=st[i]?:=by
 unfold Z1p
 rw [if_pos (by omega),YaL,Xx]
 rcases h2 with h2|h2
 rw [h2]
 exact ⟨_,rfl,by simp,by simp [h],fun i hi=>List.getElem?_set_ne (fun e=>hi e.symm)⟩
 rw [h2]
 simp only [Yae,if_pos]
 exact ⟨_,rfl,rfl,h2,fun _ _=>rfl⟩
theorem Z35.app {C a b:List Ins} {p:Nat} {s s1 s2:Shp} (ha:Z35 C p a s s1) (hb:Z35 C (p+a.length) b s1 s2) (h1:a≠[]) (h2:b≠[]):Z35 C p (a++b) s s2:=by
 intro st hl hlt h0 hn hq
 have l1:=XX.2 h1
 have l2:=XX.2 h2
 simp only [Xb] at hlt hn hq ⊢
 obtain ⟨st1,r1,e1,e2,e3⟩:=ha st hl (by omega) h0 (fun i hi hi2=>hn i hi (by omega)) (.inl (hn _ (by omega) (by omega)))
 obtain ⟨st2,r2,g1,g2,g3⟩:=hb st1 e1 (by omega) e2 (fun i hi hi2=>by rw [e3 i hi];exact hn i (by omega) (by omega)) (by rw [e3 _ (by omega),XT];exact hq)
 refine ⟨st2,by rw [Z1W,r1];exact r2,g1,by rw [← XT];exact g2,fun i hi=>by rw [g3 i (by omega),e3 i (by omega)]⟩
theorem Z5l {C:List Ins} {p:Nat} {x:Ins} {s s':Shp} (hs:Seg C p [x]) (h1:x.op≠24) (h2:x.op≠13) (h3:x.op≠14) (hx:Jn x s=some s'):Z35 C p [x] s s':=by
 intro st hl hlt h0 hn hq
 simp only [Xc,Xe,XO] at hlt hq ⊢
 obtain ⟨st',r1,r2,r3,r4⟩:=Z9g (st:=st) (t:=p+1) (sh:=s') (by omega) hq
 refine ⟨st',?_,by omega,r3,fun i hi=>r4 i (by omega)⟩
 rw [Z40,hs.at]
 unfold Z2j
 rw [Xx,h0]
 simp only [Yae,hx]
 rw [if_neg h1,if_neg h2,if_neg h3]
 exact r1
def Z36 (b:Nat):List Ins→Shp→Option Shp
 | [],s=>some s
 | x :: r, s => match Jn x s with
   | none=>none
   | some s'=>if s'.length≤b then Z36 b r s' else none
theorem Z1B {x:Ins} {ts r s:Shp} (h:Jn x ts=some r) (hl:s.length+r.length≤16):Jn x (s++ts)=some (s++r):=by
 unfold Jn at h ⊢
 dsimp only at h ⊢
 split at h
 rename_i hc
 obtain ⟨c1,c2,c3,c4⟩:=hc
 simp only [Xj] at h
 have e1:(s++ts).length - (J7 x).1.length=s.length+(ts.length - (J7 x).1.length):=by rw [Xb];omega
 have e2:(s++ts).drop (s.length+(ts.length - (J7 x).1.length))=ts.drop (ts.length - (J7 x).1.length):=by
  rw [List.drop_append,List.drop_of_length_le (by omega),XS]
  congr 1
  omega
 have e3:(s++ts).take (s.length+(ts.length - (J7 x).1.length))=s++ts.take (ts.length - (J7 x).1.length):=by
  rw [Yau,XB (by omega),show s.length+(ts.length - (J7 x).1.length) - s.length=ts.length - (J7 x).1.length by omega]
 rw [e1,e2,e3]
 have e4:s++ts.take (ts.length - (J7 x).1.length)++(J7 x).2.2.1=s++r:=by rw [Xr,h]
 rw [e4,if_pos ⟨c1,by rw [Xb];omega,c3,by rw [Xb];omega⟩]
 cases h
theorem Z8s {C:List Ins} (b:Nat):∀ (L:List Ins) (p:Nat) (s ts r:Shp),L≠[]→Seg C p L→(∀ x∈L,x.op≠24∧x.op≠13∧x.op≠14)→Z36 b L ts=some r→s.length+b≤16→Z35 C p L (s++ts) (s++r)
 | [],_,_,_,_,h,_,_,_,_=>absurd rfl h
 | [x], p, s, ts, r, _, hs, ho, hf, hb => by
   obtain ⟨o1,o2,o3⟩:=ho x (by simp)
   unfold Z36 at hf
   cases hx:Jn x ts with
   | none=>rw [hx] at hf;cases hf
   | some s1=>
     rw [hx] at hf
     simp only at hf
     split at hf
     rename_i hl
     simp only [Z36,Xj] at hf
     subst hf
     exact Z5l hs o1 o2 o3 (Z1B hx (by omega))
     cases hf
 | x :: y :: L, p, s, ts, r, _, hs, ho, hf, hb => by
   obtain ⟨o1,o2,o3⟩:=ho x (by simp)
   rw [Z36] at hf
   cases hx:Jn x ts with
   | none=>rw [hx] at hf;cases hf
   | some s1=>
     rw [hx] at hf
     simp only at hf
     split at hf
     rename_i hl
     have hs1:Seg C p ([x]++(y :: L)):=hs
     exact Z35.app (a:=[x]) (Z5l hs1.left o1 o2 o3 (Z1B hx (by omega))) (Z8s b (y :: L) _ s s1 r (by simp) hs1.right (fun z hz=>ho z (by simp [hz])) hf hb) (by simp) (by simp)
     cases hf
theorem Z9h {C Lc Ly Ln:List Ins} {p:Nat} {s s':Shp} (t1 t2:Int)
 (hs:Seg C p (Lc++[⟨14,t1⟩]++Ly++[⟨13,t2⟩]++Ln)) (ht1:t1=((p+Lc.length+1+Ly.length+1:Nat):Int)) (ht2:t2=((p+Lc.length+1+Ly.length+1+Ln.length:Nat):Int))
 (hc:Z35 C p Lc s (s++[2])) (hy:Z35 C (p+Lc.length+1) Ly s s') (hn:Z35 C (p+Lc.length+1+Ly.length+1) Ln s s') (h1:Lc≠[]) (h2:Ly≠[]) (h3:Ln≠[]) (hl:s.length≤16) (hl':s'.length≤16) :
 Z35 C p (Lc++[⟨14,t1⟩]++Ly++[⟨13,t2⟩]++Ln) s s':=by
 intro st hlen hlt h0 hno hq
 have l1:=XX.2 h1
 have l2:=XX.2 h2
 have l3:=XX.2 h3
 have hlen0:(Lc++[(⟨14,t1⟩:Ins)]++Ly++[(⟨13,t2⟩:Ins)]++Ln).length=Lc.length+(1+(Ly.length+(1+Ln.length))):=by simp only [Xb,Xc,Xe];omega
 rw [hlen0] at hlt hno hq ⊢
 have g14:C.getD (p+Lc.length) ⟨0,0⟩=⟨14,t1⟩:=(show Seg C (p+Lc.length) (⟨14,t1⟩ :: (Ly++[⟨13,t2⟩]++Ln)) from (show Seg C p (Lc++(⟨14,t1⟩ :: (Ly++[⟨13,t2⟩]++Ln))) by simpa using hs).right).at
 have g13:C.getD (p+Lc.length+1+Ly.length) ⟨0,0⟩=⟨13,t2⟩:=by
  have h:=(show Seg C p ((Lc++[⟨14,t1⟩]++Ly)++(⟨13,t2⟩ :: Ln)) by simpa using hs).right.at
  rw [← h]
  congr 1
  simp only [Xb,Xc,Xe]
  omega
 obtain ⟨st1,r1,e1,e2,e3⟩:=hc st hlen (by omega) h0 (fun i hi hi2=>hno i hi (by omega)) (.inl (hno _ (by omega) (by omega)))
 have n14:Jn ⟨14,t1⟩ (s++[2])=some s:=by
  have:=Z1B (x:=⟨14,t1⟩) (ts:=[2]) (r:=[]) (s:=s) (by simp [Jn,J7]) (by simpa using hl)
  simpa using this
 obtain ⟨st2,q1,q2,q3,q4⟩:=Z9g (st:=st1) (t:=p+Lc.length+1+Ly.length+1) (sh:=s) (by omega) (.inl (by rw [e3 _ (by omega)];exact hno _ (by omega) (by omega)))
 obtain ⟨st3,u1,u2,u3,u4⟩:=Z9g (st:=st2) (t:=p+Lc.length+1) (sh:=s) (by omega) (.inl (by rw [q4 _ (by omega),e3 _ (by omega)];exact hno _ (by omega) (by omega)))
 have s14:Z5k C (p+Lc.length) 1 st1=some st3:=by
  rw [Z40,g14]
  unfold Z2j
  rw [Xx,e2]
  simp only [Yae,n14]
  rw [if_neg (by simp),if_neg (by simp),if_pos trivial,if_pos (by omega),ht1,q1]
  simp only [XQ]
  rw [← u1]
  congr 1
 obtain ⟨st4,v1,v2,v3,v4⟩:=hy st3 (by omega) (by omega) u3 (fun i hi hi2=>by rw [u4 i (by omega),q4 i (by omega),e3 i (by omega)];exact hno i (by omega) (by omega)) (.inl (by rw [u4 _ (by omega),q4 _ (by omega),e3 _ (by omega)];exact hno _ (by omega) (by omega)))
 have n13:Jn ⟨13,t2⟩ s'=some s':=by
  simp [Jn,J7,hl']
 have hq4:st4[p+Lc.length+1+Ly.length+1+Ln.length]?=st[p+(Lc.length+(1+(Ly.length+(1+Ln.length))))]?:=by
  rw [v4 _ (by omega),u4 _ (by omega),q4 _ (by omega),e3 _ (by omega)]
  congr 1
  omega
 obtain ⟨st5,w1,w2,w3,w4⟩:=Z9g (st:=st4) (t:=p+Lc.length+1+Ly.length+1+Ln.length) (sh:=s') (by omega) (by rw [hq4];exact hq)
 have s13:Z5k C (p+Lc.length+1+Ly.length) 1 st4=some st5:=by
  rw [Z40,g13]
  unfold Z2j
  rw [Xx,v3]
  simp only [Yae,n13]
  rw [if_neg (by simp),if_pos trivial,if_pos (by omega),ht2,w1]
 obtain ⟨st6,x1,x2,x3,x4⟩:=hn st5 (by omega) (by omega) (by rw [w4 _ (by omega),v4 _ (by omega),u4 _ (by omega)];exact q3) (fun i hi hi2=>by rw [w4 i (by omega),v4 i (by omega),u4 i (by omega),q4 i (by omega),e3 i (by omega)];exact hno i (by omega) (by omega)) (.inr w3)
 refine ⟨st6,?_,x2,?_,fun i hi=>by rw [x4 i (by omega),w4 i (by omega),v4 i (by omega),u4 i (by omega),q4 i (by omega),e3 i (by omega)]⟩
 rw [Z1W,r1,XQ,Z1W,s14,XQ,Z1W,v1,XQ,Z1W,s13,XQ]
 exact x1
 rw [← x3]
 congr 1
 omega
end Go.Proofs.YtjdjdoefppebkaaGreatDoor
