/-
Merged by program out of own texts: Ty, Nd0, Typ1, Eng10, Typ2, Typ3, Typ4, Typ5, Typ6, Typ7, Typ8, Typ9, Typ10, Typ11, Typ12, Typ13, Cmp1, Cmp2, Cmp3, Cmp4, Cmp5, Cmp6, Cmp7, Cmp8, Prn1, Nam1, Nam2, Gen1, Gen3, Ver3, Ver5, Ver7a, Ver7b, Ver7c, Ver9, Arg15, Arg16, Srt1, Use1, Eng18, Eng19, Tyo1, Cty0, Cty1.
-/
import Derived.Test.YtjdjdoefppebkaaGreatDoorM1
import Derived.Test.YtjdjdoefppebkaaGreatDoorRows
import Derived.MapKept
import Derived.Laws.StructEq
import Derived.ChangeKeysEq
import Derived.Test.YtjdjdoefppebkaaGreatDoorTie
import Derived.Test.YtjdjdoefppebkaaGreatDoorCards
import Derived.Laws.BitsAllLaws
import Derived.Laws.Bits64
import Derived.Lib.SlBytesRow
import Derived.Lib.AppendStr
import Derived.Laws.BytesArg
import Derived.Laws.Cover3
set_option linter.unusedVariables false
set_option linter.unusedSimpArgs false
namespace Go.Proofs.YtjdjdoefppebkaaGreatDoor
open Go Go.Eng
theorem mixed:Tryz.prog.follows .mixedOrders=true:=by kernel_rfl
abbrev Zny:=uM Tryz.underlying3
instance ZpA:Siz Tryz.prog 3 1:=⟨by kernel_rfl⟩
instance ZpB:Byt Tryz.prog 3 8:=⟨by kernel_rfl⟩
instance ZpC:Zer Tryz.prog 3 (.int .i64 0):=⟨by kernel_rfl⟩
abbrev Znz:=uM Tryz.underlying4
instance ZpD:Siz Tryz.prog 4 1:=⟨by kernel_rfl⟩
abbrev ZnA:=uM Tryz.underlying5
instance ZpE:Siz Tryz.prog 5 1:=⟨by kernel_rfl⟩
abbrev ZnB:=uM Tryz.underlying9
instance ZpF:Siz Tryz.prog 9 1:=⟨by kernel_rfl⟩
abbrev Zk3:=uM Tryz.underlying20
abbrev Zk4:=uM Tryz.underlying21
abbrev Zk5:=uM Tryz.underlying22
instance Zp6:Siz Tryz.prog 22 1:=⟨by kernel_rfl⟩
instance Zp7:Zer Tryz.prog 22 (.slice none 0 0):=⟨by kernel_rfl⟩
abbrev Zk6:=uM Tryz.underlying24
instance Zp8:Siz Tryz.prog 24 5:=⟨by kernel_rfl⟩
instance Zn3:Fld Tryz.prog 24 0 0:=⟨_,_,0,Tryz.underlying24,rfl,rfl,by kernel_rfl⟩
instance Zn4:Fld Tryz.prog 24 1 1:=⟨_,_,0,Tryz.underlying24,rfl,rfl,by kernel_rfl⟩
instance Zn5:Fld Tryz.prog 24 2 2:=⟨_,_,0,Tryz.underlying24,rfl,rfl,by kernel_rfl⟩
instance Zn6:Fld Tryz.prog 24 3 3:=⟨_,_,0,Tryz.underlying24,rfl,rfl,by kernel_rfl⟩
instance Zn7:Fld Tryz.prog 24 4 4:=⟨_,_,0,Tryz.underlying24,rfl,rfl,by kernel_rfl⟩
abbrev Zk7:=uM Tryz.underlying25
instance Zp9:Siz Tryz.prog 25 1:=⟨by kernel_rfl⟩
abbrev Zk8:=uM Tryz.underlying27
instance Zpa:Siz Tryz.prog 27 4:=⟨by kernel_rfl⟩
instance Zpb:Byt Tryz.prog 27 56:=⟨by kernel_rfl⟩
instance Zpc:Zer Tryz.prog 27 (.agg #[.int .i64 0,.int .i64 0,.string ByteArray.empty,.slice none 0 0]):=⟨by kernel_rfl⟩
instance Zn8:Fld Tryz.prog 27 0 0:=⟨_,_,0,Tryz.underlying27,rfl,rfl,by kernel_rfl⟩
instance Zn9:Fld Tryz.prog 27 1 1:=⟨_,_,0,Tryz.underlying27,rfl,rfl,by kernel_rfl⟩
instance Zna:Fld Tryz.prog 27 2 2:=⟨_,_,0,Tryz.underlying27,rfl,rfl,by kernel_rfl⟩
instance Znb:Fld Tryz.prog 27 3 3:=⟨_,_,0,Tryz.underlying27,rfl,rfl,by kernel_rfl⟩
abbrev Zk9:=uM Tryz.underlying29
instance Zpd:Siz Tryz.prog 29 7:=⟨by kernel_rfl⟩
instance Zpe:Zer Tryz.prog 29 (.agg #[.int .i64 0,.int .i64 0,.int .i64 0,.int .i64 0,.int .i64 0,.int .i64 0,.int .i64 0]):=⟨by kernel_rfl⟩
instance Znc:Fld Tryz.prog 29 0 0:=⟨_,_,0,Tryz.underlying29,rfl,rfl,by kernel_rfl⟩
instance Znd:Fld Tryz.prog 29 1 1:=⟨_,_,0,Tryz.underlying29,rfl,rfl,by kernel_rfl⟩
instance Zne:Fld Tryz.prog 29 2 2:=⟨_,_,0,Tryz.underlying29,rfl,rfl,by kernel_rfl⟩
instance Znf:Fld Tryz.prog 29 3 3:=⟨_,_,0,Tryz.underlying29,rfl,rfl,by kernel_rfl⟩
instance Zng:Fld Tryz.prog 29 4 4:=⟨_,_,0,Tryz.underlying29,rfl,rfl,by kernel_rfl⟩
instance Znh:Fld Tryz.prog 29 5 5:=⟨_,_,0,Tryz.underlying29,rfl,rfl,by kernel_rfl⟩
instance Zni:Fld Tryz.prog 29 6 6:=⟨_,_,0,Tryz.underlying29,rfl,rfl,by kernel_rfl⟩
abbrev Zka:=uM Tryz.underlying30
abbrev Zkb:=uM Tryz.underlying31
instance Zpf:Siz Tryz.prog 31 1:=⟨by kernel_rfl⟩
abbrev Zkc:=uM Tryz.underlying32
instance Zpg:Siz Tryz.prog 32 1:=⟨by kernel_rfl⟩
abbrev Zkd:=uM Tryz.underlying33
instance Zph:Siz Tryz.prog 33 1:=⟨by kernel_rfl⟩
abbrev Zke:=uM Tryz.underlying35
instance Zpi:Siz Tryz.prog 35 2:=⟨by kernel_rfl⟩
instance Zpj:Zer Tryz.prog 35 (.agg #[.int .i64 0,.slice none 0 0]):=⟨by kernel_rfl⟩
instance Znj:Fld Tryz.prog 35 1 1:=⟨_,_,0,Tryz.underlying35,rfl,rfl,by kernel_rfl⟩
abbrev Zkf:=uM Tryz.underlying37
instance Zpk:Siz Tryz.prog 37 12:=⟨by kernel_rfl⟩
instance Zpl:Zer Tryz.prog 37 (.agg #[.bool false,.bool false,.bool false,.bool false,.bool false,.bool false,.bool false,.slice none 0 0,.slice none 0 0,.int .i64 0,.slice none 0 0,.int .i64 0]):=⟨by kernel_rfl⟩
instance Znk:Fld Tryz.prog 37 0 0:=⟨_,_,6,Tryz.underlying37,rfl,rfl,by kernel_rfl⟩
instance Znl:Fld Tryz.prog 37 1 7:=⟨_,_,0,Tryz.underlying37,rfl,rfl,by kernel_rfl⟩
instance Znm:Fld Tryz.prog 37 2 8:=⟨_,_,0,Tryz.underlying37,rfl,rfl,by kernel_rfl⟩
instance Znn:Fld Tryz.prog 37 3 9:=⟨_,_,1,Tryz.underlying37,rfl,rfl,by kernel_rfl⟩
abbrev Zkg:=uM Tryz.underlying40
instance Zpm:Siz Tryz.prog 40 1:=⟨by kernel_rfl⟩
abbrev Zkh:=uM Tryz.underlying41
instance Zpn:Siz Tryz.prog 41 1:=⟨by kernel_rfl⟩
instance Zpo:Zer Tryz.prog 41 (.int .i64 0):=⟨by kernel_rfl⟩
abbrev Zki:=uM Tryz.underlying45
instance Zpp:Siz Tryz.prog 45 1:=⟨by kernel_rfl⟩
instance Zpq:Zer Tryz.prog 45 (.slice none 0 0):=⟨by kernel_rfl⟩
abbrev Zkj:=uM Tryz.underlying51
instance Zpr:Siz Tryz.prog 51 2:=⟨by kernel_rfl⟩
instance Zps:Byt Tryz.prog 51 16:=⟨by kernel_rfl⟩
instance Zpt:Zer Tryz.prog 51 (.agg #[.int .i64 0,.int .i64 0]):=⟨by kernel_rfl⟩
instance Zno:Fld Tryz.prog 51 0 0:=⟨_,_,0,Tryz.underlying51,rfl,rfl,by kernel_rfl⟩
instance Znp:Fld Tryz.prog 51 1 1:=⟨_,_,0,Tryz.underlying51,rfl,rfl,by kernel_rfl⟩
abbrev Zkk:=uM Tryz.underlying77
instance Zpu:Siz Tryz.prog 77 3:=⟨by kernel_rfl⟩
instance Zpv:Byt Tryz.prog 77 24:=⟨by kernel_rfl⟩
instance Zpw:Zer Tryz.prog 77 (.agg #[.int .i64 0,.int .i64 0,.int .i64 0]):=⟨by kernel_rfl⟩
instance Znq:Fld Tryz.prog 77 0 0:=⟨_,_,0,Tryz.underlying77,rfl,rfl,by kernel_rfl⟩
instance Znr:Fld Tryz.prog 77 1 1:=⟨_,_,0,Tryz.underlying77,rfl,rfl,by kernel_rfl⟩
instance Zns:Fld Tryz.prog 77 2 2:=⟨_,_,0,Tryz.underlying77,rfl,rfl,by kernel_rfl⟩
abbrev Zkl:=uM Tryz.underlying79
instance Zpx:Siz Tryz.prog 79 4:=⟨by kernel_rfl⟩
abbrev Zkm:=uM Tryz.underlying83
instance Zpy:Siz Tryz.prog 83 7:=⟨by kernel_rfl⟩
instance Zpz:Zer Tryz.prog 83 (.agg #[.int .i64 0,.int .i64 0,.int .i64 0,.int .i64 0,.int .i64 0,.int .i64 0,.int .i64 0]):=⟨by kernel_rfl⟩
instance Zkn:Fld Tryz.prog 103 0 0:=⟨_,_,0,Tryz.underlying103,rfl,rfl,by kernel_rfl⟩
instance Zko:Fld Tryz.prog 103 1 1:=⟨_,_,0,Tryz.underlying103,rfl,rfl,by kernel_rfl⟩
abbrev Zha:=uM Tryz.underlying111
instance ZnC:Siz Tryz.prog 111 2:=⟨by kernel_rfl⟩
instance ZnD:Byt Tryz.prog 111 16:=⟨by kernel_rfl⟩
instance ZnE:Zer Tryz.prog 111 (.agg #[.int .i64 0,.int .i64 0]):=⟨by kernel_rfl⟩
instance Zkp:Fld Tryz.prog 111 0 0:=⟨_,_,0,Tryz.underlying111,rfl,rfl,by kernel_rfl⟩
instance Zkq:Fld Tryz.prog 111 1 1:=⟨_,_,0,Tryz.underlying111,rfl,rfl,by kernel_rfl⟩
abbrev Zhb:=uM Tryz.underlying119
abbrev Zhc:=uM Tryz.underlying124
instance Zkr:Fld Tryz.prog 126 0 0:=⟨_,_,6,Tryz.underlying126,rfl,rfl,by kernel_rfl⟩
instance Zks:Fld Tryz.prog 126 1 7:=⟨_,_,11,Tryz.underlying126,rfl,rfl,by kernel_rfl⟩
instance Zkt:Fld Tryz.prog 126 2 19:=⟨_,_,0,Tryz.underlying126,rfl,rfl,by kernel_rfl⟩
instance Zku:Fld Tryz.prog 126 3 20:=⟨_,_,0,Tryz.underlying126,rfl,rfl,by kernel_rfl⟩
instance Zkv:Fld Tryz.prog 126 4 21:=⟨_,_,0,Tryz.underlying126,rfl,rfl,by kernel_rfl⟩
instance Zkw:Fld Tryz.prog 126 5 22:=⟨_,_,0,Tryz.underlying126,rfl,rfl,by kernel_rfl⟩
instance Zkx:Fld Tryz.prog 126 6 23:=⟨_,_,0,Tryz.underlying126,rfl,rfl,by kernel_rfl⟩
instance Zky:Fld Tryz.prog 126 7 24:=⟨_,_,0,Tryz.underlying126,rfl,rfl,by kernel_rfl⟩
instance ZnF:Zer Tryz.prog 156 (.agg #[.slice none 0 0]):=⟨by kernel_rfl⟩
instance Zkz:Fld Tryz.prog 156 0 0:=⟨_,_,0,Tryz.underlying156,rfl,rfl,by kernel_rfl⟩
abbrev Zhd:=uM Tryz.underlying157
abbrev Zhe:=uM Tryz.underlying159
instance ZnG:Siz Tryz.prog 159 1:=⟨by kernel_rfl⟩
instance ZnH:Zer Tryz.prog 159 (.nilFunc):=⟨by kernel_rfl⟩
abbrev Zhf:=uM Tryz.underlying167
instance ZnI:Siz Tryz.prog 167 4:=⟨by kernel_rfl⟩
instance ZnJ:Byt Tryz.prog 167 40:=⟨by kernel_rfl⟩
instance ZnK:Zer Tryz.prog 167 (.agg #[.int .i64 0,.int .i64 0,.string ByteArray.empty,.int .i64 0]):=⟨by kernel_rfl⟩
instance ZkA:Fld Tryz.prog 167 0 0:=⟨_,_,0,Tryz.underlying167,rfl,rfl,by kernel_rfl⟩
instance ZkB:Fld Tryz.prog 167 1 1:=⟨_,_,0,Tryz.underlying167,rfl,rfl,by kernel_rfl⟩
instance ZkC:Fld Tryz.prog 167 2 2:=⟨_,_,0,Tryz.underlying167,rfl,rfl,by kernel_rfl⟩
instance ZkD:Fld Tryz.prog 167 3 3:=⟨_,_,0,Tryz.underlying167,rfl,rfl,by kernel_rfl⟩
abbrev Zhg:=uM Tryz.underlying168
instance ZkE:Fld Tryz.prog 170 0 0:=⟨_,_,0,Tryz.underlying170,rfl,rfl,by kernel_rfl⟩
instance ZkF:Fld Tryz.prog 170 1 1:=⟨_,_,0,Tryz.underlying170,rfl,rfl,by kernel_rfl⟩
instance ZkG:Fld Tryz.prog 170 2 2:=⟨_,_,0,Tryz.underlying170,rfl,rfl,by kernel_rfl⟩
abbrev Zhh:=uM Tryz.underlying187
instance ZnL:Siz Tryz.prog 187 9:=⟨by kernel_rfl⟩
instance ZnM:Byt Tryz.prog 187 72:=⟨by kernel_rfl⟩
instance ZnN:Zer Tryz.prog 187 (.agg #[.int .i64 0,.int .i64 0,.int .i64 0,.int .i64 0,.int .i64 0,.int .i64 0,.int .i64 0,.int .i64 0,.int .i64 0]):=⟨by kernel_rfl⟩
instance ZkH:Fld Tryz.prog 187 0 0:=⟨_,_,0,Tryz.underlying187,rfl,rfl,by kernel_rfl⟩
instance ZkI:Fld Tryz.prog 187 1 1:=⟨_,_,0,Tryz.underlying187,rfl,rfl,by kernel_rfl⟩
instance ZkJ:Fld Tryz.prog 187 2 2:=⟨_,_,0,Tryz.underlying187,rfl,rfl,by kernel_rfl⟩
instance ZkK:Fld Tryz.prog 187 3 3:=⟨_,_,0,Tryz.underlying187,rfl,rfl,by kernel_rfl⟩
instance ZkL:Fld Tryz.prog 187 4 4:=⟨_,_,0,Tryz.underlying187,rfl,rfl,by kernel_rfl⟩
instance ZkM:Fld Tryz.prog 187 5 5:=⟨_,_,0,Tryz.underlying187,rfl,rfl,by kernel_rfl⟩
instance ZkN:Fld Tryz.prog 187 6 6:=⟨_,_,0,Tryz.underlying187,rfl,rfl,by kernel_rfl⟩
instance ZkO:Fld Tryz.prog 187 7 7:=⟨_,_,0,Tryz.underlying187,rfl,rfl,by kernel_rfl⟩
instance ZkP:Fld Tryz.prog 187 8 8:=⟨_,_,0,Tryz.underlying187,rfl,rfl,by kernel_rfl⟩
instance ZnO:Siz Tryz.prog 190 2:=⟨by kernel_rfl⟩
instance ZnP:Byt Tryz.prog 190 16:=⟨by kernel_rfl⟩
instance ZnQ:Zer Tryz.prog 190 (.agg #[.int .i64 0,.int .i64 0]):=⟨by kernel_rfl⟩
instance ZkQ:Fld Tryz.prog 190 0 0:=⟨_,_,0,Tryz.underlying190,rfl,rfl,by kernel_rfl⟩
abbrev Zhi:=uM Tryz.underlying204
instance ZnR:Zer Tryz.prog 204 (.slice none 0 0):=⟨by kernel_rfl⟩
abbrev Zhj:=uM Tryz.underlying210
instance ZnS:Siz Tryz.prog 210 2:=⟨by kernel_rfl⟩
instance ZnT:Zer Tryz.prog 210 (.agg #[.int .i64 0,.int .i64 0]):=⟨by kernel_rfl⟩
instance ZkR:Fld Tryz.prog 210 0 0:=⟨_,_,0,Tryz.underlying210,rfl,rfl,by kernel_rfl⟩
instance ZkS:Fld Tryz.prog 210 1 1:=⟨_,_,0,Tryz.underlying210,rfl,rfl,by kernel_rfl⟩
abbrev Zhk:=uM Tryz.underlying227
abbrev Zhl:=uM Tryz.underlying238
abbrev Zhm:=uM Tryz.underlying241
instance ZnU:Siz Tryz.prog 241 3:=⟨by kernel_rfl⟩
instance ZnV:Zer Tryz.prog 241 (.agg #[.int .i64 0,.int .i64 0,.int .i64 0]):=⟨by kernel_rfl⟩
abbrev Zhn:=uM Tryz.underlying243
abbrev Zho:=uM Tryz.underlying262
abbrev Zhp:=uM Tryz.underlying263
abbrev Zhq:=uM Tryz.underlying274
abbrev Zhr:=uM Tryz.underlying291
instance ZnW:Siz Tryz.prog 291 3:=⟨by kernel_rfl⟩
instance ZnX:Zer Tryz.prog 291 (.agg #[.int .i64 0,.int .i64 0,.int .i64 0]):=⟨by kernel_rfl⟩
instance ZkT:Fld Tryz.prog 291 0 0:=⟨_,_,0,Tryz.underlying291,rfl,rfl,by kernel_rfl⟩
instance ZkU:Fld Tryz.prog 291 1 1:=⟨_,_,0,Tryz.underlying291,rfl,rfl,by kernel_rfl⟩
instance ZkV:Fld Tryz.prog 291 2 2:=⟨_,_,0,Tryz.underlying291,rfl,rfl,by kernel_rfl⟩
abbrev Zhs:=uM Tryz.underlying297
abbrev Zht:=uM Tryz.underlying303
abbrev Zhu:=uM Tryz.underlying322
abbrev Zhv:=uM Tryz.underlying326
abbrev Zhw:=uM Tryz.underlying329
instance ZnY:Siz Tryz.prog 329 2:=⟨by kernel_rfl⟩
instance ZnZ:Byt Tryz.prog 329 16:=⟨by kernel_rfl⟩
instance Zo0:Zer Tryz.prog 329 (.agg #[.int .i64 0,.int .i64 0]):=⟨by kernel_rfl⟩
instance ZkW:Fld Tryz.prog 329 0 0:=⟨_,_,0,Tryz.underlying329,rfl,rfl,by kernel_rfl⟩
abbrev Zhx:=uM Tryz.underlying340
instance Zo1:Siz Tryz.prog 342 2:=⟨by kernel_rfl⟩
instance ZkX:Fld Tryz.prog 342 1 1:=⟨_,_,0,Tryz.underlying342,rfl,rfl,by kernel_rfl⟩
abbrev Zhy:=uM Tryz.underlying343
instance Zo2:Siz Tryz.prog 343 8:=⟨by kernel_rfl⟩
instance Zo3:Zer Tryz.prog 343 (.agg #[.nilFunc,.nilFunc,.nilFunc,.nilFunc,.nilFunc,.nilFunc,.nilFunc,.nilFunc]):=⟨by kernel_rfl⟩
abbrev Zhz:=uM Tryz.underlying345
abbrev ZkY:=mkF Tryz.func12
abbrev ZkZ:=mkF Tryz.func14
abbrev Zl0:=mkF Tryz.func16
abbrev Zl1:=mkF Tryz.func17
abbrev Zl2:=mkF Tryz.func18
abbrev Zl3:=mkF Tryz.func20
abbrev Zl4:=mkF Tryz.func23
abbrev Zl5:=mkF Tryz.func27
abbrev Zl6:=mkF Tryz.func28
abbrev Zl7:=mkF Tryz.func29
abbrev Zl8:=mkF Tryz.func30
abbrev Zl9:=mkF Tryz.func31
abbrev Zla:=mkF Tryz.func32
abbrev Zlb:=mkF Tryz.func33
abbrev Zlc:=mkF Tryz.func38
abbrev Zld:=mkF Tryz.func40
abbrev Zle:=mkF Tryz.func41
abbrev Zlf:=mkF Tryz.func42
abbrev Zlg:=mkF Tryz.func43
abbrev Zlh:=mkF Tryz.func44
abbrev Zli:=mkF Tryz.func45
abbrev Zlj:=mkF Tryz.func48
abbrev Zlk:=mkF Tryz.func49
abbrev Zll:=mkF Tryz.func50
abbrev Zlm:=mkF Tryz.func57
abbrev Zln:=mkF Tryz.func58
abbrev Zlo:=mkF Tryz.func59
abbrev Zlp:=mkF Tryz.func63
abbrev Zlq:=mkF Tryz.func64
abbrev Zlr:=mkF Tryz.func76
abbrev Zls:=mkF Tryz.func77
abbrev Zlt:=mkF Tryz.func78
abbrev Zlu:=mkF Tryz.func79
abbrev Zlv:=mkF Tryz.func80
abbrev Zlw:=mkF Tryz.func81
abbrev Zlx:=mkF Tryz.func82
abbrev Zly:=mkF Tryz.func83
abbrev Zlz:=mkF Tryz.func91
abbrev ZlA:=mkF Tryz.func92
abbrev ZlB:=mkF Tryz.func94
abbrev ZlC:=mkF Tryz.func95
abbrev ZlD:=mkF Tryz.func96
abbrev ZlE:=mkF Tryz.func97
abbrev ZlF:=mkF Tryz.func98
abbrev ZlG:=mkF Tryz.func99
abbrev ZhA:=mkF Tryz.func109
abbrev ZhB:=mkF Tryz.func110
abbrev ZhC:=mkF Tryz.func111
abbrev ZhD:=mkF Tryz.func112
abbrev ZhE:=mkF Tryz.func117
abbrev ZhF:=mkF Tryz.func118
abbrev ZhG:=mkF Tryz.func119
abbrev ZhH:=mkF Tryz.func120
abbrev ZhI:=mkF Tryz.func127
abbrev ZhJ:=mkF Tryz.func136
abbrev ZhK:=mkF Tryz.func137
abbrev ZhL:=mkF Tryz.func138
abbrev ZhM:=mkF Tryz.func139
abbrev ZhN:=mkF Tryz.func140
abbrev ZhO:=mkF Tryz.func141
abbrev ZhP:=mkF Tryz.func142
abbrev ZhQ:=mkF Tryz.func143
abbrev ZhR:=mkF Tryz.func144
abbrev ZhS:=mkF Tryz.func145
abbrev ZhT:=mkF Tryz.func146
abbrev ZhU:=mkF Tryz.func147
abbrev ZhV:=mkF Tryz.func148
abbrev ZhW:=mkF Tryz.func149
abbrev ZhX:=mkF Tryz.func150
abbrev ZhY:=mkF Tryz.func151
abbrev ZhZ:=mkF Tryz.func152
abbrev Zi0:=mkF Tryz.func153
abbrev Zi1:=mkF Tryz.func154
abbrev Zi2:=mkF Tryz.func155
abbrev Zi3:=mkF Tryz.func156
abbrev Zi4:=mkF Tryz.func157
abbrev Zi5:=mkF Tryz.func158
abbrev Zi6:=mkF Tryz.func159
abbrev Zi7:=mkF Tryz.func160
abbrev Zi8:=mkF Tryz.func161
abbrev Zi9:=mkF Tryz.func165
abbrev Zia:=mkF Tryz.func167
abbrev Zib:=mkF Tryz.func168
abbrev Zic:=mkF Tryz.func176
abbrev Zid:=mkF Tryz.func178
abbrev Zie:=mkF Tryz.func179
abbrev Zif:=mkF Tryz.func180
abbrev Zig:=mkF Tryz.func185
abbrev Zih:=mkF Tryz.func186
abbrev Zii:=mkF Tryz.func187
abbrev Zij:=mkF Tryz.func202
abbrev Zik:=mkF Tryz.func203
abbrev Zil:=mkF Tryz.func204
abbrev Zim:=mkF Tryz.func205
abbrev Zin:=mkF Tryz.func206
abbrev Zio:=mkF Tryz.func207
abbrev Zip:=mkF Tryz.func208
abbrev Ziq:=mkF Tryz.func209
abbrev Zir:=mkF Tryz.func210
abbrev Zis:=mkF Tryz.func211
abbrev Zit:=mkF Tryz.func212
abbrev Ziu:=mkF Tryz.func213
abbrev Ziv:=mkF Tryz.func214
abbrev Ziw:=mkF Tryz.func215
abbrev Zix:=mkF Tryz.func217
abbrev Ziy:=mkF Tryz.func224
abbrev Ziz:=mkF Tryz.func225
abbrev ZiA:=mkF Tryz.func226
abbrev ZiB:=mkF Tryz.func227
abbrev ZiC:=mkF Tryz.func228
abbrev ZiD:=mkF Tryz.func229
abbrev ZiE:=mkF Tryz.func230
abbrev ZiF:=mkF Tryz.func231
abbrev ZiG:=mkF Tryz.func232
abbrev ZiH:=mkF Tryz.func233
abbrev ZiI:=mkF Tryz.func234
abbrev ZiJ:=mkF Tryz.func235
abbrev ZiK:=mkF Tryz.func236
abbrev ZiL:=mkF Tryz.func237
abbrev ZiM:=mkF Tryz.func238
abbrev ZiN:=mkF Tryz.func239
abbrev ZiO:=mkF Tryz.func251
abbrev ZiP:=mkF Tryz.func267
abbrev ZiQ:=mkF Tryz.func268
abbrev ZiR:=mkF Tryz.func269
abbrev ZiS:=mkF Tryz.func270
abbrev ZiT:=mkF Tryz.func271
abbrev ZiU:=mkF Tryz.func272
abbrev ZiV:=mkF Tryz.func273
abbrev ZiW:=mkF Tryz.func274
abbrev ZiX:=mkF Tryz.func275
abbrev ZiY:=mkF Tryz.func280
abbrev ZiZ:=mkF Tryz.func281
abbrev Zj0:=mkF Tryz.func282
abbrev Zj1:=mkF Tryz.func283
abbrev Zj2:=mkF Tryz.func284
abbrev Zj3:=mkF Tryz.func285
abbrev Zj4:=mkF Tryz.func286
abbrev Zj5:=mkF Tryz.func300
abbrev Zj6:=mkF Tryz.func305
abbrev Zj7:=mkF Tryz.func306
abbrev Zj8:=mkF Tryz.func307
abbrev Zj9:=mkF Tryz.func310
abbrev Zja:=mkF Tryz.func312
abbrev Zjb:=mkF Tryz.func325
abbrev Zjc:=mkF Tryz.func329
abbrev Zjd:=mkF Tryz.func330
abbrev Zje:=mkF Tryz.func331
abbrev Zjf:=mkF Tryz.func339
abbrev Zjg:=mkF Tryz.func341
abbrev Zjh:=mkF Tryz.func342
abbrev Zji:=mkF Tryz.func344
abbrev Zjj:=mkF Tryz.func346
abbrev Zjk:=mkF Tryz.func347
abbrev Zjl:=mkF Tryz.func348
abbrev Zjm:=mkF Tryz.func354
abbrev CC (f:Nat) (a:Array Value) (w:World) (G:Value→World→Prop):=Calls Tryz.prog f a w (Ret G)
attribute [instance] Zny Znz ZnA ZnB Zk3 Zk4 Zk5 Zk6 Zk7 Zk8 Zk9 Zka Zkb Zkc Zkd Zke Zkf Zkg Zkh Zki Zkj Zkk Zkl Zkm Zha Zhb Zhc Zhd Zhe Zhf Zhg Zhh Zhi Zhj Zhk Zhl Zhm Zhn Zho Zhp Zhq Zhr Zhs Zht Zhu Zhv Zhw Zhx Zhy Zhz ZkY ZkZ Zl0 Zl1 Zl2 Zl3 Zl4 Zl5 Zl6 Zl7 Zl8 Zl9 Zla Zlb Zlc Zld Zle Zlf Zlg Zlh Zli Zlj Zlk Zll Zlm Zln Zlo Zlp Zlq Zlr Zls Zlt Zlu Zlv Zlw Zlx Zly Zlz ZlA ZlB ZlC ZlD ZlE ZlF ZlG ZhA ZhB ZhC ZhD ZhE ZhF ZhG ZhH ZhI ZhJ ZhK ZhL ZhM ZhN ZhO ZhP ZhQ ZhR ZhS ZhT ZhU ZhV ZhW ZhX ZhY ZhZ Zi0 Zi1 Zi2 Zi3 Zi4 Zi5 Zi6 Zi7 Zi8 Zi9 Zia Zib Zic Zid Zie Zif Zig Zih Zii Zij Zik Zil Zim Zin Zio Zip Ziq Zir Zis Zit Ziu Ziv Ziw Zix Ziy Ziz ZiA ZiB ZiC ZiD ZiE ZiF ZiG ZiH ZiI ZiJ ZiK ZiL ZiM ZiN ZiO ZiP ZiQ ZiR ZiS ZiT ZiU ZiV ZiW ZiX ZiY ZiZ Zj0 Zj1 Zj2 Zj3 Zj4 Zj5 Zj6 Zj7 Zj8 Zj9 Zja Zjb Zjc Zjd Zje Zjf Zjg Zjh Zji Zjj Zjk Zjl Zjm
end Go.Proofs.YtjdjdoefppebkaaGreatDoor
namespace Go.Eng
open Go Go.RowKit Go.Proofs
inductive Nd where
 | mk (kind n:Int) (s:Str) (kids:List Nd)
namespace Nd
def kind:Nd→Int|mk k _ _ _=>k
def num:Nd→Int|mk _ n _ _=>n
def word:Nd→Str|mk _ _ s _=>s
def kids:Nd→List Nd|mk _ _ _ l=>l
theorem eta (x:Nd):x=mk x.kind x.num x.word x.kids:=by cases x;rfl
theorem ind {P:Nd→Prop} (h:∀ k n s l,(∀ x∈l,P x)→P (mk k n s l)):∀ x,P x
 | mk k n s l=>h k n s l (fun x hx=>ind h x)
 decreasing_by
  have:=List.sizeOf_lt_of_mem hx
  simp only [mk.sizeOf_spec]
  omega
end Nd
inductive Z3g (X:List Nat) (w:World):Nd→List Value→Prop
 | mk (k n : Int) (s : Str) (l : List Nd) (p : Option Addr) (c : Nat) (b o : Nat) (css : Nat → List Value) (hl : l.length ≤ c) (hm : c ≤ maxLen) (hn : p = none → c = 0)
    (hp:0<l.length→p=some ⟨b,o,none⟩∧b<w.heap.size∧b∉X) (hr:∀ i (h:i<l.length),Z3g X w l[i] (css i))
    (hc:∀ i,i<l.length→∀ j u,(css i)[j]?=some u→w.cell? ⟨b,o+i * 4+j,none⟩=some u) :
    Z3g X w (.mk k n s l) [.int .i64 k,.int .i64 n,str s,.slice p l.length c]
theorem Z3g.ext {X S X':List Nat} {w w':World} {x:Nd} {cs:List Value} (h:Z3g X w x cs) (hS:Stp S w w') (h1:∀ b∈S,b∈X) (h2:∀ b∈X',b∈X∨w.heap.size≤b):Z3g X' w' x cs:=by
 induction h with
 | mk k n s l p c b o css hl hm hn hp hr hc ih=>
   refine .mk k n s l p c b o css hl hm hn (fun h0=>?_) ih (fun i hi j u hu=>?_)
   obtain ⟨e1,e2,e3⟩:=hp h0
   refine ⟨e1,Xa e2 hS.size,fun hb=>?_⟩
   rcases h2 b hb with h|h
   exact e3 h
   omega
   obtain ⟨_,_,e3⟩:=hp (by omega)
   exact hS.cell (fun hb=>e3 (h1 b hb)) (hc i hi j u hu)
instance:Zd Nd where
 k:=4
 rep:=Z3g
 len:=by intro X w x cs h;cases h;rfl
 one:=by
  intro X w x cs h u hu
  cases h
  simp at hu
  rcases hu with rfl|rfl|rfl|rfl<;>rfl
 ext:=Z3g.ext
def NdV (X:List Nat) (w:World) (v:Value) (x:Nd):Prop:=∃ kv,v=.agg #[.int .i64 x.kind,.int .i64 x.num,str x.word,kv]∧SlV X w kv x.kids
theorem Zd5 {X:List Nat} {w:World} {x:Nd} {cs:List Value} (h:Z3g X w x cs):∃ kv,cs=[.int .i64 x.kind,.int .i64 x.num,str x.word,kv]∧SlV X w kv x.kids:=by
 cases h with
 | mk k n s l p c b o css hl hm hn hp hr hc=>
   refine ⟨_,rfl,p,c,rfl,hl,hm,hn,fun i hi=>?_⟩
   obtain ⟨e1,e2,e3⟩:=hp (by show 0<l.length;have:i<l.length:=hi;omega)
   exact ⟨b,o,css i,e1,e2,e3,hr i hi,hc i hi⟩
theorem Z20 {X:List Nat} {w:World} {k n:Int} {s:Str} {l:List Nd} {kv:Value} (h:SlV X w kv l):Z3g X w (.mk k n s l) [.int .i64 k,.int .i64 n,str s,kv]:=by
 obtain ⟨p,c,rfl,hl,hm,hn,hc⟩:=h
 have hall:∀ i:Fin l.length,∃ cs:List Value,∃ b o,p=some ⟨b,o,none⟩∧b<w.heap.size∧b∉X∧Z3g X w l[i] cs∧∀ j u,cs[j]?=some u→w.cell? ⟨b,o+i * 4+j,none⟩=some u:=by
  intro i
  obtain ⟨b,o,cs,h1,h2,h3,h4,h5⟩:=hc i i.2
  exact ⟨cs,b,o,h1,h2,h3,h4,h5⟩
 obtain ⟨f,hf⟩:=Classical.axiomOfChoice hall
 by_cases h0:0<l.length
 obtain ⟨b,o,e1,e2,e3,_⟩:=hf ⟨0,h0⟩
 refine .mk k n s l p c b o (fun i=>if h:i<l.length then f ⟨i,h⟩ else []) hl hm hn (fun _=>⟨e1,e2,e3⟩) (fun i hi=>?_) (fun i hi j u hu=>?_)
 obtain ⟨_,_,_,_,_,g,_⟩:=hf ⟨i,hi⟩
 simpa [hi] using g
 obtain ⟨b',o',g1,_,_,_,g⟩:=hf ⟨i,hi⟩
 rw [e1] at g1
 simp only [Xj,Addr.mk.injEq] at g1
 obtain ⟨rfl,rfl,_⟩:=g1
 exact g j u (by simpa [hi] using hu)
 exact .mk k n s l p c 0 0 (fun _=>[]) hl hm hn (fun h=>absurd h h0) (fun i hi=>by omega) (fun i hi=>by omega)
theorem NdV.up {X:List Nat} {w w':World} {v:Value} {x:Nd} (h:NdV X w v x) (hS:Stp [] w w'):NdV X w' v x:=by
 obtain ⟨kv,rfl,hs⟩:=h
 exact ⟨kv,rfl,hs.up hS⟩
theorem SlV.nd {X:List Nat} {w:World} {v:Value} {l:List Nd} {i:Nat} (h:SlV X w v l) (hi:i<l.length):∃ kv,SlV X w kv l[i].kids∧∀ j u,[Value.int .i64 l[i].kind,.int .i64 l[i].num,str l[i].word,kv][j]?=some u→w.cell? (Zz v i 4 j)=some u:=by
 obtain ⟨cs,hr,hc⟩:=h.cell hi
 obtain ⟨kv,rfl,hs⟩:=Zd5 hr
 exact ⟨kv,hs,hc⟩
section
variable {P:Program} {n:Nat} {e:Env} {w:World} {d:Option Nat} {ty:TypeId} {pos:String} {af:Array Edge} {g:Option (Nat×Bool)}
theorem ZM {X:List Nat} {v:Value} {l:List Nd} {i:Nat} {kv:Value} {x:Operand} {t:TypeId} {D:TypeDesc} [hu:Und P t D] (hA:JG D=true) [hsz:Siz P t 4] (hx:ev e x=some (.pointer (some (Zz v i 4 0)))) (hs:SlV X w v l) (hi:i<l.length)
 (hc:∀ j u,[Value.int .i64 l[i].kind,.int .i64 l[i].num,str l[i].word,kv][j]?=some u→w.cell? (Zz v i 4 j)=some u) :
 PR P n ⟨d,.load t x,ty,pos,af,g⟩ e w (.agg #[.int .i64 l[i].kind,.int .i64 l[i].num,str l[i].word,kv]):=by
 obtain ⟨p,l',c,rfl⟩:=hs.isSome hi
 refine Z5o (cs:=[.int .i64 l[i].kind,.int .i64 l[i].num,str l[i].word,kv]) hA hx rfl (fun j u hu=>?_)
 have:=hc j u hu
 simpa [Zz] using this
end
end Go.Eng
namespace Go.Proofs.YtjdjdoefppebkaaGreatDoor
open Go Go.Eng Go.RowKit
abbrev ndC (x:Nd) (kv:Value):List Value:=[.int .i64 x.kind,.int .i64 x.num,str x.word,kv]
theorem Zh {X:List Nat} {w:World} {x:Nd} {kv:Value} {l:List Nd} (h:SlV X w kv l):∀ c∈ndC x kv,c.oneCell'=true:=by
 intro c hc
 simp only [ndC,Xf,Xk,or_false] at hc
 rcases hc with rfl|rfl|rfl|rfl
 rfl
 rfl
 rfl
 exact h.one
def Z0p:Nat→Nd→Bool
 | 0,_=>false
 | m+1,x=>x.kids.all (Z0p m)
theorem Z6m {α:Type} (p:α→Bool) (l:List α) (k:Nat) (hk:k<l.length):(l.take (k+1)).all p=((l.take k).all p && p l[k]):=by
 rw [Xr hk,List.all_append]
 simp
theorem Z9I (m:Nat):∀ (X:List Nat) (v:Value) (x:Nd) (z:Int) (w:World),z=(m:Int)→m≤1000→NdV X w v x→
 CC 91 #[v,.int .i64 z] w fun r w'=>r=.bool (Z0p m x)∧Stp [] w w':=by
 induction m with
 | zero=>
   intro X v x z w hz hm hx
   obtain ⟨kv,rfl,hs⟩:=hx
   refine cW2 22 Tryz.func91 ?_
   refine W ?_
   refine Z3 (Zq rfl) rfl ?_
   rintro _ w1 ⟨b,rfl,hb,hblk,hS⟩
   repeat'(first|refine W1 ?_|omega|refine VG ?_ ?_<;>intro hg|refine VC ?_ ?_<;>intro hc)
   refine WR ?_
   exact .mk ⟨rfl,hS⟩
 | succ m ih=>
   intro X v x z w hz hm hx
   obtain ⟨kv,rfl,hs⟩:=hx
   have hmax:=hs.max
   refine cW2 22 Tryz.func91 ?_
   refine W ?_
   refine Z3 (Zq rfl) rfl ?_
   rintro _ w1 ⟨b,rfl,hb,hblk,hS⟩
   replace hblk:Blk w1 b _ (ndC x kv):=hblk
   replace hs:=hs.up hS
   repeat'(first|refine W1 ?_|omega|refine VG ?_ ?_<;>intro hg|refine VC ?_ ?_<;>intro hc)
   have hs0:=hs
   refine Zv (σ:=Nat) (fun k=>[(1,.int .i64 z),(10,kv),(11,.int .i64 (x.kids.length:Int)),(12,.int .i64 k)]) (fun k w'=>k≤x.kids.length∧Stp [] w1 w'∧(x.kids.take k).all (Z0p m)=true) (fun k=>x.kids.length - k) 0 ⟨rfl,rfl,rfl,rfl,trivial⟩ ⟨Xu _,Stp.refl _ _,rfl⟩ ?_
   clear hs
   rintro k w2 ⟨hk,hS2,hall⟩
   have hs:=hs0.up hS2
   by_cases hlt:k<x.kids.length
   · have hnx:=Z6m (Z0p m) x.kids k hlt
     rw [hall,Bool.true_and] at hnx
     obtain ⟨kv2,hs2,hc2⟩:=hs.nd hlt
     repeat'(first|refine W1 ?_|omega|refine VG ?_ ?_<;>intro hg|refine VC ?_ ?_<;>intro hc)
     apply Ze (ZM rfl rfl hs hlt hc2) rfl
     refine Z3 Z6 rfl ?_
     rintro _ w3 ⟨b3,rfl,hb3,hblk3,hS3⟩
     refine Z1 (Z2 (us:=ndC x.kids[k] kv2) rfl rfl rfl rfl (Zh hs2) hblk3 rfl) ?_
     rintro _ w4 ⟨hS4,hblk4⟩
     have hS34:=hS3.own hS4 (fun b hb=>.inr (by simp at hb;omega))
     replace hS2:=hS2.trans hS34
     replace hs2:=hs2.up hS34
     refine W ?_
     refine CL rfl (Zb rfl rfl) rfl (ih X _ x.kids[k] _ _ (by omega) (by omega) ⟨kv2,rfl,hs2⟩) ?_
     rintro _ w5 ⟨rfl,hS5⟩
     replace hS2:=hS2.trans hS5
     cases hq:Z0p m x.kids[k] with
     | true=>
       refine W ?_
       exact Zp (k+1) ⟨rfl,rfl,rfl,rfl,trivial⟩ ⟨hlt,hS2,by rw [hnx,hq]⟩ (by omega)
     | false=>
       refine W ?_
       refine WR ?_
       refine .mk ⟨?_,hS.trans hS2⟩
       have:Z0p (m+1) x=false:=by
        show x.kids.all (Z0p m)=false
        rw [List.all_eq_false]
        exact ⟨_,Xh hlt,by simp [hq]⟩
       rw [this]
   have hke:k=x.kids.length:=by omega
   subst hke
   rw [XC] at hall
   focus repeat'(first|refine W1 ?_|omega|refine VG ?_ ?_<;>intro hg|refine VC ?_ ?_<;>intro hc)
   refine WR ?_
   refine .mk ⟨?_,hS.trans hS2⟩
   show _=Value.bool (x.kids.all (Z0p m))
   rw [hall]
end Go.Proofs.YtjdjdoefppebkaaGreatDoor
namespace Go.Eng
open Go Go.RowKit Go.Proofs
class Z9J (P:Program) (kt:Nat) (κ:outParam Type) [DecidableEq κ] where
 enc:κ→Value
 chk:∀ (em:Bool) (a:κ) (w:World),(Instr.checkKey em 10000 kt (enc a)).run P w=.ok () w
 find:∀ (a:κ) (es:List MapEntry) (l:List κ) (w:World),es.map (·.key)=l.map enc→
  (Instr.findKey kt (enc a) es).run P w=.ok ((l.findIdx? (fun b=>decide (b=a))).bind fun i=>(es[i]?).map fun e=>(i,e.val)) w
def Jp {κ:Type} (enc:κ→Value) (w:World) (r:Nat) (l:List (κ×Value)):Prop:=
 ∃ (es:Array MapEntry) (clock:Nat),w.heap[r]?=some (.map es clock)∧es.toList.map (·.key)=l.map (fun p=>enc p.1)∧es.toList.map (·.val)=l.map (·.2)
theorem Jp.lt {κ:Type} {enc:κ→Value} {w:World} {r:Nat} {l:List (κ×Value)} (h:Jp enc w r l):r<w.heap.size:=by
 obtain ⟨es,c,h1,_⟩:=h
 exact (Array.getElem?_eq_some_iff.1 h1).1
theorem Jp.ext {κ:Type} {enc:κ→Value} {S:List Nat} {w w':World} {r:Nat} {l:List (κ×Value)} (h:Jp enc w r l) (hS:Stp S w w') (hr:r∉S):Jp enc w' r l:=by
 have hlt:=h.lt
 obtain ⟨es,c,h1,h2⟩:=h
 exact ⟨es,c,by rw [hS.block r hlt hr];exact h1,h2⟩
theorem Jp.up {κ:Type} {enc:κ→Value} {w w':World} {r:Nat} {l:List (κ×Value)} (h:Jp enc w r l) (hS:Stp [] w w'):Jp enc w' r l:=h.ext hS (by simp)
def Z2k {κ:Type} [DecidableEq κ] (l:List (κ×Value)) (a:κ) (z:Value):Value:=match l.find? (fun p=>decide (p.1=a)) with|some p=>p.2|none=>z
theorem Z3q {d:TypeDesc} {κ:Type} [DecidableEq κ] (enc:κ→Value) (h:∀ a b:κ,Instr.sameNow d (enc a) (enc b)=some (decide (a=b))) (a:κ):∀ (es:List MapEntry) (l:List κ) (i:Nat),es.map (·.key)=l.map enc→
 Instr.findNow d (enc a) es i=some ((l.findIdx? (fun b=>decide (b=a))).bind fun j=>(es[j]?).map fun e=>(i+j,e.val))
 | [],[],i,_=>by simp [Instr.findNow]
 | [],_ :: _,i,h=>by simp at h
 | _ :: _,[],i,h=>by simp at h
 | e :: es, b :: l, i, hk => by
   simp only [Xl,Yao] at hk
   obtain ⟨h1,h2⟩:=hk
   have ih:=Z3q enc h a es l (i+1) h2
   simp only [Instr.findNow,h1,h]
   by_cases hab:a=b
   subst hab
   simp [List.findIdx?_cons]
   · have hba:¬ b=a:=fun h=>hab h.symm
     simp only [decide_eq_false hab,ih,List.findIdx?_cons,decide_eq_false hba,XE,if_false]
     cases l.findIdx? (fun b=>decide (b=a)) with
     | none=>rfl
     | some j=>
       simp only [XJ,Yap,List.getElem?_cons_succ]
       rw [show i+1+j=i+(j+1) by omega]
theorem Z3j {P:Program} {kt:Nat} {κ:Type} [DecidableEq κ] (enc:κ→Value) (h:∀ (a b:κ) (w:World),(Op.equal kt (enc a) (enc b)).run P w=.ok (decide (a=b)) w) (a:κ) (w:World):∀ (es:List MapEntry) (l:List κ) (i:Nat),es.map (·.key)=l.map enc→
 (Instr.findAsking kt (enc a) es i).run P w=.ok ((l.findIdx? (fun b=>decide (b=a))).bind fun j=>(es[j]?).map fun e=>(i+j,e.val)) w
 | [],[],i,_=>by simp [Instr.findAsking]
 | [],_ :: _,i,h=>by simp at h
 | _ :: _,[],i,h=>by simp at h
 | e :: es, b :: l, i, hk => by
   simp only [Xl,Yao] at hk
   obtain ⟨h1,h2⟩:=hk
   have ih:=Z3j enc h a w es l (i+1) h2
   simp only [Instr.findAsking,h1]
   by_cases hab:a=b
   subst hab
   simp [List.findIdx?_cons,h]
   · have hba:¬ b=a:=fun h=>hab h.symm
     simp only [Sem.run_bind,h,decide_eq_false hab,Result.andThen,List.findIdx?_cons,decide_eq_false hba,XE,if_false,ih]
     cases l.findIdx? (fun b=>decide (b=a)) with
     | none=>rfl
     | some j=>
       simp only [XJ,Yap,List.getElem?_cons_succ]
       rw [show i+1+j=i+(j+1) by omega]
instance {P:Program} {kt:Nat} [hu:Und P kt (.int .i64)]:Z9J P kt Int where
 enc:=fun z=>.int .i64 z
 chk:=fun em a w=>MapKept.run_checkKey (k:=.int .i64 a) hu.h (by simp [MapKept.IsKey]) em 9999
 find:=fun a es l w hk=>by
  have:=Z3q (d:=.int .i64) (fun z:Int=>Value.int .i64 z) (fun a b=>by simp [Instr.sameNow,X9]) a es l 0 hk
  simpa using MapKept.run_findKey (w:=w) hu.h this
instance Zgk {P:Program} {kt:Nat} [hu:Und P kt .string]:Z9J P kt Str where
 enc:=str
 chk:=fun em a w=>MapKept.run_checkKey (k:=str a) hu.h (by simp [MapKept.IsKey]) em 9999
 find:=fun a es l w hk=>by
  have:=Z3q (d:=.string) str (fun a b=>by
   simp only [Instr.sameNow,Xj]
   rw [beq_toListBytes,ZeP]) a es l 0 hk
  simpa using MapKept.run_findKey (w:=w) hu.h this
section
variable {P:Program} {n:Nat} {e:Env} {w:World} {d:Option Nat} {ty:TypeId} {pos:String} {af:Array Edge} {g:Option (Nat×Bool)}
theorem Z0j {t:TypeId} {κ:Type} (enc:κ→Value):OE P n ⟨d,.makeMap t none,ty,pos,af,g⟩ e w (fun v w'=>∃ r,v=.map (some r)∧w.heap.size≤r∧Jp enc w' r []∧Stp [] w w'):=
 JH (v:=.map (some w.heap.size)) (w':=w.alloc (.map #[] 0)) (fun a ha=>by
  simp [execOp,run_makeMap]) ⟨_,rfl,Xm _,⟨#[],0,heap_alloc_new w _,rfl,rfl⟩,Stp.alloc _ _ _⟩
theorem Z9K {κ:Type} [DecidableEq κ] {l:List κ} {a:κ} (h:∀ b∈l,¬ b=a):l.findIdx? (fun b=>decide (b=a))=none:=by
 rw [List.findIdx?_eq_none_iff]
 intro b hb
 simp [h b hb]
theorem Z5u {mt kt et r:Nat} {κ:Type} [DecidableEq κ] [hm:Und P mt (.map kt et)] [K:Z9J P kt κ] {l:List (κ×Value)} {a:κ} {v:Value} (hr:Jp K.enc w r l) (hn:∀ p∈l,¬ p.1=a) :
 ∃ w',(Instr.mapUpdate mt (.map (some r)) (K.enc a) v).run P w=.ok () w'∧Jp K.enc w' r (l++[(a,v)])∧Stp [r] w w':=by
 obtain ⟨es,clock,h1,h2,h3⟩:=hr
 have hf:(Instr.findKey kt (K.enc a) es.toList).run P w=.ok none w:=by
  have hk:es.toList.map (·.key)=(l.map (·.1)).map K.enc:=by rw [h2,YaE];rfl
  rw [K.find a es.toList (l.map (·.1)) w hk,Z9K (by simpa using hn)]
  rfl
 have hlt:r<w.heap.size:=(Array.getElem?_eq_some_iff.1 h1).1
 refine ⟨{ w with heap:=w.heap.setIfInBounds r (.map (es.push { key:=K.enc a,val:=v,born:=clock }) (clock+1)) },?_,?_,?_⟩
 simp [Instr.mapUpdate,run_underlying hm.h,MapKept.run_getObj_map h1,K.chk,hf,MapKept.run_setObj_map _ h1,Result.andThen]
 refine ⟨es.push { key:=K.enc a,val:=v,born:=clock },clock+1,by simp [hlt],?_,?_⟩
 simp [h2]
 simp [h3]
 refine ⟨rfl,rfl,rfl,by simp,fun b hb hn=>?_⟩
 simp only [Xp] at hn
 simp [Array.getElem?_setIfInBounds_ne (fun h=>hn h.symm)]
theorem Zo {mt kt et r:Nat} {κ:Type} [DecidableEq κ] {x y z:Operand} [hm:Und P mt (.map kt et)] [K:Z9J P kt κ] {l:List (κ×Value)} {a:κ} {v:Value} (hx:ev e x=some (.map (some r))) (hy:ev e y=some (K.enc a)) (hz:ev e z=some v) (hr:Jp K.enc w r l) (hn:∀ p∈l,¬ p.1=a) :
 OE P n ⟨d,.insert mt x y z,ty,pos,af,g⟩ e w (fun _ w'=>Jp K.enc w' r (l++[(a,v)])∧Stp [r] w w'):=by
 obtain ⟨w',h1,h2,h3⟩:=Z5u (mt:=mt) (v:=v) hr hn
 exact Z3I (w':=w') (fun c hc=>by simp [execOp,hc.ev hx,hc.ev hy,hc.ev hz,h1]) ⟨h2,h3⟩
theorem Z6z {mt kt et r:Nat} {κ:Type} [DecidableEq κ] {x y z:Operand} [hm:Und P mt (.map kt et)] [K:Z9J P kt κ] {l:List (κ×Value)} {a:κ} {v:Value} (hx:ev e x=some (.map (some r))) (hy:ev e y=some (K.enc a)) (hz:ev e z=some v) (hr:Jp K.enc w r l) (hn:∀ p∈l,¬ p.1=a) :
 OE P n ⟨d,.mapUpdate mt x y z,ty,pos,af,g⟩ e w (fun _ w'=>Jp K.enc w' r (l++[(a,v)])∧Stp [r] w w'):=by
 obtain ⟨w',h1,h2,h3⟩:=Z5u (mt:=mt) (v:=v) hr hn
 exact Z3I (w':=w') (fun c hc=>by simp [execOp,hc.ev hx,hc.ev hy,hc.ev hz,h1]) ⟨h2,h3⟩
theorem Z0A {mt kt et r:Nat} {κ:Type} [DecidableEq κ] {x y:Operand} {z:Value} [hm:Und P mt (.map kt et)] [K:Z9J P kt κ] [hz:Zer P et z] {l:List (κ×Value)} {a:κ} (hx:ev e x=some (.map (some r))) (hy:ev e y=some (K.enc a)) (hr:Jp K.enc w r l) :
 PR P n ⟨d,.lookup mt x y false,ty,pos,af,g⟩ e w (Z2k l a z):=by
 refine ⟨fun c hc=>?_⟩
 obtain ⟨es,clock,h1,h2,h3⟩:=hr
 have hk:es.toList.map (·.key)=(l.map (·.1)).map K.enc:=by rw [h2,YaE];rfl
 have hf:=K.find a es.toList (l.map (·.1)) w hk
 have hlen:es.toList.length=l.length:=by have:=congrArg List.length h3;simpa using this
 have hv:∀ i:Nat,(es.toList[i]?).map (fun x:MapEntry=>x.val)=(l[i]?).map (fun x:κ×Value=>x.2):=fun i=>by
  have:=congrArg (fun x=>x[i]?) h3
  simpa using this
 have hfind:Z2k l a z=match (l.map (·.1)).findIdx? (fun b=>decide (b=a)) with|some i=>((es.toList[i]?).map (fun x:MapEntry=>x.val)).getD z|none=>z:=by
  unfold Z2k
  rw [List.findIdx?_map]
  cases hi:l.findIdx? ((fun b=>decide (b=a)) ∘ fun x=>x.1) with
  | none=>
    have:l.find? (fun p=>decide (p.1=a))=none:=by
     rw [List.find?_eq_none]
     intro p hp
     have:=(List.findIdx?_eq_none_iff.1 hi) p hp
     simpa using this
    rw [this]
  | some i=>
    obtain ⟨hlt,hp,hb⟩:=List.findIdx?_eq_some_iff_getElem.1 hi
    have:l.find? (fun p=>decide (p.1=a))=some l[i]:=by
     rw [List.find?_eq_some_iff_getElem]
     exact ⟨by simpa using hp,i,hlt,rfl,fun j hj=>by simpa using hb j hj⟩
    rw [this]
    simp only [hv,List.getElem?_eq_getElem hlt,Yap,X4]
 rw [hfind]
 simp only [execOp,hc.ev hx,hc.ev hy]
 cases hi:(l.map (·.1)).findIdx? (fun b=>decide (b=a)) with
 | none=>
   rw [hi] at hf
   simp [Instr.lookup,run_underlying hm.h,MapKept.run_getObj_map h1,K.chk,hf,Result.andThen,Zer.run]
 | some i=>
   obtain ⟨hlt,_⟩:=List.findIdx?_eq_some_iff_getElem.1 hi
   have hlt':i<es.toList.length:=by rw [hlen];simpa using hlt
   rw [hi] at hf
   simp only [XJ,List.getElem?_eq_getElem hlt',Yap] at hf
   simp [Instr.lookup,run_underlying hm.h,MapKept.run_getObj_map h1,K.chk,hf,Result.andThen,List.getElem?_eq_getElem hlt']
end
end Go.Eng
namespace Go.Proofs.YtjdjdoefppebkaaGreatDoor
open Go Go.Eng Go.RowKit
def idx {α:Type} (p:α→Bool) (xs:List α):Int:=match xs.findIdx? p with|some i=>(i:Int)|none=>-1
theorem Zbp {α:Type} {p:α→Bool} {xs:List α} {k:Nat} (hk:k<xs.length) (hp:p xs[k]=true) (hb:∀ j (h:j<xs.length),j<k→p xs[j]=false):idx p xs=k:=by
 have:xs.findIdx? p=some k:=List.findIdx?_eq_some_iff_getElem.2 ⟨hk,hp,fun j hj=>by simp [hb j (by omega) hj]⟩
 simp [idx,this]
theorem Z8k {α:Type} {p:α→Bool} {xs:List α} (hb:∀ j (h:j<xs.length),p xs[j]=false):idx p xs=-1:=by
 have:xs.findIdx? p=none:=by
  rw [List.findIdx?_eq_none_iff]
  intro x hx
  obtain ⟨j,hj,rfl⟩:=Xo hx
  simp [hb j hj]
 simp [idx,this]
abbrev isS (a:Str):Str→Bool:=fun x=>decide (x=a)
theorem Zbq (X:List Nat) (v:Value) (l:List Str) (a:Str) (w:World) (hs:SlV X w v l):CC 161 #[v,str a] w fun r w'=>r=.int .i64 (idx (isS a) l)∧Stp [] w w':=by
 have hmax:=hs.max
 refine cW2 19 Tryz.func161 ?_
 refine W ?_
 refine Zv (σ:=Nat) (fun k=>[(0,v),(1,str a),(8,.int .i64 k),(7,.int .i64 (l.length:Int))]) (fun k w'=>k≤l.length∧Stp [] w w'∧∀ j (h:j<l.length),j<k→isS a l[j]=false) (fun k=>l.length - k) 0 ⟨rfl,rfl,rfl,rfl,trivial⟩ ⟨Xu _,Stp.refl _ _,fun j _ h=>absurd h (XB _)⟩ ?_
 have hs0:=hs
 clear hs
 rintro k w1 ⟨hk,hS,hno⟩
 have hs:=hs0.up hS
 by_cases hlt:k<l.length
 focus repeat'(first|refine W1 ?_|omega|refine VG ?_ ?_<;>intro hg|refine VC ?_ ?_<;>intro hc)
 refine WR ?_
 have he':isS a l[k]=true:=by simpa [isS,eq_comm] using hc
 exact .mk ⟨by rw [Zbp hlt he' hno],hS⟩
 refine Zp (k+1) ⟨rfl,rfl,rfl,rfl,trivial⟩ ⟨hlt,hS,fun j h hj=>?_⟩ (by omega)
 by_cases e:j=k
 subst e;simpa [isS,eq_comm] using hc
 exact hno j h (by omega)
 have hke:k=l.length:=by omega
 subst hke
 focus repeat'(first|refine W1 ?_|omega|refine VG ?_ ?_<;>intro hg|refine VC ?_ ?_<;>intro hc)
 refine WR ?_
 exact .mk ⟨by rw [Z8k (fun j h=>hno j h h)],hS⟩
def Z8:List Str:=[[100,97,121],[115,101,114,118,101,100],[101,120,116,114,97],[98,121],[116,111],[99,111,117,114,116],[97,109,111,117,110,116]]
abbrev Z2l:Value:=.slice (some ⟨0,0,none⟩) 7 7
def ZB (a:Str):Int×Int×Bool:=
 let i:=idx (isS a) Z8
 if i<0 then (0,0,false) else if i≤1 then (i,3,true) else (i,1,true)
abbrev Zo4 (x:Int×Int×Bool):Value:=.tuple #[.int .i64 x.1,.int .i64 x.2.1,.bool x.2.2]
theorem Z4o (a:Str) (w:World) (hF:SlV [] w Z2l Z8):CC 81 #[str a] w fun r w'=>r=Zo4 (ZB a)∧Stp [] w w':=by
 refine cW1 17 Tryz.func81 ?_
 refine W ?_
 apply Ze (Zbi rfl) rfl
 refine W ?_
 refine CL rfl (Zb rfl rfl) rfl (Zbq [] _ _ a _ hF) ?_
 rintro _ w1 ⟨rfl,hS⟩
 unfold ZB
 generalize idx (isS a) Z8=i
 repeat'(first|refine W1 ?_|refine VG ?_ ?_<;>intro hg|refine VC ?_ ?_<;>intro hc)
 all_goals (refine WR ?_)
 exact .mk ⟨by simp only [if_pos hc],hS⟩
 rename_i h1
 exact .mk ⟨by simp only [if_neg h1,if_pos hc],hS⟩
 rename_i h1
 exact .mk ⟨by simp only [if_neg h1,if_neg hc],hS⟩
theorem _root_.Go.Eng.Row.slv0 {α:Type} [Zd α] {w:World} {base T:Nat} {v:Value} {xs:List α} (h:Row [] w base T v xs):SlV [] w v xs:=h.slv (by simp)
def Z05 (k n:Int) (s:Str):Int:=
 if k=4 then (if n=0 then (ZB s).2.1 else 0) else if ¬ s=[] then 0
 else if k=1 then (if 0≤n∧n≤2147483647 then 1 else 0) else if k=2 then (if 0≤n∧n≤1 then 2 else 0) else if k=3 then (if 0≤n∧n≤3652058 then 3 else 0) else 0
theorem Z4p {a:Str} (h:(ZB a).2.2=false):(ZB a).2.1=0:=by
 unfold ZB at h ⊢
 dsimp only at h ⊢
 split<;>rename_i h1
 rfl
 rw [if_neg h1] at h
 split at h<;>simp at h
theorem Zd6 (X:List Nat) (v:Value) (x:Nd) (w:World) (hx:NdV X w v x) (hF:SlV [] w Z2l Z8) :
 CC 178 #[v] w fun r w'=>r=.int .i64 (Z05 x.kind x.num x.word)∧Stp [] w w':=by
 obtain ⟨kv,rfl,hs⟩:=hx
 refine cW1 50 Tryz.func178 ?_
 refine W ?_
 refine Z3 (Zq rfl) rfl ?_
 rintro _ w1 ⟨b,rfl,hb,hblk,hS⟩
 replace hblk:Blk w1 b _ (ndC x kv):=hblk
 replace hF:=hF.up hS
 repeat'(first|refine W1 ?_|omega|refine VG ?_ ?_<;>intro hg|refine VC ?_ ?_<;>intro hc)
 refine CL rfl (Zr rfl) rfl (Z4o x.word _ hF) ?_
 rintro _ w2 ⟨rfl,hS2⟩
 replace hS:=hS.trans hS2
 focus repeat'(first|refine W1 ?_|omega|refine VG ?_ ?_<;>intro hg|refine VC ?_ ?_<;>intro hc)
 refine WR ?_
 refine .mk ⟨?_,hS⟩
 simp only [Z05]
 rw [if_pos (by assumption),if_pos (by assumption)]
 rfl
 all_goals first
  | (refine Z3 (Z0j (fun z : Int => Value.int .i64 z)) rfl ?_
     rintro _ w2 ⟨r,rfl,hr,hm,hS2⟩
     have hbl:=hblk.lt
     have hsz:=hS.size
     replace hblk:=hblk.up hS2
     replace hS:=hS.trans hS2
     refine Z1 (Zo (a:=(1:Int)) (v:=.int .i64 1) rfl rfl rfl hm (by simp)) ?_
     rintro _ w3 ⟨hm,hS3⟩
     replace hblk:=hblk.ext hS3 (by simp;omega)
     replace hS:=hS.own hS3 (fun b hb=>.inr (by simp at hb;omega))
     refine Z1 (Zo (a:=(2:Int)) (v:=.int .i64 2) rfl rfl rfl hm (by simp)) ?_
     rintro _ w4 ⟨hm,hS4⟩
     replace hblk:=hblk.ext hS4 (by simp;omega)
     replace hS:=hS.own hS4 (fun b hb=>.inr (by simp at hb;omega))
     refine Z1 (Zo (a:=(3:Int)) (v:=.int .i64 3) rfl rfl rfl hm (by simp)) ?_
     rintro _ w5 ⟨hm,hS5⟩
     replace hblk:=hblk.ext hS5 (by simp;omega)
     replace hS:=hS.own hS5 (fun b hb=>.inr (by simp at hb;omega))
     refine W ?_
     apply Ze (Z0A (a:=x.kind) rfl rfl hm) rfl
     refine W ?_
     refine WR ?_
     refine .mk ⟨?_,hS⟩
     have hw:x.word=[]:=by first|assumption|exact Decidable.not_not.1 (by assumption)
     simp only [Z05,hw,not_true_eq_false,if_false]
     first
      | (have hk : x.kind = 1 := by assumption
         rw [hk,if_neg (by decide),if_pos rfl,if_pos (by omega)];rfl)
      | (have hk : x.kind = 2 := by assumption
         rw [hk,if_neg (by decide),if_neg (by decide),if_pos rfl,if_pos (by omega)];rfl)
      | (have hk : x.kind = 3 := by assumption
         rw [hk,if_neg (by decide),if_neg (by decide),if_neg (by decide),if_pos rfl,if_pos (by omega)];rfl))
  | skip
 all_goals (refine WR ?_)
 all_goals
  refine .mk ⟨?_,hS⟩
  simp only [Z05]
  repeat' split
  all_goals first|rfl|omega|(exfalso;simp_all;done)|(exfalso;simp_all;omega)
def Z17 (l want:List Int):Bool:=decide (l=want∧∀ x∈l,x≠0)
theorem Jc (a:Int) (w:World):(Instr.buildSlice 22 1 #[(0,.int .i64 a)]).run Tryz.prog w=.ok (.slice (some ⟨w.heap.size,0,none⟩) 1 1) (w.alloc (.cells #[.int .i64 a] 3)):=by kernel_rfl
theorem Z5v (a b:Int) (w:World):(Instr.buildSlice 22 2 #[(0,.int .i64 a),(1,.int .i64 b)]).run Tryz.prog w=.ok (.slice (some ⟨w.heap.size,0,none⟩) 2 2) (w.alloc (.cells #[.int .i64 a,.int .i64 b] 3)):=by kernel_rfl
theorem Z7.stp {w w':World} {T len:Nat} {cs:List Value} {v:Value} (h:Z7 w T len cs v w'):Stp [] w w':=h.choose_spec.2.2.2
def JO:List Str:=[[43],[45],[42]]
def Z1P:List Str:=[[60],[60,61],[61],[33,61],[62],[62,61]]
def JP:List Str:=[[97,110,100],[111,114]]
def Z9L (s:Str) (l:List Int):Int:=
 if 0≤idx (isS s) JO∧Z17 l [1,1]=true then 1 else if 0≤idx (isS s) Z1P∧(Z17 l [1,1]=true∨Z17 l [3,3]=true) then 2 else if 0≤idx (isS s) JP∧Z17 l [2,2]=true then 2 else 0
structure Sig where
 kind:Int
 s:Str
 a:Int
 b:Int
 c:Int
 deriving DecidableEq
abbrev Z3N (x:Sig):Value:=.agg #[.int .i64 x.kind,str x.s,.int .i64 x.a,.int .i64 x.b,.int .i64 x.c]
theorem Zjn (x y:Sig) (w:World):(Op.equal 246 (Z3N x) (Z3N y)).run Tryz.prog w=.ok (decide (x=y)) w:=by
 have h1:Program.stoodInHeld Tryz.prog 246=false:=by kernel_rfl
 obtain ⟨i,hi⟩:∃ i,Tryz.prog.info? 3=some i:=by
  have:=(inferInstance:Siz Tryz.prog 3 1).h
  cases h:Tryz.prog.info? 3 with
  | none=>rw [h] at this;cases this
  | some i=>exact ⟨i,rfl⟩
 have hc:Tryz.prog.cellsOf 3=1:=by kernel_rfl
 obtain ⟨k,s,a,b,c⟩:=x
 obtain ⟨k',s',a',b',c'⟩:=y
 simp [Z3N,Op.equal,Op.maxDepth,run_equalIn_struct,h1,Program.fieldsOf,Tryz.underlying246,Op.eqFields,part,Und.isAgg,Siz.run,JG,run_equalIn_int w _ _ .i64 .i64 _ _ Tryz.underlying3,run_equalIn_string w _ _ _ _ Tryz.underlying9,run_equalIn_array w _ _ _ Tryz.underlying241 hi,hc,Op.eqItems,List.range_succ_eq_map]
 repeat' split
 all_goals simp_all
theorem Zfb (em:Bool) (x:Sig) (w:World):(Instr.checkKey em 10000 246 (Z3N x)).run Tryz.prog w=.ok () w:=by kernel_rfl
instance:Z9J Tryz.prog 246 Sig where
 enc:=Z3N
 chk:=Zfb
 find:=fun a es l w hk=>by
  have h2:=run_findKey_eq (P:=Tryz.prog) (k:=246) w (by kernel_rfl) (Z3N a) es
  have h3:=Z3j Z3N Zjn a w es l 0 hk
  simp only [XM] at h3
  exact h2.trans h3
abbrev Z8l (a b c:Int):Value:=.agg #[.int .i64 a,.int .i64 b,.int .i64 c]
theorem Zfc (a:Int) (w:World):(Instr.build 241 #[(0,.int .i64 a)]).run Tryz.prog w=.ok (Z8l a 0 0) w:=by kernel_rfl
theorem Z7o (a b:Int) (w:World):(Instr.build 241 #[(0,.int .i64 a),(1,.int .i64 b)]).run Tryz.prog w=.ok (Z8l a b 0) w:=by kernel_rfl
theorem Z5e (k a b c:Int) (s:Str) (w:World):(Instr.build 246 #[(0,.int .i64 k),(1,str s),(2,Z8l a b c)]).run Tryz.prog w=.ok (Z3N ⟨k,s,a,b,c⟩) w:=by kernel_rfl
theorem Zd7 (a b c d:Str) (w:World):(Instr.buildSlice 119 4 #[(0,str a),(1,str b),(2,str c),(3,str d)]).run Tryz.prog w=.ok (.slice (some ⟨w.heap.size,0,none⟩) 4 4) (w.alloc (.cells #[str a,str b,str c,str d] 9)):=by kernel_rfl
abbrev Zd8:=Sig×Value
def ent:Nat→Zd8
 | 5=>(⟨5,[45],1,0,0⟩,.int .i64 1)
 | 10=>(⟨5,[110,111,116],2,0,0⟩,.int .i64 2)
 | 15=>(⟨10,[110,101,120,116],3,0,0⟩,.int .i64 3)
 | 20=>(⟨10,[112,114,101,118],3,0,0⟩,.int .i64 3)
 | 26=>(⟨10,[108,97,116,101,114],3,3,0⟩,.int .i64 3)
 | 32=>(⟨10,[101,97,114,108,105,101,114],3,3,0⟩,.int .i64 3)
 | _=>(⟨10,[98,101,116,119,101,101,110],3,3,0⟩,.int .i64 1)
def Z7p:List Nat:=[5,10,15,20,26,32,38]
def ZZ:List Str:=[[100,97,121,115],[119,101,101,107,115],[109,111,110,116,104,115],[99,111,117,114,116,100,97,121,115]]
def Z1h (u:Str):List Zd8:=[(⟨7,u,3,1,0⟩,.int .i64 3),(⟨8,u,3,1,0⟩,.int .i64 3)]
def Z2K:List Zd8:=Z7p.map ent++ZZ.flatMap Z1h
theorem Z9M:(Z2K.map (·.1)).Nodup:=by decide
theorem Zbr {κ:Type} [DecidableEq κ] {l m:List (κ×Value)} (hp:l.Perm m) (hn:(m.map (·.1)).Nodup) (a:κ) (z:Value):Z2k l a z=Z2k m a z:=by
 have hn':(l.map (·.1)).Nodup:=(hp.map _).nodup_iff.2 hn
 have key:∀ (l m:List (κ×Value)),(∀ p,p∈l→p∈m)→(m.map (·.1)).Nodup→∀ p,l.find? (fun p=>decide (p.1=a))=some p→m.find? (fun p=>decide (p.1=a))=some p:=by
  intro l m hs hm p hf
  have hpm:=hs p (List.mem_of_find?_eq_some hf)
  have hpa:p.1=a:=by simpa using List.find?_some hf
  cases hq:m.find? (fun p=>decide (p.1=a)) with
  | none=>exact absurd (List.find?_eq_none.1 hq p hpm) (by simp [hpa])
  | some q=>
    have hqm:=List.mem_of_find?_eq_some hq
    have hqa:q.1=a:=by simpa using List.find?_some hq
    obtain ⟨i,hi,rfl⟩:=Xo hpm
    obtain ⟨j,hj,rfl⟩:=Xo hqm
    have:i=j:=by
     have h1:=(List.getElem_inj (xs:=m.map (·.1)) (i:=i) (j:=j) (h₀:=by simpa using hi) (h₁:=by simpa using hj) hm).1 (by simp [hpa,hqa])
     exact h1
    subst this
    rfl
 unfold Z2k
 cases h1:l.find? (fun p=>decide (p.1=a)) with
 | some p=>rw [key l m (fun p h=>hp.mem_iff.1 h) hn p h1]
 | none=>
   cases h2:m.find? (fun p=>decide (p.1=a)) with
   | none=>rfl
   | some p=>rw [key m l (fun p h=>hp.mem_iff.2 h) hn' p h2] at h1;cases h1
theorem Z5w (w:World):CC 180 #[] w fun r w'=>∃ (m:Nat) (l:List Zd8),r=.map (some m)∧Jp Z3N w' m l∧l.Perm Z2K∧Stp [] w w':=by
 refine cW0 62 Tryz.func180 ?_
 refine W ?_
 refine ZDr 41 [] [5,10,15,20,26,32,38] [(1,0),(2,0),(3,0),(4,0),(6,0),(7,0),(8,0),(9,0),(11,0),(12,0),(13,0),(14,0),(16,0),(17,0),(18,0),(19,0),(21,0),(22,0),(23,0),(24,0),(25,0),(27,0),(28,0),(29,0),(30,0),(31,0),(33,0),(34,0),(35,0),(36,0),(37,0),(0,2),(5,279241165504),(39,0),(40,0)] (fun w1 hS1=>?_)
 repeat'(first|refine D1 ?_|(apply Z04;exact rfl;first|(apply Z1Z (vs:=[(0,.int .i64 _)]);exact trivial;exact rfl;exact Zfc _;exact rfl)|(apply Z1Z (vs:=[(0,.int .i64 _),(1,.int .i64 _)]);exact trivial;exact rfl;exact Z7o _ _;exact rfl)|(apply Z1Z (vs:=[(0,.int .i64 _),(1,str _),(2,Z8l _ _ _)]);exact trivial;exact rfl;exact Z5e _ _ _ _ _;exact rfl)))
 refine WD_eff rfl trivial (Z0j Z3N) (fun _ _ h=>h.choose_spec.2.2.2) rfl ?_
 rintro _ w2 ⟨m,rfl,hm,hmap,hS2⟩
 have hw1:=hS1.size
 refine WD_set Z7p (fun rem w'=>∃ l,Jp Z3N w' m l∧(l++rem.map ent).Perm (Z7p.map ent)∧Stp [m] w2 w') rfl (by decide) (by decide) ⟨[],hmap,by simp,Stp.refl _ _⟩ ?_ ?_
 · rintro rem j w' hsub hj ⟨l,hl,hp,hS⟩
   have hkeys:((l++rem.map ent).map (·.1)).Nodup:=(hp.map (·.1)).nodup_iff.2 (by decide)
   have hfresh:∀ p∈l,¬ p.1=(ent j).1:=by
    intro p hp e
    rw [Yae,List.nodup_append] at hkeys
    exact hkeys.2.2 p.1 (XW hp) (ent j).1 (by rw [YaE];exact XP.2 ⟨j,hj,rfl⟩) e
   have gen:∀ w'',Jp Z3N w'' m (l++[ent j])→Stp [m] w' w''→∃ l,Jp Z3N w'' m l∧(l++(rem.erase j).map ent).Perm (Z7p.map ent)∧Stp [m] w2 w'':=by
    intro w'' h1 h2
    refine ⟨_,h1,?_,hS.trans h2⟩
    refine List.Perm.trans ?_ hp
    rw [Xt]
    exact List.Perm.append_left l (((List.perm_cons_erase hj).map ent).symm)
   have hjis:=hsub.subset hj
   simp only [Z7p,Xf,Xk,or_false] at hjis
   rcases hjis with rfl|rfl|rfl|rfl|rfl|rfl|rfl
   all_goals exact ⟨_,rfl,rfl,trivial,(Zo (v:=.int .i64 _) rfl rfl rfl hl hfresh).mono (fun _ w'' ⟨h1,h2⟩=>⟨.inr rfl,gen w'' h1 h2⟩)⟩
 rintro w3 ⟨l,hl,hp,hS3⟩
 rw [Xs,XK] at hp
 have hS:Stp [] w w3:=(hS1.trans hS2).own hS3 (fun b hb=>.inr (by simp at hb;omega))
 have hmw:w.heap.size≤m:=by omega
 clear hmap hS2 hS3
 repeat'(first|refine D1 ?_|refine Z1X rfl rfl rfl rfl (fun hg=>?_) (fun hg=>?_)|(refine Z1g rfl rfl rfl rfl (fun hg=>?_) (fun hg=>?_)<;>refine D1 ?_)|fail)
 refine W ?_
 refine Z3 (Z0 (vs:=[(0,str [100,97,121,115]),(1,str [119,101,101,107,115]),(2,str [109,111,110,116,104,115]),(3,str [99,111,117,114,116,100,97,121,115])]) rfl (Zd7 _ _ _ _)) rfl ?_
 rintro uv w4 hN
 have hu:SlV [m] w4 uv ZZ:=hN.slv (fun b hb=>by simp at hb;subst hb;exact hl.lt) rfl rfl (by simp [ZZ,maxLen])
 have hS4:=Z7.stp hN
 clear hN
 replace hl:=hl.up hS4
 replace hS:=hS.trans hS4
 have hkind:∀ p∈l,p.1.kind=5∨p.1.kind=10:=fun p hpl=>by
  have hpe:=hp.mem_iff.1 hpl
  simp only [Z7p,Xl,Xs,Xf,Xk,or_false] at hpe
  rcases hpe with rfl|rfl|rfl|rfl|rfl|rfl|rfl<;>decide
 have hseen:∀ k (h:k<ZZ.length),∀ p∈(ZZ.take k).flatMap Z1h,¬ p.1.s=ZZ[k]:=by
  intro k h
  match k,h with
  | 0,_=>(show ∀ p∈(ZZ.take 0).flatMap Z1h,¬ p.1.s=ZZ[0]'(by decide));decide
  | 1,_=>(show ∀ p∈(ZZ.take 1).flatMap Z1h,¬ p.1.s=ZZ[1]'(by decide));decide
  | 2,_=>(show ∀ p∈(ZZ.take 2).flatMap Z1h,¬ p.1.s=ZZ[2]'(by decide));decide
  | 3,_=>(show ∀ p∈(ZZ.take 3).flatMap Z1h,¬ p.1.s=ZZ[3]'(by decide));decide
 refine W ?_
 refine Zv (σ:=Nat) (fun k=>[(1,.int .i64 1),(3,.int .i64 3),(4,.map (some m)),(40,uv),(41,.int .i64 4),(42,.int .i64 k)]) (fun k w'=>k≤4∧Jp Z3N w' m (l++(ZZ.take k).flatMap Z1h)∧Stp [m] w4 w') (fun k=>4 - k) 0 ⟨rfl,rfl,rfl,rfl,rfl,rfl,trivial⟩ ⟨by omega,by simpa using hl,Stp.refl _ _⟩ ?_
 rintro k w5 ⟨hk,hmk,hS5⟩
 have hu5:SlV [m] w5 uv ZZ:=hu.ext hS5 (by simp) (fun b hb=>.inl hb)
 by_cases hlt:k<4
 have hlt2:k<ZZ.length:=hlt
 have hfr:∀ (t:Int),¬ t=5→¬ t=10→∀ p∈l++(ZZ.take k).flatMap Z1h,¬ p.1=⟨t,ZZ[k],3,1,0⟩:=by
  intro t h5 h10 p hpm e
  rcases Xn.1 hpm with h|h
  have:=hkind p h
  rw [e] at this
  rcases this with h|h
  exact h5 h
  exact h10 h
  exact hseen k hlt2 p h (by rw [e])
 focus repeat'(first|refine W1 ?_|omega|refine VG ?_ ?_<;>intro hg|refine VC ?_ ?_<;>intro hc)
 apply Zf (vs:=[(0,.int .i64 3),(1,.int .i64 1)]) rfl (Z7o _ _) rfl
 apply Zf (vs:=[(0,.int .i64 7),(1,str _),(2,Z8l _ _ _)]) rfl (Z5e _ _ _ _ _) rfl
 refine W ?_
 refine Z1 (Z6z (a:=(⟨7,ZZ[k],3,1,0⟩:Sig)) (v:=.int .i64 3) rfl rfl rfl hmk (hfr 7 (by decide) (by decide))) ?_
 rintro _ w6 ⟨hm6,hS6⟩
 refine W ?_
 apply Zf (vs:=[(0,.int .i64 3),(1,.int .i64 1)]) rfl (Z7o _ _) rfl
 apply Zf (vs:=[(0,.int .i64 8),(1,str _),(2,Z8l _ _ _)]) rfl (Z5e _ _ _ _ _) rfl
 refine W ?_
 refine Z1 (Z6z (a:=(⟨8,ZZ[k],3,1,0⟩:Sig)) (v:=.int .i64 3) rfl rfl rfl hm6 (fun p hpm e=>by
  rcases Xn.1 hpm with h|h
  exact hfr 8 (by decide) (by decide) p h e
  simp only [Xp] at h
  subst h
  simp at e)) ?_
 rintro _ w7 ⟨hm7,hS7⟩
 refine W ?_
 refine Zp (k+1) ⟨rfl,rfl,rfl,rfl,rfl,rfl,trivial⟩ ⟨by omega,?_,(hS5.trans hS6).trans hS7⟩ (by omega)
 rw [Xr hlt2,List.flatMap_append]
 have e:l++((ZZ.take k).flatMap Z1h++[ZZ[k]].flatMap Z1h)=(l++(ZZ.take k).flatMap Z1h++[((⟨7,ZZ[k],3,1,0⟩:Sig),Value.int .i64 3)])++[((⟨8,ZZ[k],3,1,0⟩:Sig),Value.int .i64 3)]:=by simp [Z1h]
 rw [e]
 exact hm7
 have hke:k=4:=by omega
 subst hke
 focus repeat'(first|refine W1 ?_|omega|refine VG ?_ ?_<;>intro hg|refine VC ?_ ?_<;>intro hc)
 refine WR ?_
 exact .mk ⟨m,_,rfl,hmk,hp.append_right _,hS.own hS5 (fun b hb=>.inr (by simp at hb;omega))⟩
def Zbs (x:Sig):Value:=Z2k Z2K x (.int .i64 0)
def Z0P (s:Str) (a b:Int):Int:=
 if s∈JO then (if a=b∧a=1 then 1 else 0) else if s∈Z1P then (if a=b∧¬ a=2 then 2 else 0) else if s∈JP then (if a=b∧a=2 then 2 else 0) else 0
theorem Z9N (s:Str) (a b c:Int) (w:World):CC 179 #[str s,Z8l a b c] w fun r w'=>r=.int .i64 (Z0P s a b)∧Stp [] w w':=by
 refine cW2 46 Tryz.func179 ?_
 refine W ?_
 refine Z3 (Zq rfl) rfl ?_
 rintro _ w1 ⟨q,rfl,hq,hblk,hS⟩
 replace hblk:Blk w1 q _ [.int .i64 a,.int .i64 b,.int .i64 c]:=hblk
 refine W ?_
 by_cases hA:s∈JO
 · unfold Z0P
   rw [if_pos hA]
   simp only [JO,Xf,Xk,or_false] at hA
   rcases hA with rfl|rfl|rfl
   all_goals (repeat'(first|refine W1 ?_|omega|refine VG ?_ ?_<;>intro hg|refine VC ?_ ?_<;>intro hc))
   all_goals (refine WR ?_)
   all_goals refine .mk ⟨?_,hS⟩
   all_goals first
    | rw [if_pos ⟨by assumption,by assumption⟩]
    | rw [if_neg (fun h=>by omega)]
 by_cases hC:s∈Z1P
 · unfold Z0P
   rw [if_neg hA,if_pos hC]
   simp only [Z1P,Xf,Xk,or_false] at hC
   rcases hC with rfl|rfl|rfl|rfl|rfl|rfl
   all_goals (repeat'(first|refine W1 ?_|omega|refine VG ?_ ?_<;>intro hg|refine VC ?_ ?_<;>intro hc))
   all_goals (refine WR ?_)
   all_goals refine .mk ⟨?_,hS⟩
   all_goals first
    | rw [show (if a=b∧¬ a=2 then (2:Int) else 0)=2 from if_pos (by omega)]
    | rw [show (if a=b∧¬ a=2 then (2:Int) else 0)=0 from if_neg (by omega)]
 by_cases hL:s∈JP
 · unfold Z0P
   rw [if_neg hA,if_neg hC,if_pos hL]
   simp only [JP,Xf,Xk,or_false] at hL
   rcases hL with rfl|rfl
   all_goals (repeat'(first|refine W1 ?_|omega|refine VG ?_ ?_<;>intro hg|refine VC ?_ ?_<;>intro hc))
   all_goals (refine WR ?_)
   all_goals refine .mk ⟨?_,hS⟩
   all_goals first
    | rw [if_pos ⟨by assumption,by assumption⟩]
    | rw [if_neg (fun h=>by omega)]
 unfold Z0P
 rw [if_neg hA,if_neg hC,if_neg hL]
 simp only [JO,Z1P,JP,Xf,Xk,or_false,not_or] at hA hC hL
 obtain ⟨a1,a2,a3⟩:=hA
 obtain ⟨b1,b2,b3,b4,b5,b6⟩:=hC
 obtain ⟨c1,c2⟩:=hL
 repeat'(first|refine W1 ?_|refine Z77 rfl (fun hc=>absurd hc (by assumption)) (fun hc=>?_))
 refine WR ?_
 exact .mk ⟨rfl,hS⟩
theorem _root_.Go.Eng.SlV.any {α:Type} [Zd α] {X:List Nat} {w:World} {v:Value} {xs:List α} (h:SlV X w v xs):SlV [] w v xs:=h.ext (Stp.refl [] w) (by simp) (by simp)
theorem _root_.Go.Eng.SlV.new {α:Type} [Zd α] {X:List Nat} {w w':World} {v:Value} {xs:List α} (h:SlV X w v xs) (hS:Stp [] w w') (b:Nat) (hb:w.heap.size≤b):SlV [b] w' v xs:=
 h.ext hS (by simp) (fun c hc=>.inr (by simp at hc;omega))
theorem _root_.Go.Eng.SlV.on {α:Type} [Zd α] {X S:List Nat} {w w':World} {v:Value} {xs:List α} (h:SlV X w v xs) (hS:Stp S w w') (hs:∀ b∈S,b∈X):SlV X w' v xs:=h.ext hS hs (fun _ h=>.inl h)
def Z2Q (x:Sig):Int:=match Zbs x with|.int _ z=>z|_=>0
theorem Z8m (x:Sig):Zbs x=.int .i64 (Z2Q x):=by
 have:∀ p∈Z2K,∃ z,p.2=Value.int .i64 z:=by
  intro p hp
  simp only [Z2K,Z7p,ZZ,Xl,Xs,Yas,YaK,Z1h,XR,XL,XK,Xf,Xk,or_false,ent] at hp
  rcases hp with rfl|rfl|rfl|rfl|rfl|rfl|rfl|rfl|rfl|rfl|rfl|rfl|rfl|rfl|rfl<;>exact ⟨_,rfl⟩
 unfold Z2Q Zbs Z2k
 cases h:Z2K.find? (fun p=>decide (p.1=x)) with
 | none=>rfl
 | some p=>
   obtain ⟨z,hz⟩:=this p (List.mem_of_find?_eq_some h)
   simp only [hz]
def ZX (k n:Int) (s:Str) (ts:List Int):Int:=
 if ts.length > 3 then 0 else if (0:Int)∈ts then 0 else if ts=[] then Z05 k n s else if ¬ n=0 then 0
 else if k=9∧s=[]∧ts.getD 0 0=2∧ts.getD 1 0=ts.getD 2 0 then ts.getD 1 0
 else if k=6∧ts.getD 2 0=0 then Z0P s (ts.getD 0 0) (ts.getD 1 0) else Z2Q ⟨k,s,ts.getD 0 0,ts.getD 1 0,ts.getD 2 0⟩
def Z9:Nd→Int
 | .mk k n s l=>ZX k n s (l.map Z9)
theorem Jr (x:Nd):Z9 x=ZX x.kind x.num x.word (x.kids.map Z9):=by
 cases x
 rw [Z9]
 rfl
def Z9O (ts:List Int) (k:Nat):List Value:=[.int .i64 (if 0<k then ts.getD 0 0 else 0),.int .i64 (if 1<k then ts.getD 1 0 else 0),.int .i64 (if 2<k then ts.getD 2 0 else 0)]
theorem Zd9 (ts:List Int) (k:Nat) (hk:k<3):(Z9O ts k).set (0+k * 1) (.int .i64 (ts.getD k 0))=Z9O ts (k+1):=by
 match k,hk with
 | 0,_=>rfl
 | 1,_=>rfl
 | 2,_=>rfl
theorem Zda (ts:List Int) (k:Nat) (hk:k<3):(Z9O ts (k+1))[0+k * 1]?=some (.int .i64 (ts.getD k 0)):=by
 match k,hk with
 | 0,_=>rfl
 | 1,_=>rfl
 | 2,_=>rfl
theorem Zdb (ts:List Int) (h:ts.length≤3):Z9O ts ts.length=[.int .i64 (ts.getD 0 0),.int .i64 (ts.getD 1 0),.int .i64 (ts.getD 2 0)]:=by
 match ts,h with
 | [],_=>rfl
 | [a],_=>rfl
 | [a,b],_=>rfl
 | [a,b,c],_=>rfl
theorem Zjo (x:Nd):∀ (X XF:List Nat) (v:Value) (w:World),NdV X w v x→SlV XF w Z2l Z8→
 CC 92 #[v] w fun r w'=>r=.int .i64 (Z9 x)∧Stp [] w w':=by
 induction x using Nd.ind with
 | h k n s l ih=>
 intro X XF v w hx hF
 generalize hxe:Nd.mk k n s l=x at *
 have ih':∀ y∈x.kids,∀ (X XF:List Nat) (v:Value) (w:World),NdV X w v y→SlV XF w Z2l Z8→CC 92 #[v] w fun r w'=>r=.int .i64 (Z9 y)∧Stp [] w w':=by
  subst hxe;exact ih
 clear ih hxe k n s l
 have hx0:=hx
 obtain ⟨kv,rfl,hs⟩:=hx
 have hmax:=hs.max
 rw [Jr]
 have hlen:(x.kids.map Z9).length=x.kids.length:=by simp
 have hget:∀ k (h:k<x.kids.length),(x.kids.map Z9).getD k 0=Z9 x.kids[k]:=fun k h=>by simp [List.getD,h]
 generalize hts:x.kids.map Z9=ts at *
 refine cW1 80 Tryz.func92 ?_
 refine W ?_
 refine Z3 (Zq rfl) rfl ?_
 rintro _ w1 ⟨b,rfl,hb,hblk,hS⟩
 replace hblk:Blk w1 b _ (ndC x kv):=hblk
 replace hs:=hs.up hS
 replace hF:=hF.up hS
 have hlt:=hblk.lt
 refine W ?_
 refine Z3 Z6 rfl ?_
 rintro _ w2 ⟨q,rfl,hq,harr,hS2⟩
 replace harr:Blk w2 q _ (Z9O ts 0):=harr
 replace hblk:=hblk.up hS2
 replace hs:=hs.new hS2 q hq
 replace hF:=hF.new hS2 q hq
 replace hS:=hS.trans hS2
 have hwq:w.heap.size≤q:=Xi (Xi hb (Nat.le_of_lt hlt)) hq
 have hbq:¬ b=q:=by omega
 repeat'(first|refine W1 ?_|omega|refine VG ?_ ?_<;>intro hg|refine VC ?_ ?_<;>intro hc)
 refine WR ?_
 refine .mk ⟨?_,hS⟩
 unfold ZX
 rw [if_pos (by omega)]
 have hl3:x.kids.length≤3:=by omega
 refine Z0m (σ:=Unit) (fun _=>[(1,.pointer (some ⟨b,0,none⟩)),(3,.pointer (some ⟨q,0,none⟩))]) (fun _ w'=>Stp [q] w2 w'∧Blk w' q 241 [.int .i64 (ts.getD 0 0),.int .i64 (ts.getD 1 0),.int .i64 (ts.getD 2 0)]∧¬ (0:Int)∈ts) ?_ ?_
 have hs0:=hs
 have hF0:=hF
 refine Zv (σ:=Nat) (fun k=>[(1,.pointer (some ⟨b,0,none⟩)),(3,.pointer (some ⟨q,0,none⟩)),(11,kv),(12,.int .i64 (x.kids.length:Int)),(13,.int .i64 k)]) (fun k w'=>k≤x.kids.length∧Stp [q] w2 w'∧Blk w' q 241 (Z9O ts k)∧¬ (0:Int)∈ts.take k) (fun k=>x.kids.length - k) 0 ⟨rfl,rfl,rfl,rfl,rfl,trivial⟩ ⟨Xu _,Stp.refl _ _,harr,by simp⟩ ?_
 clear hs hF harr
 rintro k w3 ⟨hk,hS3,harr,hno⟩
 have hs:=hs0.on hS3 (by simp)
 have hF:=hF0.on hS3 (by simp)
 by_cases hlt:k<x.kids.length
 have hk3:k<3:=by omega
 have hg:=hget k hlt
 have hset:=Zd9 ts k hk3
 have hgt:=Zda ts k hk3
 rw [hg] at hset hgt
 obtain ⟨kv2,hs2,hc2⟩:=hs.nd hlt
 focus repeat'(first|refine W1 ?_|omega|refine VG ?_ ?_<;>intro hg|refine VC ?_ ?_<;>intro hc)
 apply Ze (ZM rfl rfl hs hlt hc2) rfl
 refine Z3 Z6 rfl ?_
 rintro _ w4 ⟨b4,rfl,hb4,hblk4,hS4⟩
 have harl:=harr.lt
 replace harr:=harr.up hS4
 refine W ?_
 refine Z1 (Z2 (us:=ndC x.kids[k] kv2) rfl rfl rfl rfl (Zh hs2) hblk4 rfl) ?_
 rintro _ w5 ⟨hS5,hblk5⟩
 have h4q:¬ b4=q:=by omega
 replace harr:=harr.ext hS5 (by simp;omega)
 have hS45:=hS4.own hS5 (fun c hc=>.inr (by simp at hc;omega))
 replace hs2:=hs2.up hS45
 replace hF:=hF.up hS45
 refine W ?_
 refine CL rfl (Zr rfl) rfl (ih' x.kids[k] (Xh hlt) _ _ _ _ ⟨kv2,rfl,hs2⟩ hF) ?_
 rintro _ w6 ⟨rfl,hS6⟩
 replace harr:=harr.up hS6
 refine W ?_
 refine Z1 (Zc (u:=.int .i64 (Z9 x.kids[k])) rfl rfl rfl rfl harr (by simp [Z9O];omega)) ?_
 rintro _ w7 ⟨hS7,harr⟩
 rw [hset] at harr
 have hS37:=((hS3.trans (hS45.mono (by simp))).trans (hS6.mono (by simp))).trans hS7
 have hnx:ts.take (k+1)=ts.take k++[Z9 x.kids[k]]:=by
  rw [Xr (by omega)]
  congr 2
  subst hts
  simp
 focus repeat'(first|refine W1 ?_|omega|refine VG ?_ ?_<;>intro hg|refine VC ?_ ?_<;>intro hc)
 apply ZcT rfl rfl (harr.cell hgt) rfl
 focus repeat'(first|refine W1 ?_|omega|refine VG ?_ ?_<;>intro hg|refine VC ?_ ?_<;>intro hc)
 refine WR ?_
 have h0':Z9 x.kids[k]=0:=hc
 refine .mk ⟨?_,hS.own hS37 (fun c hc=>.inr (by simp at hc;omega))⟩
 unfold ZX
 rw [if_neg (by omega),if_pos]
 have:Z9 x.kids[k]∈ts:=by
  subst hts
  exact XW (Xh hlt)
 rwa [h0'] at this
 refine Zp (k+1) ⟨rfl,rfl,rfl,rfl,rfl,trivial⟩ ⟨hlt,hS37,harr,?_⟩ (by omega)
 rw [hnx,Xn]
 rintro (h|h)
 exact hno h
 simp only [Xp] at h
 exact hc h.symm
 have hke:k=x.kids.length:=by omega
 subst hke
 focus repeat'(first|refine W1 ?_|omega|refine VG ?_ ?_<;>intro hg|refine VC ?_ ?_<;>intro hc)
 rw [← hlen,Zdb ts (by omega)] at harr
 rw [← hlen,XC] at hno
 exact ZC () ⟨rfl,rfl,trivial⟩ ⟨hS3,harr,hno⟩
 rintro _ w3 ⟨hS3,harr,hno⟩
 replace hblk:=hblk.ext hS3 (by simpa using hbq)
 replace hF:=hF.on hS3 (by simp)
 replace hs:=hs.on hS3 (by simp)
 replace hS:=hS.own hS3 (fun c hc=>.inr (by simp at hc;omega))
 unfold ZX
 rw [if_neg (by omega),if_neg hno]
 by_cases h0:x.kids.length=0
 rw [if_pos (Xz.1 (by omega))]
 focus repeat'(first|refine W1 ?_|omega|refine VG ?_ ?_<;>intro hg|refine VC ?_ ?_<;>intro hc)
 refine CL rfl (Zr rfl) rfl (Zd6 [q] _ x _ ⟨kv,rfl,hs⟩ hF.any) ?_
 rintro _ w4 ⟨rfl,hS4⟩
 refine W ?_
 refine WR ?_
 exact .mk ⟨rfl,hS.trans hS4⟩
 rw [if_neg (fun h=>h0 (by rw [← hlen,h];rfl))]
 clear hget hts
 generalize ts.getD 0 0=a at *
 generalize ts.getD 1 0=bb at *
 generalize ts.getD 2 0=c at *
 repeat'(first|refine W1 ?_|omega|refine VG ?_ ?_<;>intro hg|refine VC ?_ ?_<;>intro hc)
 refine WR ?_
 exact .mk ⟨by rw [if_pos (by assumption)],hS⟩
 all_goals rw [if_neg (by assumption)]
 all_goals first
  | (have h9 : x.kind = 9 ∧ x.word = [] ∧ a = 2 ∧ bb = c := ⟨by assumption, by assumption, by assumption, by assumption⟩
     rw [if_pos h9]
     refine WR ?_
     exact .mk ⟨rfl,hS⟩)
  | rw [show (if x.kind = 9 ∧ x.word = [] ∧ a = 2 ∧ bb = c then bb else if x.kind = 6 ∧ c = 0 then Z0P x.word a bb else Z2Q ⟨x.kind, x.word, a, bb, c⟩) = if x.kind = 6 ∧ c = 0 then Z0P x.word a bb else Z2Q ⟨x.kind, x.word, a, bb, c⟩ from if_neg (fun h => by
     obtain ⟨h1,h2,h3,h4⟩:=h
     first|omega|contradiction)]
 all_goals first
  | (have h6 : x.kind = 6 ∧ c = 0 := ⟨by assumption, by assumption⟩
     rw [if_pos h6]
     refine CL rfl (Zb rfl rfl) rfl (Z9N x.word a bb c _) ?_
     rintro _ w4 ⟨rfl,hS4⟩
     refine W ?_
     refine WR ?_
     exact .mk ⟨rfl,hS.trans hS4⟩)
  | rw [show (if x.kind=6∧c=0 then Z0P x.word a bb else Z2Q ⟨x.kind,x.word,a,bb,c⟩)=Z2Q ⟨x.kind,x.word,a,bb,c⟩ from if_neg (fun h=>by omega)]
 all_goals
  refine ZDr 9 [] [] [(1,0),(2,1),(3,0),(4,1),(5,1),(6,0),(0,2),(7,2),(8,0)] (fun w1 hS1=>?_)
  replace hblk:=hblk.up hS1
  replace harr:=harr.up hS1
  replace hS:=hS.trans hS1
  refine D ?_
  apply Z04
  exact rfl
  apply Z1Z (vs:=[(0,.int .i64 _),(1,str _),(2,Z8l _ _ _)])
  exact trivial
  exact rfl
  exact Z5e _ _ _ _ _
  exact rfl
  refine WD_eff rfl trivial (Z5 rfl Z3f (Z5w _)) (fun _ _ h=>h.choose_spec.choose_spec.2.2.2) rfl ?_
  rintro _ w5 ⟨m,ll,rfl,hm,hp,hS5⟩
  have hmg:=Z8m ⟨x.kind,x.word,a,bb,c⟩
  unfold Zbs at hmg
  rw [← Zbr hp Z9M] at hmg
  refine WD_eff rfl trivial (OE_pr (Z0A (a:=(⟨x.kind,x.word,a,bb,c⟩:Sig)) rfl rfl hm)) (fun _ _ h=>h.2 ▸ Stp.refl _ _) rfl ?_
  rintro _ _ ⟨rfl,rfl⟩
  rw [hmg]
  refine D ?_
  refine W ?_
  refine WR ?_
  exact .mk ⟨rfl,hS.trans hS5⟩
theorem ZlH:∀ p∈Z2K,∃ z,p.2=Value.int .i64 z:=by
 intro p hp
 simp only [Z2K,Z7p,ZZ,Xl,Xs,Yas,YaK,Z1h,XR,XL,XK,Xf,Xk,or_false,ent] at hp
 rcases hp with rfl|rfl|rfl|rfl|rfl|rfl|rfl|rfl|rfl|rfl|rfl|rfl|rfl|rfl|rfl<;>exact ⟨_,rfl⟩
theorem Zbt {x:Sig} (h:¬ ∃ p∈Z2K,p.1=x):Z2Q x=0:=by
 unfold Z2Q Zbs Z2k
 have:Z2K.find? (fun p=>decide (p.1=x))=none:=by
  rw [List.find?_eq_none]
  intro p hp
  simpa using fun e=>h ⟨p,hp,e⟩
 rw [this]
def Z0q:List Str:=[[110,101,120,116],[112,114,101,118]]
def Z0r:List Str:=[[108,97,116,101,114],[101,97,114,108,105,101,114]]
theorem Z2m {s:Str} {l:List Str}:0≤idx (isS s) l↔s∈l:=by
 unfold idx
 cases h:l.findIdx? (isS s) with
 | none=>
   rw [List.findIdx?_eq_none_iff] at h
   constructor
   intro h0
   simp at h0
   intro hm
   have:=h s hm
   simp at this
 | some i=>
   obtain ⟨hi,hp,_⟩:=List.findIdx?_eq_some_iff_getElem.1 h
   constructor
   intro _
   have:l[i]=s:=by simpa using hp
   rw [← this]
   exact Xh _
   intro _
   simp
def Z6A (s:Str) (l:List Int):Int:=
 if 0≤idx (isS s) Z0q∧Z17 l [3]=true then 3 else if 0≤idx (isS s) Z0r∧Z17 l [3,3]=true then 3 else if s=[98,101,116,119,101,101,110]∧Z17 l [3,3]=true then 1 else 0
def Z5x (k n:Int) (s:Str) (ts:List Int):Int:=
 if ts=[] then Z05 k n s else if ¬ n=0 then 0
 else if k=5 then (if s=[45]∧Z17 ts [1]=true∨s=[110,111,116]∧Z17 ts [2]=true then ts.getD 0 0 else 0)
 else if k=6 then Z9L s ts
 else if k=7∨k=8 then (if 0≤idx (isS s) ZZ∧Z17 ts [3,1]=true then 3 else 0)
 else if k=9 then (if s=[]∧ts.length=3∧Z17 ts [2,ts.getD 1 0,ts.getD 1 0]=true then ts.getD 1 0 else 0)
 else if k=10 then Z6A s ts else 0
theorem Z8n {l m:List Int}:Z17 l m=true↔l=m∧∀ x∈l,x≠0:=by simp [Z17]
theorem ZaK {l m:List Int} (h:¬ (l=m∧∀ x∈l,x≠0)):Z17 l m=false:=by simp [Z17];simpa using h
theorem Zbu (k n:Int) (s:Str) (ts:List Int) (h0:¬ ts=[]) (hb:(0:Int)∈ts∨ts.length > 3):Z5x k n s ts=0:=by
 have hno:∀ m:List Int,m.length≤3→Z17 ts m=false:=fun m hm=>ZaK (fun ⟨h1,h2⟩=>by
  rcases hb with hb|hb
  exact h2 0 hb rfl
  rw [h1] at hb;omega)
 unfold Z5x Z9L Z6A
 simp only [hno _ (show [(1:Int)].length≤3 by decide),hno _ (show [(2:Int)].length≤3 by decide),hno _ (show [(3:Int)].length≤3 by decide),hno [1,1] (by decide),hno [3,3] (by decide),hno [2,2] (by decide),hno [3,1] (by decide),hno [2,ts.getD 1 0,ts.getD 1 0] (by simp),if_neg h0]
 simp
theorem Zfd (s:Str) (a b:Int) (ha:a≠0) (hb:b≠0) (hr:1≤a∧a≤3) (hr2:1≤b∧b≤3):Z9L s [a,b]=Z0P s a b:=by
 unfold Z9L Z0P
 simp only [Z2m,Z8n]
 have e:∀ c d:Int,([a,b]=[c,d]∧∀ x∈[a,b],x≠0)↔(a=c∧b=d):=fun c d=>by simp [ha,hb]
 simp only [e]
 by_cases hA:s∈JO
 have hC:¬ s∈Z1P:=by
  simp only [JO,Xf,Xk,or_false] at hA
  rcases hA with rfl|rfl|rfl<;>decide
 have hL:¬ s∈JP:=by
  simp only [JO,Xf,Xk,or_false] at hA
  rcases hA with rfl|rfl|rfl<;>decide
 simp only [hA,hC,hL,true_and,false_and,if_false,if_true]
 by_cases h1:a=1∧b=1
 rw [if_pos h1,if_pos ⟨by omega,by omega⟩]
 rw [if_neg h1,if_neg (fun h=>by omega)]
 simp only [hA,false_and,if_false]
 by_cases hC:s∈Z1P
 have hL:¬ s∈JP:=by
  simp only [Z1P,Xf,Xk,or_false] at hC
  rcases hC with rfl|rfl|rfl|rfl|rfl|rfl<;>decide
 simp only [hC,hL,true_and,false_and,if_false,if_true]
 by_cases h1:a=1∧b=1∨a=3∧b=3
 rw [if_pos h1,if_pos ⟨by omega,by omega⟩]
 rw [if_neg h1,if_neg (fun h=>by omega)]
 simp only [hC,false_and,if_false]
 by_cases hL:s∈JP
 simp only [hL,true_and,if_true]
 by_cases h1:a=2∧b=2
 rw [if_pos h1,if_pos ⟨by omega,by omega⟩]
 rw [if_neg h1,if_neg (fun h=>by omega)]
 simp only [hL,false_and,if_false]
def Zdc:List Sig:=Z2K.map (·.1)
def Z9P (k:Int) (s:Str) (a b c:Int):Int:=
 if c=0 then
  if b=0 then (if k=5∧s=[45]∧a=1 then 1 else if k=5∧s=[110,111,116]∧a=2 then 2 else if k=10∧s∈Z0q∧a=3 then 3 else 0)
  else if a=3∧b=3∧k=10∧s∈Z0r then 3 else if a=3∧b=3∧k=10∧s=[98,101,116,119,101,101,110] then 1 else if a=3∧b=1∧(k=7∨k=8)∧s∈ZZ then 3 else 0
 else 0
theorem Zdd:∀ x∈Zdc,Z2Q x=Z9P x.kind x.s x.a x.b x.c:=by
 intro x hx
 simp only [Zdc,Z2K,Z7p,ZZ,Xl,Xs,Yas,YaK,Z1h,XR,XL,XK,Xf,Xk,or_false,ent] at hx
 rcases hx with rfl|rfl|rfl|rfl|rfl|rfl|rfl|rfl|rfl|rfl|rfl|rfl|rfl|rfl|rfl<;>decide
theorem Z5f (k:Int) (s:Str) (a b c:Int):Z2Q ⟨k,s,a,b,c⟩=Z9P k s a b c:=by
 by_cases hx:(⟨k,s,a,b,c⟩:Sig)∈Zdc
 exact Zdd _ hx
 rw [Zbt (fun ⟨p,hp,e⟩=>hx (e ▸ XW hp))]
 unfold Z9P
 symm
 split
 rename_i hc
 subst hc
 split
 rename_i hb
 subst hb
 split
 rename_i h;obtain ⟨rfl,rfl,rfl⟩:=h;exact absurd (by decide) hx
 split
 rename_i h;obtain ⟨rfl,rfl,rfl⟩:=h;exact absurd (by decide) hx
 split
 rename_i h
 obtain ⟨rfl,h,rfl⟩:=h
 simp only [Z0q,Xf,Xk,or_false] at h
 rcases h with rfl|rfl<;>exact absurd (by decide) hx
 rfl
 split
 rename_i h
 obtain ⟨rfl,rfl,rfl,h⟩:=h
 simp only [Z0r,Xf,Xk,or_false] at h
 rcases h with rfl|rfl<;>exact absurd (by decide) hx
 split
 rename_i h;obtain ⟨rfl,rfl,rfl,rfl⟩:=h;exact absurd (by decide) hx
 split
 rename_i h
 obtain ⟨rfl,rfl,h1,h⟩:=h
 simp only [ZZ,Xf,Xk,or_false] at h
 rcases h1 with rfl|rfl<;>rcases h with rfl|rfl|rfl|rfl<;>exact absurd (by decide) hx
 rfl
 rfl
theorem ZlI {a x:Int} (ha:a≠0):Z17 [a] [x]=decide (a=x):=by simp [Z17,ha]
theorem ZlJ {a b x y:Int} (ha:a≠0) (hb:b≠0):Z17 [a,b] [x,y]=decide (a=x∧b=y):=by simp [Z17,ha,hb]
theorem ZlK {a b c x y z:Int} (ha:a≠0) (hb:b≠0) (hc:c≠0):Z17 [a,b,c] [x,y,z]=decide (a=x∧b=y∧c=z):=by simp [Z17,ha,hb,hc]
theorem Jl {l m:List Int} (h:¬ l.length=m.length):Z17 l m=false:=ZaK (fun h'=>h (by rw [h'.1]))
theorem Zde (k n:Int) (s:Str) (ts:List Int) (hr:∀ t∈ts,0≤t∧t≤3):Z5x k n s ts=ZX k n s ts:=by
 by_cases h0:ts=[]
 subst h0;simp [Z5x,ZX]
 by_cases hb:(0:Int)∈ts∨ts.length > 3
 rw [Zbu k n s ts h0 hb]
 unfold ZX
 rcases hb with hb|hb
 simp [hb]
 simp [show ts.length > 3 from hb]
 have hz:¬ (0:Int)∈ts:=fun h=>hb (.inl h)
 have hl:¬ ts.length > 3:=fun h=>hb (.inr h)
 unfold Z5x ZX
 rw [if_neg h0,if_neg hl,if_neg hz,if_neg h0]
 by_cases hn:¬ n=0
 rw [if_pos hn,if_pos hn]
 rw [if_neg hn,if_neg hn]
 match ts,h0,hl with
 | [a], _, _=>
   have ha:a≠0:=fun e=>hz (by simp [e])
   have hra:=hr a (by simp)
   simp only [Xq,Xy,List.getD_nil,Z5f,Z6A,Z9L,Z2m,ZlI ha,Jl (show ¬ [a].length=[(1:Int),1].length by simp),Jl (show ¬ [a].length=[(3:Int),3].length by simp),Jl (show ¬ [a].length=[(2:Int),2].length by simp),Jl (show ¬ [a].length=[(3:Int),1].length by simp),decide_eq_true_eq]
   have hb0:Z0P s a 0=0:=by
    unfold Z0P
    have h1:¬ (a=0∧a=1):=fun h=>ha h.1
    have h2:¬ (a=0∧¬ a=2):=fun h=>ha h.1
    have h3:¬ (a=0∧a=2):=fun h=>ha h.1
    simp only [if_neg h1,if_neg h2,if_neg h3,ite_self]
   simp only [hb0,Z9P,Xc,Xe,XE,and_false,or_self,if_false]
   grind (splits:=40)
 | [a, b], _, _=>
   have ha:a≠0:=fun e=>hz (by simp [e])
   have hb:b≠0:=fun e=>hz (by simp [e])
   have hra:=hr a (by simp)
   have hrb:=hr b (by simp)
   simp only [Xq,Xy,List.getD_nil,Z5f,Z6A,Zfd s a b ha hb (by omega) (by omega),Z2m,ZlJ ha hb,Jl (show ¬ [a,b].length=[(1:Int)].length by simp),Jl (show ¬ [a,b].length=[(2:Int)].length by simp),Jl (show ¬ [a,b].length=[(3:Int)].length by simp),decide_eq_true_eq]
   simp only [Z9P,Xc,Xe,XE,and_false,or_self,if_false]
   grind (splits:=40)
 | [a, b, c], _, _=>
   have ha:a≠0:=fun e=>hz (by simp [e])
   have hb:b≠0:=fun e=>hz (by simp [e])
   have hc:c≠0:=fun e=>hz (by simp [e])
   have hra:=hr a (by simp)
   have hrb:=hr b (by simp)
   have hrc:=hr c (by simp)
   simp only [Xq,Xy,Z5f,Z6A,Z9L,Z2m,ZlK ha hb hc,Jl (show ¬ [a,b,c].length=[(1:Int)].length by simp),Jl (show ¬ [a,b,c].length=[(2:Int)].length by simp),Jl (show ¬ [a,b,c].length=[(3:Int)].length by simp),Jl (show ¬ [a,b,c].length=[(1:Int),1].length by simp),Jl (show ¬ [a,b,c].length=[(3:Int),3].length by simp),Jl (show ¬ [a,b,c].length=[(2:Int),2].length by simp),Jl (show ¬ [a,b,c].length=[(3:Int),1].length by simp),decide_eq_true_eq]
   simp only [Z9P,Xc,Xe,XE,and_false,or_self,if_false]
   grind (splits:=40)
 | _ :: _ :: _ :: _ :: _,_,hl=>exact absurd (by simp) hl
theorem Z8o (k n:Int) (s:Str):0≤Z05 k n s∧Z05 k n s≤3:=by
 have h:0≤(ZB s).2.1∧(ZB s).2.1≤3:=by
  unfold ZB
  dsimp only
  split
  simp
  split<;>simp
 unfold Z05
 grind
theorem Z8p (k n:Int) (s:Str) (ts:List Int) (hr:∀ t∈ts,0≤t∧t≤3):0≤ZX k n s ts∧ZX k n s ts≤3:=by
 unfold ZX
 split
 omega
 split
 omega
 split
 exact Z8o _ _ _
 split
 omega
 have hg:∀ i,0≤ts.getD i 0∧ts.getD i 0≤3:=by
  intro i
  by_cases hi:i<ts.length
  have:=hr ts[i] (Xh hi)
  simpa [List.getD,hi] using this
  simp [List.getD,List.getElem?_eq_none (Nat.le_of_not_lt hi)]
 split
 exact hg 1
 split
 unfold Z0P
 split
 split<;>omega
 split
 split<;>omega
 split
 split<;>omega
 omega
 rw [Z5f]
 unfold Z9P
 grind
theorem Z1G (x:Nd):0≤Z9 x∧Z9 x≤3:=by
 induction x using Nd.ind with
 | h k n s l ih=>
 rw [Jr]
 refine Z8p _ _ _ _ (fun t ht=>?_)
 obtain ⟨y,hy,rfl⟩:=XP.1 ht
 exact ih y hy
theorem Zfe (x:Nd):Z9 x=Z5x x.kind x.num x.word (x.kids.map Z9):=by
 rw [Jr,Zde]
 intro t ht
 obtain ⟨y,hy,rfl⟩:=XP.1 ht
 exact Z1G y
def Zn:Nd→Nat
 | .mk k n s l=>1+(l.map Zn).foldl max 0
theorem JJ (x:Nd):Zn x=1+(x.kids.map Zn).foldl max 0:=by
 cases x
 rw [Zn]
 rfl
theorem Z3O (l:List Nat):∀ (m b:Nat),l.foldl max m≤b↔m≤b∧∀ x∈l,x≤b:=by
 induction l with
 | nil=>intro m b;simp
 | cons y r ih=>
   intro m b
   rw [List.foldl_cons,ih]
   simp only [Xf,forall_eq_or_imp]
   constructor
   rintro ⟨h1,h2⟩
   exact ⟨by omega,by omega,h2⟩
   rintro ⟨h1,h2,h3⟩
   exact ⟨by omega,h3⟩
theorem Z9Q (m:Nat):∀ x:Nd,Z0p m x=decide (Zn x≤m):=by
 induction m with
 | zero=>
   intro x
   rw [JJ]
   simp [Z0p]
 | succ m ih=>
   intro x
   rw [JJ]
   have e:(1+(x.kids.map Zn).foldl max 0≤m+1)↔∀ y∈x.kids,Zn y≤m:=by
    rw [show (1+(x.kids.map Zn).foldl max 0≤m+1)↔(x.kids.map Zn).foldl max 0≤m by omega,Z3O]
    simp
   rw [XV,decide_eq_true_iff,e]
   simp only [Z0p,Xv]
   exact ⟨fun h y hy=>by have:=h y hy;rw [ih] at this;simpa using this,fun h y hy=>by rw [ih];simpa using h y hy⟩
theorem Z0s {x y:Nd} (h:y∈x.kids):Zn y<Zn x:=by
 rw [JJ x]
 have:=(Z3O (x.kids.map Zn) 0 ((x.kids.map Zn).foldl max 0)).1 (Xm _)
 have:=this.2 (Zn y) (XW h)
 omega
theorem Zjp (X XF:List Nat) (v:Value) (x:Nd) (w:World) (hx:NdV X w v x) (hF:SlV XF w Z2l Z8) :
 CC 38 #[v] w fun r w'=>r=.tuple #[.int .i64 (if Zn x≤12 then Z9 x else 0),.int .i64 (if Zn x≤12 then (if Z9 x=0 then 21 else 0) else 2)]∧Stp [] w w':=by
 obtain ⟨kv,rfl,hs⟩:=hx
 refine cW1 13 Tryz.func38 ?_
 refine W ?_
 refine Z3 (Zq rfl) rfl ?_
 rintro _ w1 ⟨b,rfl,hbb,hblk,hS⟩
 replace hblk:Blk w1 b _ (ndC x kv):=hblk
 replace hs:=hs.up hS;replace hF:=hF.up hS
 refine W ?_
 refine CL rfl (Zb rfl rfl) rfl (Z9I 12 X _ x 12 _ rfl (by omega) ⟨kv,rfl,hs⟩) ?_
 rintro _ w2 ⟨rfl,hS2⟩
 replace hs:=hs.up hS2;replace hF:=hF.up hS2;replace hblk:=hblk.up hS2
 replace hS:=hS.trans hS2
 rw [Z9Q]
 by_cases hn:Zn x≤12
 rw [decide_eq_true hn,if_pos hn,if_pos hn]
 refine W ?_
 refine CL rfl (Zr rfl) rfl (Zjo x X XF _ _ ⟨kv,rfl,hs⟩ hF) ?_
 rintro _ w3 ⟨rfl,hS3⟩
 replace hS:=hS.trans hS3
 focus repeat'(first|refine W1 ?_|omega|refine VG ?_ ?_<;>intro hg|refine VC ?_ ?_<;>intro hc)
 refine WR ?_
 exact .mk ⟨by rw [if_neg hc],hS⟩
 refine WR ?_
 have h0:Z9 x=0:=by omega
 exact .mk ⟨by rw [if_pos h0,h0],hS⟩
 rw [decide_eq_false hn,if_neg hn,if_neg hn]
 refine W ?_
 refine WR ?_
 exact .mk ⟨rfl,hS⟩
def okN:Nd→Bool
 | .mk k n s l=>decide (l.length≤1000) && (l.map okN).all id
theorem ZaL (x:Nd):okN x=true↔x.kids.length≤1000∧∀ y∈x.kids,okN y=true:=by
 cases x
 rw [okN]
 simp [Nd.kids]
abbrev ndL (k n:Int) (s:Str) (kv:Value):List Value:=[.int .i64 k,.int .i64 n,str s,kv]
def Jj:Nd→Nat
 | .mk k n s l=>1+(l.map Jj).sum
theorem Z0Q (x:Nd):Jj x=1+(x.kids.map Jj).sum:=by
 cases x
 rw [Jj]
 rfl
theorem Z6n {l:List Nat} {a:Nat} (h:a∈l):a≤l.sum:=by
 induction l with
 | nil=>cases h
 | cons x r ih=>
   rw [List.sum_cons]
   rcases Xf.1 h with rfl|h
   omega
   have:=ih h;omega
theorem Zdf {x y:Nd} (h:y∈x.kids):Jj y<Jj x:=by
 rw [Z0Q x]
 have:=Z6n (XW (f:=Jj) h)
 omega
theorem Zdg (x:Nd):1≤Jj x:=by rw [Z0Q];omega
theorem Z9R (l:List Nd):l.length≤(l.map Jj).sum:=by
 induction l with
 | nil=>simp
 | cons x r ih=>
   have:=Zdg x
   simp
   omega
theorem Z8q (x:Nd):Jj x≤1000→okN x=true:=by
 induction x using Nd.ind with
 | h k n s l ih=>
 intro h
 rw [ZaL]
 have h1:=Z0Q (.mk k n s l)
 have h2:=Z9R l
 refine ⟨?_,fun y hy=>ih y hy ?_⟩
 show l.length≤1000
 have:Jj (.mk k n s l)=1+(l.map Jj).sum:=h1
 omega
 have:=Zdf (x:=.mk k n s l) (y:=y) hy
 omega
theorem Z5y {x:Nd} (h:Z9 x≠0):x.kids.length≤3∧∀ y∈x.kids,Z9 y≠0:=by
 rw [Jr] at h
 unfold ZX at h
 refine ⟨?_,fun y hy e=>?_⟩
 by_cases hl:(x.kids.map Z9).length > 3
 rw [if_pos hl] at h;exact absurd rfl h
 simpa using hl
 by_cases hl:(x.kids.map Z9).length > 3
 rw [if_pos hl] at h;exact absurd rfl h
 rw [if_neg hl,if_pos (by rw [← e];exact XW hy)] at h
 exact absurd rfl h
def Zff:List Str:=[[110,101,120,116],[112,114,101,118],[108,97,116,101,114],[101,97,114,108,105,101,114],[98,101,116,119,101,101,110]]
inductive ZlL (k:Int) (s:Str) (m:Nat):Prop
 | neg (h:k=5) (hs:s=[45]∨s=[110,111,116]) (hm:m=1)
 | bin (h:k=6) (hs:s∈JO∨s∈Z1P∨s∈JP) (hm:m=2)
 | unit (h:k=7∨k=8) (hs:s∈ZZ) (hm:m=2)
 | cond (h:k=9) (hm:m=3)
 | call (h:k=10) (hs:s∈Zff) (hm:1≤m∧m≤2)
theorem Z8r {x:Nd} (h:Z9 x≠0) (hk:x.kids≠[]):x.num=0∧ZlL x.kind x.word x.kids.length:=by
 have hl:=(Z5y h).1
 rw [Zfe] at h
 have hlen:(x.kids.map Z9).length=x.kids.length:=by simp
 have hne:¬ x.kids.map Z9=[]:=by simpa using hk
 generalize x.kids.map Z9=ts at *
 rw [← hlen]
 unfold Z5x at h
 rw [if_neg hne] at h
 have hn:x.num=0:=Decidable.byContradiction (fun hn=>by rw [if_pos hn] at h;exact absurd rfl h)
 refine ⟨hn,?_⟩
 rw [if_neg (by simpa using hn)] at h
 have hlm:∀ m:List Int,Z17 ts m=true→ts.length=m.length:=fun m hm=>by rw [(Z8n.1 hm).1]
 by_cases k5:x.kind=5
 rw [if_pos k5] at h
 split at h
 rename_i hh
 rcases hh with ⟨h1,h2⟩|⟨h1,h2⟩
 exact .neg k5 (.inl h1) (hlm _ h2)
 exact .neg k5 (.inr h1) (hlm _ h2)
 exact absurd rfl h
 rw [if_neg k5] at h
 by_cases k6:x.kind=6
 rw [if_pos k6] at h
 unfold Z9L at h
 simp only [Z2m] at h
 split at h
 rename_i hh;exact .bin k6 (.inl hh.1) (hlm _ hh.2)
 split at h
 rename_i hh
 rcases hh.2 with h2|h2
 exact .bin k6 (.inr (.inl hh.1)) (hlm _ h2)
 exact .bin k6 (.inr (.inl hh.1)) (hlm _ h2)
 split at h
 rename_i hh;exact .bin k6 (.inr (.inr hh.1)) (hlm _ hh.2)
 exact absurd rfl h
 rw [if_neg k6] at h
 by_cases k78:x.kind=7∨x.kind=8
 rw [if_pos k78] at h
 simp only [Z2m] at h
 split at h
 rename_i hh;exact .unit k78 hh.1 (hlm _ hh.2)
 exact absurd rfl h
 rw [if_neg k78] at h
 by_cases k9:x.kind=9
 rw [if_pos k9] at h
 split at h
 rename_i hh;exact .cond k9 hh.2.1
 exact absurd rfl h
 rw [if_neg k9] at h
 by_cases k10:x.kind=10
 rw [if_pos k10] at h
 unfold Z6A at h
 simp only [Z2m] at h
 split at h
 rename_i hh
 refine .call k10 ?_ (by have:=hlm _ hh.2;simp at this;omega)
 have:=hh.1
 simp only [Z0q,Zff,Xf,Xk,or_false] at this ⊢
 rcases this with h|h<;>simp [h]
 split at h
 rename_i hh
 refine .call k10 ?_ (by have:=hlm _ hh.2;simp at this;omega)
 have:=hh.1
 simp only [Z0r,Zff,Xf,Xk,or_false] at this ⊢
 rcases this with h|h<;>simp [h]
 split at h
 rename_i hh
 refine .call k10 ?_ (by have:=hlm _ hh.2;simp at this;omega)
 simp [Zff,hh.1]
 exact absurd rfl h
 rw [if_neg k10] at h
 exact absurd rfl h
theorem Z9S {x:Nd} (h:Z9 x≠0) (hk:x.kids=[]):1≤x.kind∧x.kind≤4:=by
 rw [Jr,hk] at h
 simp [ZX] at h
 unfold Z05 at h
 grind
end Go.Proofs.YtjdjdoefppebkaaGreatDoor
namespace Go.Eng
open Go
structure Ins where
 op:Int
 n:Int
 deriving DecidableEq,Inhabited
instance:Za Ins where
 k:=2
 enc:=fun x=>[.int .i64 x.op,.int .i64 x.n]
 len:=fun _=>rfl
 one:=by intro x u hu;simp at hu;rcases hu with rfl|rfl<;>rfl
def agg {α:Type} [Za α] (x:α):Value:=.agg (Za.enc x).toArray
theorem Row.keep {β:Type} [Za β] {X S:List Nat} {w w':World} {base T:Nat} {v:Value} {xs:List β} (h:Row X w base T v xs) (hS:Stp S w w') (hd:∀ b∈S,b∉ob v):Row X w' base T v xs:=by
 have h':Row S w base T v xs:=h
 have:=h'.ext (X':=X) hS (fun b hb=>⟨hb,hd b hb⟩)
 obtain ⟨css,h1,h2,h3⟩:=h
 refine ⟨css,h1,h2,?_⟩
 have h4:Row S w base T v xs:=⟨css,h1,h2,h3⟩
 obtain ⟨ho,hr⟩:=h3
 refine ⟨ho,?_⟩
 rcases hr with hn|⟨q,cap,cur,rfl,hb,hg,rest⟩
 exact .inl hn
 refine .inr ⟨q,cap,cur,rfl,hb,?_,rest⟩
 rw [hS.block q (Array.getElem?_eq_some_iff.1 hg).1 (fun hq=>hd q hq (by simp [ob]))]
 exact hg
end Go.Eng
namespace Go.Proofs.YtjdjdoefppebkaaGreatDoor
open Go Go.Eng Go.RowKit
theorem Zjq (a b:Int) (w:World):(Instr.build 51 #[(0,.int .i64 a),(1,.int .i64 b)]).run Tryz.prog w=.ok (agg (Ins.mk a b)) w:=by kernel_rfl
theorem Zfg (d:Ins) (w:World):(Instr.buildSlice 40 1 #[(0,agg d)]).run Tryz.prog w=.ok (.slice (some ⟨w.heap.size,0,none⟩) 1 1) (w.alloc (.cells (Za.enc d).toArray 51)):=by kernel_rfl
structure Cod (w:World) (bc base:Nat) (v:Value) (xs:List Ins):Prop where
 blk:Blk w bc 156 [v]
 row:Row [] w base 51 v xs
 apart:bc∉ob v
 low:bc<base
 top:base≤w.heap.size
def Z0x (w:World) (bc base:Nat) (v:Value) (ys:List Ins) (w':World):Prop:=
 ∃ v',Cod w' bc base v' ys∧Stp (bc :: ob v) w w'∧∀ b∈ob v',b∈ob v∨w.heap.size≤b
theorem Cod.up {w w':World} {bc base:Nat} {v:Value} {xs:List Ins} (h:Cod w bc base v xs) (hS:Stp [] w w'):Cod w' bc base v xs:=
 ⟨h.blk.up hS,h.row.up hS,h.apart,h.low,Xi h.top hS.size⟩
theorem Z0x.pre {w0 w w':World} {bc base:Nat} {v:Value} {ys:List Ins} (hS:Stp [] w0 w) (h:Z0x w bc base v ys w'):Z0x w0 bc base v ys w':=by
 obtain ⟨v',h1,h2,h3⟩:=h
 exact ⟨v',h1,(hS.mono (by simp)).trans h2,fun b hb=>(h3 b hb).imp id (fun h=>Xi hS.size h)⟩
theorem Z0x.next {w w1 w2:World} {bc base:Nat} {v v1:Value} {zs:List Ins} (hS:Stp (bc :: ob v) w w1) (hb:∀ b∈ob v1,b∈ob v∨w.heap.size≤b) (h:Z0x w1 bc base v1 zs w2):Z0x w bc base v zs w2:=by
 obtain ⟨v',h1,h2,h3⟩:=h
 refine ⟨v',h1,?_,fun b hb'=>?_⟩
 exact hS.own h2 (fun b hb'=>by
  rcases Xf.1 hb' with rfl|h
  exact .inl (by simp)
  exact (hb b h).imp (fun h=>XA _ h) id)
 rcases h3 b hb' with h|h
 exact hb b h
 exact .inr (Xi hS.size h)
theorem Zgl {w w':World} {bc:Nat} {v v':Value} {α:Type} [Zd α] {u:Value} {xs:List α} (h:SlV (bc :: ob v) w u xs) (hS:Stp (bc :: ob v) w w') (hb:∀ b∈ob v',b∈ob v∨w.heap.size≤b):SlV (bc :: ob v') w' u xs:=
 h.ext hS (fun _ h=>h) (fun b hb'=>by
  rcases Xf.1 hb' with rfl|h
  exact .inl (by simp)
  exact (hb b h).imp (fun h=>XA _ h) id)
theorem Z0t (bc base:Nat) (v:Value) (xs:List Ins) (op n:Int) (w:World) (hc:Cod w bc base v xs) (hl:xs.length≤1000000) :
 CC 77 #[.pointer (some ⟨bc,0,none⟩),.int .i64 op,.int .i64 n] w fun r w'=>r=.int .i64 (xs.length:Int)∧Z0x w bc base v (xs++[⟨op,n⟩]) w':=by
 obtain ⟨hblk,hrow,hap,hlow,htop⟩:=hc
 refine cW3 25 Tryz.func77 ?_
 refine W ?_
 apply Zf (vs:=[(0,.int .i64 op),(1,.int .i64 n)]) rfl (Zjq _ _) rfl
 refine Z3 (Z0 (vs:=[(0,agg (Ins.mk op n))]) rfl (Zfg _)) rfl ?_
 rintro bv w1 hN
 have hbv:SlV (ob v++[]) w1 bv [Ins.mk op n]:=hN.slv (fun b hb=>(hrow.ob_le b (by simpa using hb)).2) rfl rfl (by simp [maxLen])
 have hS1:=Z7.stp hN
 clear hN
 have hrow1:=hrow.up hS1
 have hblk1:=hblk.up hS1
 have h1:=hS1.size
 refine Z3 (ZV (X:=[]) (base:=base) rfl (by decide) rfl rfl hrow1 hbv (by simp only [Xc,Xe];omega) (by simp only [Xc,Xe,maxLen];omega) (by omega)) rfl ?_
 rintro v' w2 ⟨hrow2,hS2,hob⟩
 have hblk2:=hblk1.ext hS2 hap
 have hbl:=hblk1.lt
 refine W ?_
 refine Z1 (Zc (u:=v') rfl rfl hrow2.slv0.cells hrow2.slv0.one hblk2 (by simp)) ?_
 rintro _ w3 ⟨hS3,hblk3⟩
 replace hblk3:Blk w3 bc 156 [v']:=hblk3
 have hap':bc∉ob v':=fun hb=>by
  rcases hob bc hb with h|h
  exact hap h
  omega
 have hrow3:=hrow2.keep hS3 (fun b hb=>by simp at hb;subst hb;exact hap')
 have hs3:=hrow3.slv0
 have hll:(xs++[Ins.mk op n]).length≤1000001:=by simp only [Xd,Xc,Xe];omega
 refine W ?_
 refine WR ?_
 refine .mk ⟨?_,v',⟨hblk3,hrow3,hap',hlow,?_⟩,?_,?_⟩
 simp only [Xd,Xc,Xe]
 congr 1
 omega
 exact Xi htop (Xi h1 (Xi hS2.size hS3.size))
 exact ((hS1.mono (by simp)).trans (hS2.mono (fun x hx=>by simp [hx]))).trans (hS3.mono (fun x hx=>by simp at hx;simp [hx]))
 intro b hb
 rcases hob b hb with h|h
 exact .inl h
 exact .inr (by omega)
theorem Z8s (bc base:Nat) (v:Value) (xs:List Ins) (k:Nat) (w:World) (hc:Cod w bc base v xs) (hk:k<xs.length) (hl:xs.length≤1000000) :
 CC 227 #[.pointer (some ⟨bc,0,none⟩),.int .i64 (k:Int)] w fun r w'=>Z0x w bc base v (xs.set k ⟨xs[k].op,(xs.length:Int)⟩) w':=by
 obtain ⟨hblk,hrow,hap,hlow,htop⟩:=hc
 refine cW2 16 Tryz.func227 ?_
 refine W ?_
 refine ZDr 13 [] [12] [(0,0),(1,0),(2,0),(3,1),(4,0),(5,0),(6,0),(7,0),(8,1),(9,0),(10,0),(11,0),(12,2)] (fun w1 hS1=>?_)
 replace hblk:=hblk.up hS1
 replace hrow:=hrow.up hS1
 have hs:=hrow.slv0
 have hsz:=hS1.size
 refine D ?_
 refine WD_late0 rfl trivial (Z4m (β:=Ins) (i:=k) (y':=⟨xs[k].op,(xs.length:Int)⟩) rfl rfl rfl rfl rfl hrow hk (by decide) rfl) rfl ?_
 rintro _ w2 ⟨hrow2,hS2⟩
 refine D ?_
 refine W ?_
 refine WR ?_
 refine .mk ⟨v,⟨hblk.ext hS2 hap,hrow2,hap,hlow,by have:=hS2.size;omega⟩,?_,fun b hb=>.inl hb⟩
 exact (hS1.mono (by simp)).trans (hS2.mono (fun x hx=>by simp [hx]))
structure Fr (w0 w:World) (bc base:Nat) (v0 v:Value) (xs:List Ins):Prop where
 cod:Cod w bc base v xs
 stp:Stp (bc :: ob v0) w0 w
 sub:∀ b∈ob v,b∈ob v0∨w0.heap.size≤b
theorem Fr.start {w:World} {bc base:Nat} {v:Value} {xs:List Ins} (h:Cod w bc base v xs):Fr w w bc base v v xs:=⟨h,Stp.refl _ _,fun b hb=>.inl hb⟩
theorem Fr.step {w0 w w':World} {bc base:Nat} {v0 v:Value} {xs ys:List Ins} (h:Fr w0 w bc base v0 v xs) (k:Z0x w bc base v ys w'):∃ v',Fr w0 w' bc base v0 v' ys:=by
 obtain ⟨v',h1,h2,h3⟩:=Z0x.next h.stp h.sub k
 exact ⟨v',h1,h2,h3⟩
theorem Fr.up {w0 w w':World} {bc base:Nat} {v0 v:Value} {xs:List Ins} (h:Fr w0 w bc base v0 v xs) (hS:Stp [] w w'):Fr w0 w' bc base v0 v xs:=⟨h.cod.up hS,h.stp.trans (hS.mono (by simp)),h.sub⟩
theorem Fr.fin {w0 w:World} {bc base:Nat} {v0 v:Value} {xs:List Ins} (h:Fr w0 w bc base v0 v xs):Z0x w0 bc base v0 xs w:=⟨v,h.cod,h.stp,h.sub⟩
theorem Fr.sl {w0 w:World} {bc base:Nat} {v0 v:Value} {xs:List Ins} {α:Type} [Zd α] {u:Value} {ys:List α} (h:Fr w0 w bc base v0 v xs) (hs:SlV (bc :: ob v0) w0 u ys):SlV (bc :: ob v) w u ys:=Zgl hs h.stp h.sub
theorem Fr.bk {w0 w:World} {bc base b T:Nat} {v0 v:Value} {xs:List Ins} {cs:List Value} (h:Fr w0 w bc base v0 v xs) (hb:Blk w0 b T cs) (hn:b∉bc :: ob v0):Blk w b T cs:=hb.ext h.stp hn
abbrev Cf:=Nat→List Ins
def chC (c y n:Cf) (p0:Nat):List Ins:=
 c p0 ++ [⟨14, ((p0 + (c p0).length + 1 + (y (p0 + (c p0).length + 1)).length + 1 : Nat) : Int)⟩] ++ y (p0 + (c p0).length + 1) ++
   [⟨13,((p0+(c p0).length+1+(y (p0+(c p0).length+1)).length+1+(n (p0+(c p0).length+1+(y (p0+(c p0).length+1)).length+1)).length:Nat):Int)⟩]++n (p0+(c p0).length+1+(y (p0+(c p0).length+1)).length+1)
def Z1i (x:Nd) (f:Cf):Prop:=∀ (w:World) (bc base:Nat) (v nv:Value) (xs:List Ins),Cod w bc base v xs→NdV (bc :: ob v) w nv x→SlV (bc :: ob v) w Z2l Z8→xs.length+(f xs.length).length≤100000→
 CC 76 #[.pointer (some ⟨bc,0,none⟩),nv] w fun r w'=>Z0x w bc base v (xs++f xs.length) w'
theorem Z3r {x y n:Nd} {f g h:Cf} (hx:Z1i x f) (hy:Z1i y g) (hn:Z1i n h) (w:World) (bc base:Nat) (v xv yv nv:Value) (xs:List Ins) (hc:Cod w bc base v xs)
 (gx:NdV (bc :: ob v) w xv x) (gy:NdV (bc :: ob v) w yv y) (gn:NdV (bc :: ob v) w nv n) (hF:SlV (bc :: ob v) w Z2l Z8) (hl:xs.length+(chC f g h xs.length).length≤100000) :
 CC 137 #[.pointer (some ⟨bc,0,none⟩),xv,yv,nv] w fun r w'=>Z0x w bc base v (xs++chC f g h xs.length) w':=by
 have hl':=hl
 unfold chC at hl'
 simp only [Xd,Xc,Xe] at hl'
 obtain ⟨xk,rfl,sx⟩:=gx
 obtain ⟨yk,rfl,sy⟩:=gy
 obtain ⟨nk,rfl,sn⟩:=gn
 refine cW4 29 Tryz.func137 ?_
 refine W ?_
 refine Z3 (Zq rfl) rfl ?_
 rintro _ w1 ⟨b1,rfl,hb1,k1,hS1⟩
 replace k1:Blk w1 b1 _ (ndC x xk):=k1
 refine Z3 (Zq rfl) rfl ?_
 rintro _ w2 ⟨b2,rfl,hb2,k2,hS2⟩
 replace k2:Blk w2 b2 _ (ndC y yk):=k2
 refine Z3 (Zq rfl) rfl ?_
 rintro _ w3 ⟨b3,rfl,hb3,k3,hS3⟩
 replace k3:Blk w3 b3 _ (ndC n nk):=k3
 have hS:=(hS1.trans hS2).trans hS3
 have l1:=k1.lt
 have l2:=k2.lt
 have l3:=k3.lt
 replace k1:=(k1.up hS2).up hS3
 replace k2:=k2.up hS3
 have hobv:∀ b∈bc :: ob v,b<w.heap.size:=fun b hb=>by
  rcases Xf.1 hb with rfl|h
  exact hc.blk.lt
  exact (hc.row.ob_le b h).2
 have n1:b1∉bc :: ob v:=fun h=>by have:=hobv _ h;omega
 have n2:b2∉bc :: ob v:=fun h=>by have:=hobv _ h;omega
 have n3:b3∉bc :: ob v:=fun h=>by have:=hobv _ h;omega
 replace hc:=hc.up hS
 replace sx:=sx.up hS
 replace sy:=sy.up hS
 replace sn:=sn.up hS
 replace hF:=hF.up hS
 have l1:=k1.lt
 have l2:=k2.lt
 have l3:=k3.lt
 have main:∀ ys w',Z0x w3 bc base v ys w'→Z0x w bc base v ys w':=fun ys w' h=>h.pre hS
 refine W ?_
 have fr:=Fr.start hc
 refine CL rfl (Zb rfl rfl) rfl (hx _ bc base _ _ _ fr.cod ⟨xk,rfl,fr.sl sx⟩ (fr.sl hF) (by omega)) ?_
 rintro _ w4 hq
 obtain ⟨v4,fr⟩:=fr.step hq
 refine W ?_
 refine CL rfl (Zu rfl rfl rfl) rfl (Z0t bc base _ _ 14 0 _ fr.cod (by simp only [Xd];omega)) ?_
 rintro _ w5 ⟨rfl,hq⟩
 obtain ⟨v5,fr⟩:=fr.step hq
 have q2:=fr.bk k2 n2
 refine W ?_
 have e1:(xs++f xs.length++[(⟨14,0⟩:Ins)]).length=xs.length+(f xs.length).length+1:=by simp only [Xd,Xc,Xe]
 refine CL rfl (Zb rfl rfl) rfl (hy _ bc base _ _ _ fr.cod ⟨yk,rfl,fr.sl sy⟩ (fr.sl hF) (by rw [e1];omega)) ?_
 rintro _ w6 hq
 obtain ⟨v6,fr⟩:=fr.step hq
 rw [e1] at fr
 refine W ?_
 refine CL rfl (Zu rfl rfl rfl) rfl (Z0t bc base _ _ 13 0 _ fr.cod (by simp only [Xd,Xc,Xe];omega)) ?_
 rintro _ w7 ⟨rfl,hq⟩
 obtain ⟨v7,fr⟩:=fr.step hq
 refine W ?_
 have hch:=chC.eq_1 f g h xs.length
 generalize hA:f xs.length=A at *
 generalize hp:xs.length+A.length+1=p at *
 generalize hB:g p=B at *
 generalize hqq:p+B.length+1=q at *
 generalize hD:h q=D at *
 have e2:((xs++A).length:Int)=((xs.length+A.length:Nat):Int):=by simp only [Xd]
 rw [e2]
 refine CL rfl (Zb rfl rfl) rfl (Z8s bc base _ _ (xs.length+A.length) _ fr.cod (by simp only [Xd,Xc,Xe];omega) (by simp only [Xd,Xc,Xe];omega)) ?_
 rintro _ w8 hq
 obtain ⟨v8,fr⟩:=fr.step hq
 have e3:∀ (l:List Ins) (h:xs.length+A.length<l.length),l=xs++A++[⟨14,0⟩]++B++[⟨13,0⟩]→l.set (xs.length+A.length) ⟨l[xs.length+A.length].op,(l.length:Int)⟩=xs++A++[⟨14,(q:Int)⟩]++B++[⟨13,0⟩]:=by
  intro l h hl
  have hop:l[xs.length+A.length].op=14:=by
   have:l[xs.length+A.length]?=some ⟨14,0⟩:=by
    rw [hl]
    simp
   rw [List.getElem?_eq_getElem h] at this
   rw [XG this]
  have hlen:(l.length:Int)=(q:Int):=by
   rw [hl]
   simp only [Xd,Xc,Xe]
   omega
  rw [hop,hlen,hl]
  simp
 rw [e3 _ _ rfl] at fr
 have q3:=fr.bk k3 n3
 refine W ?_
 have e4:(xs++A++[(⟨14,(q:Int)⟩:Ins)]++B++[(⟨13,0⟩:Ins)]).length=q:=by simp only [Xd,Xc,Xe];omega
 refine CL rfl (Zb rfl rfl) rfl (hn _ bc base _ _ _ fr.cod ⟨nk,rfl,fr.sl sn⟩ (fr.sl hF) (by rw [e4,hD];omega)) ?_
 rintro _ w9 hq
 obtain ⟨v9,fr⟩:=fr.step hq
 rw [e4,hD] at fr
 refine W ?_
 have e5:((xs++A++[(⟨14,0⟩:Ins)]++B).length:Int)=((p+B.length:Nat):Int):=by simp only [Xd,Xc,Xe];omega
 rw [e5]
 refine CL rfl (Zb rfl rfl) rfl (Z8s bc base _ _ (p+B.length) _ fr.cod (by simp only [Xd,Xc,Xe];omega) (by simp only [Xd,Xc,Xe];omega)) ?_
 rintro _ w10 hq
 obtain ⟨v10,fr⟩:=fr.step hq
 rw [hch]
 have e6:∀ (l:List Ins) (hl:p+B.length<l.length),l=xs++A++[⟨14,(q:Int)⟩]++B++[⟨13,0⟩]++D→l.set (p+B.length) ⟨l[p+B.length].op,(l.length:Int)⟩=xs++(A++[⟨14,(q:Int)⟩]++B++[⟨13,((q+D.length:Nat):Int)⟩]++D):=by
  intro l h hl
  have e7:(xs++A++[(⟨14,(q:Int)⟩:Ins)]++B).length=p+B.length:=by simp only [Xd,Xc,Xe];omega
  have hl2:l=(xs++A++[⟨14,(q:Int)⟩]++B)++⟨13,0⟩ :: D:=by rw [hl];simp
  have hop:l[p+B.length].op=13:=by
   have:l[p+B.length]?=some ⟨13,0⟩:=by
    rw [hl2,List.getElem?_append_right (by omega),e7]
    simp
   rw [List.getElem?_eq_getElem h] at this
   rw [XG this]
  have hlen:(l.length:Int)=((q+D.length:Nat):Int):=by
   rw [hl2,Xd,e7]
   simp only [Xc]
   omega
  rw [hop,hlen,hl2,List.set_append_right _ _ (by omega),e7]
  simp
 rw [e6 _ _ rfl] at fr
 refine W ?_
 refine WR ?_
 exact .mk (main _ _ fr.fin)
def Z7q (X:List Nat) (w:World) (r:Nat) (es:List (Str×List Int)):Prop:=
 ∃ l:List (Str×Value),Jp str w r l∧l.length=es.length∧∀ i (h:i<l.length) (h':i<es.length),l[i].1=es[i].1∧SlV (r :: X) w l[i].2 es[i].2
theorem Z7q.up {X:List Nat} {w w':World} {r:Nat} {es:List (Str×List Int)} (h:Z7q X w r es) (hS:Stp [] w w'):Z7q X w' r es:=by
 obtain ⟨l,h1,h2,h3⟩:=h
 exact ⟨l,h1.up hS,h2,fun i h h'=>⟨(h3 i h h').1,(h3 i h h').2.up hS⟩⟩
theorem ZP {P:Program} {n:Nat} {e:Env} {w:World} {d:Option Nat} {ty:TypeId} {pos:String} {af:Array Edge} {g:Option (Nat×Bool)} {mt kt et r:Nat} {x y z:Operand} [hm:Und P mt (.map kt et)] [hk:Und P kt .string] {X:List Nat} {es:List (Str×List Int)} {a:Str} {v:Value} {xs:List Int} (hx:ev e x=some (.map (some r))) (hy:ev e y=some (str a)) (hz:ev e z=some v)
 (hr:Z7q X w r es) (hv:SlV (r :: X) w v xs) (hn:∀ p∈es,¬ p.1=a):OE P n ⟨d,.insert mt x y z,ty,pos,af,g⟩ e w (fun _ w'=>Z7q X w' r (es++[(a,xs)])∧Stp [r] w w'):=by
 obtain ⟨l,h1,h2,h3⟩:=hr
 have hfr:∀ p∈l,¬ p.1=a:=by
  intro p hp
  obtain ⟨i,hi,rfl⟩:=Xo hp
  rw [(h3 i hi (by omega)).1]
  exact hn _ (Xh _)
 refine (Zo (K:=inferInstance) hx hy hz h1 hfr).mono ?_
 rintro _ w' ⟨g1,g2⟩
 refine ⟨⟨_,g1,by simp [h2],fun i h h'=>?_⟩,g2⟩
 by_cases hi:i<l.length
 have hi':i<es.length:=by omega
 rw [XI hi,XI hi']
 exact ⟨(h3 i hi hi').1,(h3 i hi hi').2.on g2 (by simp)⟩
 have hil:i=l.length:=by simp at h;omega
 subst hil
 rw [XH (Xm _),XH (by omega)]
 simp only [YaM,h2,List.getElem_cons_zero]
 exact ⟨trivial,hv.on g2 (by simp)⟩
def Z5z:List (Str×List Int):=[([43],[5]),([42],[7]),([110,111,116],[12]),([60],[9]),([60,61],[10]),([61],[11]),([62],[10,12]),([62,61],[9,12]),([33,61],[11,12]),([100,97,121,115],[15]),([119,101,101,107,115],[16]),([109,111,110,116,104,115],[17]),([99,111,117,114,116,100,97,121,115],[18]),([110,101,120,116],[19]),([112,114,101,118],[20]),([108,97,116,101,114],[21]),([101,97,114,108,105,101,114],[22]),([98,101,116,119,101,101,110],[23])]
theorem Z6o (X:List Nat) (w:World) (hX:∀ b∈X,b<w.heap.size):CC 228 #[] w fun r w'=>∃ m,r=.map (some m)∧Z7q X w' m Z5z∧Stp [] w w':=by
 refine cW0 21 Tryz.func228 ?_
 refine W ?_
 refine Z3 (Z0j str) rfl ?_
 rintro _ w1 ⟨m,rfl,hm,hmap,hS⟩
 have hmp:Z7q X w1 m []:=⟨[],hmap,rfl,fun i h=>absurd h (XB _)⟩
 have hml:=hmap.lt
 clear hmap
 have hXw:∀ b∈m :: X,b≤m:=fun b hb=>(Xf.1 hb).elim (fun h=>by omega) (fun h=>by have:=hX b h;omega)
 refine Z3 (Z0 (vs:=[(0,.int .i64 5)]) rfl (Jc _)) rfl ?_
 rintro bv w2 hN
 have hbv:SlV (m :: X) w2 bv [(5:Int)]:=hN.slv (fun b hb=>by have:=hXw b hb;omega) rfl rfl (by simp [maxLen])
 have hS2:=Z7.stp hN
 clear hN
 replace hmp:=hmp.up hS2
 have hml2:=hS2.size
 refine Z1 (ZP (a:=[43]) rfl rfl rfl hmp hbv (by decide)) ?_
 clear hmp
 rintro _ w3 ⟨hmp,hS3⟩
 have hml3:=hS3.size
 replace hml:=Xa (Xa hml hml2) hml3
 replace hS:=(hS.trans hS2).own hS3 (fun b hb=>.inr (by simp at hb;omega))
 clear hS2 hS3 hbv hml2 hml3
 refine Z3 (Z0 (vs:=[(0,.int .i64 7)]) rfl (Jc _)) rfl ?_
 rintro bv w2 hN
 have hbv:SlV (m :: X) w2 bv [(7:Int)]:=hN.slv (fun b hb=>by have:=hXw b hb;omega) rfl rfl (by simp [maxLen])
 have hS2:=Z7.stp hN
 clear hN
 replace hmp:=hmp.up hS2
 have hml2:=hS2.size
 refine Z1 (ZP (a:=[42]) rfl rfl rfl hmp hbv (by decide)) ?_
 clear hmp
 rintro _ w3 ⟨hmp,hS3⟩
 have hml3:=hS3.size
 replace hml:=Xa (Xa hml hml2) hml3
 replace hS:=(hS.trans hS2).own hS3 (fun b hb=>.inr (by simp at hb;omega))
 clear hS2 hS3 hbv hml2 hml3
 refine Z3 (Z0 (vs:=[(0,.int .i64 12)]) rfl (Jc _)) rfl ?_
 rintro bv w2 hN
 have hbv:SlV (m :: X) w2 bv [(12:Int)]:=hN.slv (fun b hb=>by have:=hXw b hb;omega) rfl rfl (by simp [maxLen])
 have hS2:=Z7.stp hN
 clear hN
 replace hmp:=hmp.up hS2
 have hml2:=hS2.size
 refine Z1 (ZP (a:=[110,111,116]) rfl rfl rfl hmp hbv (by decide)) ?_
 clear hmp
 rintro _ w3 ⟨hmp,hS3⟩
 have hml3:=hS3.size
 replace hml:=Xa (Xa hml hml2) hml3
 replace hS:=(hS.trans hS2).own hS3 (fun b hb=>.inr (by simp at hb;omega))
 clear hS2 hS3 hbv hml2 hml3
 refine Z3 (Z0 (vs:=[(0,.int .i64 9)]) rfl (Jc _)) rfl ?_
 rintro bv w2 hN
 have hbv:SlV (m :: X) w2 bv [(9:Int)]:=hN.slv (fun b hb=>by have:=hXw b hb;omega) rfl rfl (by simp [maxLen])
 have hS2:=Z7.stp hN
 clear hN
 replace hmp:=hmp.up hS2
 have hml2:=hS2.size
 refine Z1 (ZP (a:=[60]) rfl rfl rfl hmp hbv (by decide)) ?_
 clear hmp
 rintro _ w3 ⟨hmp,hS3⟩
 have hml3:=hS3.size
 replace hml:=Xa (Xa hml hml2) hml3
 replace hS:=(hS.trans hS2).own hS3 (fun b hb=>.inr (by simp at hb;omega))
 clear hS2 hS3 hbv hml2 hml3
 refine Z3 (Z0 (vs:=[(0,.int .i64 10)]) rfl (Jc _)) rfl ?_
 rintro bv w2 hN
 have hbv:SlV (m :: X) w2 bv [(10:Int)]:=hN.slv (fun b hb=>by have:=hXw b hb;omega) rfl rfl (by simp [maxLen])
 have hS2:=Z7.stp hN
 clear hN
 replace hmp:=hmp.up hS2
 have hml2:=hS2.size
 refine Z1 (ZP (a:=[60,61]) rfl rfl rfl hmp hbv (by decide)) ?_
 clear hmp
 rintro _ w3 ⟨hmp,hS3⟩
 have hml3:=hS3.size
 replace hml:=Xa (Xa hml hml2) hml3
 replace hS:=(hS.trans hS2).own hS3 (fun b hb=>.inr (by simp at hb;omega))
 clear hS2 hS3 hbv hml2 hml3
 refine Z3 (Z0 (vs:=[(0,.int .i64 11)]) rfl (Jc _)) rfl ?_
 rintro bv w2 hN
 have hbv:SlV (m :: X) w2 bv [(11:Int)]:=hN.slv (fun b hb=>by have:=hXw b hb;omega) rfl rfl (by simp [maxLen])
 have hS2:=Z7.stp hN
 clear hN
 replace hmp:=hmp.up hS2
 have hml2:=hS2.size
 refine Z1 (ZP (a:=[61]) rfl rfl rfl hmp hbv (by decide)) ?_
 clear hmp
 rintro _ w3 ⟨hmp,hS3⟩
 have hml3:=hS3.size
 replace hml:=Xa (Xa hml hml2) hml3
 replace hS:=(hS.trans hS2).own hS3 (fun b hb=>.inr (by simp at hb;omega))
 clear hS2 hS3 hbv hml2 hml3
 refine Z3 (Z0 (vs:=[(0,.int .i64 10),(1,.int .i64 12)]) rfl (Z5v _ _)) rfl ?_
 rintro bv w2 hN
 have hbv:SlV (m :: X) w2 bv [(10:Int),(12:Int)]:=hN.slv (fun b hb=>by have:=hXw b hb;omega) rfl rfl (by simp [maxLen])
 have hS2:=Z7.stp hN
 clear hN
 replace hmp:=hmp.up hS2
 have hml2:=hS2.size
 refine Z1 (ZP (a:=[62]) rfl rfl rfl hmp hbv (by decide)) ?_
 clear hmp
 rintro _ w3 ⟨hmp,hS3⟩
 have hml3:=hS3.size
 replace hml:=Xa (Xa hml hml2) hml3
 replace hS:=(hS.trans hS2).own hS3 (fun b hb=>.inr (by simp at hb;omega))
 clear hS2 hS3 hbv hml2 hml3
 refine Z3 (Z0 (vs:=[(0,.int .i64 9),(1,.int .i64 12)]) rfl (Z5v _ _)) rfl ?_
 rintro bv w2 hN
 have hbv:SlV (m :: X) w2 bv [(9:Int),(12:Int)]:=hN.slv (fun b hb=>by have:=hXw b hb;omega) rfl rfl (by simp [maxLen])
 have hS2:=Z7.stp hN
 clear hN
 replace hmp:=hmp.up hS2
 have hml2:=hS2.size
 refine Z1 (ZP (a:=[62,61]) rfl rfl rfl hmp hbv (by decide)) ?_
 clear hmp
 rintro _ w3 ⟨hmp,hS3⟩
 have hml3:=hS3.size
 replace hml:=Xa (Xa hml hml2) hml3
 replace hS:=(hS.trans hS2).own hS3 (fun b hb=>.inr (by simp at hb;omega))
 clear hS2 hS3 hbv hml2 hml3
 refine Z3 (Z0 (vs:=[(0,.int .i64 11),(1,.int .i64 12)]) rfl (Z5v _ _)) rfl ?_
 rintro bv w2 hN
 have hbv:SlV (m :: X) w2 bv [(11:Int),(12:Int)]:=hN.slv (fun b hb=>by have:=hXw b hb;omega) rfl rfl (by simp [maxLen])
 have hS2:=Z7.stp hN
 clear hN
 replace hmp:=hmp.up hS2
 have hml2:=hS2.size
 refine Z1 (ZP (a:=[33,61]) rfl rfl rfl hmp hbv (by decide)) ?_
 clear hmp
 rintro _ w3 ⟨hmp,hS3⟩
 have hml3:=hS3.size
 replace hml:=Xa (Xa hml hml2) hml3
 replace hS:=(hS.trans hS2).own hS3 (fun b hb=>.inr (by simp at hb;omega))
 clear hS2 hS3 hbv hml2 hml3
 refine Z3 (Z0 (vs:=[(0,.int .i64 15)]) rfl (Jc _)) rfl ?_
 rintro bv w2 hN
 have hbv:SlV (m :: X) w2 bv [(15:Int)]:=hN.slv (fun b hb=>by have:=hXw b hb;omega) rfl rfl (by simp [maxLen])
 have hS2:=Z7.stp hN
 clear hN
 replace hmp:=hmp.up hS2
 have hml2:=hS2.size
 refine Z1 (ZP (a:=[100,97,121,115]) rfl rfl rfl hmp hbv (by decide)) ?_
 clear hmp
 rintro _ w3 ⟨hmp,hS3⟩
 have hml3:=hS3.size
 replace hml:=Xa (Xa hml hml2) hml3
 replace hS:=(hS.trans hS2).own hS3 (fun b hb=>.inr (by simp at hb;omega))
 clear hS2 hS3 hbv hml2 hml3
 refine Z3 (Z0 (vs:=[(0,.int .i64 16)]) rfl (Jc _)) rfl ?_
 rintro bv w2 hN
 have hbv:SlV (m :: X) w2 bv [(16:Int)]:=hN.slv (fun b hb=>by have:=hXw b hb;omega) rfl rfl (by simp [maxLen])
 have hS2:=Z7.stp hN
 clear hN
 replace hmp:=hmp.up hS2
 have hml2:=hS2.size
 refine Z1 (ZP (a:=[119,101,101,107,115]) rfl rfl rfl hmp hbv (by decide)) ?_
 clear hmp
 rintro _ w3 ⟨hmp,hS3⟩
 have hml3:=hS3.size
 replace hml:=Xa (Xa hml hml2) hml3
 replace hS:=(hS.trans hS2).own hS3 (fun b hb=>.inr (by simp at hb;omega))
 clear hS2 hS3 hbv hml2 hml3
 refine Z3 (Z0 (vs:=[(0,.int .i64 17)]) rfl (Jc _)) rfl ?_
 rintro bv w2 hN
 have hbv:SlV (m :: X) w2 bv [(17:Int)]:=hN.slv (fun b hb=>by have:=hXw b hb;omega) rfl rfl (by simp [maxLen])
 have hS2:=Z7.stp hN
 clear hN
 replace hmp:=hmp.up hS2
 have hml2:=hS2.size
 refine Z1 (ZP (a:=[109,111,110,116,104,115]) rfl rfl rfl hmp hbv (by decide)) ?_
 clear hmp
 rintro _ w3 ⟨hmp,hS3⟩
 have hml3:=hS3.size
 replace hml:=Xa (Xa hml hml2) hml3
 replace hS:=(hS.trans hS2).own hS3 (fun b hb=>.inr (by simp at hb;omega))
 clear hS2 hS3 hbv hml2 hml3
 refine Z3 (Z0 (vs:=[(0,.int .i64 18)]) rfl (Jc _)) rfl ?_
 rintro bv w2 hN
 have hbv:SlV (m :: X) w2 bv [(18:Int)]:=hN.slv (fun b hb=>by have:=hXw b hb;omega) rfl rfl (by simp [maxLen])
 have hS2:=Z7.stp hN
 clear hN
 replace hmp:=hmp.up hS2
 have hml2:=hS2.size
 refine Z1 (ZP (a:=[99,111,117,114,116,100,97,121,115]) rfl rfl rfl hmp hbv (by decide)) ?_
 clear hmp
 rintro _ w3 ⟨hmp,hS3⟩
 have hml3:=hS3.size
 replace hml:=Xa (Xa hml hml2) hml3
 replace hS:=(hS.trans hS2).own hS3 (fun b hb=>.inr (by simp at hb;omega))
 clear hS2 hS3 hbv hml2 hml3
 refine Z3 (Z0 (vs:=[(0,.int .i64 19)]) rfl (Jc _)) rfl ?_
 rintro bv w2 hN
 have hbv:SlV (m :: X) w2 bv [(19:Int)]:=hN.slv (fun b hb=>by have:=hXw b hb;omega) rfl rfl (by simp [maxLen])
 have hS2:=Z7.stp hN
 clear hN
 replace hmp:=hmp.up hS2
 have hml2:=hS2.size
 refine Z1 (ZP (a:=[110,101,120,116]) rfl rfl rfl hmp hbv (by decide)) ?_
 clear hmp
 rintro _ w3 ⟨hmp,hS3⟩
 have hml3:=hS3.size
 replace hml:=Xa (Xa hml hml2) hml3
 replace hS:=(hS.trans hS2).own hS3 (fun b hb=>.inr (by simp at hb;omega))
 clear hS2 hS3 hbv hml2 hml3
 refine Z3 (Z0 (vs:=[(0,.int .i64 20)]) rfl (Jc _)) rfl ?_
 rintro bv w2 hN
 have hbv:SlV (m :: X) w2 bv [(20:Int)]:=hN.slv (fun b hb=>by have:=hXw b hb;omega) rfl rfl (by simp [maxLen])
 have hS2:=Z7.stp hN
 clear hN
 replace hmp:=hmp.up hS2
 have hml2:=hS2.size
 refine Z1 (ZP (a:=[112,114,101,118]) rfl rfl rfl hmp hbv (by decide)) ?_
 clear hmp
 rintro _ w3 ⟨hmp,hS3⟩
 have hml3:=hS3.size
 replace hml:=Xa (Xa hml hml2) hml3
 replace hS:=(hS.trans hS2).own hS3 (fun b hb=>.inr (by simp at hb;omega))
 clear hS2 hS3 hbv hml2 hml3
 refine Z3 (Z0 (vs:=[(0,.int .i64 21)]) rfl (Jc _)) rfl ?_
 rintro bv w2 hN
 have hbv:SlV (m :: X) w2 bv [(21:Int)]:=hN.slv (fun b hb=>by have:=hXw b hb;omega) rfl rfl (by simp [maxLen])
 have hS2:=Z7.stp hN
 clear hN
 replace hmp:=hmp.up hS2
 have hml2:=hS2.size
 refine Z1 (ZP (a:=[108,97,116,101,114]) rfl rfl rfl hmp hbv (by decide)) ?_
 clear hmp
 rintro _ w3 ⟨hmp,hS3⟩
 have hml3:=hS3.size
 replace hml:=Xa (Xa hml hml2) hml3
 replace hS:=(hS.trans hS2).own hS3 (fun b hb=>.inr (by simp at hb;omega))
 clear hS2 hS3 hbv hml2 hml3
 refine Z3 (Z0 (vs:=[(0,.int .i64 22)]) rfl (Jc _)) rfl ?_
 rintro bv w2 hN
 have hbv:SlV (m :: X) w2 bv [(22:Int)]:=hN.slv (fun b hb=>by have:=hXw b hb;omega) rfl rfl (by simp [maxLen])
 have hS2:=Z7.stp hN
 clear hN
 replace hmp:=hmp.up hS2
 have hml2:=hS2.size
 refine Z1 (ZP (a:=[101,97,114,108,105,101,114]) rfl rfl rfl hmp hbv (by decide)) ?_
 clear hmp
 rintro _ w3 ⟨hmp,hS3⟩
 have hml3:=hS3.size
 replace hml:=Xa (Xa hml hml2) hml3
 replace hS:=(hS.trans hS2).own hS3 (fun b hb=>.inr (by simp at hb;omega))
 clear hS2 hS3 hbv hml2 hml3
 refine Z3 (Z0 (vs:=[(0,.int .i64 23)]) rfl (Jc _)) rfl ?_
 rintro bv w2 hN
 have hbv:SlV (m :: X) w2 bv [(23:Int)]:=hN.slv (fun b hb=>by have:=hXw b hb;omega) rfl rfl (by simp [maxLen])
 have hS2:=Z7.stp hN
 clear hN
 replace hmp:=hmp.up hS2
 have hml2:=hS2.size
 refine Z1 (ZP (a:=[98,101,116,119,101,101,110]) rfl rfl rfl hmp hbv (by decide)) ?_
 clear hmp
 rintro _ w3 ⟨hmp,hS3⟩
 have hml3:=hS3.size
 replace hml:=Xa (Xa hml hml2) hml3
 replace hS:=(hS.trans hS2).own hS3 (fun b hb=>.inr (by simp at hb;omega))
 clear hS2 hS3 hbv hml2 hml3
 refine W ?_
 refine WR ?_
 exact .mk ⟨m,rfl,hmp,hS⟩
def opF (s:Str):List Int:=match Z5z.find? (fun p=>decide (p.1=s)) with|some p=>p.2|none=>[]
theorem ZaM (s:Str):(opF s).length≤2:=by
 unfold opF
 cases h:Z5z.find? (fun p=>decide (p.1=s)) with
 | none=>simp
 | some p=>
   have hp:=List.mem_of_find?_eq_some h
   have:∀ p∈Z5z,p.2.length≤2:=by decide
   exact this p hp
theorem Z7q.get {X:List Nat} {w:World} {m:Nat} (h:Z7q X w m Z5z) (s:Str):∃ l:List (Str×Value),Jp str w m l∧SlV X w (Z2k l s (.slice none 0 0)) (opF s):=by
 obtain ⟨l,h1,h2,h3⟩:=h
 refine ⟨l,h1,?_⟩
 unfold Z2k opF
 have hf:(l.find? (fun p=>decide (p.1=s))=none∧Z5z.find? (fun p=>decide (p.1=s))=none)∨∃ i,∃ (h:i<l.length) (h':i<Z5z.length),l.find? (fun p=>decide (p.1=s))=some l[i]∧Z5z.find? (fun p=>decide (p.1=s))=some Z5z[i]:=by
  cases hq:l.find? (fun p=>decide (p.1=s)) with
  | none=>
    left
    refine ⟨rfl,?_⟩
    rw [List.find?_eq_none]
    intro p hp
    obtain ⟨i,hi,rfl⟩:=Xo hp
    have:=List.find?_eq_none.1 hq l[i] (Xh (by omega))
    rwa [(h3 i (by omega) hi).1] at this
  | some p=>
    right
    obtain ⟨hp,i,hi,rfl,hb⟩:=List.find?_eq_some_iff_getElem.1 hq
    refine ⟨i,hi,by omega,rfl,?_⟩
    rw [List.find?_eq_some_iff_getElem]
    refine ⟨by rw [← (h3 i hi (by omega)).1];exact hp,i,by omega,rfl,fun j hj=>?_⟩
    rw [← (h3 j (by omega) (by omega)).1]
    exact hb j hj
 rcases hf with ⟨e1,e2⟩|⟨i,h,h',e1,e2⟩
 rw [e1,e2]
 exact ⟨none,0,rfl,Xm _,by simp [maxLen],fun _=>rfl,fun i h=>absurd h (XB _)⟩
 rw [e1,e2]
 exact (h3 i h h').2.ext (Stp.refl [] w) (by simp) (fun b hb=>.inl (XA _ hb))
def Jh:List Cf→Nat→List Ins
 | [],_=>[]
 | c :: r,p=>c p++Jh r (p+(c p).length)
theorem Z4U (a b:List Cf) (p:Nat):Jh (a++b) p=Jh a p++Jh b (p+(Jh a p).length):=by
 induction a generalizing p with
 | nil=>simp [Jh]
 | cons c r ih=>
   simp only [XR,Jh,ih,Xd,Xt]
   rw [XZ]
theorem Zbv (cs:List Cf) (p i:Nat) (h:i<cs.length):Jh (cs.take (i+1)) p=Jh (cs.take i) p++cs[i] (p+(Jh (cs.take i) p).length):=by
 rw [Xr h,Z4U]
 simp [Jh]
theorem ZaN (cs:List Cf) (p i:Nat):(Jh (cs.take i) p).length≤(Jh cs p).length:=by
 have:Jh cs p=Jh (cs.take i) p++Jh (cs.drop i) (p+(Jh (cs.take i) p).length):=by rw [← Z4U,XS]
 rw [this,Xd]
 omega
def Z5A (l:List Int):List Ins:=l.map (fun o=>⟨o,0⟩)
def Z07 (k:Int) (s:Str) (cs:List Cf) (p:Nat):List Ins:=Jh cs p++(if k=8∨k=5∧s=[45] then [⟨8,0⟩] else [])++Z5A (opF s)
theorem Z4q (x:Nd) (cs:List Cf) (hcl:cs.length=x.kids.length) (hcs:∀ i (h:i<x.kids.length) (h':i<cs.length),Z1i x.kids[i] cs[i]) (w:World) (bc base:Nat) (v nv:Value) (xs:List Ins) (hc:Cod w bc base v xs)
 (hx:NdV (bc :: ob v) w nv x) (hF:SlV (bc :: ob v) w Z2l Z8) (hl:xs.length+(Z07 x.kind x.word cs xs.length).length≤100000) :
 CC 138 #[.pointer (some ⟨bc,0,none⟩),nv] w fun r w'=>Z0x w bc base v (xs++Z07 x.kind x.word cs xs.length) w':=by
 have hl':=hl
 unfold Z07 at hl'
 simp only [Xd] at hl'
 obtain ⟨kv,rfl,hs⟩:=hx
 have hmax:=hs.max
 refine cW2 47 Tryz.func138 ?_
 refine W ?_
 refine Z3 (Zq rfl) rfl ?_
 rintro _ wA ⟨b,rfl,hb,hblk,hS⟩
 replace hblk:Blk wA b _ (ndC x kv):=hblk
 have hobv:∀ b∈bc :: ob v,b<w.heap.size:=fun b hb=>by
  rcases Xf.1 hb with rfl|h
  exact hc.blk.lt
  exact (hc.row.ob_le b h).2
 have nb:b∉bc :: ob v:=fun h=>by have:=hobv _ h;omega
 replace hc:=hc.up hS
 replace hs:=hs.up hS
 replace hF:=hF.up hS
 have main:∀ ys w',Z0x wA bc base v ys w'→Z0x w bc base v ys w':=fun ys w' h=>h.pre hS
 refine W ?_
 refine Z0m (σ:=Value) (fun u=>[(0,.pointer (some ⟨bc,0,none⟩)),(3,.pointer (some ⟨b,0,none⟩))]) (fun u w'=>Fr wA w' bc base v u (xs++Jh cs xs.length)) ?_ ?_
 refine Zv (σ:=Nat×Value) (fun q=>[(0,.pointer (some ⟨bc,0,none⟩)),(3,.pointer (some ⟨b,0,none⟩)),(9,kv),(10,.int .i64 (x.kids.length:Int)),(11,.int .i64 (q.1:Int))]) (fun q w'=>q.1≤x.kids.length∧Fr wA w' bc base v q.2 (xs++Jh (cs.take q.1) xs.length)) (fun q=>x.kids.length - q.1) (0,v) ⟨rfl,rfl,rfl,rfl,rfl,trivial⟩ ⟨Xu _,by simpa [Jh] using Fr.start hc⟩ ?_
 rintro ⟨j,u⟩ w2 ⟨hj,fr⟩
 dsimp only at hj fr ⊢
 by_cases hlt:j<x.kids.length
 have hs2:=fr.sl hs
 obtain ⟨kv2,hk2,hc2⟩:=hs2.nd hlt
 have hst:=Zbv cs xs.length j (by omega)
 have hle:=ZaN cs xs.length (j+1)
 have hle0:=ZaN cs xs.length j
 rw [hst,Xd] at hle
 focus repeat'(first|refine W1 ?_|omega|refine VG ?_ ?_<;>intro hg|refine VC ?_ ?_<;>intro hc)
 apply Ze (ZM rfl rfl hs2 hlt hc2) rfl
 refine Z3 Z6 rfl ?_
 rintro _ w3 ⟨b3,rfl,hb3,hblk3,hS3⟩
 refine Z1 (Z2 (us:=ndC x.kids[j] kv2) rfl rfl rfl rfl (Zh hk2) hblk3 rfl) ?_
 rintro _ w4 ⟨hS4,hblk4⟩
 have hS34:=hS3.own hS4 (fun c hc=>.inr (by simp at hc;omega))
 replace fr:=fr.up hS34
 replace hk2:=hk2.up hS34
 refine W ?_
 have hlen:(xs++Jh (cs.take j) xs.length).length=xs.length+(Jh (cs.take j) xs.length).length:=Xd
 refine CL rfl (Zb rfl rfl) rfl (hcs j hlt (by omega) _ bc base _ _ _ fr.cod ⟨kv2,rfl,hk2⟩ (fr.sl hF) (by rw [hlen];omega)) ?_
 rintro _ w5 hq
 obtain ⟨u5,fr⟩:=fr.step hq
 rw [hlen,Xt,← hst] at fr
 refine W ?_
 exact Zp (j+1,u5) ⟨rfl,rfl,rfl,rfl,rfl,trivial⟩ ⟨by dsimp only;omega,fr⟩ (by dsimp only;omega)
 have hje:j=x.kids.length:=by omega
 subst hje
 rw [← hcl,XC] at fr
 focus repeat'(first|refine W1 ?_|omega|refine VG ?_ ?_<;>intro hg|refine VC ?_ ?_<;>intro hc)
 exact ZC u ⟨rfl,rfl,trivial⟩ fr
 rintro u w2 fr
 have hbk:=fr.bk hblk nb
 unfold Z07
 generalize Jh cs xs.length=A at *
 rw [← Xt,← Xt]
 refine ZcC (σ:=Value) (fun u=>[(0,.pointer (some ⟨bc,0,none⟩)),(3,.pointer (some ⟨b,0,none⟩))]) (fun u w'=>Fr wA w' bc base v u (xs++A++if x.kind=8∨x.kind=5∧x.word=[45] then [⟨8,0⟩] else [])) ?_ ?_
 by_cases hneg:x.kind=8∨x.kind=5∧x.word=[45]
 · have hln:(xs++A).length≤1000000:=by simp only [Xd];omega
   rw [if_pos hneg]
   repeat'(first|refine W1 ?_|omega|refine VG ?_ ?_<;>intro hg|refine VC ?_ ?_<;>intro hc)
   all_goals first
    | (refine CL rfl (Zu rfl rfl rfl) rfl (Z0t bc base _ _ 8 0 _ fr.cod hln) ?_
       rintro _ w3 ⟨rfl,hq⟩
       obtain ⟨u3,fr⟩:=fr.step hq
       refine W ?_
       exact ZC u3 ⟨rfl,rfl,trivial⟩ fr)
    | (exfalso;rcases hneg with h|⟨h1,h2⟩<;>first|omega|contradiction)
 · rw [if_neg hneg,XK]
   have hn8:¬ x.kind=8:=fun h=>hneg (.inl h)
   repeat'(first|refine W1 ?_|omega|refine VG ?_ ?_<;>intro hg|refine VC ?_ ?_<;>intro hc)
   all_goals first
    | exact ZC u ⟨rfl,rfl,trivial⟩ fr
    | (exfalso;exact hneg (.inr ⟨by assumption,by assumption⟩))
 rintro u3 w3 fr
 have hbk:=fr.bk hblk nb
 have hol:=ZaM x.word
 generalize hB:xs++A++(if x.kind=8∨x.kind=5∧x.word=[45] then [(⟨8,0⟩:Ins)] else [])=B at *
 have hBl:B.length≤200000:=by
  rw [← hB]
  simp only [Xd]
  have:(if x.kind=8∨x.kind=5∧x.word=[45] then [(⟨8,0⟩:Ins)] else []).length≤1:=by split<;>simp
  omega
 refine W ?_
 refine ZDr 6 [] [] [(1,0),(2,1),(5,0),(0,2),(3,2),(4,0)] (fun w1 hS1=>?_)
 replace fr:=fr.up hS1
 replace hbk:=hbk.up hS1
 have hou:∀ b∈bc :: ob u3,b<w1.heap.size:=fun b hb=>(Xf.1 hb).elim (fun h=>h ▸ fr.cod.blk.lt) (fun h=>(fr.cod.row.ob_le b h).2)
 refine D ?_
 refine WD_eff rfl trivial (Z5 rfl Z3f (Z6o (bc :: ob u3) _ hou)) (fun _ _ h=>h.choose_spec.2.2) rfl ?_
 rintro _ w5 ⟨m,rfl,hm,hS5⟩
 replace fr:=fr.up hS5
 obtain ⟨l,hml,hsl⟩:=hm.get x.word
 refine WD_eff rfl trivial (OE_pr (Z0A (K:=inferInstance) (a:=x.word) rfl rfl hml)) (fun _ _ h=>h.2 ▸ Stp.refl _ _) rfl ?_
 rintro _ _ ⟨rfl,rfl⟩
 generalize Z2k l x.word (.slice none 0 0)=ov at *
 generalize opF x.word=O at *
 refine D ?_
 refine W ?_
 refine Zv (σ:=Nat×Value) (fun q=>[(0,.pointer (some ⟨bc,0,none⟩)),(37,ov),(38,.int .i64 (O.length:Int)),(39,.int .i64 (q.1:Int))]) (fun q w'=>q.1≤O.length∧SlV (bc :: ob q.2) w' ov O∧Fr wA w' bc base v q.2 (B++Z5A (O.take q.1))) (fun q=>O.length - q.1) (0,u3) ⟨rfl,rfl,rfl,rfl,trivial⟩ ⟨Xu _,hsl,by simpa [Z5A] using fr⟩ ?_
 clear fr hsl hou
 rintro ⟨j,u⟩ w6 ⟨hj,hsl,fr⟩
 dsimp only at hj fr ⊢
 by_cases hlt:j<O.length
 have hln:(B++Z5A (O.take j)).length≤1000000:=by simp only [Xd,Z5A,XQ,Xw];omega
 focus repeat'(first|refine W1 ?_|omega|refine VG ?_ ?_<;>intro hg|refine VC ?_ ?_<;>intro hc)
 refine CL rfl (Zu rfl rfl rfl) rfl (Z0t bc base _ _ O[j] 0 _ fr.cod hln) ?_
 rintro _ w7 ⟨rfl,hq⟩
 obtain ⟨u7,hc7,hS7,hb7⟩:=id hq
 have hsl7:SlV (bc :: ob u7) w7 ov O:=Zgl hsl hS7 hb7
 have fr7:Fr wA w7 bc base v u7 (B++Z5A (O.take j)++[⟨O[j],0⟩]):=by
  refine ⟨hc7,?_,fun b hb=>?_⟩
  exact fr.stp.own hS7 (fun b hb=>by
   rcases Xf.1 hb with rfl|h
   exact .inl (by simp)
   exact (fr.sub b h).imp (fun h=>XA _ h) id)
  rcases hb7 b hb with h|h
  exact fr.sub b h
  exact .inr (Xi fr.stp.size h)
 refine W ?_
 refine Zp (j+1,u7) ⟨rfl,rfl,rfl,rfl,trivial⟩ ⟨by dsimp only;omega,hsl7,?_⟩ (by dsimp only;omega)
 dsimp only
 rw [Xr hlt]
 unfold Z5A at fr7 ⊢
 rw [Yae,← Xt]
 exact fr7
 have hje:j=O.length:=by omega
 subst hje
 rw [XC] at fr
 focus repeat'(first|refine W1 ?_|omega|refine VG ?_ ?_<;>intro hg|refine VC ?_ ?_<;>intro hc)
 refine WR ?_
 exact .mk (main _ _ fr.fin)
def Z1j (k n:Int) (s:Str):Ins:=if k=1 then ⟨1,n⟩ else if k=2 then ⟨2,n⟩ else if k=3 then ⟨3,n⟩ else ⟨4,(ZB s).1⟩
def Z1A:Cf:=fun _=>[]
def Z0a (k n:Int) (s:Str) (cs:List Cf) (p:Nat):List Ins:=
 if cs.length=0 then [Z1j k n s]
 else if k=9 then chC (cs.getD 0 Z1A) (cs.getD 1 Z1A) (cs.getD 2 Z1A) p
 else if k=6∧s=[97,110,100] then chC (cs.getD 0 Z1A) (cs.getD 1 Z1A) (fun _=>[⟨2,0⟩]) p
 else if k=6∧s=[111,114] then chC (cs.getD 0 Z1A) (fun _=>[⟨2,1⟩]) (cs.getD 1 Z1A) p
 else if k=6∧s=[45] then Z07 k s cs p++[⟨6,0⟩]
 else Z07 k s cs p
def Zj:Nd→Nat→List Ins
 | .mk k n s l=>Z0a k n s (l.map Zj)
theorem Z5B (x:Nd):Zj x=Z0a x.kind x.num x.word (x.kids.map Zj):=by
 cases x
 rw [Zj]
 rfl
theorem Zdh (w:World):(Instr.build 27 #[(0,.int .i64 2)]).run Tryz.prog w=.ok (.agg #[.int .i64 2,.int .i64 0,str [],.slice none 0 0]) w:=by kernel_rfl
theorem Zdi (w:World):(Instr.build 27 #[(0,.int .i64 2),(1,.int .i64 1)]).run Tryz.prog w=.ok (.agg #[.int .i64 2,.int .i64 1,str [],.slice none 0 0]) w:=by kernel_rfl
theorem Z0Z {α:Type} [Zd α] (X:List Nat) (w:World):SlV (α:=α) X w (.slice none 0 0) []:=⟨none,0,rfl,Xm _,by simp [maxLen],fun _=>rfl,fun i h=>absurd h (XB _)⟩
theorem Z8t (z:Int):Z1i (.mk 2 z [] []) (fun _=>[⟨2,z⟩]):=by
 intro w bc base v nv xs hc hx hF hl
 obtain ⟨kv,rfl,hs⟩:=hx
 refine cW2 63 Tryz.func76 ?_
 refine W ?_
 refine Z3 (Zq rfl) rfl ?_
 rintro _ w1 ⟨b,rfl,hb,hblk,hS⟩
 replace hblk:Blk w1 b _ [.int .i64 2,.int .i64 z,str [],kv]:=hblk
 refine W ?_
 refine CL rfl (Zu rfl rfl rfl) rfl (Z0t bc base _ _ 2 z _ (hc.up hS) (by omega)) ?_
 rintro _ w2 ⟨rfl,hq⟩
 refine W ?_
 refine WR ?_
 exact .mk (hq.pre hS)
theorem Zbw (x:Nd) (cs:List Cf) (hcl:cs.length=x.kids.length) (hcs:∀ i (h:i<x.kids.length) (h':i<cs.length),Z1i x.kids[i] cs[i]) (w:World) (bc base:Nat) (v nv:Value) (xs:List Ins) (hc:Cod w bc base v xs)
 (hx:NdV (bc :: ob v) w nv x) (hF:SlV (bc :: ob v) w Z2l Z8) (hl:xs.length+(Z07 x.kind x.word cs xs.length).length≤100000) :
 CC 226 #[.pointer (some ⟨bc,0,none⟩),nv] w fun r w'=>Z0x w bc base v (xs++(Z07 x.kind x.word cs xs.length++[⟨6,0⟩])) w':=by
 obtain ⟨kv,rfl,hs⟩:=hx
 refine cW2 9 Tryz.func226 ?_
 refine W ?_
 refine Z3 (Zq rfl) rfl ?_
 rintro _ w1 ⟨b,rfl,hb,hblk,hS⟩
 replace hblk:Blk w1 b _ (ndC x kv):=hblk
 have fr:=Fr.start (hc.up hS)
 refine W ?_
 refine CL rfl (Zb rfl rfl) rfl (Z4q x cs hcl hcs _ bc base _ _ _ fr.cod ⟨kv,rfl,hs.up hS⟩ (hF.up hS) hl) ?_
 rintro _ w2 hq
 obtain ⟨v2,fr⟩:=fr.step hq
 refine W ?_
 refine CL rfl (Zu rfl rfl rfl) rfl (Z0t bc base _ _ 6 0 _ fr.cod (by simp only [Xd];omega)) ?_
 rintro _ w3 ⟨rfl,hq⟩
 obtain ⟨v3,fr⟩:=fr.step hq
 rw [Xt] at fr
 refine W ?_
 refine WR ?_
 exact .mk (fr.fin.pre hS)
theorem Z2n {α:Type} [Zd α] {X:List Nat} {w w':World} {v u:Value} {l:List α} {i k j:Nat} (hs:SlV X w v l) (hi:i<l.length) (hS:Stp X w w') (h:w.cell? (Zz v i k j)=some u):w'.cell? (Zz v i k j)=some u:=by
 obtain ⟨p,c,rfl,_,_,_,hc⟩:=hs
 obtain ⟨b,o,cs,rfl,_,hx,_⟩:=hc i hi
 exact hS.cell hx h
theorem Zfh (x:Nd) (cs:List Cf) (hk2:x.kids.length=2) (hcl:cs.length=x.kids.length) (hcs:∀ i (h:i<x.kids.length) (h':i<cs.length),Z1i x.kids[i] cs[i]) (w:World) (bc base:Nat) (v nv:Value) (xs:List Ins) (hc:Cod w bc base v xs)
 (hx:NdV (bc :: ob v) w nv x) (hF:SlV (bc :: ob v) w Z2l Z8) (hl:xs.length+(chC (cs.getD 0 Z1A) (cs.getD 1 Z1A) (fun _=>[⟨2,0⟩]) xs.length).length≤100000) :
 CC 224 #[.pointer (some ⟨bc,0,none⟩),nv] w fun r w'=>Z0x w bc base v (xs++chC (cs.getD 0 Z1A) (cs.getD 1 Z1A) (fun _=>[⟨2,0⟩]) xs.length) w':=by
 obtain ⟨kv,rfl,hs⟩:=hx
 have h0:0<x.kids.length:=by omega
 have h1:1<x.kids.length:=by omega
 have g0:cs.getD 0 Z1A=cs[0]'(by omega):=by simp [List.getD,hcl,h0]
 have g1:cs.getD 1 Z1A=cs[1]'(by omega):=by simp [List.getD,hcl,h1]
 rw [g0,g1] at hl ⊢
 refine cW2 15 Tryz.func224 ?_
 refine W ?_
 refine Z3 (Zq rfl) rfl ?_
 rintro _ wA ⟨b,rfl,hb,hblk,hS⟩
 replace hblk:Blk wA b _ (ndC x kv):=hblk
 replace hs:=hs.up hS
 have nb:b∉bc :: ob v:=fun h=>by
  rcases Xf.1 h with rfl|h
  have:=hc.blk.lt;omega
  have:=(hc.row.ob_le b h).2;omega
 refine W ?_
 refine WC_drawn 11 (bc :: ob v) [] [(0,0),(1,0),(2,1),(3,0),(4,1),(5,0),(6,1),(7,0),(8,1),(9,0),(10,2)] rfl mixed (by kernel_rfl) (by kernel_rfl) (by kernel_rfl) (fun w1 hS1=>?_)
 replace hs:=hs.up hS1
 replace hblk:=hblk.up hS1
 replace hS:=hS.trans hS1
 obtain ⟨u0,s0,c0⟩:=hs.nd h0
 obtain ⟨u1,s1,c1⟩:=hs.nd h1
 refine D ?_
 try (refine WD_read rfl trivial (fun w' hS'=>Zy rfl rfl (hblk.ext hS' nb) rfl) rfl ?_)
 refine D ?_
 refine WD_read rfl trivial (fun w' hS'=>ZM rfl rfl (hs.on hS' (fun _ h=>h)) h0 (fun j u hj=>Z2n hs h0 hS' (c0 j u hj))) rfl ?_
 refine D ?_
 try (refine WD_read rfl trivial (fun w' hS'=>Zy rfl rfl (hblk.ext hS' nb) rfl) rfl ?_)
 refine D ?_
 refine WD_read rfl trivial (fun w' hS'=>ZM rfl rfl (hs.on hS' (fun _ h=>h)) h1 (fun j u hj=>Z2n hs h1 hS' (c1 j u hj))) rfl ?_
 refine D ?_
 apply Z04
 exact rfl
 apply Z1Z (vs:=[(0,.int .i64 2)])
 exact trivial
 exact rfl
 exact Zdh
 exact rfl
 refine WD_eff rfl trivial (Z5 rfl (Z15 rfl rfl rfl rfl) (Z3r (x:=x.kids[0]) (y:=x.kids[1]) (n:=.mk 2 0 [] []) (hcs 0 h0 (by omega)) (hcs 1 h1 (by omega)) (Z8t 0) _ bc base v _ _ _ xs (hc.up hS) ⟨u0,rfl,s0⟩ ⟨u1,rfl,s1⟩ ⟨_,rfl,Z0Z _ _⟩ (hF.up hS) hl)) (fun _ _ h=>by obtain ⟨_,_,h2,_⟩:=h;exact h2) rfl ?_
 rintro _ w5 hq
 refine D ?_
 refine W ?_
 refine WR ?_
 exact .mk (hq.pre hS)
theorem Zjr (x:Nd) (cs:List Cf) (hk2:x.kids.length=2) (hcl:cs.length=x.kids.length) (hcs:∀ i (h:i<x.kids.length) (h':i<cs.length),Z1i x.kids[i] cs[i]) (w:World) (bc base:Nat) (v nv:Value) (xs:List Ins) (hc:Cod w bc base v xs)
 (hx:NdV (bc :: ob v) w nv x) (hF:SlV (bc :: ob v) w Z2l Z8) (hl:xs.length+(chC (cs.getD 0 Z1A) (fun _=>[⟨2,1⟩]) (cs.getD 1 Z1A) xs.length).length≤100000) :
 CC 225 #[.pointer (some ⟨bc,0,none⟩),nv] w fun r w'=>Z0x w bc base v (xs++chC (cs.getD 0 Z1A) (fun _=>[⟨2,1⟩]) (cs.getD 1 Z1A) xs.length) w':=by
 obtain ⟨kv,rfl,hs⟩:=hx
 have h0:0<x.kids.length:=by omega
 have h1:1<x.kids.length:=by omega
 have g0:cs.getD 0 Z1A=cs[0]'(by omega):=by simp [List.getD,hcl,h0]
 have g1:cs.getD 1 Z1A=cs[1]'(by omega):=by simp [List.getD,hcl,h1]
 rw [g0,g1] at hl ⊢
 refine cW2 15 Tryz.func225 ?_
 refine W ?_
 refine Z3 (Zq rfl) rfl ?_
 rintro _ wA ⟨b,rfl,hb,hblk,hS⟩
 replace hblk:Blk wA b _ (ndC x kv):=hblk
 replace hs:=hs.up hS
 have nb:b∉bc :: ob v:=fun h=>by
  rcases Xf.1 h with rfl|h
  have:=hc.blk.lt;omega
  have:=(hc.row.ob_le b h).2;omega
 refine W ?_
 refine WC_drawn 11 (bc :: ob v) [] [(0,0),(1,0),(2,1),(3,0),(4,1),(5,0),(6,0),(7,1),(8,0),(9,1),(10,2)] rfl mixed (by kernel_rfl) (by kernel_rfl) (by kernel_rfl) (fun w1 hS1=>?_)
 replace hs:=hs.up hS1
 replace hblk:=hblk.up hS1
 replace hS:=hS.trans hS1
 obtain ⟨u0,s0,c0⟩:=hs.nd h0
 obtain ⟨u1,s1,c1⟩:=hs.nd h1
 refine D ?_
 try (refine WD_read rfl trivial (fun w' hS'=>Zy rfl rfl (hblk.ext hS' nb) rfl) rfl ?_)
 refine D ?_
 refine WD_read rfl trivial (fun w' hS'=>ZM rfl rfl (hs.on hS' (fun _ h=>h)) h0 (fun j u hj=>Z2n hs h0 hS' (c0 j u hj))) rfl ?_
 refine D ?_
 apply Z04
 exact rfl
 apply Z1Z (vs:=[(0,.int .i64 2),(1,.int .i64 1)])
 exact trivial
 exact rfl
 exact Zdi
 exact rfl
 refine D ?_
 try (refine WD_read rfl trivial (fun w' hS'=>Zy rfl rfl (hblk.ext hS' nb) rfl) rfl ?_)
 refine D ?_
 refine WD_read rfl trivial (fun w' hS'=>ZM rfl rfl (hs.on hS' (fun _ h=>h)) h1 (fun j u hj=>Z2n hs h1 hS' (c1 j u hj))) rfl ?_
 refine WD_eff rfl trivial (Z5 rfl (Z15 rfl rfl rfl rfl) (Z3r (x:=x.kids[0]) (y:=.mk 2 1 [] []) (n:=x.kids[1]) (hcs 0 h0 (by omega)) (Z8t 1) (hcs 1 h1 (by omega)) _ bc base v _ _ _ xs (hc.up hS) ⟨u0,rfl,s0⟩ ⟨_,rfl,Z0Z _ _⟩ ⟨u1,rfl,s1⟩ (hF.up hS) hl)) (fun _ _ h=>by obtain ⟨_,_,h2,_⟩:=h;exact h2) rfl ?_
 rintro _ w5 hq
 refine D ?_
 refine W ?_
 refine WR ?_
 exact .mk (hq.pre hS)
theorem SlV.nil {α:Type} [Zd α] {X:List Nat} {w:World} {v:Value} {l:List α} (h:SlV X w v l):SlV [] w v l:=h.ext (Stp.refl [] w) (by simp) (by simp)
theorem Z8u (x:Nd) (hk6:x.kind=6) (cs:List Cf) (hk2:x.kids.length=2) (hcl:cs.length=x.kids.length) (hcs:∀ i (h:i<x.kids.length) (h':i<cs.length),Z1i x.kids[i] cs[i]) (w:World) (bc base:Nat) (v nv:Value) (xs:List Ins) (hcd:Cod w bc base v xs)
 (hx:NdV (bc :: ob v) w nv x) (hF:SlV (bc :: ob v) w Z2l Z8) (hl:xs.length+(Z0a x.kind x.num x.word cs xs.length).length≤100000) :
 CC 136 #[.pointer (some ⟨bc,0,none⟩),nv] w fun r w'=>Z0x w bc base v (xs++Z0a x.kind x.num x.word cs xs.length) w':=by
 have hne:¬ cs.length=0:=by omega
 have hn9:¬ x.kind=9:=by omega
 unfold Z0a at hl ⊢
 rw [if_neg hne,if_neg hn9] at hl ⊢
 obtain ⟨kv,rfl,hs⟩:=hx
 refine cW2 17 Tryz.func136 ?_
 refine W ?_
 refine Z3 (Zq rfl) rfl ?_
 rintro _ wA ⟨b,rfl,hb,hblk,hS⟩
 replace hblk:Blk wA b _ (ndC x kv):=hblk
 have main:∀ ys w',Z0x wA bc base v ys w'→Z0x w bc base v ys w':=fun ys w' h=>h.pre hS
 replace hcd:=hcd.up hS
 replace hs:=hs.up hS
 replace hF:=hF.up hS
 repeat'(first|refine W1 ?_|omega|refine VG ?_ ?_<;>intro hg|refine VC ?_ ?_<;>intro hc)
 rw [if_pos ⟨hk6,by assumption⟩] at hl ⊢
 refine CL rfl (Zb rfl rfl) rfl (Zfh x cs hk2 hcl hcs _ bc base _ _ _ hcd ⟨kv,rfl,hs⟩ hF hl) ?_
 rintro _ w2 hq
 refine W ?_
 refine WR ?_
 exact .mk (main _ _ hq)
 rw [if_neg (fun h=>absurd h.2 (by assumption)),if_pos ⟨hk6,by assumption⟩] at hl ⊢
 refine CL rfl (Zb rfl rfl) rfl (Zjr x cs hk2 hcl hcs _ bc base _ _ _ hcd ⟨kv,rfl,hs⟩ hF hl) ?_
 rintro _ w2 hq
 refine W ?_
 refine WR ?_
 exact .mk (main _ _ hq)
 rw [if_neg (fun h=>absurd h.2 (by assumption)),if_neg (fun h=>absurd h.2 (by assumption)),if_pos ⟨hk6,by assumption⟩] at hl ⊢
 rw [Xd] at hl
 refine CL rfl (Zb rfl rfl) rfl (Zbw x cs hcl hcs _ bc base _ _ _ hcd ⟨kv,rfl,hs⟩ hF (by omega)) ?_
 rintro _ w2 hq
 refine W ?_
 refine WR ?_
 exact .mk (main _ _ hq)
 rw [if_neg (fun h=>absurd h.2 (by assumption)),if_neg (fun h=>absurd h.2 (by assumption)),if_neg (fun h=>absurd h.2 (by assumption))] at hl ⊢
 refine CL rfl (Zb rfl rfl) rfl (Z4q x cs hcl hcs _ bc base _ _ _ hcd ⟨kv,rfl,hs⟩ hF hl) ?_
 rintro _ w2 hq
 refine W ?_
 refine WR ?_
 exact .mk (main _ _ hq)
theorem Z9T {x:Nd} (h:x.kids=[]) (p:Nat):Zj x p=[Z1j x.kind x.num x.word]:=by
 rw [Z5B,h]
 simp [Z0a]
theorem Z9U {x:Nd} (h:x.kids≠[]):(x.kids.map Zj).length≠0:=by simpa using h
theorem Z9V {x:Nd} {i:Nat} (h:i<x.kids.length):(x.kids.map Zj).getD i Z1A=Zj x.kids[i]:=by simp [List.getD,h]
theorem Zfi (x:Nd):Z9 x≠0→Z1i x (Zj x):=by
 induction x using Nd.ind with
 | h k n s l ih=>
 intro hty
 have hkt:=(Z5y hty).2
 have hcs:∀ i (h:i<(Nd.mk k n s l).kids.length) (h':i<((Nd.mk k n s l).kids.map Zj).length),Z1i (Nd.mk k n s l).kids[i] ((Nd.mk k n s l).kids.map Zj)[i]:=by
  intro i h h'
  rw [Yai]
  exact ih _ (Xh h) (hkt _ (Xh h))
 have hcl:((Nd.mk k n s l).kids.map Zj).length=(Nd.mk k n s l).kids.length:=by simp
 have hsh:=Z8r hty
 have hlf:=Z9S hty
 have hcN:=Z5B (.mk k n s l)
 have hcL:=Z9T (x:=.mk k n s l)
 have hkl:(Nd.mk k n s l).kids≠[]→5≤(Nd.mk k n s l).kind:=by
  intro h
  rcases (hsh h).2 with ⟨h,_,_⟩|⟨h,_,_⟩|⟨h,_,_⟩|⟨h,_⟩|⟨h,_,_⟩<;>omega
 have hk6:(Nd.mk k n s l).kind=6→(Nd.mk k n s l).kids.length=2:=by
  intro h6
  by_cases h0:(Nd.mk k n s l).kids=[]
  have:=hlf h0;omega
  rcases (hsh h0).2 with ⟨h,_,_⟩|⟨h,_,hm⟩|⟨h,_,_⟩|⟨h,_⟩|⟨h,_,_⟩<;>omega
 have hk9:(Nd.mk k n s l).kind=9→(Nd.mk k n s l).kids.length=3:=by
  intro h6
  by_cases h0:(Nd.mk k n s l).kids=[]
  have:=hlf h0;omega
  rcases (hsh h0).2 with ⟨h,_,_⟩|⟨h,_,hm⟩|⟨h,_,_⟩|⟨h,hm⟩|⟨h,_,_⟩<;>omega
 have hgD:=fun i=>Z9V (x:=.mk k n s l) (i:=i)
 generalize (Nd.mk k n s l)=x at *
 clear ih
 intro w bc base v nv xs hcd hx hF hl
 obtain ⟨kv,rfl,hs⟩:=hx
 refine cW2 63 Tryz.func76 ?_
 refine W ?_
 refine Z3 (Zq rfl) rfl ?_
 rintro _ wA ⟨b,rfl,hb,hblk,hS⟩
 replace hblk:Blk wA b _ (ndC x kv):=hblk
 have main:∀ ys w',Z0x wA bc base v ys w'→Z0x w bc base v ys w':=fun ys w' h=>h.pre hS
 have hobv:∀ b∈bc :: ob v,b<w.heap.size:=fun b hb=>by
  rcases Xf.1 hb with rfl|h
  exact hcd.blk.lt
  exact (hcd.row.ob_le b h).2
 have nb:b∉bc :: ob v:=fun h=>by have:=hobv _ h;omega
 replace hcd:=hcd.up hS
 replace hs:=hs.up hS
 replace hF:=hF.up hS
 have leaf:∀ op n,[(⟨op,n⟩:Ins)]=Zj x xs.length→∀ w',Z0x wA bc base v (xs++[⟨op,n⟩]) w'→Z0x w bc base v (xs++Zj x xs.length) w':=fun op n h w' h'=>h ▸ main _ _ h'
 repeat'(first|refine W1 ?_|omega|refine VG ?_ ?_<;>intro hg|refine VC ?_ ?_<;>intro hc)
 have h0:x.kids=[]:=Decidable.byContradiction (fun h=>by have:=hkl h;omega)
 refine CL rfl (Zu rfl rfl rfl) rfl (Z0t bc base _ _ 1 x.num _ hcd (by omega)) ?_
 rintro _ w2 ⟨rfl,hq⟩
 refine W ?_
 refine WR ?_
 exact .mk (leaf _ _ (by rw [hcL h0,Z1j,if_pos (by assumption)]) _ hq)
 have h0:x.kids=[]:=Decidable.byContradiction (fun h=>by have:=hkl h;omega)
 refine CL rfl (Zu rfl rfl rfl) rfl (Z0t bc base _ _ 2 x.num _ hcd (by omega)) ?_
 rintro _ w2 ⟨rfl,hq⟩
 refine W ?_
 refine WR ?_
 exact .mk (leaf _ _ (by rw [hcL h0,Z1j,if_neg (by assumption),if_pos (by assumption)]) _ hq)
 have h0:x.kids=[]:=Decidable.byContradiction (fun h=>by have:=hkl h;omega)
 refine CL rfl (Zu rfl rfl rfl) rfl (Z0t bc base _ _ 3 x.num _ hcd (by omega)) ?_
 rintro _ w2 ⟨rfl,hq⟩
 refine W ?_
 refine WR ?_
 exact .mk (leaf _ _ (by rw [hcL h0,Z1j,if_neg (by assumption),if_neg (by assumption),if_pos (by assumption)]) _ hq)
 have h0:x.kids=[]:=Decidable.byContradiction (fun h=>by have:=hkl h;omega)
 refine CL rfl (Zr rfl) rfl (Z4o x.word _ (SlV.nil hF)) ?_
 rintro _ w2 ⟨rfl,hS2⟩
 refine W ?_
 refine CL rfl (Zu rfl rfl rfl) rfl (Z0t bc base _ _ 4 (ZB x.word).1 _ (hcd.up hS2) (by omega)) ?_
 rintro _ w3 ⟨rfl,hq⟩
 refine W ?_
 refine WR ?_
 exact .mk (leaf _ _ (by rw [hcL h0,Z1j,if_neg (by assumption),if_neg (by assumption),if_neg (by assumption)]) _ (hq.pre hS2))
 have h6:x.kind=6:=by assumption
 rw [hcN] at hl ⊢
 refine CL rfl (Zb rfl rfl) rfl (Z8u x h6 _ (hk6 h6) hcl hcs _ bc base _ _ _ hcd ⟨kv,rfl,hs⟩ hF hl) ?_
 rintro _ w2 hq
 refine W ?_
 refine WR ?_
 exact .mk (main _ _ hq)
 have h9:x.kind=9:=by assumption
 have h3:=hk9 h9
 have e9:Zj x=chC (Zj (x.kids[0]'(by omega))) (Zj (x.kids[1]'(by omega))) (Zj (x.kids[2]'(by omega))):=by
  funext p
  rw [hcN,Z0a,if_neg (by omega),if_pos h9,hgD 0 (by omega),hgD 1 (by omega),hgD 2 (by omega)]
 have c0:=hcs 0 (by omega) (by omega)
 have c1:=hcs 1 (by omega) (by omega)
 have c2:=hcs 2 (by omega) (by omega)
 rw [Yai] at c0 c1 c2
 rw [e9] at hl ⊢
 have h0:0<x.kids.length:=by omega
 have h1:1<x.kids.length:=by omega
 have h2:2<x.kids.length:=by omega
 refine WC_drawn 14 (bc :: ob v) [] [(0,0),(1,0),(2,1),(3,0),(4,1),(5,0),(6,1),(7,0),(8,1),(9,0),(10,1),(11,0),(12,1),(13,2)] rfl mixed (by kernel_rfl) (by kernel_rfl) (by kernel_rfl) (fun w1 hS1=>?_)
 replace hs:=hs.up hS1
 replace hblk:=hblk.up hS1
 replace hS:=hS.trans hS1
 obtain ⟨u0,s0,d0⟩:=hs.nd h0
 obtain ⟨u1,s1,d1⟩:=hs.nd h1
 obtain ⟨u2,s2,d2⟩:=hs.nd h2
 refine D ?_
 try (refine WD_read rfl trivial (fun w' hS'=>Zy rfl rfl (hblk.ext hS' nb) rfl) rfl ?_)
 refine D ?_
 refine WD_read rfl trivial (fun w' hS'=>ZM rfl rfl (hs.on hS' (fun _ h=>h)) h0 (fun j u hj=>Z2n hs h0 hS' (d0 j u hj))) rfl ?_
 refine D ?_
 try (refine WD_read rfl trivial (fun w' hS'=>Zy rfl rfl (hblk.ext hS' nb) rfl) rfl ?_)
 refine D ?_
 refine WD_read rfl trivial (fun w' hS'=>ZM rfl rfl (hs.on hS' (fun _ h=>h)) h1 (fun j u hj=>Z2n hs h1 hS' (d1 j u hj))) rfl ?_
 refine D ?_
 try (refine WD_read rfl trivial (fun w' hS'=>Zy rfl rfl (hblk.ext hS' nb) rfl) rfl ?_)
 refine D ?_
 refine WD_read rfl trivial (fun w' hS'=>ZM rfl rfl (hs.on hS' (fun _ h=>h)) h2 (fun j u hj=>Z2n hs h2 hS' (d2 j u hj))) rfl ?_
 refine D ?_
 refine WD_eff rfl trivial (Z5 rfl (Z15 rfl rfl rfl rfl) (Z3r c0 c1 c2 _ bc base v _ _ _ xs (hcd.up hS1) ⟨u0,rfl,s0⟩ ⟨u1,rfl,s1⟩ ⟨u2,rfl,s2⟩ (hF.up hS1) hl)) (fun _ _ h=>by obtain ⟨_,_,h2,_⟩:=h;exact h2) rfl ?_
 rintro _ w5 hq
 refine D ?_
 refine W ?_
 refine WR ?_
 exact .mk (hq.pre hS)
 have h0:x.kids≠[]:=fun h=>by have:=hlf h;omega
 have e0:Z0a x.kind x.num x.word (x.kids.map Zj) xs.length=Z07 x.kind x.word (x.kids.map Zj) xs.length:=by
  rw [Z0a,if_neg (Z9U h0),if_neg (by assumption),if_neg (fun h=>absurd h.1 (by assumption)),if_neg (fun h=>absurd h.1 (by assumption)),if_neg (fun h=>absurd h.1 (by assumption))]
 rw [hcN,e0] at hl ⊢
 refine CL rfl (Zb rfl rfl) rfl (Z4q x _ hcl hcs _ bc base _ _ _ hcd ⟨kv,rfl,hs⟩ hF hl) ?_
 rintro _ w2 hq
 refine W ?_
 refine WR ?_
 exact .mk (main _ _ hq)
theorem Zdj (l:List Nd) (h:∀ y∈l,∀ p,(Zj y p).length≤8 * Jj y) (p:Nat):(Jh (l.map Zj) p).length≤8 * (l.map Jj).sum:=by
 induction l generalizing p with
 | nil=>simp [Jh]
 | cons x r ih=>
   simp only [Xl,Jh,Xd,List.sum_cons]
   have h1:=h x (by simp) p
   have h2:=ih (fun y hy=>h y (by simp [hy])) (p+(Zj x p).length)
   omega
theorem Zdk (l:List Int):(Z5A l).length=l.length:=by simp [Z5A]
theorem Zdl {l:List Nd} (h:∀ y∈l,∀ p,(Zj y p).length≤8 * Jj y) (i p:Nat):((l.map Zj).getD i Z1A p).length≤8 * (l.map Jj).getD i 0:=by
 by_cases hi:i<l.length
 simp [List.getD,hi]
 exact h _ (Xh hi) p
 simp [List.getD,hi,Z1A]
theorem Zdm (l:List Nat):l.getD 0 0+l.getD 1 0+l.getD 2 0≤l.sum:=by
 rcases l with _|⟨a,_|⟨b,_|⟨c,r⟩⟩⟩<;>simp<;>omega
theorem Z7r (c y n:Cf) (A B C:Nat) (hc:∀ p,(c p).length≤A) (hy:∀ p,(y p).length≤B) (hn:∀ p,(n p).length≤C) (p:Nat):(chC c y n p).length≤A+B+C+2:=by
 unfold chC
 simp only [Xd,Xc,Xe]
 have h1:=hc p
 have h2:=hy (p+(c p).length+1)
 have h3:=hn (p+(c p).length+1+(y (p+(c p).length+1)).length+1)
 omega
theorem Zbx (x:Nd):∀ p,(Zj x p).length≤8 * Jj x:=by
 induction x using Nd.ind with
 | h k n s l ih=>
 intro p
 rw [Z5B,Z0Q]
 show (Z0a k n s (l.map Zj) p).length≤8 * (1+(l.map Jj).sum)
 have hs:=Zdm (l.map Jj)
 have g:=Zdl ih
 have hp:(Z07 k s (l.map Zj) p).length≤8 * (l.map Jj).sum+3:=by
  unfold Z07
  simp only [Xd,Zdk]
  have h1:=Zdj l ih p
  have h2:=ZaM s
  have h3:(if k=8∨k=5∧s=[45] then [(⟨8,0⟩:Ins)] else []).length≤1:=by split<;>simp
  omega
 unfold Z0a
 split
 simp;omega
 split
 refine Xi (Z7r _ _ _ _ _ _ (g 0) (g 1) (g 2) p) (by omega)
 split
 refine Xi (Z7r _ _ _ _ _ 1 (g 0) (g 1) (fun _=>by simp) p) (by omega)
 split
 refine Xi (Z7r _ _ _ _ 1 _ (g 0) (fun _=>by simp) (g 1) p) (by omega)
 split
 simp only [Xd,Xc,Xe];omega
 omega
def J4 (x:Nd):List Ins:=Zj x 0++[⟨24,0⟩]
def Z3h (x:Nd):Int:=if Zn x≤12 then (if Z9 x=0 then 21 else if (J4 x).length > 200 then 2 else 0) else 2
def ZlM (w:World) (x:Nd) (r:Value) (w':World):Prop:=∃ cv,r=.tuple #[cv,.int .i64 (Z3h x)]∧(∀ X:List Nat,(∀ b∈X,b<w.heap.size)→SlV X w' cv (if Z3h x=0 then J4 x else []))∧Stp [] w w'
theorem Z1k (v:Value) (x:Nd) (w:World) (hsz:Jj x≤1000) (hx:NdV [] w v x) (hF:SlV [] w Z2l Z8) :
 Calls Tryz.prog 27 #[v] w (Ret (ZlM w x)):=by
 have hN:=hx
 obtain ⟨kv,rfl,hs⟩:=hx
 refine cW1 24 Tryz.func27 ?_
 refine W ?_
 refine Z3 (Zq rfl) rfl ?_
 rintro _ w1 ⟨b,rfl,hb,hblk,hS⟩
 replace hblk:Blk w1 b _ (ndC x kv):=hblk
 replace hs:=hs.up hS;replace hN:=hN.up hS;replace hF:=hF.up hS
 refine W ?_
 refine CL rfl (Zr rfl) rfl (Zjp [] [] _ x _ hN hF) ?_
 rintro _ w2 ⟨rfl,hS2⟩
 replace hs:=hs.up hS2;replace hN:=hN.up hS2;replace hF:=hF.up hS2;replace hblk:=hblk.up hS2
 replace hS:=hS.trans hS2
 by_cases hn:Zn x≤12
 case neg=>
  rw [if_neg hn,if_neg hn]
  have he:Z3h x=2:=by rw [Z3h,if_neg hn]
  repeat'(first|refine W1 ?_|omega|refine VG ?_ ?_<;>intro hg|refine VC ?_ ?_<;>intro hc)
  refine WR ?_
  refine .mk ⟨_,by rw [he];rfl,fun X hX=>?_,hS⟩
  rw [he,if_neg (by decide)]
  exact Z0Z _ _
 by_cases ht:Z9 x=0
 rw [if_pos hn,if_pos hn,if_pos ht]
 have he:Z3h x=21:=by rw [Z3h,if_pos hn,if_pos ht]
 focus repeat'(first|refine W1 ?_|omega|refine VG ?_ ?_<;>intro hg|refine VC ?_ ?_<;>intro hc)
 refine WR ?_
 refine .mk ⟨_,by rw [he];rfl,fun X hX=>?_,hS⟩
 rw [he,if_neg (by decide)]
 exact Z0Z _ _
 rw [if_pos hn,if_pos hn,if_neg ht]
 repeat'(first|refine W1 ?_|omega|refine VG ?_ ?_<;>intro hg|refine VC ?_ ?_<;>intro hc)
 refine Z3 Z6 rfl ?_
 rintro _ w3 ⟨bc,rfl,hbc,hblkc,hS3⟩
 replace hblk:=hblk.up hS3
 replace hblkc:Blk w3 bc 156 [.slice none 0 0]:=hblkc
 refine W ?_
 have hcod:Cod w3 bc w3.heap.size (.slice none 0 0) []:=⟨hblkc,Row.nil,by simp [ob],hblkc.lt,Xm _⟩
 have fr:=Fr.start hcod
 have hlen:=Zbx x 0
 refine CL rfl (Zb rfl rfl) rfl (Zfi x ht _ bc _ _ _ [] hcod ⟨kv,rfl,?_⟩ ?_ ?_) ?_
 refine hs.ext hS3 (by simp) (fun c hc=>.inr ?_)
 simp [ob] at hc;omega
 refine hF.ext hS3 (by simp) (fun c hc=>.inr ?_)
 simp [ob] at hc;omega
 simp only [Xe];omega
 rintro _ w4 hq
 obtain ⟨v4,fr⟩:=fr.step hq
 rw [XL,Xe] at fr
 refine W ?_
 refine CL rfl (Zu rfl rfl rfl) rfl (Z0t bc _ _ _ 24 0 _ fr.cod (by omega)) ?_
 rintro _ w5 ⟨rfl,hq⟩
 obtain ⟨v5,fr⟩:=fr.step hq
 have hfin:Stp [] w w5:=hS.trans (hS3.own fr.stp (fun c hc=>.inr (by simp [ob] at hc;omega)))
 have hrow:=fr.cod.row
 have hblk5:=fr.cod.blk
 have hslv:=hrow.slv0
 have hel:((Zj x 0++[(⟨24,0⟩:Ins)]).length:Int)=(J4 x).length:=rfl
 by_cases hg:(J4 x).length > 200
 have he:Z3h x=2:=by rw [Z3h,if_pos hn,if_neg ht,if_pos hg]
 focus repeat'(first|refine W1 ?_|omega|refine VG ?_ ?_<;>intro hg|refine VC ?_ ?_<;>intro hc)
 refine WR ?_
 refine .mk ⟨_,by rw [he],fun X hX=>?_,hfin⟩
 rw [he,if_neg (by decide)]
 exact Z0Z _ _
 have he:Z3h x=0:=by rw [Z3h,if_pos hn,if_neg ht,if_neg hg]
 focus repeat'(first|refine W1 ?_|omega|refine VG ?_ ?_<;>intro hg|refine VC ?_ ?_<;>intro hc)
 refine WR ?_
 refine .mk ⟨_,by rw [he],fun X hX=>?_,hfin⟩
 rw [he,if_pos rfl]
 exact Row.slv (X:=X) hrow (fun b hb=>by have:=hX b hb;have:=hS.size;have:=hS3.size;omega)
end Go.Proofs.YtjdjdoefppebkaaGreatDoor
namespace Go.Eng
open Go Go.RowKit Go.Proofs
theorem Z7.slvG {α:Type} [Zd α] {w w':World} {X:List Nat} {T len:Nat} {cs:List Value} {v:Value} {ys:List α} {css:List (List Value)} (h:Z7 w T len cs v w') (hX:∀ b∈X,b<w.heap.size) (hl:len=ys.length) (hcl:css.length=ys.length)
 (hc:cs=css.flatten) (hr:∀ i (hi:i<ys.length) (hi':i<css.length),Zd.rep X w ys[i] css[i]) (hm:ys.length≤maxLen):SlV X w' v ys:=by
 obtain ⟨b,rfl,hb,hblk,hS⟩:=h
 subst hl
 subst hc
 have hk:∀ c∈css,c.length=Zd.k α:=by
  intro c hc
  obtain ⟨i,hi,rfl⟩:=Xo hc
  exact Zd.len (hr i (by omega) hi)
 refine ⟨some ⟨b,0,none⟩,ys.length,rfl,Xm _,hm,fun h=>by simp at h,fun i hi=>⟨b,0,css[i]'(by omega),rfl,hblk.lt,fun hx=>by have:=hX b hx;omega,Zd.ext (hr i hi (by omega)) hS (by simp) (fun b hb=>.inl hb),fun j u hu=>?_⟩⟩
 refine hblk.cell ?_
 have:=Z0z css hk i (by omega) j u hu
 rw [XM]
 exact this
theorem SlV.wk {α:Type} [Zd α] {X X':List Nat} {w:World} {v:Value} {l:List α} (h:SlV X w v l) (hs:∀ b∈X',b∈X):SlV X' w v l:=h.ext (Stp.refl [] w) (by simp) (fun b hb=>.inl (hs b hb))
end Go.Eng
namespace Go.Proofs.YtjdjdoefppebkaaGreatDoor
open Go Go.Eng Go.RowKit
theorem JW (k n:Int) (s:Str) (p:Option Addr) (l c:Nat) (w:World):(Instr.buildSlice 25 1 #[(0,.agg #[.int .i64 k,.int .i64 n,str s,.slice p l c])]).run Tryz.prog w=.ok (.slice (some ⟨w.heap.size,0,none⟩) 1 1) (w.alloc (.cells #[.int .i64 k,.int .i64 n,str s,.slice p l c] 27)):=by kernel_rfl
theorem Z6B:∀ (s sub:List UInt8),0≤Lib.index s sub↔∃ i,i≤s.length∧sub.isPrefixOf (s.drop i)=true
 | [], sub => by
   unfold Lib.index
   cases sub with
   | nil=>simp
   | cons a l=>simp
 | b :: l, sub => by
   have ih:=Z6B l sub
   have hge:=Lib.index_ge l sub
   unfold Lib.index
   by_cases hp:sub.isPrefixOf (b :: l)=true
   rw [if_pos hp]
   exact ⟨fun _=>⟨0,by omega,hp⟩,fun _=>by omega⟩
   rw [if_neg hp]
   have e:(0:Int)≤(if (Lib.index l sub == -1)=true then -1 else Lib.index l sub+1)↔0≤Lib.index l sub:=by
    by_cases h1:Lib.index l sub=-1
    rw [if_pos (by simpa using h1)];omega
    rw [if_neg (by simpa using h1)];omega
   rw [e,ih]
   constructor
   rintro ⟨i,hi,h⟩
   exact ⟨i+1,by simpa using hi,h⟩
   · rintro ⟨i,hi,h⟩
     cases i with
     | zero=>exact absurd h hp
     | succ i=>exact ⟨i,by simpa using hi,h⟩
theorem Z6C:∀ (t r:List UInt8),(∀ c∈t,c≠32)→(t++[32]).isPrefixOf r=true→r.takeWhile (fun c=>decide (c≠32))=t
 | [], r, _, h => by
   cases r with
   | nil=>simp at h
   | cons a l=>
     simp [List.isPrefixOf] at h
     subst h
     rfl
 | c :: t, r, hc, h => by
   cases r with
   | nil=>simp at h
   | cons a l=>
     simp only [XR,List.isPrefixOf,Xg,beq_iff_eq] at h
     obtain ⟨rfl,h⟩:=h
     have h1:=hc c (by simp)
     rw [List.takeWhile_cons_of_pos (by simpa using h1),Z6C t l (fun x hx=>hc x (by simp [hx])) h]
theorem Z7s (a b:Str) (m:Int) (w:World) (ha:a.length<4294967281) (hm:w.cell? ⟨2,0,none⟩=some (.int .i64 m)) :
 CC 176 #[str a,str b] w fun r w'=>r=.bool (Lib.contains a b)∧Stp [] w w':=by
 refine (Tryz.strings_Contains ⟨a.toArray⟩ ⟨b.toArray⟩ m w (by rw [JU];exact ha) hm).mono ?_
 rintro e w' ⟨rfl,rfl⟩
 exact .mk ⟨rfl,Stp.refl _ _⟩
theorem Zw (z:Int) (m:Int) (w:World) (hm:0<m) (hz:I64 z):CC 18 #[.int .i64 z,.int .i64 m] w fun r w'=>r=.int .i64 ((if z<0 then -(z+1) else z) % m)∧Stp [] w w':=by
 unfold I64 at hz
 refine cW2 13 Tryz.func18 ?_
 by_cases h:z<0
 focus repeat'(first|refine W1 ?_|omega|refine VG ?_ ?_<;>intro hg|refine VC ?_ ?_<;>intro hc)
 refine WR ?_
 exact .mk ⟨by rw [if_pos h],Stp.refl _ _⟩
 focus repeat'(first|refine W1 ?_|omega|refine VG ?_ ?_<;>intro hg|refine VC ?_ ?_<;>intro hc)
 refine WR ?_
 exact .mk ⟨by rw [if_neg h],Stp.refl _ _⟩
theorem Zs (z m:Int) (hm:0<m):0≤z % m∧z % m<m:=⟨YaN _ (by omega),YaF _ hm⟩
theorem ZW (X:List Nat) (v:Value) (l:List Int) (i m:Int) (w:World) (hm:0<m) (hi:I64 i) (hs:SlV X w v l) (hl:∀ a∈l,I64 a):CC 94 #[v,.int .i64 i,.int .i64 m] w fun r w'=>∃ q:Nat,r=.int .i64 (q:Int)∧(q:Int)<m∧Stp [] w w':=by
 unfold I64 at hi
 have hmax:=hs.max
 refine cW3 21 Tryz.func94 ?_
 refine W ?_
 by_cases hgo:0≤i∧i<l.length
 obtain ⟨h0,h1⟩:=hgo
 obtain ⟨k,rfl⟩:∃ k:Nat,i=(k:Int):=⟨i.toNat,by omega⟩
 have hk:k<l.length:=by omega
 focus repeat'(first|refine W1 ?_|omega|refine VG ?_ ?_<;>intro hg|refine VC ?_ ?_<;>intro hc)
 refine CL rfl (Zb rfl rfl) rfl (Zw _ m _ hm (hl _ (Xh hk))) ?_
 rintro _ w2 ⟨rfl,hS⟩
 refine W ?_
 refine WR ?_
 have:=Zs (if l[k]<0 then -(l[k]+1) else l[k]) m hm
 exact .mk ⟨_,by rw [X2 this.1],by rw [X2 this.1];exact this.2,hS⟩
 · repeat'(first|refine W1 ?_|omega|refine VG ?_ ?_<;>intro hg|refine VC ?_ ?_<;>intro hc)
   all_goals first
    | (refine WR ?_
       exact .mk ⟨0,rfl,by simpa using hm,Stp.refl _ _⟩)
theorem Zby (k:Int) (s:Str) (p:Option Addr) (l c:Nat) (w:World):(Instr.build 27 #[(0,.int .i64 k),(2,str s),(3,.slice p l c)]).run Tryz.prog w=.ok (.agg #[.int .i64 k,.int .i64 0,str s,.slice p l c]) w:=by kernel_rfl
def szD:Nat→Nat
 | 0=>0
 | d+1=>1+3 * szD d
theorem Z9W {d:Nat} (h:1≤d):szD d=1+3 * szD (d - 1):=by
 cases d with
 | zero=>omega
 | succ d=>rfl
theorem Z2R {X:List Nat} {w:World} {y0:Nd} {k0:Value} (s0:SlV X w k0 y0.kids):∀ i (hi:i < [y0].length) (hi':i < [ndC y0 k0].length),Zd.rep X w [y0][i] [ndC y0 k0][i]
 | 0,_,_=>(show Z3g X w y0 (ndC y0 k0) by rw [y0.eta];exact Z20 s0)
theorem Z0R {X:List Nat} {w:World} {y0 y1:Nd} {k0 k1:Value} (s0:SlV X w k0 y0.kids) (s1:SlV X w k1 y1.kids):∀ i (hi:i < [y0,y1].length) (hi':i < [ndC y0 k0,ndC y1 k1].length),Zd.rep X w [y0,y1][i] [ndC y0 k0,ndC y1 k1][i]
 | 0,_,_=>(show Z3g X w y0 (ndC y0 k0) by rw [y0.eta];exact Z20 s0)
 | 1,_,_=>(show Z3g X w y1 (ndC y1 k1) by rw [y1.eta];exact Z20 s1)
theorem Zgm {X:List Nat} {w:World} {y0 y1 y2:Nd} {k0 k1 k2:Value} (s0:SlV X w k0 y0.kids) (s1:SlV X w k1 y1.kids) (s2:SlV X w k2 y2.kids):∀ i (hi:i < [y0,y1,y2].length) (hi':i < [ndC y0 k0,ndC y1 k1,ndC y2 k2].length),Zd.rep X w [y0,y1,y2][i] [ndC y0 k0,ndC y1 k1,ndC y2 k2][i]
 | 0,_,_=>(show Z3g X w y0 (ndC y0 k0) by rw [y0.eta];exact Z20 s0)
 | 1,_,_=>(show Z3g X w y1 (ndC y1 k1) by rw [y1.eta];exact Z20 s1)
 | 2,_,_=>(show Z3g X w y2 (ndC y2 k2) by rw [y2.eta];exact Z20 s2)
theorem Z3P (k n:Int) (w:World):(Instr.build 27 #[(0,.int .i64 k),(1,.int .i64 n)]).run Tryz.prog w=.ok (.agg #[.int .i64 k,.int .i64 n,str [],.slice none 0 0]) w:=by kernel_rfl
theorem Jf (k n:Int) (s:Str) (p:Option Addr) (l c:Nat) (k' n':Int) (s':Str) (p':Option Addr) (l' c':Nat) (w:World):(Instr.buildSlice 25 2 #[(0,.agg #[.int .i64 k,.int .i64 n,str s,.slice p l c]),(1,.agg #[.int .i64 k',.int .i64 n',str s',.slice p' l' c'])]).run Tryz.prog w=.ok (.slice (some ⟨w.heap.size,0,none⟩) 2 2) (w.alloc (.cells #[.int .i64 k,.int .i64 n,str s,.slice p l c,.int .i64 k',.int .i64 n',str s',.slice p' l' c'] 27)):=by kernel_rfl
theorem Z8v (k n:Int) (s:Str) (p:Option Addr) (l c:Nat) (k' n':Int) (s':Str) (p':Option Addr) (l' c':Nat) (k'' n'':Int) (s'':Str) (p'':Option Addr) (l'' c'':Nat) (w:World):(Instr.buildSlice 25 3 #[(0,.agg #[.int .i64 k,.int .i64 n,str s,.slice p l c]),(1,.agg #[.int .i64 k',.int .i64 n',str s',.slice p' l' c']),(2,.agg #[.int .i64 k'',.int .i64 n'',str s'',.slice p'' l'' c''])]).run Tryz.prog w=.ok (.slice (some ⟨w.heap.size,0,none⟩) 3 3) (w.alloc (.cells #[.int .i64 k,.int .i64 n,str s,.slice p l c,.int .i64 k',.int .i64 n',str s',.slice p' l' c',.int .i64 k'',.int .i64 n'',str s'',.slice p'' l'' c''] 27)):=by kernel_rfl
theorem ZlN (k n:Int) (s:Str) (y0:Nd):Jj (.mk k n s [y0])=1+Jj y0:=by rw [Z0Q];simp [Nd.kids]
theorem ZlO (k n:Int) (s:Str) (y0 y1:Nd):Jj (.mk k n s [y0,y1])=1+Jj y0+Jj y1:=by rw [Z0Q];simp [Nd.kids];omega
theorem ZlP (k n:Int) (s:Str) (y0 y1 y2:Nd):Jj (.mk k n s [y0,y1,y2])=1+Jj y0+Jj y1+Jj y2:=by rw [Z0Q];simp [Nd.kids];omega
theorem ZlQ (k n:Int) (s:Str):Jj (.mk k n s [])=1:=by rw [Z0Q];simp [Nd.kids]
theorem ZlR (k n:Int) (s:Str):Zn (.mk k n s [])=1:=by rw [JJ];simp [Nd.kids]
theorem ZlS (k n:Int) (s:Str) (y0:Nd):Zn (.mk k n s [y0])=1+Zn y0:=by rw [JJ];simp [Nd.kids]
theorem ZlT (k n:Int) (s:Str) (y0 y1:Nd):Zn (.mk k n s [y0,y1])=1+max (Zn y0) (Zn y1):=by rw [JJ];simp [Nd.kids]
theorem ZlU (k n:Int) (s:Str) (y0 y1 y2:Nd):Zn (.mk k n s [y0,y1,y2])=1+max (max (Zn y0) (Zn y1)) (Zn y2):=by rw [JJ];simp [Nd.kids]
theorem ty0 {k n τ:Int} {s:Str} (h:Z05 k n s=τ):Z9 (.mk k n s [])=τ:=by rw [Jr];exact h
theorem ty1 {k τ a:Int} {s:Str} {y0:Nd} (h0:Z9 y0=a) (h:ZX k 0 s [a]=τ):Z9 (.mk k 0 s [y0])=τ:=by rw [Jr];simp only [Nd.kind,Nd.num,Nd.word,Nd.kids,Xl,Xs,h0];exact h
theorem ty2 {k τ a b:Int} {s:Str} {y0 y1:Nd} (h0:Z9 y0=a) (h1:Z9 y1=b) (h:ZX k 0 s [a,b]=τ):Z9 (.mk k 0 s [y0,y1])=τ:=by rw [Jr];simp only [Nd.kind,Nd.num,Nd.word,Nd.kids,Xl,Xs,h0,h1];exact h
theorem ty3 {k τ a b c:Int} {s:Str} {y0 y1 y2:Nd} (h0:Z9 y0=a) (h1:Z9 y1=b) (h2:Z9 y2=c) (h:ZX k 0 s [a,b,c]=τ):Z9 (.mk k 0 s [y0,y1,y2])=τ:=by rw [Jr];simp only [Nd.kind,Nd.num,Nd.word,Nd.kids,Xl,Xs,h0,h1,h2];exact h
end Go.Proofs.YtjdjdoefppebkaaGreatDoor
namespace Go.Eng
open Go
end Go.Eng
namespace Go.Proofs.YtjdjdoefppebkaaGreatDoor
open Go Go.Eng Go.RowKit
def ZS (x:Ins):List Int×List Int×List Int×Bool:=
 if x.op=1 then ([],[],[1],decide (-2147483647≤x.n∧x.n≤2147483647))
 else if x.op=2 then ([],[],[2],decide (x.n=0∨x.n=1))
 else if x.op=3 then ([],[],[3],decide (0≤x.n∧x.n≤3652058))
 else if x.op=4 then ([],[],[if x.n=0∨x.n=1 then 3 else 1],decide (0≤x.n∧x.n<7))
 else if x.op=13 then ([],[],[],true)
 else if x.op=14 then ([2],[],[],true)
 else if x.op=5∨x.op=6∨x.op=7 then ([1,1],[],[1],decide (x.n=0))
 else if x.op=8 then ([1],[],[1],decide (x.n=0))
 else if x.op=9∨x.op=10∨x.op=11 then ([1,1],[3,3],[2],decide (x.n=0))
 else if x.op=12 then ([2],[],[2],decide (x.n=0))
 else if x.op=15∨x.op=16∨x.op=17∨x.op=18 then ([3,1],[],[3],decide (x.n=0))
 else if x.op=19∨x.op=20 then ([3],[],[3],decide (x.n=0))
 else if x.op=21∨x.op=22 then ([3,3],[],[3],decide (x.n=0))
 else if x.op=23 then ([3,3],[],[1],decide (x.n=0))
 else if x.op=24 then ([],[],[],decide (x.n=0))
 else ([],[],[],false)
abbrev Shp:=List Int
def J5 (x:Ins) (s:Shp):Option Shp:=
 let e:=ZS x
 let k:=s.length - e.1.length
 if e.2.2.2=true∧e.1.length≤s.length∧(s.drop k=e.1∨e.2.1≠[]∧s.drop k=e.2.1)∧(s.take k++e.2.2.1).length≤16 then some (s.take k++e.2.2.1) else none
def Z0u (st:List (Option Shp)) (t:Int) (sh:Shp):Option (List (Option Shp)):=
 if 0≤t∧t<st.length then
  match st.getD t.toNat none with
  | some s=>if s=sh then some st else none
  | none=>some (st.set t.toNat (some sh))
 else none
def Z1l (st:List (Option Shp)) (i:Nat) (x:Ins):Option (List (Option Shp)):=
 match st.getD i none with
 | none=>none
 | some s=>
   match J5 x s with
   | none=>none
   | some nx=>
     if x.op=24 then (if i+1=st.length∧s.length=1 then some st else none)
     else if x.op=13 then (if x.n > i then Z0u st x.n nx else none)
     else if x.op=14 then (if x.n > i then (Z0u st x.n nx).bind (fun st'=>Z0u st' ((i:Int)+1) nx) else none)
     else Z0u st ((i:Int)+1) nx
def Z7t (code:List Ins):Nat→List (Option Shp)→Option (List (Option Shp))
 | 0,st=>some st
 | k+1,st=>(Z7t code k st).bind (fun st'=>Z1l st' k (code.getD k ⟨0,0⟩))
def Z57 (code:List Ins):Int×Int:=
 if code.length=0∨code.length > 200 then (0,22) else
  match Z7t code code.length ((some []) :: List.replicate (code.length - 1) none) with
  | none=>(0,22)
  | some st=>(((st.getD (code.length - 1) none).getD []).headD 0,0)
theorem JX {st st':List (Option Shp)} {t:Int} {sh:Shp} (h:Z0u st t sh=some st'):st'.length=st.length:=by
 unfold Z0u at h
 split at h
 split at h
 split at h
 cases h;rfl
 cases h
 cases h;simp
 cases h
example:Z57 [⟨4,0⟩,⟨1,3⟩,⟨15,0⟩,⟨24,0⟩]=(3,0):=by decide
example:Z57 [⟨24,0⟩]=(0,22):=by decide
def okS (s:Shp):Prop:=∀ k∈s,k=1∨k=2∨k=3
theorem Zdn {s:Shp} (h:okS s) (k:Nat):okS (s.take k):=fun a ha=>h a (Yab ha)
theorem Zfj {s t:Shp} (h:okS s) (h':okS t):okS (s++t):=fun a ha=>(Xn.1 ha).elim (h a) (h' a)
theorem Zjs {op n:Int} (h:¬ (1≤op∧op≤24)):ZS ⟨op,n⟩=([],[],[],false):=by
 have h1:∀ k:Int,1≤k→k≤24→¬ op=k:=fun k h1 h2 e=>h (by omega)
 simp only [ZS]
 rw [if_neg (h1 1 (by decide) (by decide))]
 rw [if_neg (h1 2 (by decide) (by decide))]
 rw [if_neg (h1 3 (by decide) (by decide))]
 rw [if_neg (h1 4 (by decide) (by decide))]
 rw [if_neg (h1 13 (by decide) (by decide))]
 rw [if_neg (h1 14 (by decide) (by decide))]
 rw [if_neg (not_or.2 ⟨h1 5 (by decide) (by decide),(not_or.2 ⟨h1 6 (by decide) (by decide),(h1 7 (by decide) (by decide))⟩)⟩)]
 rw [if_neg (h1 8 (by decide) (by decide))]
 rw [if_neg (not_or.2 ⟨h1 9 (by decide) (by decide),(not_or.2 ⟨h1 10 (by decide) (by decide),(h1 11 (by decide) (by decide))⟩)⟩)]
 rw [if_neg (h1 12 (by decide) (by decide))]
 rw [if_neg (not_or.2 ⟨h1 15 (by decide) (by decide),(not_or.2 ⟨h1 16 (by decide) (by decide),(not_or.2 ⟨h1 17 (by decide) (by decide),(h1 18 (by decide) (by decide))⟩)⟩)⟩)]
 rw [if_neg (not_or.2 ⟨h1 19 (by decide) (by decide),(h1 20 (by decide) (by decide))⟩)]
 rw [if_neg (not_or.2 ⟨h1 21 (by decide) (by decide),(h1 22 (by decide) (by decide))⟩)]
 rw [if_neg (h1 23 (by decide) (by decide))]
 rw [if_neg (h1 24 (by decide) (by decide))]
def Z8w (st:List (Option Shp)):Prop:=∀ s,some s∈st→okS s
theorem Zbz (x:Ins):okS (ZS x).2.2.1:=by
 obtain ⟨op,n⟩:=x
 by_cases hr:1≤op∧op≤24
 have hn:op=1∨op=2∨op=3∨op=4∨op=5∨op=6∨op=7∨op=8∨op=9∨op=10∨op=11∨op=12∨op=13∨op=14∨op=15∨op=16∨op=17∨op=18∨op=19∨op=20∨op=21∨op=22∨op=23∨op=24:=by omega
 rcases hn with rfl|rfl|rfl|rfl|rfl|rfl|rfl|rfl|rfl|rfl|rfl|rfl|rfl|rfl|rfl|rfl|rfl|rfl|rfl|rfl|rfl|rfl|rfl|rfl
 intro k hk;simp [ZS] at hk;omega
 intro k hk;simp [ZS] at hk;omega
 intro k hk;simp [ZS] at hk;omega
 show okS [if n=0∨n=1 then 3 else 1]
 intro k hk;simp at hk;subst hk;split<;>simp
 intro k hk;simp [ZS] at hk;omega
 intro k hk;simp [ZS] at hk;omega
 intro k hk;simp [ZS] at hk;omega
 intro k hk;simp [ZS] at hk;omega
 intro k hk;simp [ZS] at hk;omega
 intro k hk;simp [ZS] at hk;omega
 intro k hk;simp [ZS] at hk;omega
 intro k hk;simp [ZS] at hk;omega
 intro k hk;simp [ZS] at hk
 intro k hk;simp [ZS] at hk
 intro k hk;simp [ZS] at hk;omega
 intro k hk;simp [ZS] at hk;omega
 intro k hk;simp [ZS] at hk;omega
 intro k hk;simp [ZS] at hk;omega
 intro k hk;simp [ZS] at hk;omega
 intro k hk;simp [ZS] at hk;omega
 intro k hk;simp [ZS] at hk;omega
 intro k hk;simp [ZS] at hk;omega
 intro k hk;simp [ZS] at hk;omega
 intro k hk;simp [ZS] at hk
 rw [Zjs hr];intro k hk;simp at hk
theorem Zfk {x:Ins} {s nx:Shp} (hs:okS s) (h:J5 x s=some nx):okS nx:=by
 unfold J5 at h
 dsimp only at h
 split at h
 cases h;exact Zfj (Zdn hs _) (Zbz x)
 cases h
theorem Z3Q {st st':List (Option Shp)} {t:Int} {nx:Shp} (hst:Z8w st) (hn:okS nx) (h:Z0u st t nx=some st'):Z8w st':=by
 unfold Z0u at h
 split at h
 split at h
 split at h
 cases h;exact hst
 cases h
 cases h
 intro s hs
 rcases List.mem_or_eq_of_mem_set hs with h|h
 exact hst s h
 cases h;exact hn
 cases h
theorem Zfl {st st':List (Option Shp)} {i:Nat} {x:Ins} (hst:Z8w st) (h:Z1l st i x=some st'):Z8w st'∧st'.length=st.length:=by
 unfold Z1l at h
 split at h
 cases h
 rename_i s hs
 have hs0:okS s:=by
  refine hst s ?_
  have hi:i<st.length:=Nat.lt_of_not_le fun hle=>by simp [List.getD,Nat.not_lt.2 hle] at hs
  have:st.getD i none=st[i]:=by simp [List.getD,hi]
  rw [← hs,this];exact Xh hi
 split at h
 cases h
 rename_i nx hn
 have hnx:=Zfk hs0 hn
 split at h
 split at h
 cases h;exact ⟨hst,rfl⟩
 cases h
 split at h
 split at h
 exact ⟨Z3Q hst hnx h,JX h⟩
 cases h
 split at h
 split at h
 obtain ⟨s1,h1,h2⟩:=X0.1 h
 exact ⟨Z3Q (Z3Q hst hnx h1) hnx h2,by rw [JX h2,JX h1]⟩
 cases h
 exact ⟨Z3Q hst hnx h,JX h⟩
theorem Zdo {code:List Ins} {st0:List (Option Shp)} (h0:Z8w st0):∀ k st,Z7t code k st0=some st→Z8w st∧st.length=st0.length
 | 0,st,h=>by cases h;exact ⟨h0,rfl⟩
 | k + 1, st, h => by
   obtain ⟨s1,h1,h2⟩:=X0.1 h
   obtain ⟨a,b⟩:=Zdo h0 k s1 h1
   obtain ⟨c,d⟩:=Zfl a h2
   exact ⟨c,by omega⟩
theorem Zjt {st st':List (Option Shp)} {i:Nat} {x:Ins} (h0:∀ s,some s∈st→s.length≤16) (h:Z1l st i x=some st'):∀ s,some s∈st'→s.length≤16:=by
 have hr:∀ {st st':List (Option Shp)} {t:Int} {nx:Shp},(∀ s,some s∈st→s.length≤16)→nx.length≤16→Z0u st t nx=some st'→∀ s,some s∈st'→s.length≤16:=by
  intro st st' t nx hst hn h
  unfold Z0u at h
  split at h
  split at h
  split at h
  cases h;exact hst
  cases h
  cases h
  intro s hs
  rcases List.mem_or_eq_of_mem_set hs with h|h
  exact hst s h
  cases h;exact hn
  cases h
 have hn:∀ {s nx:Shp},J5 x s=some nx→nx.length≤16:=by
  intro s nx h
  unfold J5 at h
  dsimp only at h
  split at h
  rename_i hc
  cases h;exact hc.2.2.2
  cases h
 unfold Z1l at h
 split at h
 cases h
 split at h
 cases h
 rename_i nx hn'
 have hnx:=hn hn'
 split at h
 split at h
 cases h;exact h0
 cases h
 split at h
 split at h
 exact hr h0 hnx h
 cases h
 split at h
 split at h
 obtain ⟨s1,h1,h2⟩:=X0.1 h
 exact hr (hr h0 hnx h1) hnx h2
 cases h
 exact hr h0 hnx h
open Go Go.Eng Go.RowKit Go.Proofs Go.ChangeShapes Go.WideShapes Go.Deep
theorem Znt:ownKnob Tryz.prog.godebug=none:=by kernel_rfl
theorem ZlV:laidOutB Tryz.prog=true:=by kernel_rfl
section
variable {H:Type} {enc:TypeId×Value→H} {w:World} {base:Nat} {spare:Nat→Bool} {held:Bool}
set_option maxRecDepth 100000 in
theorem ZlW {r:Reach} {b0:Nat} {v:Value} {d:DataW H} {p:List MemPlace} (hv:Value.okWide Tryz.prog w r b0 3 v) (h:DataW.Trod enc Tryz.prog w base spare held 3 v d p):∃ z:Int,v=.int .i64 z∧I64 z:=by
 obtain ⟨z,rfl,_,_,hw⟩:=open_int Tryz.underlying3 hv h
 exact ⟨z,rfl,by simpa [I64,Lit.wf,IntKind.min,IntKind.max,IntKind.signed,IntKind.bits] using hw⟩
end
end Go.Proofs.YtjdjdoefppebkaaGreatDoor
namespace Go.Eng
open Go Go.RowKit Go.Proofs Go.ChangeShapes Go.WideShapes Go.Deep
section
variable {H:Type} {enc:TypeId×Value→H} {P:Program} {w:World} {base:Nat} {spare:Nat→Bool} {held:Bool}
end
end Go.Eng
namespace Go.Proofs.YtjdjdoefppebkaaGreatDoor
open Go Go.Eng Go.RowKit Go.Proofs Go.ChangeShapes Go.WideShapes Go.Deep
section
variable {H:Type} {enc:TypeId×Value→H} {w:World} {base:Nat} {spare:Nat→Bool} {held:Bool}
theorem k3:Tryz.prog.cellsOf 3=1:=by kernel_rfl
end
end Go.Proofs.YtjdjdoefppebkaaGreatDoor
namespace Go.Eng
open Go Go.RowKit
variable {X:List Nat} {w w':World} {base T:Nat} {v:Value} {zs ys:List Int}
def ZbA (w:World) (base T:Nat) (v:Value) (zs:List Int):Prop:=(v=.slice none 0 0∧zs=[])∨∃ g cap cur,v=.slice (some ⟨g,0,none⟩) zs.length cap∧base≤g∧w.heap[g]?=some (.cells cur T (0,0))∧zs.length≤cap∧cap≤maxLen∧cur.size=cap∧cur.toList.take zs.length=zs.map (Value.int .i64)
theorem Row.toI (h:Row X w base T v zs):ZbA w base T v zs:=by
 obtain ⟨css,hl,hr,hx,ho⟩:=h
 have hc:css=zs.map (fun x=>[Value.int .i64 x]):=by
  apply YaL (by simpa using hl)
  intro i h1 h2
  have:css[i]=[Value.int .i64 zs[i]]:=hr i (by omega) h1
  simp [this]
 rcases ho with ⟨rfl,hn⟩|⟨g,cap,cur,rfl,hb,hg,hnc,hcm,hcs,ht⟩
 exact .inl ⟨rfl,Xz.1 hn⟩
 · refine .inr ⟨g,cap,cur,rfl,hb,hg,hnc,hcm,by simpa [Zd.k,Za.k] using hcs,?_⟩
   have h2:cur.toList.take (zs.length * 1)=css.flatten:=ht
   rw [Nat.mul_one] at h2
   rw [h2,hc]
   clear h2 ht hx hr hl hc hnc hg hcs
   induction zs with
   | nil=>rfl
   | cons a l ih=>simp at ih ⊢;exact ih
theorem ZbA.toRow (h:ZbA w base T v zs):Row X w base T v zs:=by
 rcases h with ⟨rfl,rfl⟩|⟨g,cap,cur,rfl,hb,hg,hnc,hcm,hcs,ht⟩
 exact Row.nil
 · refine ⟨zs.map (fun x=>[Value.int .i64 x]),by simp,fun i h1 h2=>by simp;rfl,?_⟩
   have hf:(zs.map (fun x=>[Value.int .i64 x])).flatten=zs.map (Value.int .i64):=by
    clear ht hnc
    induction zs with
    | nil=>rfl
    | cons a l ih=>simp at ih ⊢;exact ih
   rw [hf]
   refine ⟨by simp [Zd.k,Za.k],.inr ⟨g,cap,cur,rfl,hb,hg,hnc,hcm,by simpa [Zd.k,Za.k] using hcs,by simpa [Zd.k,Za.k] using ht⟩⟩
theorem Z7u {zs:List Int} (hs:zs.Pairwise (·≤·)):(Lib.compact zs).Pairwise (· < ·)∧∀ y,y∈Lib.compact zs↔y∈zs:=by
 have hd:∀ i j,i≤j→j<zs.length→zs.toArray[i]!≤zs.toArray[j]!:=by
  intro i j hij hj
  rcases Nat.lt_or_eq_of_le hij with h|rfl
  have:=List.pairwise_iff_getElem.1 hs i j (by omega) hj h
  simpa [getElem!_pos,hj,show i<zs.length by omega] using this
  exact XN _
 have key:∀ m,m≤zs.length→(Lib.compactUpTo zs.toArray m).Pairwise (· < ·)∧∀ y,y∈Lib.compactUpTo zs.toArray m↔∃ i,i<m∧y=zs.toArray[i]!:=by
  intro m
  induction m with
  | zero=>intro _;refine ⟨by simp [Lib.compactUpTo],fun y=>by simp [Lib.compactUpTo]⟩
  | succ m ih=>
    intro hm
    obtain ⟨i1,i2⟩:=ih (by omega)
    rw [Lib.compactUpTo_succ]
    by_cases hk:Lib.keeps zs.toArray m=true
    rw [if_pos hk]
    refine ⟨List.pairwise_append.2 ⟨i1,List.pairwise_singleton _ _,fun a ha b hb=>?_⟩,fun y=>?_⟩
    obtain ⟨i,hi,rfl⟩:=(i2 a).1 ha
    rw [Xp.1 hb]
    have hk':m=0∨zs.toArray[m]!≠zs.toArray[m - 1]!:=by simpa [Lib.keeps] using hk
    have h1:=hd i (m - 1) (by omega) (by omega)
    have h2:=hd (m - 1) m (by omega) (by omega)
    have h3:=hk'.resolve_left (by omega)
    omega
    rw [Xn,i2,Xp]
    constructor
    rintro (⟨i,hi,rfl⟩|rfl)
    exact ⟨i,by omega,rfl⟩
    exact ⟨m,by omega,rfl⟩
    rintro ⟨i,hi,rfl⟩
    by_cases hi':i<m
    exact .inl ⟨i,hi',rfl⟩
    exact .inr (by rw [show i=m by omega])
    rw [if_neg hk,XK]
    have hk':¬ (m=0∨zs.toArray[m]!≠zs.toArray[m - 1]!):=by simpa [Lib.keeps] using hk
    have hm0:m≠0:=fun h=>hk' (.inl h)
    have he:zs.toArray[m]! = zs.toArray[m - 1]!:=Decidable.byContradiction fun h=>hk' (.inr h)
    refine ⟨i1,fun y=>?_⟩
    rw [i2]
    constructor
    rintro ⟨i,hi,rfl⟩
    exact ⟨i,by omega,rfl⟩
    rintro ⟨i,hi,rfl⟩
    by_cases hi':i<m
    exact ⟨i,hi',rfl⟩
    exact ⟨m - 1,by omega,by rw [show i=m by omega,he]⟩
 obtain ⟨h1,h2⟩:=key zs.length (Xm _)
 refine ⟨h1,fun y=>?_⟩
 show y∈Lib.compactUpTo zs.toArray zs.length↔_
 rw [h2]
 constructor
 rintro ⟨i,hi,rfl⟩
 simp [getElem!_pos,hi]
 intro h
 obtain ⟨i,hi,rfl⟩:=Xo h
 exact ⟨i,hi,by simp [getElem!_pos,hi]⟩
theorem Zdp:∀ {a b:List Int},a.Pairwise (· < ·)→b.Pairwise (· < ·)→(∀ y,y∈a↔y∈b)→a=b
 | [],[],_,_,_=>rfl
 | [],y :: b,_,_,h=>absurd ((h y).2 (by simp)) (by simp)
 | x :: a,[],_,_,h=>absurd ((h x).1 (by simp)) (by simp)
 | x :: a, y :: b, ha, hb, h => by
   rw [List.pairwise_cons] at ha hb
   have hxy:x=y:=by
    have h1:=(h x).1 (by simp)
    have h2:=(h y).2 (by simp)
    rcases Xf.1 h1 with e|h1
    exact e
    rcases Xf.1 h2 with e|h2
    exact e.symm
    have:=hb.1 x h1
    have:=ha.1 y h2
    omega
   subst hxy
   congr 1
   refine Zdp ha.2 hb.2 fun z=>?_
   constructor
   intro hz
   rcases Xf.1 ((h z).1 (XA _ hz)) with e|h1
   have:=ha.1 z hz;omega
   exact h1
   intro hz
   rcases Xf.1 ((h z).2 (XA _ hz)) with e|h1
   have:=hb.1 z hz;omega
   exact h1
def Z3R (zs:List Int):List Int:=Lib.compact (zs.mergeSort fun x y=>decide (x≤y))
theorem Z3s (zs:List Int):(Z3R zs).Pairwise (· < ·)∧∀ y,y∈Z3R zs↔y∈zs:=by
 have hp:(zs.mergeSort fun x y=>decide (x≤y)).Pairwise (·≤·):=by
  have:=List.pairwise_mergeSort (le:=fun (x y:Int)=>decide (x≤y)) (fun a b c h1 h2=>by simp at *;omega) (fun a b=>by simp;omega) zs
  exact this.imp (fun h=>by simpa using h)
 obtain ⟨h1,h2⟩:=Z7u hp
 exact ⟨h1,fun y=>by unfold Z3R;rw [h2];exact (List.mergeSort_perm zs _).mem_iff⟩
theorem Z8x {g q:Nat} {cur:Array Value} (os:Array Obj) (h:w.heap[g]?=some (.cells cur T (0,0))) (hl:ys.length≤cur.size) :
 Stp [g] w (Go.Sort.grow (Go.Sort.putRow (Value.int .i64) (Go.Sort.ahead w q) g 0 ys.toArray) os)∧
 ∃ cur',(Go.Sort.grow (Go.Sort.putRow (Value.int .i64) (Go.Sort.ahead w q) g 0 ys.toArray) os).heap[g]?=some (.cells cur' T (0,0))∧cur'.size=cur.size∧cur'.toList.take ys.length=ys.map (Value.int .i64):=by
 have hlt:g<w.heap.size:=(Array.getElem?_eq_some_iff.1 h).1
 have hh:(Go.Sort.grow (Go.Sort.putRow (Value.int .i64) (Go.Sort.ahead w q) g 0 ys.toArray) os).heap=w.heap.modify g (Go.Sort.onCells (Go.Sort.putCells (Value.int .i64) 0 ys.toArray))++os:=rfl
 refine ⟨⟨rfl,rfl,rfl,by rw [hh];simp,fun b hb hn=>?_⟩,Go.Sort.putCells (Value.int .i64) 0 ys.toArray cur,?_,by simp [Go.Sort.putCells],?_⟩
 rw [hh,Array.getElem?_append_left (by simpa using hb),Array.getElem?_modify,if_neg (by simp at hn;exact fun e=>hn e.symm)]
 rw [hh,Array.getElem?_append_left (by simpa using hlt),Array.getElem?_modify,if_pos rfl,h]
 rfl
 apply YaL
 simp [Go.Sort.putCells];omega
 intro i h1 h2
 have hi:i<ys.length:=by simpa using h2
 simp [Go.Sort.putCells,hi]
theorem Z6D {g:Nat} {cur:Array Value} (h:w.heap[g]?=some (.cells cur T (0,0))) (ht:cur.toList.take zs.length=zs.map (Value.int .i64)):Go.Sort.Holds (Value.int .i64) w g 0 zs.toArray:=by
 intro j hj
 have hj':j<zs.length:=by simpa using hj
 have hc:cur[j]?=some (.int .i64 zs[j]):=by
  have h1:(cur.toList.take zs.length)[j]?=some (.int .i64 zs[j]):=by rw [ht];simp [hj']
  rw [List.getElem?_take,if_pos hj'] at h1
  simpa using h1
 constructor
 simp [World.cell?,h,hc,hj']
 simp [World.frozen?,h]
end Go.Eng
namespace Go.Proofs.YtjdjdoefppebkaaGreatDoor
open Go Go.Eng Go.RowKit
theorem Z8y {X:List Nat} {base T:Nat} {v:Value} {zs:List Int} (w:World) (h:Row X w base T v zs) (hsz:zs.length<4611686018427387904) :
 CC 82 #[v] w fun r w'=>r=.tuple #[]∧Row X w' base T v (zs.mergeSort fun x y=>decide (x≤y))∧Stp (ob v) w w':=by
 rcases h.toI with ⟨rfl,rfl⟩|⟨g,cap,cur,rfl,hb,hg,hnc,hcm,hcs,ht⟩
 refine (Tryz.slices_Sort_int_none none 0 w).mono ?_
 rintro _ _ ⟨rfl,rfl⟩
 exact .mk ⟨rfl,by simpa using Row.nil,Stp.refl _ _⟩
 have hlt:g<w.heap.size:=(Array.getElem?_eq_some_iff.1 hg).1
 refine (Tryz.slices_Sort_int g 0 cap zs w (Z6D hg ht) hlt hsz).mono ?_
 rintro _ _ ⟨rfl,q,os,rfl⟩
 have hl:(zs.mergeSort fun x y=>decide (x≤y)).length=zs.length:=Yax zs
 obtain ⟨hS,cur',h1,h2,h3⟩:=Z8x (q:=q) os hg (ys:=zs.mergeSort fun x y=>decide (x≤y)) (by omega)
 refine .mk ⟨rfl,ZbA.toRow (.inr ⟨g,cap,cur',by rw [hl],hb,h1,by omega,hcm,by omega,h3⟩),hS⟩
theorem Z4V {X:List Nat} {base T:Nat} {v:Value} {zs:List Int} (w:World) (h:Row X w base T v zs) (hsz:zs.length≤9223372036854775807) :
 CC 83 #[v] w fun r w'=>Row X w' base T r (Lib.compact zs)∧Stp (ob v) w w'∧ob r=ob v:=by
 rcases h.toI with ⟨rfl,rfl⟩|⟨g,cap,cur,rfl,hb,hg,hnc,hcm,hcs,ht⟩
 refine (Tryz.slices_Compact_int_empty none 0 w).mono ?_
 rintro _ _ ⟨rfl,rfl⟩
 exact .mk ⟨by rw [show Lib.compact ([]:List Int)=[] from rfl];exact Row.nil,Stp.refl _ _,rfl⟩
 refine (Tryz.slices_Compact_int g 0 cap zs w (Z6D hg ht) hsz hnc).mono ?_
 rintro _ _ ⟨rfl,q,rfl⟩
 have hcl:(Lib.compact zs).length≤zs.length:=by
  unfold Lib.compact Lib.compactUpTo
  rw [XQ]
  exact Xi (Yaf _ _) (by simp)
 have e:∀ W:World,W=Go.Sort.grow W #[]:=fun W=>by simp [Go.Sort.grow]
 rw [e (Go.Sort.putRow _ _ _ _ _)]
 obtain ⟨hS,cur',h1,h2,h3⟩:=Z8x (q:=q) #[] hg (ys:=Lib.compact zs++List.replicate (zs.length - (Lib.compact zs).length) 0) (by simp;omega)
 refine .mk ⟨ZbA.toRow (.inr ⟨g,cap,cur',rfl,hb,h1,by omega,hcm,by omega,?_⟩),hS,rfl⟩
 have h4:=congrArg (List.take (Lib.compact zs).length) h3
 rw [Yag,X6 (by simp)] at h4
 rw [h4]
 simp
def Z4r (k:Int) (s:Str):List Int:=if (ZB s).2.2=true∧k=4 then [(ZB s).1] else []
def Z1m:Nd→List Int
 | .mk k n s l=>Z3R (Z4r k s++(l.map Z1m).flatten)
theorem Z8z (k n:Int) (s:Str) (l:List Nd):Z1m (.mk k n s l)=Z3R (Z4r k s++(l.map Z1m).flatten):=by rw [Z1m]
def Z2I (nm:Str):Nd→Bool
 | .mk k n s l=>(decide (k=4) && decide (s=nm)) || (l.map (Z2I nm)).any id
theorem Z3S (nm:Str) (k n:Int) (s:Str) (l:List Nd):Z2I nm (.mk k n s l)=((decide (k=4) && decide (s=nm)) || (l.map (Z2I nm)).any id):=by rw [Z2I]
def Z3T (x:Nd):List Int:=((List.range 7).filter (fun i=>Z2I (Z8.getD i []) x)).map (fun (i:Nat)=>(i:Int))
theorem Z1n (s:Str) (y:Int):((ZB s).2.2=true∧y=(ZB s).1)↔∃ i,i<7∧s=Z8.getD i []∧y=(i:Int):=by
 by_cases h0:s=[100,97,121]
 subst h0
 have e:ZB [100,97,121]=(0,3,true):=by decide +kernel
 have u:∀ i,i<7→[100,97,121]=Z8.getD i []→i=0:=by decide +kernel
 rw [e]
 constructor
 rintro ⟨-,rfl⟩;exact ⟨0,by decide,by decide +kernel,rfl⟩
 rintro ⟨i,hi,he,rfl⟩;rw [u i hi he];exact ⟨rfl,rfl⟩
 by_cases h1:s=[115,101,114,118,101,100]
 subst h1
 have e:ZB [115,101,114,118,101,100]=(1,3,true):=by decide +kernel
 have u:∀ i,i<7→[115,101,114,118,101,100]=Z8.getD i []→i=1:=by decide +kernel
 rw [e]
 constructor
 rintro ⟨-,rfl⟩;exact ⟨1,by decide,by decide +kernel,rfl⟩
 rintro ⟨i,hi,he,rfl⟩;rw [u i hi he];exact ⟨rfl,rfl⟩
 by_cases h2:s=[101,120,116,114,97]
 subst h2
 have e:ZB [101,120,116,114,97]=(2,1,true):=by decide +kernel
 have u:∀ i,i<7→[101,120,116,114,97]=Z8.getD i []→i=2:=by decide +kernel
 rw [e]
 constructor
 rintro ⟨-,rfl⟩;exact ⟨2,by decide,by decide +kernel,rfl⟩
 rintro ⟨i,hi,he,rfl⟩;rw [u i hi he];exact ⟨rfl,rfl⟩
 by_cases h3:s=[98,121]
 subst h3
 have e:ZB [98,121]=(3,1,true):=by decide +kernel
 have u:∀ i,i<7→[98,121]=Z8.getD i []→i=3:=by decide +kernel
 rw [e]
 constructor
 rintro ⟨-,rfl⟩;exact ⟨3,by decide,by decide +kernel,rfl⟩
 rintro ⟨i,hi,he,rfl⟩;rw [u i hi he];exact ⟨rfl,rfl⟩
 by_cases h4:s=[116,111]
 subst h4
 have e:ZB [116,111]=(4,1,true):=by decide +kernel
 have u:∀ i,i<7→[116,111]=Z8.getD i []→i=4:=by decide +kernel
 rw [e]
 constructor
 rintro ⟨-,rfl⟩;exact ⟨4,by decide,by decide +kernel,rfl⟩
 rintro ⟨i,hi,he,rfl⟩;rw [u i hi he];exact ⟨rfl,rfl⟩
 by_cases h5:s=[99,111,117,114,116]
 subst h5
 have e:ZB [99,111,117,114,116]=(5,1,true):=by decide +kernel
 have u:∀ i,i<7→[99,111,117,114,116]=Z8.getD i []→i=5:=by decide +kernel
 rw [e]
 constructor
 rintro ⟨-,rfl⟩;exact ⟨5,by decide,by decide +kernel,rfl⟩
 rintro ⟨i,hi,he,rfl⟩;rw [u i hi he];exact ⟨rfl,rfl⟩
 by_cases h6:s=[97,109,111,117,110,116]
 subst h6
 have e:ZB [97,109,111,117,110,116]=(6,1,true):=by decide +kernel
 have u:∀ i,i<7→[97,109,111,117,110,116]=Z8.getD i []→i=6:=by decide +kernel
 rw [e]
 constructor
 rintro ⟨-,rfl⟩;exact ⟨6,by decide,by decide +kernel,rfl⟩
 rintro ⟨i,hi,he,rfl⟩;rw [u i hi he];exact ⟨rfl,rfl⟩
 constructor
 rintro ⟨h,-⟩
 exfalso
 have hn:Z8.findIdx? (isS s)=none:=List.findIdx?_eq_none_iff.2 fun x hx=>by
  simp only [Z8,Xf,Xk,or_false] at hx
  rcases hx with rfl|rfl|rfl|rfl|rfl|rfl|rfl<;>simp only [isS,decide_eq_false_iff_not]<;>intro e<;>first|exact (absurd e h0)|exact (absurd e.symm h0)|exact (absurd e h1)|exact (absurd e.symm h1)|exact (absurd e h2)|exact (absurd e.symm h2)|exact (absurd e h3)|exact (absurd e.symm h3)|exact (absurd e h4)|exact (absurd e.symm h4)|exact (absurd e h5)|exact (absurd e.symm h5)|exact (absurd e h6)|exact (absurd e.symm h6)|skip
 simp [ZB,idx,hn] at h
 · rintro ⟨i,hi,he,-⟩
   exfalso
   match i,hi with
   | 0,_=>exact h0 he
   | 1,_=>exact h1 he
   | 2,_=>exact h2 he
   | 3,_=>exact h3 he
   | 4,_=>exact h4 he
   | 5,_=>exact h5 he
   | 6,_=>exact h6 he
theorem ZbB (x:Nd):(Z3T x).Pairwise (· < ·):=by
 unfold Z3T
 rw [List.pairwise_map]
 exact (List.pairwise_lt_range.filter _).imp (fun h=>by omega)
theorem Z4s (x:Nd) (y:Int):y∈Z3T x↔∃ i,i<7∧Z2I (Z8.getD i []) x=true∧y=(i:Int):=by
 unfold Z3T
 simp only [XP,YaP,Yat]
 constructor
 rintro ⟨i,⟨h1,h2⟩,rfl⟩;exact ⟨i,h1,h2,rfl⟩
 rintro ⟨i,h1,h2,rfl⟩;exact ⟨i,⟨h1,h2⟩,rfl⟩
theorem ZaO (x:Nd):Z1m x=Z3T x:=by
 induction x using Nd.ind with
 | h k n s l ih=>
 rw [Z8z]
 refine Zdp (Z3s _).1 (ZbB _) fun y=>?_
 rw [(Z3s _).2,Z4s,Xn]
 have h1:y∈Z4r k s↔k=4∧∃ i,i<7∧s=Z8.getD i []∧y=(i:Int):=by
  rw [← Z1n]
  unfold Z4r
  by_cases h:(ZB s).2.2=true∧k=4
  rw [if_pos h,Xp];exact ⟨fun e=>⟨h.2,h.1,e⟩,fun e=>e.2.2⟩
  rw [if_neg h];exact ⟨fun e=>(by cases e),fun e=>absurd ⟨e.2.1,e.1⟩ h⟩
 rw [h1]
 constructor
 rintro (⟨rfl,i,hi,he,rfl⟩|h)
 exact ⟨i,hi,by rw [Z3S,← he];simp,rfl⟩
 obtain ⟨z,hz,hy⟩:=YaJ.1 h
 obtain ⟨c,hc,rfl⟩:=XP.1 hz
 rw [ih c hc,Z4s] at hy
 obtain ⟨i,hi,hu,rfl⟩:=hy
 refine ⟨i,hi,?_,rfl⟩
 rw [Z3S,XU]
 exact .inr (XO.2 ⟨_,XP.2 ⟨c,hc,rfl⟩,hu⟩)
 rintro ⟨i,hi,hu,rfl⟩
 rw [Z3S,XU] at hu
 rcases hu with hu|hu
 simp only [Xg,decide_eq_true_eq] at hu
 exact .inl ⟨hu.1,i,hi,hu.2,rfl⟩
 obtain ⟨z,hz,hz2⟩:=XO.1 hu
 obtain ⟨c,hc,rfl⟩:=XP.1 hz
 exact .inr (YaJ.2 ⟨Z1m c,XP.2 ⟨c,hc,rfl⟩,by rw [ih c hc,Z4s];exact ⟨i,hi,hz2,rfl⟩⟩)
theorem Z6E (x:Nd):(Z1m x).length≤7:=by
 rw [ZaO,Z3T,XQ]
 exact Xi (Yaf _ _) (by simp)
theorem Zdq (k:Int) (s:Str):(Z4r k s).length≤1:=by
 unfold Z4r
 split<;>simp
theorem Zdr (l:List Nd):((l.map Z1m).flatten).length≤7 * l.length:=by
 induction l with
 | nil=>simp
 | cons a l ih=>
   have:=Z6E a
   simp only [Xl,XX,Xd,Xc]
   omega
set_option maxHeartbeats 1000000 in
theorem Zds (x:Nd):∀ (v:Value) (w:World),okN x=true→NdV [] w v x→SlV [] w Z2l Z8→
 CC 31 #[v] w fun r w'=>Row [] w' w.heap.size 3 r (Z1m x)∧Stp [] w w':=by
 induction x using Nd.ind with
 | h k n s l ih=>
 intro v w hok hx hF
 obtain ⟨hk1,hk2⟩:=(ZaL _).1 hok
 replace hk1:l.length≤1000:=hk1
 replace hk2:∀ y∈l,okN y=true:=hk2
 obtain ⟨kv,rfl,hs⟩:=hx
 replace hs:SlV [] w kv l:=hs
 have hmax:=hs.max
 have hsW:=hs
 have hol:=Zdq k s
 rw [Z8z]
 refine cW1 42 Tryz.func31 ?_
 refine W ?_
 refine Z3 (Zq rfl) rfl ?_
 rintro _ w1 ⟨b,rfl,hbb,hblk,hS⟩
 replace hblk:Blk w1 b _ (ndL k n s kv):=hblk
 replace hs:=hs.up hS
 refine W ?_
 refine CL rfl (Zr rfl) rfl (Z4o s _ (hF.up hS)) ?_
 rintro _ w2 ⟨rfl,hT⟩
 replace hblk:=hblk.up hT
 replace hs:=hs.up hT
 replace hS:=hS.trans hT
 clear hT hbb
 have hwb:=hS.size
 refine W ?_
 refine ZaI (σ:=Bool) (fun q=>[(1,.pointer (some ⟨b,0,none⟩)),(3,.slice none 0 0),(4,.int .i64 (ZB s).1),(21,.bool q)]) (fun q w'=>w'=w2∧q=decide ((ZB s).2.2=true∧k=4)) ?_ ?_
 · repeat'(first|refine W1 ?_|omega|refine VG ?_ ?_<;>intro hg|refine VC ?_ ?_<;>intro hc)
   all_goals exact ZC _ ⟨rfl,rfl,rfl,rfl,trivial⟩ ⟨rfl,by simp [*]⟩
 rintro q _ ⟨rfl,hq⟩
 try dsimp only at hq ⊢
 refine W ?_
 refine Z1E (σ:=Value) (fun u=>[(1,.pointer (some ⟨b,0,none⟩)),(3,u)]) (fun u w'=>Row [] w' w.heap.size 3 u (Z4r k s)∧Blk w' b 27 (ndL k n s kv)∧SlV [] w' kv l∧Stp [] w w') ?_ ?_
 · cases q with
   | false=>
     have hno:Z4r k s=[]:=by unfold Z4r;rw [if_neg (by simpa using hq.symm)]
     repeat'(first|refine W1 ?_|omega|refine VG ?_ ?_<;>intro hg|refine VC ?_ ?_<;>intro hc)
     exact ZC (.slice none 0 0) ⟨rfl,rfl,trivial⟩ ⟨by rw [hno];exact Row.nil,hblk,hs,hS⟩
   | true=>
     have hno:Z4r k s=[(ZB s).1]:=by unfold Z4r;rw [if_pos (by simpa using hq.symm)]
     repeat'(first|refine W1 ?_|omega|refine VG ?_ ?_<;>intro hg|refine VC ?_ ?_<;>intro hc)
     refine Z3 (Z0 (vs:=[(0,.int .i64 (ZB s).1)]) rfl (Jc _)) rfl ?_
     rintro bv w4 hN
     have hbv:SlV (ob (.slice none 0 0)++[]) w4 bv [(ZB s).1]:=hN.slv (fun b hb=>by simp [ob] at hb) rfl rfl (by simp [maxLen])
     have hS4:=Z7.stp hN
     clear hN
     replace hblk:=hblk.up hS4
     replace hs:=hs.up hS4
     replace hS:=hS.trans hS4
     have hwb4:=hS.size
     refine Z3 (ZV (X:=[]) (base:=w.heap.size) rfl (by decide) rfl rfl Row.nil hbv (by simp only [Xc,Xe];omega) (by simp only [Xc,Xe,maxLen];omega) hwb4) rfl ?_
     rintro u' w5 ⟨hrow',hS5,_⟩
     replace hS5:Stp [] w4 w5:=hS5.mono (by simp [ob])
     refine W ?_
     exact ZC u' ⟨rfl,rfl,trivial⟩ ⟨by rw [hno];exact hrow',hblk.up hS5,hs.up hS5,hS.trans hS5⟩
 clear hq q hS hblk hs hwb
 rintro u w1 ⟨hrow,hblk,hs,hS⟩
 try dsimp only at hrow hblk hs hS ⊢
 refine W ?_
 refine Zv (σ:=Nat×Value) (fun q=>[(3,q.2),(27,kv),(28,.int .i64 (l.length:Int)),(29,.int .i64 (q.1:Int))]) (fun q w'=>q.1≤l.length∧Row [] w' w.heap.size 3 q.2 (Z4r k s++((l.take q.1).map Z1m).flatten)∧Stp [] w w') (fun q=>l.length - q.1) (0,u) ⟨rfl,rfl,rfl,rfl,trivial⟩ ⟨Xu _,by simpa using hrow,hS⟩ ?_
 clear hs hblk hrow hS
 rintro ⟨j,u⟩ w2 ⟨hj,hrow,hS⟩
 dsimp only at hj hrow ⊢
 have hs:=hsW.up hS
 have hfl:=Zdr (l.take j)
 rw [Xw,X6 hj] at hfl
 by_cases hlt:j<l.length
 obtain ⟨kv2,hs2,hc2⟩:=hs.nd hlt
 have hul:=Z6E l[j]
 focus repeat'(first|refine W1 ?_|omega|refine VG ?_ ?_<;>intro hg|refine VC ?_ ?_<;>intro hc)
 apply Ze (ZM rfl rfl hs hlt hc2) rfl
 refine Z3 Z6 rfl ?_
 rintro _ w4 ⟨b8,rfl,hb8,e8,hT⟩
 refine Z1 (Z2 (us:=ndC l[j] kv2) rfl rfl rfl rfl (Zh hs2) e8 rfl) ?_
 rintro _ w5 ⟨hT2,e8'⟩
 have hT3:=hT.own hT2 (fun b hb=>.inr (by simp at hb;omega))
 clear hT hT2 e8 hb8
 replace hrow:=hrow.up hT3
 replace hS:=hS.trans hT3
 replace hs2:=hs2.up hT3
 clear hT3
 refine W ?_
 refine CL rfl (Zr rfl) rfl (ih l[j] (Xh hlt) _ _ (hk2 _ (Xh hlt)) ⟨kv2,rfl,hs2⟩ (hF.up hS)) ?_
 rintro rv w6 ⟨hr,hS6⟩
 have hrv:SlV (ob u++[]) w6 rv (Z1m l[j]):=(ZbA.toRow hr.toI).slv (fun b hb=>(hrow.ob_le b (by simpa using hb)).2)
 replace hrow:=hrow.up hS6
 replace hS:=hS.trans hS6
 have hbase:=hS.size
 clear hr hS6
 refine Z3 (ZV (X:=[]) (base:=w.heap.size) rfl (by decide) rfl rfl hrow hrv (by rw [Xd];omega) (by rw [Xd];simp only [maxLen];omega) hbase) rfl ?_
 rintro u' w7 ⟨hrow',hS7,_⟩
 refine W ?_
 refine Zp (j+1,u') ⟨rfl,rfl,rfl,rfl,trivial⟩ ⟨by dsimp only;omega,?_,hS.own hS7 (fun c hc=>.inr (hrow.ob_le c hc).1)⟩ (by dsimp only;omega)
 dsimp only
 rw [Xr hlt,Yae,List.flatten_append,← Xt]
 simpa using hrow'
 have hje:j=l.length:=by omega
 subst hje
 rw [XC] at hrow hfl
 have hll:(Z4r k s++(l.map Z1m).flatten).length≤8000:=by rw [Xd];omega
 focus repeat'(first|refine W1 ?_|omega|refine VG ?_ ?_<;>intro hg|refine VC ?_ ?_<;>intro hc)
 refine CL rfl (Zr rfl) rfl (Z8y _ hrow (by omega)) ?_
 rintro _ w7 ⟨rfl,hrow2,hS7⟩
 refine W ?_
 refine CL rfl (Zr rfl) rfl (Z4V _ hrow2 (by rw [Yax];omega)) ?_
 rintro rv w8 ⟨hrow3,hS8,hob⟩
 refine W ?_
 refine WR ?_
 exact .mk ⟨hrow3,(hS.own hS7 (fun c hc=>.inr (hrow.ob_le c hc).1)).own hS8 (fun c hc=>.inr (hrow.ob_le c hc).1)⟩
end Go.Proofs.YtjdjdoefppebkaaGreatDoor
namespace Go.Eng
open Go Go.RowKit Go.Proofs
section
variable {P:Program} {n:Nat} {e:Env} {w:World} {d:Option Nat} {ty:TypeId} {pos:String} {af:Array Edge} {g:Option (Nat×Bool)}
theorem Zfm {src dst:TypeId} {k k':IntKind} {x:Operand} {a:Int} {D:TypeDesc} [hs:Und P src D] [hd:Und P dst (.int k)] (hx:ev e x=some (.int k' a)) :
 PR P n ⟨d,.convert src dst x,ty,pos,af,g⟩ e w (.int k (k.wrap a)):=
 ⟨fun c ha => by
   have hk:P.intKind dst=k:=by simp [Program.intKind,hd.h]
   have:=run_convert_int (P:=P) w src dst k' a (by rw [hs.h];rfl) (by rw [hk];exact hd.h)
   simp [execOp,ha.ev hx,this,hk]⟩
theorem Z38 {src dst:TypeId} {k k':IntKind} {x:Operand} {a b:Int} {D:TypeDesc} [hs:Und P src D] [hd:Und P dst (.int k)] (hx:ev e x=some (.int k' a)) (hb:k.wrap a=b) :
 PR P n ⟨d,.convert src dst x,ty,pos,af,g⟩ e w (.int k b):=hb ▸ Zfm hx
section
variable {x y:Operand} {t u:TypeId} {k:IntKind} {a b:Int}
end
end
structure Fl where
 i:Nat
 d:Nat
 T:Nat
 z:Value
section rules
variable {P:Program} {n:Nat} {ops:Array Oper} {Lt:List Nat} {Q:Exit→Act→World→Prop} {F:List Fl} {rest join:List (Nat×Nat)} {e:Env} {J:World→List Nat→Prop}
variable {i d:Nat} {op:Op} {ty:TypeId} {pos:String} {af:Array Edge} {gd:Option (Nat×Bool)} {v:Value}
end rules
end Go.Eng
namespace Go.Proofs.YtjdjdoefppebkaaGreatDoor
open Go Go.Eng Go.RowKit
theorem Z1b {x y:Nd} (h:Z9 x≠0) (hy:y∈x.kids):Z9 y≠0:=by
 intro h0
 apply h
 rw [Jr]
 unfold ZX
 split
 rfl
 rw [if_pos (by rw [← h0];exact XW hy)]
def Seg (C:List Ins) (p:Nat) (c:List Ins):Prop:=∃ A B,C=A++c++B∧A.length=p
theorem Seg.left {C a b:List Ins} {p:Nat} (h:Seg C p (a++b)):Seg C p a:=by
 obtain ⟨A,B,rfl,hp⟩:=h
 exact ⟨A,b++B,by simp,hp⟩
theorem Seg.right {C a b:List Ins} {p:Nat} (h:Seg C p (a++b)):Seg C (p+a.length) b:=by
 obtain ⟨A,B,rfl,hp⟩:=h
 exact ⟨A++a,B,by simp,by simp [hp]⟩
theorem Seg.at {C r:List Ins} {x:Ins} {p:Nat} (h:Seg C p (x :: r)):C.getD p ⟨0,0⟩=x:=by
 obtain ⟨A,B,rfl,hp⟩:=h
 subst hp
 simp
def Z3U (C:List Ins):Nat→Nat→List (Option Shp)→Option (List (Option Shp))
 | _,0,st=>some st
 | p,k+1,st=>(Z1l st p (C.getD p ⟨0,0⟩)).bind (Z3U C (p+1) k)
theorem Z0S (C:List Ins) (b:Nat):∀ (a p:Nat) (st:List (Option Shp)),Z3U C p (a+b) st=(Z3U C p a st).bind (Z3U C (p+a) b)
 | 0,p,st=>by simp [Z3U]
 | a + 1, p, st => by
   rw [show a+1+b=(a+b)+1 by omega,Z3U,Z3U]
   cases h:Z1l st p (C.getD p ⟨0,0⟩) with
   | none=>rfl
   | some st'=>
     simp only [XJ]
     rw [Z0S C b a (p+1) st',show p+1+a=p+(a+1) by omega]
theorem Z2S (C:List Ins) (p:Nat) (st:List (Option Shp)):Z3U C p 1 st=Z1l st p (C.getD p ⟨0,0⟩):=by
 rw [Z3U]
 cases Z1l st p (C.getD p ⟨0,0⟩)<;>rfl
theorem Z6F (C:List Ins) (st:List (Option Shp)):∀ k:Nat,Z7t C k st=Z3U C 0 k st
 | 0=>rfl
 | k + 1 => by
   rw [Z7t,Z0S,Z6F C st k]
   cases Z3U C 0 k st with
   | none=>rfl
   | some st'=>simp only [XJ,XM];rw [Z2S]
def Z21 (C:List Ins) (p:Nat) (c:List Ins) (s s':Shp):Prop:=
 ∀ st : List (Option Shp), st.length = C.length → p + c.length < C.length → st[p]? = some (some s) → (∀ i, p < i → i < p + c.length → st[i]? = some none)→
   (st[p+c.length]?=some none∨st[p+c.length]?=some (some s'))→
   ∃ st',Z3U C p c.length st=some st'∧st'.length=C.length∧st'[p+c.length]?=some (some s')∧∀ i,p+c.length<i→st'[i]?=st[i]?
theorem Z7v {st:List (Option Shp)} {t:Nat} {sh:Shp} (h:t<st.length) (h2:st[t]?=some none∨st[t]?=some (some sh)) :
 ∃ st',Z0u st (t:Int) sh=some st'∧st'.length=st.length∧st'[t]?=some (some sh)∧∀ i,i≠t→st'[i]?=st[i]?:=by
 unfold Z0u
 rw [if_pos (by omega),Yau,List.getD_eq_getElem?_getD]
 rcases h2 with h2|h2
 rw [h2]
 exact ⟨_,rfl,by simp,by simp [h],fun i hi=>List.getElem?_set_ne (fun e=>hi e.symm)⟩
 rw [h2]
 simp only [X4,if_pos]
 exact ⟨_,rfl,rfl,h2,fun _ _=>rfl⟩
theorem Z21.app {C a b:List Ins} {p:Nat} {s s1 s2:Shp} (ha:Z21 C p a s s1) (hb:Z21 C (p+a.length) b s1 s2) (h1:a≠[]) (h2:b≠[]):Z21 C p (a++b) s s2:=by
 intro st hl hlt h0 hn hq
 have l1:=X7.2 h1
 have l2:=X7.2 h2
 simp only [Xd] at hlt hn hq ⊢
 obtain ⟨st1,r1,e1,e2,e3⟩:=ha st hl (by omega) h0 (fun i hi hi2=>hn i hi (by omega)) (.inl (hn _ (by omega) (by omega)))
 obtain ⟨st2,r2,g1,g2,g3⟩:=hb st1 e1 (by omega) e2 (fun i hi hi2=>by rw [e3 i hi];exact hn i (by omega) (by omega)) (by rw [e3 _ (by omega),XZ];exact hq)
 refine ⟨st2,by rw [Z0S,r1];exact r2,g1,by rw [← XZ];exact g2,fun i hi=>by rw [g3 i (by omega),e3 i (by omega)]⟩
theorem Z3V {C:List Ins} {p:Nat} {x:Ins} {s s':Shp} (hs:Seg C p [x]) (h1:x.op≠24) (h2:x.op≠13) (h3:x.op≠14) (hx:J5 x s=some s'):Z21 C p [x] s s':=by
 intro st hl hlt h0 hn hq
 simp only [Xc,Xe,XM] at hlt hq ⊢
 obtain ⟨st',r1,r2,r3,r4⟩:=Z7v (st:=st) (t:=p+1) (sh:=s') (by omega) hq
 refine ⟨st',?_,by omega,r3,fun i hi=>r4 i (by omega)⟩
 rw [Z2S,hs.at]
 unfold Z1l
 rw [List.getD_eq_getElem?_getD,h0]
 simp only [X4,hx]
 rw [if_neg h1,if_neg h2,if_neg h3]
 exact r1
def Z22 (b:Nat):List Ins→Shp→Option Shp
 | [],s=>some s
 | x :: r, s => match J5 x s with
   | none=>none
   | some s'=>if s'.length≤b then Z22 b r s' else none
theorem Z0B {x:Ins} {ts r s:Shp} (h:J5 x ts=some r) (hl:s.length+r.length≤16):J5 x (s++ts)=some (s++r):=by
 unfold J5 at h ⊢
 dsimp only at h ⊢
 split at h
 rename_i hc
 obtain ⟨c1,c2,c3,c4⟩:=hc
 simp only [Xj] at h
 have e1:(s++ts).length - (ZS x).1.length=s.length+(ts.length - (ZS x).1.length):=by rw [Xd];omega
 have e2:(s++ts).drop (s.length+(ts.length - (ZS x).1.length))=ts.drop (ts.length - (ZS x).1.length):=by
  rw [List.drop_append,List.drop_of_length_le (by omega),XL]
  congr 1
  omega
 have e3:(s++ts).take (s.length+(ts.length - (ZS x).1.length))=s++ts.take (ts.length - (ZS x).1.length):=by
  rw [Yac,Xx (by omega),show s.length+(ts.length - (ZS x).1.length) - s.length=ts.length - (ZS x).1.length by omega]
 rw [e1,e2,e3]
 have e4:s++ts.take (ts.length - (ZS x).1.length)++(ZS x).2.2.1=s++r:=by rw [Xt,h]
 rw [e4,if_pos ⟨c1,by rw [Xd];omega,c3,by rw [Xd];omega⟩]
 cases h
theorem Z6G {C:List Ins} (b:Nat):∀ (L:List Ins) (p:Nat) (s ts r:Shp),L≠[]→Seg C p L→(∀ x∈L,x.op≠24∧x.op≠13∧x.op≠14)→Z22 b L ts=some r→s.length+b≤16→Z21 C p L (s++ts) (s++r)
 | [],_,_,_,_,h,_,_,_,_=>absurd rfl h
 | [x], p, s, ts, r, _, hs, ho, hf, hb => by
   obtain ⟨o1,o2,o3⟩:=ho x (by simp)
   unfold Z22 at hf
   cases hx:J5 x ts with
   | none=>rw [hx] at hf;cases hf
   | some s1=>
     rw [hx] at hf
     simp only at hf
     split at hf
     rename_i hl
     simp only [Z22,Xj] at hf
     subst hf
     exact Z3V hs o1 o2 o3 (Z0B hx (by omega))
     cases hf
 | x :: y :: L, p, s, ts, r, _, hs, ho, hf, hb => by
   obtain ⟨o1,o2,o3⟩:=ho x (by simp)
   rw [Z22] at hf
   cases hx:J5 x ts with
   | none=>rw [hx] at hf;cases hf
   | some s1=>
     rw [hx] at hf
     simp only at hf
     split at hf
     rename_i hl
     have hs1:Seg C p ([x]++(y :: L)):=hs
     exact Z21.app (a:=[x]) (Z3V hs1.left o1 o2 o3 (Z0B hx (by omega))) (Z6G b (y :: L) _ s s1 r (by simp) hs1.right (fun z hz=>ho z (by simp [hz])) hf hb) (by simp) (by simp)
     cases hf
theorem Z7w {C Lc Ly Ln:List Ins} {p:Nat} {s s':Shp} (t1 t2:Int)
 (hs:Seg C p (Lc++[⟨14,t1⟩]++Ly++[⟨13,t2⟩]++Ln)) (ht1:t1=((p+Lc.length+1+Ly.length+1:Nat):Int)) (ht2:t2=((p+Lc.length+1+Ly.length+1+Ln.length:Nat):Int))
 (hc:Z21 C p Lc s (s++[2])) (hy:Z21 C (p+Lc.length+1) Ly s s') (hn:Z21 C (p+Lc.length+1+Ly.length+1) Ln s s') (h1:Lc≠[]) (h2:Ly≠[]) (h3:Ln≠[]) (hl:s.length≤16) (hl':s'.length≤16) :
 Z21 C p (Lc++[⟨14,t1⟩]++Ly++[⟨13,t2⟩]++Ln) s s':=by
 intro st hlen hlt h0 hno hq
 have l1:=X7.2 h1
 have l2:=X7.2 h2
 have l3:=X7.2 h3
 have hlen0:(Lc++[(⟨14,t1⟩:Ins)]++Ly++[(⟨13,t2⟩:Ins)]++Ln).length=Lc.length+(1+(Ly.length+(1+Ln.length))):=by simp only [Xd,Xc,Xe];omega
 rw [hlen0] at hlt hno hq ⊢
 have g14:C.getD (p+Lc.length) ⟨0,0⟩=⟨14,t1⟩:=(show Seg C (p+Lc.length) (⟨14,t1⟩ :: (Ly++[⟨13,t2⟩]++Ln)) from (show Seg C p (Lc++(⟨14,t1⟩ :: (Ly++[⟨13,t2⟩]++Ln))) by simpa using hs).right).at
 have g13:C.getD (p+Lc.length+1+Ly.length) ⟨0,0⟩=⟨13,t2⟩:=by
  have h:=(show Seg C p ((Lc++[⟨14,t1⟩]++Ly)++(⟨13,t2⟩ :: Ln)) by simpa using hs).right.at
  rw [← h]
  congr 1
  simp only [Xd,Xc,Xe]
  omega
 obtain ⟨st1,r1,e1,e2,e3⟩:=hc st hlen (by omega) h0 (fun i hi hi2=>hno i hi (by omega)) (.inl (hno _ (by omega) (by omega)))
 have n14:J5 ⟨14,t1⟩ (s++[2])=some s:=by
  have:=Z0B (x:=⟨14,t1⟩) (ts:=[2]) (r:=[]) (s:=s) (by simp [J5,ZS]) (by simpa using hl)
  simpa using this
 obtain ⟨st2,q1,q2,q3,q4⟩:=Z7v (st:=st1) (t:=p+Lc.length+1+Ly.length+1) (sh:=s) (by omega) (.inl (by rw [e3 _ (by omega)];exact hno _ (by omega) (by omega)))
 obtain ⟨st3,u1,u2,u3,u4⟩:=Z7v (st:=st2) (t:=p+Lc.length+1) (sh:=s) (by omega) (.inl (by rw [q4 _ (by omega),e3 _ (by omega)];exact hno _ (by omega) (by omega)))
 have s14:Z3U C (p+Lc.length) 1 st1=some st3:=by
  rw [Z2S,g14]
  unfold Z1l
  rw [List.getD_eq_getElem?_getD,e2]
  simp only [X4,n14]
  rw [if_neg (by simp),if_neg (by simp),if_pos trivial,if_pos (by omega),ht1,q1]
  simp only [XJ]
  rw [← u1]
  congr 1
 obtain ⟨st4,v1,v2,v3,v4⟩:=hy st3 (by omega) (by omega) u3 (fun i hi hi2=>by rw [u4 i (by omega),q4 i (by omega),e3 i (by omega)];exact hno i (by omega) (by omega)) (.inl (by rw [u4 _ (by omega),q4 _ (by omega),e3 _ (by omega)];exact hno _ (by omega) (by omega)))
 have n13:J5 ⟨13,t2⟩ s'=some s':=by
  simp [J5,ZS,hl']
 have hq4:st4[p+Lc.length+1+Ly.length+1+Ln.length]?=st[p+(Lc.length+(1+(Ly.length+(1+Ln.length))))]?:=by
  rw [v4 _ (by omega),u4 _ (by omega),q4 _ (by omega),e3 _ (by omega)]
  congr 1
  omega
 obtain ⟨st5,w1,w2,w3,w4⟩:=Z7v (st:=st4) (t:=p+Lc.length+1+Ly.length+1+Ln.length) (sh:=s') (by omega) (by rw [hq4];exact hq)
 have s13:Z3U C (p+Lc.length+1+Ly.length) 1 st4=some st5:=by
  rw [Z2S,g13]
  unfold Z1l
  rw [List.getD_eq_getElem?_getD,v3]
  simp only [X4,n13]
  rw [if_neg (by simp),if_pos trivial,if_pos (by omega),ht2,w1]
 obtain ⟨st6,x1,x2,x3,x4⟩:=hn st5 (by omega) (by omega) (by rw [w4 _ (by omega),v4 _ (by omega),u4 _ (by omega)];exact q3) (fun i hi hi2=>by rw [w4 i (by omega),v4 i (by omega),u4 i (by omega),q4 i (by omega),e3 i (by omega)];exact hno i (by omega) (by omega)) (.inr w3)
 refine ⟨st6,?_,x2,?_,fun i hi=>by rw [x4 i (by omega),w4 i (by omega),v4 i (by omega),u4 i (by omega),q4 i (by omega),e3 i (by omega)]⟩
 rw [Z0S,r1,XJ,Z0S,s14,XJ,Z0S,v1,XJ,Z0S,s13,XJ]
 exact x1
 rw [← x3]
 congr 1
 omega
theorem Zfn {x:Sig} (h:Z2Q x≠0):(x,Value.int .i64 (Z2Q x))∈Z2K:=by
 have hs:=Z8m x
 unfold Z2Q Zbs Z2k at *
 cases hf:Z2K.find? (fun p=>decide (p.1=x)) with
 | none=>rw [hf] at h;simp at h
 | some p=>
   have h1:=List.mem_of_find?_eq_some hf
   have h2:=List.find?_some hf
   simp only [decide_eq_true_eq] at h2
   rw [hf] at hs
   simp only at hs ⊢
   rw [← hs,← h2]
   exact h1
theorem Z4t {x:Sig} (h:Z2Q x≠0):∃ e∈Z2K,x=e.1∧e.2=.int .i64 (Z2Q x):=⟨_,Zfn h,rfl,rfl⟩
theorem Z8A {ts:List Int} (h0:(0:Int)∉ts) (h3:ts.length≤3) (hn:ts≠[]) (h2:ts.getD 2 0=0):(ts.getD 1 0=0∧ts=[ts.getD 0 0])∨(ts.getD 1 0≠0∧ts=[ts.getD 0 0,ts.getD 1 0]):=by
 match ts,h3 with
 | [],_=>exact absurd rfl hn
 | [a],_=>left;exact ⟨rfl,rfl⟩
 | [a,b],_=>right;refine ⟨fun hb=>h0 ?_,rfl⟩;simp at hb;simp [hb]
 | [a,b,c],_=>exact absurd (by simp at h2;simp [h2]) h0
theorem Z2T {k n:Int} {s:Str} {ts:List Int} (h:ZX k n s ts≠0) :
 (ts=[]∧ZX k n s ts=Z05 k n s)∨
 ((0:Int)∉ts∧ts.length≤3∧ts≠[]∧((k=9∧ts=[2,ZX k n s ts,ZX k n s ts])∨(k=6∧ts.getD 2 0=0∧ZX k n s ts=Z0P s (ts.getD 0 0) (ts.getD 1 0))∨(ZX k n s ts=Z2Q ⟨k,s,ts.getD 0 0,ts.getD 1 0,ts.getD 2 0⟩))):=by
 unfold ZX at h ⊢
 split at h
 exact absurd rfl h
 rename_i h3
 split at h
 exact absurd rfl h
 rename_i h0
 rw [if_neg h3,if_neg h0]
 split at h
 rename_i he
 left
 exact ⟨he,by rw [if_pos he]⟩
 rename_i he
 right
 rw [if_neg he]
 refine ⟨h0,by omega,he,?_⟩
 split at h
 exact absurd rfl h
 rename_i hn
 rw [if_neg hn]
 split at h
 · rename_i h9
   left
   rw [if_pos h9]
   refine ⟨h9.1,?_⟩
   obtain ⟨_,_,e2,e3⟩:=h9
   match ts,h3 with
   | [],_=>exact absurd rfl he
   | [a],_=>simp at e2 e3 h
   | [a,b],_=>simp at e2 e3 h;exact absurd e3 h
   | [a,b,c],_=>simp at e2 e3 ⊢;exact ⟨e2,e3.symm⟩
   | a :: b :: c :: d :: r,h3=>simp at h3
 rename_i h9
 rw [if_neg h9]
 split at h
 rename_i h6
 right;left
 rw [if_pos h6]
 exact ⟨h6.1,h6.2,rfl⟩
 rename_i h6
 right;right
 rw [if_neg h6]
theorem Z5g {α:Type} {l:List α} (h:l.length=2):∃ a b,l=[a,b]:=by
 match l,h with
 | [a,b],_=>exact ⟨a,b,rfl⟩
theorem Z7x {α:Type} {l:List α} (h:l.length=3):∃ a b c,l=[a,b,c]:=by
 match l,h with
 | [a,b,c],_=>exact ⟨a,b,c,rfl⟩
theorem Z8B (x:Nd):Z9 x≠0→∀ p,Zj x p≠[]:=by
 induction x using Nd.ind with
 | h k n s l ih=>
 intro ht p
 have hk:∀ y∈l,Z9 y≠0:=fun y hy=>Z1b (x:=.mk k n s l) ht hy
 rw [Zj]
 unfold Z0a
 have hp:∀ p,l≠[]→Z07 k s (l.map Zj) p≠[]:=by
  intro p hl
  unfold Z07
  cases l with
  | nil=>exact absurd rfl hl
  | cons y r=>
    have:=ih y (by simp) (hk y (by simp)) p
    simp only [Xl,Jh]
    intro h
    simp only [Yav] at h
    exact this h.1.1.1
 split
 simp
 rename_i hl
 have hl':l≠[]:=fun h=>hl (by rw [h];rfl)
 split
 unfold chC;simp
 split
 unfold chC;simp
 split
 unfold chC;simp
 split
 simp
 exact hp p hl'
theorem Z8C {C:List Ins}:∀ (l:List Nd),(∀ y∈l,∀ p s,Seg C p (Zj y p)→s.length+Zn y≤16→Z21 C p (Zj y p) s (s++[Z9 y]))→(∀ y∈l,∀ p,Zj y p≠[])→
 ∀ p s,l≠[]→Seg C p (Jh (l.map Zj) p)→(∀ y∈l,s.length+(l.length - 1)+Zn y≤16)→Z21 C p (Jh (l.map Zj) p) s (s++l.map Z9)
 | [],_,_,_,_,h,_,_=>absurd rfl h
 | [y], hr, hne, p, s, _, hs, hb => by
   have e:Jh ([y].map Zj) p=Zj y p:=by simp [Jh]
   rw [e] at hs ⊢
   exact hr y (by simp) p s hs (by have:=hb y (by simp);simpa using this)
 | y :: z :: l, hr, hne, p, s, _, hs, hb => by
   have e:Jh ((y :: z :: l).map Zj) p=Zj y p++Jh ((z :: l).map Zj) (p+(Zj y p).length):=by simp [Jh]
   rw [e] at hs ⊢
   have h1:=hr y (by simp) p s hs.left (by have:=hb y (by simp);omega)
   have h2:=Z8C (z :: l) (fun y hy=>hr y (by simp [hy])) (fun y hy=>hne y (by simp [hy])) (p+(Zj y p).length) (s++[Z9 y]) (by simp) hs.right (fun w hw=>by
    have:=hb w (by simp [hw])
    simp only [Xd,Xc,Xe] at this ⊢
    omega)
   have h3:Jh ((z :: l).map Zj) (p+(Zj y p).length)≠[]:=by
    simp only [Xl,Jh]
    intro h
    simp only [Yav] at h
    exact hne z (by simp) _ h.1
   have:=Z21.app h1 h2 (hne y (by simp) p) h3
   simpa using this
theorem Z1o {C:List Ins} {l:List Nd} {L:List Ins} {p:Nat} {s ts r:Shp} (hr:∀ y∈l,∀ p s,Seg C p (Zj y p)→s.length+Zn y≤16→Z21 C p (Zj y p) s (s++[Z9 y])) (hne:∀ y∈l,∀ p,Zj y p≠[])
 (hts:l.map Z9=ts) (hl:l≠[]) (hL:L≠[]) (hs:Seg C p (Jh (l.map Zj) p++L)) (hb:∀ y∈l,s.length+(l.length - 1)+Zn y≤16) (ho:∀ x∈L,x.op≠24∧x.op≠13∧x.op≠14) (hf:Z22 2 L ts=some r) (h2:s.length+2≤16) :
 Z21 C p (Jh (l.map Zj) p++L) s (s++r):=by
 have h1:=Z8C l hr hne p s hl hs.left hb
 rw [hts] at h1
 have h3:Jh (l.map Zj) p≠[]:=by
  cases l with
  | nil=>exact absurd rfl hl
  | cons y l=>
    simp only [Xl,Jh]
    intro h
    simp only [Yav] at h
    exact hne y (by simp) _ h.1
 exact Z21.app h1 (Z6G 2 L _ s ts r hL hs.right ho hf h2) h3 hL
def Z2o (k:Int) (s:Str):List Ins:=(if k=8∨k=5∧s=[45] then [⟨8,0⟩] else [])++Z5A (opF s)
theorem Z0C (k:Int) (s:Str) (cs:List Cf) (p:Nat):Z07 k s cs p=Jh cs p++Z2o k s:=by unfold Z07 Z2o;rw [Xt]
def okL (L:List Ins) (ts:List Int) (t:Int):Bool:=decide (L≠[]) && L.all (fun x=>decide (x.op≠24∧x.op≠13∧x.op≠14)) && decide (Z22 2 L ts=some [t])
theorem Z23 {L:List Ins} {ts:List Int} {t:Int} (h:okL L ts t=true):L≠[]∧(∀ x∈L,x.op≠24∧x.op≠13∧x.op≠14)∧Z22 2 L ts=some [t]:=by
 unfold okL at h
 simp only [Xg,decide_eq_true_eq,Xv] at h
 exact ⟨h.1.1,h.1.2,h.2⟩
def Zdt (e:Zd8):Bool:=
 match e.2 with
 | .int .i64 t=>decide (e.1.kind≠9) && decide (e.1.kind≠6) && decide (e.1.c=0) && okL (Z2o e.1.kind e.1.s) (if e.1.b=0 then [e.1.a] else [e.1.a,e.1.b]) t
 | _=>false
theorem ZaP:Z2K.all Zdt=true:=by decide +kernel
theorem Zdu:JO.all (fun s=>okL (Z2o 6 s++(if s=[45] then [⟨6,0⟩] else [])) [1,1] 1 && !decide (s=[97,110,100]) && !decide (s=[111,114]))=true:=by decide +kernel
theorem Zfo:Z1P.all (fun s=>okL (Z2o 6 s) [1,1] 2 && okL (Z2o 6 s) [3,3] 2 && !decide (s=[97,110,100]) && !decide (s=[111,114]) && !decide (s=[45]))=true:=by decide +kernel
theorem ZbC (C:List Ins) (x:Nd):Z9 x≠0→∀ p s,Seg C p (Zj x p)→s.length+Zn x≤16→Z21 C p (Zj x p) s (s++[Z9 x]):=by
 induction x using Nd.ind with
 | h k n s l ih=>
 intro ht p sh hs hb
 have hk:∀ y∈l,Z9 y≠0:=fun y hy=>Z1b (x:=.mk k n s l) ht hy
 have hr:∀ y∈l,∀ p s,Seg C p (Zj y p)→s.length+Zn y≤16→Z21 C p (Zj y p) s (s++[Z9 y]):=fun y hy=>ih y hy (hk y hy)
 have hne:∀ y∈l,∀ p,Zj y p≠[]:=fun y hy=>Z8B y (hk y hy)
 have hnest:∀ y∈l,Zn y+1≤Zn (.mk k n s l):=fun y hy=>by have:=Z0s (x:=.mk k n s l) hy;omega
 have hrange:=Z1G (.mk k n s l)
 have hteq:Z9 (.mk k n s l)=ZX k n s (l.map Z9):=Jr _
 rw [Zj] at hs ⊢
 rw [hteq] at ht hrange ⊢
 rcases Z2T ht with ⟨he,hc⟩|⟨h0,h3,hn0,hc⟩
 ·
   have hl:l=[]:=by simpa using he
   subst hl
   unfold Z0a at hs ⊢
   rw [if_pos (show (List.map Zj ([]:List Nd)).length=0 from rfl)] at hs ⊢
   rw [hc] at ht ⊢
   have hlen:sh.length+1≤16:=by
    have:1≤Zn (.mk k n s []):=by rw [JJ];omega
    omega
   refine Z3V hs ?_ ?_ ?_ ?_
   unfold Z1j;split<;>(try split)<;>(try split)<;>simp
   unfold Z1j;split<;>(try split)<;>(try split)<;>simp
   unfold Z1j;split<;>(try split)<;>(try split)<;>simp
   have hnx:J5 (Z1j k n s) []=some [Z05 k n s]:=by
    unfold Z05 at ht ⊢
    unfold Z1j
    by_cases k4:k=4
    subst k4
    rw [if_pos rfl] at ht ⊢
    split at ht
    · rename_i hn
      rw [if_pos hn]
      have hf:((ZB s).2.1=3∧((ZB s).1=0∨(ZB s).1=1))∨((ZB s).2.1=1∧2≤(ZB s).1∧(ZB s).1<7):=by
       have h1:(ZB s).2.2=true:=by
        cases hb:(ZB s).2.2 with
        | true=>rfl
        | false=>exact absurd (Z4p hb) ht
       obtain ⟨i,hi,hsn,_⟩:=(Z1n s (ZB s).1).1 ⟨h1,rfl⟩
       subst hsn
       match i,hi with
       | 0,_=>decide +kernel
       | 1,_=>decide +kernel
       | 2,_=>decide +kernel
       | 3,_=>decide +kernel
       | 4,_=>decide +kernel
       | 5,_=>decide +kernel
       | 6,_=>decide +kernel
      rw [if_neg (by decide),if_neg (by decide),if_neg (by decide)]
      rcases hf with ⟨e1,e2⟩|⟨e1,e2,e3⟩
      simp [J5,ZS,e1,e2];omega
      simp [J5,ZS,e1];omega
    exact absurd rfl ht
    rw [if_neg k4] at ht ⊢
    split at ht
    exact absurd rfl ht
    rename_i hs0
    rw [if_neg hs0]
    by_cases k1:k=1
    rw [if_pos k1] at ht ⊢
    rw [if_pos k1]
    split at ht
    rename_i h;rw [if_pos h];simp [J5,ZS];omega
    exact absurd rfl ht
    rw [if_neg k1] at ht ⊢
    rw [if_neg k1]
    by_cases k2:k=2
    rw [if_pos k2] at ht ⊢
    rw [if_pos k2]
    split at ht
    rename_i h;rw [if_pos h];simp [J5,ZS];omega
    exact absurd rfl ht
    rw [if_neg k2] at ht ⊢
    rw [if_neg k2]
    by_cases k3:k=3
    rw [if_pos k3] at ht ⊢
    rw [if_pos k3]
    split at ht
    rename_i h;rw [if_pos h];simp [J5,ZS];omega
    exact absurd rfl ht
    rw [if_neg k3] at ht;exact absurd rfl ht
   have:=Z0B (s:=sh) hnx (by simpa using hlen)
   simpa using this
 · have hl:l≠[]:=fun h=>hn0 (by rw [h];rfl)
   have hlen:l.length≤3:=by simpa using h3
   have hlen0:¬ (l.map Zj).length=0:=by simpa using hl
   unfold Z0a at hs ⊢
   rw [if_neg hlen0] at hs ⊢
   rcases hc with ⟨h9,hts⟩|⟨h6,hg2,hbt⟩|hsg
   ·
     rw [if_pos h9] at hs ⊢
     generalize ZX k n s (l.map Z9)=t at *
     have hl3:l.length=3:=by have:=congrArg List.length hts;simpa using this
     obtain ⟨a,b,c,rfl⟩:=Z7x hl3
     simp only [Xl,Xs,Yao,and_true] at hts
     obtain ⟨ta,tb,tc⟩:=hts
     simp only [Xl,Xs,Xq,Xy] at hs ⊢
     unfold chC at hs ⊢
     have na:=hnest a (by simp)
     have nb:=hnest b (by simp)
     have nc:=hnest c (by simp)
     refine Z7w _ _ hs rfl rfl ?_ ?_ ?_ (hne a (by simp) _) (hne b (by simp) _) (hne c (by simp) _) (by omega) (by simp only [Xd,Xc,Xe];omega)
     rw [← ta]
     exact hr a (by simp) p sh (by have:=hs.left.left.left.left;exact this) (by omega)
     rw [← tb]
     have h2:=hs.left.left.right
     simp only [Xd,Xc,Xe] at h2
     exact hr b (by simp) _ sh h2 (by omega)
     rw [← tc]
     have h2:=hs.right
     simp only [Xd,Xc,Xe] at h2
     have e:p+((Zj a p).length+(0+1)+(Zj b (p+(Zj a p).length+1)).length+(0+1))=p+(Zj a p).length+1+(Zj b (p+(Zj a p).length+1)).length+1:=by omega
     rw [e] at h2
     exact hr c (by simp) _ sh h2 (by omega)
   ·
     subst h6
     rw [if_neg (by decide)] at hs ⊢
     rcases Z8A h0 h3 hn0 hg2 with ⟨hb0,hts⟩|⟨hb0,hts⟩
     exfalso
     apply ht
     rw [hbt,hb0]
     have ha0:(l.map Z9).getD 0 0≠0:=fun h=>h0 (by rw [hts,h];simp)
     unfold Z0P
     split
     rw [if_neg (by omega)]
     split
     rw [if_neg (by omega)]
     split
     rw [if_neg (by omega)]
     rfl
     have hl2:l.length=2:=by have:=congrArg List.length hts;simpa using this
     obtain ⟨a,b,rfl⟩:=Z5g hl2
     simp only [Xl,Xs,Xq,Xy] at hbt
     have na:=hnest a (by simp)
     have nb:=hnest b (by simp)
     have ra:=Z1G a
     have hbnd:∀ y∈[a,b],sh.length+([a,b].length - 1)+Zn y≤16:=fun y hy=>by
      have:=hnest y hy
      simp only [Xc,Xe]
      omega
     have h2:sh.length+2≤16:=by
      have:1≤Zn a:=by rw [JJ];omega
      omega
     by_cases hA:s∈JO
     have hok:=Xv.1 Zdu s hA
     simp only [Xg,Bool.not_eq_true',decide_eq_false_iff_not] at hok
     obtain ⟨⟨hok,hand⟩,hor⟩:=hok
     obtain ⟨o1,o2,o3⟩:=Z23 hok
     have hab:Z9 a=Z9 b∧Z9 a=1:=by
      unfold Z0P at hbt
      rw [if_pos hA] at hbt
      split at hbt
      assumption
      exact absurd hbt ht
     have ht1:ZX 6 n s ([a,b].map Z9)=1:=by
      show ZX 6 n s [Z9 a,Z9 b]=1
      rw [hbt];unfold Z0P;rw [if_pos hA,if_pos hab]
     rw [ht1]
     rw [if_neg (by intro h;exact hand h.2),if_neg (by intro h;exact hor h.2)] at hs ⊢
     split at hs
     rename_i hm
     rw [if_pos hm]
     rw [Z0C,Xt] at hs ⊢
     rw [if_pos hm.2] at o1 o2 o3
     exact Z1o hr hne (ts:=[1,1]) (by simp [hab.2,← hab.1]) (by simp) o1 hs hbnd o2 o3 h2
     rename_i hm
     rw [if_neg hm]
     have hm':¬ s=[45]:=fun h=>hm ⟨rfl,h⟩
     rw [if_neg hm',XK] at o1 o2 o3
     rw [Z0C] at hs ⊢
     exact Z1o hr hne (ts:=[1,1]) (by simp [hab.2,← hab.1]) (by simp) o1 hs hbnd o2 o3 h2
     by_cases hC:s∈Z1P
     have hok:=Xv.1 Zfo s hC
     simp only [Xg,Bool.not_eq_true',decide_eq_false_iff_not] at hok
     obtain ⟨⟨⟨⟨hok1,hok3⟩,hand⟩,hor⟩,hmi⟩:=hok
     have hab:Z9 a=Z9 b∧¬ Z9 a=2:=by
      unfold Z0P at hbt
      rw [if_neg hA,if_pos hC] at hbt
      split at hbt
      assumption
      exact absurd hbt ht
     have ht2:ZX 6 n s ([a,b].map Z9)=2:=by
      show ZX 6 n s [Z9 a,Z9 b]=2
      rw [hbt];unfold Z0P;rw [if_neg hA,if_pos hC,if_pos hab]
     rw [ht2]
     rw [if_neg (by intro h;exact hand h.2),if_neg (by intro h;exact hor h.2),if_neg (by intro h;exact hmi h.2),Z0C] at hs ⊢
     have ka:=hk a (by simp)
     have h13:Z9 a=1∨Z9 a=3:=by omega
     rcases h13 with h|h
     obtain ⟨o1,o2,o3⟩:=Z23 hok1
     exact Z1o hr hne (ts:=[1,1]) (by simp [h,← hab.1]) (by simp) o1 hs hbnd o2 o3 h2
     obtain ⟨o1,o2,o3⟩:=Z23 hok3
     exact Z1o hr hne (ts:=[3,3]) (by simp [h,← hab.1]) (by simp) o1 hs hbnd o2 o3 h2
     have hL:s∈JP:=by
      by_cases hL:s∈JP
      exact hL
      exfalso;apply ht;show ZX 6 n s [Z9 a,Z9 b]=0;rw [hbt];unfold Z0P;rw [if_neg hA,if_neg hC,if_neg hL]
     have hab:Z9 a=Z9 b∧Z9 a=2:=by
      unfold Z0P at hbt
      rw [if_neg hA,if_neg hC,if_pos hL] at hbt
      split at hbt
      assumption
      exact absurd hbt ht
     have ht2:ZX 6 n s ([a,b].map Z9)=2:=by
      show ZX 6 n s [Z9 a,Z9 b]=2
      rw [hbt];unfold Z0P;rw [if_neg hA,if_neg hC,if_pos hL,if_pos hab]
     rw [ht2]
     have hconst:∀ (z:Int) (q:Nat),(z=0∨z=1)→Seg C q [⟨2,z⟩]→Z21 C q [⟨2,z⟩] sh (sh++[2]):=fun z q hz hsq=>by
      have hnx:J5 ⟨2,z⟩ []=some [2]:=by simp [J5,ZS,hz]
      have:=Z0B (s:=sh) hnx (by simp only [Xc,Xe];omega)
      rw [XK] at this
      exact Z3V hsq (by simp) (by simp) (by simp) this
     simp only [JP,Xf,Xk,or_false] at hL
     rcases hL with hL|hL
     rw [if_pos ⟨rfl,hL⟩] at hs ⊢
     simp only [Xl,Xs,Xq,Xy] at hs ⊢
     unfold chC at hs ⊢
     refine Z7w _ _ hs rfl rfl ?_ ?_ ?_ (hne a (by simp) _) (hne b (by simp) _) (by simp) (by omega) (by simp only [Xd,Xc,Xe];omega)
     have h1:=hr a (by simp) p sh hs.left.left.left.left (by omega)
     rw [hab.2] at h1
     exact h1
     have h2:=hs.left.left.right
     simp only [Xd,Xc,Xe] at h2
     have h1:=hr b (by simp) _ sh h2 (by omega)
     rw [← hab.1,hab.2] at h1
     exact h1
     have h2:=hs.right
     simp only [Xd,Xc,Xe] at h2
     have e:p+((Zj a p).length+(0+1)+(Zj b (p+(Zj a p).length+1)).length+(0+1))=p+(Zj a p).length+1+(Zj b (p+(Zj a p).length+1)).length+1:=by omega
     rw [e] at h2
     exact hconst 0 _ (.inl rfl) h2
     have hna:¬ ((6:Int)=6∧s=[97,110,100]):=by rintro ⟨_,h⟩;rw [hL] at h;exact absurd h (by decide)
     rw [if_neg hna,if_pos ⟨rfl,hL⟩] at hs ⊢
     simp only [Xl,Xs,Xq,Xy] at hs ⊢
     unfold chC at hs ⊢
     refine Z7w _ _ hs rfl rfl ?_ ?_ ?_ (hne a (by simp) _) (by simp) (hne b (by simp) _) (by omega) (by simp only [Xd,Xc,Xe];omega)
     have h1:=hr a (by simp) p sh hs.left.left.left.left (by omega)
     rw [hab.2] at h1
     exact h1
     have h2:=hs.left.left.right
     simp only [Xd,Xc,Xe] at h2
     exact hconst 1 _ (.inr rfl) h2
     have h2:=hs.right
     simp only [Xd,Xc,Xe] at h2
     have e:p+((Zj a p).length+(0+1)+(0+1)+(0+1))=p+(Zj a p).length+1+(0+1)+1:=by omega
     rw [e] at h2
     have h1:=hr b (by simp) _ sh h2 (by omega)
     rw [← hab.1,hab.2] at h1
     exact h1
   ·
     obtain ⟨e,he,hxe,hev⟩:=Z4t (by rw [← hsg];exact ht)
     have hok:=Xv.1 ZaP e he
     unfold Zdt at hok
     rw [hev] at hok
     simp only [Xg,decide_eq_true_eq] at hok
     obtain ⟨⟨⟨k9,k6⟩,hc0⟩,hokl⟩:=hok
     rw [← hxe] at k9 k6 hc0 hokl
     simp only at k9 k6 hc0 hokl
     obtain ⟨o1,o2,o3⟩:=Z23 hokl
     rw [if_neg k9,if_neg (by intro h;exact k6 h.1),if_neg (by intro h;exact k6 h.1),if_neg (by intro h;exact k6 h.1),Z0C] at hs ⊢
     rw [hsg]
     have hts:l.map Z9=(if (l.map Z9).getD 1 0=0 then [(l.map Z9).getD 0 0] else [(l.map Z9).getD 0 0,(l.map Z9).getD 1 0]):=by
      rcases Z8A h0 h3 hn0 hc0 with ⟨h1,h2⟩|⟨h1,h2⟩
      rw [if_pos h1];exact h2
      rw [if_neg h1];exact h2
     have hl2:l.length≤2:=by
      have:=congrArg List.length hts
      rw [XQ] at this
      split at this<;>simp only [Xc,Xe] at this<;>omega
     have h2:sh.length+2≤16:=by
      cases l with
      | nil=>exact absurd rfl hl
      | cons y r=>
        have:=hnest y (by simp)
        have:1≤Zn y:=by rw [JJ];omega
        omega
     exact Z1o hr hne hts hl o1 hs (fun y hy=>by have:=hnest y hy;omega) o2 o3 h2
theorem ZbD (y:Nd) (ht:Z9 y≠0) (hn:Zn y≤12) (hl:(J4 y).length≤200):Z57 (J4 y)=(Z9 y,0):=by
 have hne:=Z8B y ht 0
 have hpos:=X7.2 hne
 unfold J4 at hl ⊢
 have hlen:(Zj y 0++[(⟨24,0⟩:Ins)]).length=(Zj y 0).length+1:=by simp
 have hr:=ZbC (Zj y 0++[⟨24,0⟩]) y ht 0 [] ⟨[],[⟨24,0⟩],by simp,rfl⟩ (by simp only [Xe];omega)
 obtain ⟨st,r1,r2,r3,_⟩:=hr ((some []) :: List.replicate ((Zj y 0++[(⟨24,0⟩:Ins)]).length - 1) none) (by simp) (by rw [hlen];omega) (by simp) (fun i hi hi2=>by
  cases i with
  | zero=>omega
  | succ i=>
    rw [List.getElem?_cons_succ,List.getElem?_replicate,if_pos (by rw [hlen];omega)]) (.inl (by
  rw [XM]
  obtain ⟨m,hm⟩:∃ m,(Zj y 0).length=m+1:=⟨(Zj y 0).length - 1,by omega⟩
  rw [hm,List.getElem?_cons_succ,List.getElem?_replicate,if_pos (by rw [hlen];omega)]))
 rw [XM] at r3
 rw [XL] at r3
 unfold Z57
 rw [if_neg (by rw [hlen] at hl ⊢;omega)]
 have hrun:Z7t (Zj y 0++[⟨24,0⟩]) (Zj y 0++[(⟨24,0⟩:Ins)]).length ((some []) :: List.replicate ((Zj y 0++[(⟨24,0⟩:Ins)]).length - 1) none)=some st:=by
  rw [Z6F]
  conv=>lhs;arg 3;rw [hlen]
  rw [Z0S,r1,XJ,XM,Z2S]
  have hg:(Zj y 0++[(⟨24,0⟩:Ins)]).getD (Zj y 0).length ⟨0,0⟩=⟨24,0⟩:=by simp
  rw [hg]
  unfold Z1l
  rw [List.getD_eq_getElem?_getD,r3]
  have hnx:J5 ⟨24,0⟩ [Z9 y]=some [Z9 y]:=by simp [J5,ZS]
  simp only [X4,hnx]
  rw [if_pos trivial,if_pos (by constructor<;>simp [r2])]
 rw [hrun]
 have e:(Zj y 0++[(⟨24,0⟩:Ins)]).length - 1=(Zj y 0).length:=by rw [hlen];omega
 simp only [e]
 rw [List.getD_eq_getElem?_getD,r3]
 rfl
end Go.Proofs.YtjdjdoefppebkaaGreatDoor
