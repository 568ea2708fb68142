/-
Merged by program out of own texts: Ty, Nd0, Typ1, Eng10, Typ2, Typ3, Typ4, Typ5, Typ6, Typ7, Typ8, Typ9, Typ10, Typ11, Typ12, Typ13, Cmp1, Cmp2, Cmp3, Cmp4, Cmp5, Cmp6, Cmp7, Cmp8, Cmp10, Cmp11, Cmp12, Cmp13, Prn1, Nam1, Nam2, Gen1, Gen3, Ver3, Ver5, Ver7a, Ver7b, Ver7c, Ver9, Arg15, Arg16, Srt1, Use1, Eng18, Eng19, Tyo1, Cty0, Cty1.
-/
import Derived.Test.YtjdjdoefppebkaaGreatDoorM1
import Derived.Test.YtjdjdoefppebkaaGreatDoorRows
import Derived.MapKept
import Derived.Laws.StructEq
import Derived.ChangeKeysEq
import Derived.Test.YtjdjdoefppebkaaGreatDoorTie
import Derived.Test.YtjdjdoefppebkaaGreatDoorCards
import Derived.Laws.BitsAllLaws
import Derived.Laws.Bits64
import Derived.Lib.SlBytesRow
import Derived.Lib.AppendStr
import Derived.Laws.BytesArg
import Derived.Laws.Cover3
set_option linter.unusedVariables false
set_option linter.unusedSimpArgs false
namespace Go.Proofs.YtjdjdoefppebkaaGreatDoor
open Go Go.Eng
theorem mixed:Tryz.prog.follows .mixedOrders=true:=by kernel_rfl
abbrev und3:=Und.mk (P:=Tryz.prog) (t:=3) Tryz.underlying3
attribute [instance] und3
instance siz3:Siz Tryz.prog 3 1:=⟨by kernel_rfl⟩
instance byt3:Byt Tryz.prog 3 8:=⟨by kernel_rfl⟩
instance zer3:Zer Tryz.prog 3 (.int .i64 0):=⟨by kernel_rfl⟩
abbrev und4:=Und.mk (P:=Tryz.prog) (t:=4) Tryz.underlying4
attribute [instance] und4
instance siz4:Siz Tryz.prog 4 1:=⟨by kernel_rfl⟩
abbrev und5:=Und.mk (P:=Tryz.prog) (t:=5) Tryz.underlying5
attribute [instance] und5
instance siz5:Siz Tryz.prog 5 1:=⟨by kernel_rfl⟩
abbrev und9:=Und.mk (P:=Tryz.prog) (t:=9) Tryz.underlying9
attribute [instance] und9
instance siz9:Siz Tryz.prog 9 1:=⟨by kernel_rfl⟩
instance byt9:Byt Tryz.prog 9 16:=⟨by kernel_rfl⟩
instance zer9:Zer Tryz.prog 9 (.string ByteArray.empty):=⟨by kernel_rfl⟩
abbrev und20:=Und.mk (P:=Tryz.prog) (t:=20) Tryz.underlying20
attribute [instance] und20
abbrev und21:=Und.mk (P:=Tryz.prog) (t:=21) Tryz.underlying21
attribute [instance] und21
abbrev und22:=Und.mk (P:=Tryz.prog) (t:=22) Tryz.underlying22
attribute [instance] und22
instance siz22:Siz Tryz.prog 22 1:=⟨by kernel_rfl⟩
abbrev und24:=Und.mk (P:=Tryz.prog) (t:=24) Tryz.underlying24
attribute [instance] und24
instance siz24:Siz Tryz.prog 24 5:=⟨by kernel_rfl⟩
instance fld24x0:Fld Tryz.prog 24 0 0:=⟨_,_,0,Tryz.underlying24,rfl,rfl,by kernel_rfl⟩
instance fld24x1:Fld Tryz.prog 24 1 1:=⟨_,_,0,Tryz.underlying24,rfl,rfl,by kernel_rfl⟩
instance fld24x2:Fld Tryz.prog 24 2 2:=⟨_,_,0,Tryz.underlying24,rfl,rfl,by kernel_rfl⟩
instance fld24x3:Fld Tryz.prog 24 3 3:=⟨_,_,0,Tryz.underlying24,rfl,rfl,by kernel_rfl⟩
instance fld24x4:Fld Tryz.prog 24 4 4:=⟨_,_,0,Tryz.underlying24,rfl,rfl,by kernel_rfl⟩
abbrev und25:=Und.mk (P:=Tryz.prog) (t:=25) Tryz.underlying25
attribute [instance] und25
instance siz25:Siz Tryz.prog 25 1:=⟨by kernel_rfl⟩
abbrev und27:=Und.mk (P:=Tryz.prog) (t:=27) Tryz.underlying27
attribute [instance] und27
instance siz27:Siz Tryz.prog 27 4:=⟨by kernel_rfl⟩
instance byt27:Byt Tryz.prog 27 56:=⟨by kernel_rfl⟩
instance zer27:Zer Tryz.prog 27 (.agg #[.int .i64 0,.int .i64 0,.string ByteArray.empty,.slice none 0 0]):=⟨by kernel_rfl⟩
instance fld27x0:Fld Tryz.prog 27 0 0:=⟨_,_,0,Tryz.underlying27,rfl,rfl,by kernel_rfl⟩
instance fld27x1:Fld Tryz.prog 27 1 1:=⟨_,_,0,Tryz.underlying27,rfl,rfl,by kernel_rfl⟩
instance fld27x2:Fld Tryz.prog 27 2 2:=⟨_,_,0,Tryz.underlying27,rfl,rfl,by kernel_rfl⟩
instance fld27x3:Fld Tryz.prog 27 3 3:=⟨_,_,0,Tryz.underlying27,rfl,rfl,by kernel_rfl⟩
abbrev und29:=Und.mk (P:=Tryz.prog) (t:=29) Tryz.underlying29
attribute [instance] und29
instance siz29:Siz Tryz.prog 29 7:=⟨by kernel_rfl⟩
instance zer29:Zer Tryz.prog 29 (.agg #[.int .i64 0,.int .i64 0,.int .i64 0,.int .i64 0,.int .i64 0,.int .i64 0,.int .i64 0]):=⟨by kernel_rfl⟩
instance fld29x0:Fld Tryz.prog 29 0 0:=⟨_,_,0,Tryz.underlying29,rfl,rfl,by kernel_rfl⟩
instance fld29x1:Fld Tryz.prog 29 1 1:=⟨_,_,0,Tryz.underlying29,rfl,rfl,by kernel_rfl⟩
instance fld29x2:Fld Tryz.prog 29 2 2:=⟨_,_,0,Tryz.underlying29,rfl,rfl,by kernel_rfl⟩
instance fld29x3:Fld Tryz.prog 29 3 3:=⟨_,_,0,Tryz.underlying29,rfl,rfl,by kernel_rfl⟩
instance fld29x4:Fld Tryz.prog 29 4 4:=⟨_,_,0,Tryz.underlying29,rfl,rfl,by kernel_rfl⟩
instance fld29x5:Fld Tryz.prog 29 5 5:=⟨_,_,0,Tryz.underlying29,rfl,rfl,by kernel_rfl⟩
instance fld29x6:Fld Tryz.prog 29 6 6:=⟨_,_,0,Tryz.underlying29,rfl,rfl,by kernel_rfl⟩
abbrev und30:=Und.mk (P:=Tryz.prog) (t:=30) Tryz.underlying30
attribute [instance] und30
abbrev und31:=Und.mk (P:=Tryz.prog) (t:=31) Tryz.underlying31
attribute [instance] und31
instance siz31:Siz Tryz.prog 31 1:=⟨by kernel_rfl⟩
abbrev und32:=Und.mk (P:=Tryz.prog) (t:=32) Tryz.underlying32
attribute [instance] und32
instance siz32:Siz Tryz.prog 32 1:=⟨by kernel_rfl⟩
abbrev und33:=Und.mk (P:=Tryz.prog) (t:=33) Tryz.underlying33
attribute [instance] und33
instance siz33:Siz Tryz.prog 33 1:=⟨by kernel_rfl⟩
abbrev und35:=Und.mk (P:=Tryz.prog) (t:=35) Tryz.underlying35
attribute [instance] und35
instance siz35:Siz Tryz.prog 35 2:=⟨by kernel_rfl⟩
instance zer35:Zer Tryz.prog 35 (.agg #[.int .i64 0,.slice none 0 0]):=⟨by kernel_rfl⟩
instance fld35x1:Fld Tryz.prog 35 1 1:=⟨_,_,0,Tryz.underlying35,rfl,rfl,by kernel_rfl⟩
abbrev und37:=Und.mk (P:=Tryz.prog) (t:=37) Tryz.underlying37
attribute [instance] und37
instance siz37:Siz Tryz.prog 37 12:=⟨by kernel_rfl⟩
instance zer37:Zer Tryz.prog 37 (.agg #[.bool false,.bool false,.bool false,.bool false,.bool false,.bool false,.bool false,.slice none 0 0,.slice none 0 0,.int .i64 0,.slice none 0 0,.int .i64 0]):=⟨by kernel_rfl⟩
instance fld37x0:Fld Tryz.prog 37 0 0:=⟨_,_,6,Tryz.underlying37,rfl,rfl,by kernel_rfl⟩
instance fld37x1:Fld Tryz.prog 37 1 7:=⟨_,_,0,Tryz.underlying37,rfl,rfl,by kernel_rfl⟩
instance fld37x2:Fld Tryz.prog 37 2 8:=⟨_,_,0,Tryz.underlying37,rfl,rfl,by kernel_rfl⟩
instance fld37x3:Fld Tryz.prog 37 3 9:=⟨_,_,1,Tryz.underlying37,rfl,rfl,by kernel_rfl⟩
abbrev und40:=Und.mk (P:=Tryz.prog) (t:=40) Tryz.underlying40
attribute [instance] und40
abbrev und41:=Und.mk (P:=Tryz.prog) (t:=41) Tryz.underlying41
attribute [instance] und41
instance siz41:Siz Tryz.prog 41 1:=⟨by kernel_rfl⟩
instance zer41:Zer Tryz.prog 41 (.int .i64 0):=⟨by kernel_rfl⟩
abbrev und45:=Und.mk (P:=Tryz.prog) (t:=45) Tryz.underlying45
attribute [instance] und45
instance siz45:Siz Tryz.prog 45 1:=⟨by kernel_rfl⟩
instance zer45:Zer Tryz.prog 45 (.slice none 0 0):=⟨by kernel_rfl⟩
abbrev und51:=Und.mk (P:=Tryz.prog) (t:=51) Tryz.underlying51
attribute [instance] und51
instance siz51:Siz Tryz.prog 51 2:=⟨by kernel_rfl⟩
instance byt51:Byt Tryz.prog 51 16:=⟨by kernel_rfl⟩
instance zer51:Zer Tryz.prog 51 (.agg #[.int .i64 0,.int .i64 0]):=⟨by kernel_rfl⟩
instance fld51x0:Fld Tryz.prog 51 0 0:=⟨_,_,0,Tryz.underlying51,rfl,rfl,by kernel_rfl⟩
instance fld51x1:Fld Tryz.prog 51 1 1:=⟨_,_,0,Tryz.underlying51,rfl,rfl,by kernel_rfl⟩
abbrev und77:=Und.mk (P:=Tryz.prog) (t:=77) Tryz.underlying77
attribute [instance] und77
instance siz77:Siz Tryz.prog 77 3:=⟨by kernel_rfl⟩
instance byt77:Byt Tryz.prog 77 24:=⟨by kernel_rfl⟩
instance zer77:Zer Tryz.prog 77 (.agg #[.int .i64 0,.int .i64 0,.int .i64 0]):=⟨by kernel_rfl⟩
instance fld77x0:Fld Tryz.prog 77 0 0:=⟨_,_,0,Tryz.underlying77,rfl,rfl,by kernel_rfl⟩
instance fld77x1:Fld Tryz.prog 77 1 1:=⟨_,_,0,Tryz.underlying77,rfl,rfl,by kernel_rfl⟩
instance fld77x2:Fld Tryz.prog 77 2 2:=⟨_,_,0,Tryz.underlying77,rfl,rfl,by kernel_rfl⟩
abbrev und83:=Und.mk (P:=Tryz.prog) (t:=83) Tryz.underlying83
attribute [instance] und83
instance siz83:Siz Tryz.prog 83 7:=⟨by kernel_rfl⟩
instance zer83:Zer Tryz.prog 83 (.agg #[.int .i64 0,.int .i64 0,.int .i64 0,.int .i64 0,.int .i64 0,.int .i64 0,.int .i64 0]):=⟨by kernel_rfl⟩
instance fld103x0:Fld Tryz.prog 103 0 0:=⟨_,_,0,Tryz.underlying103,rfl,rfl,by kernel_rfl⟩
instance fld103x1:Fld Tryz.prog 103 1 1:=⟨_,_,0,Tryz.underlying103,rfl,rfl,by kernel_rfl⟩
abbrev und111:=Und.mk (P:=Tryz.prog) (t:=111) Tryz.underlying111
attribute [instance] und111
instance siz111:Siz Tryz.prog 111 2:=⟨by kernel_rfl⟩
instance byt111:Byt Tryz.prog 111 16:=⟨by kernel_rfl⟩
instance zer111:Zer Tryz.prog 111 (.agg #[.int .i64 0,.int .i64 0]):=⟨by kernel_rfl⟩
abbrev und114:=Und.mk (P:=Tryz.prog) (t:=114) Tryz.underlying114
attribute [instance] und114
instance siz114:Siz Tryz.prog 114 20:=⟨by kernel_rfl⟩
instance zer114:Zer Tryz.prog 114 (.agg #[.int .i64 0,.int .i64 0,.int .i64 0,.int .i64 0,.int .i64 0,.int .i64 0,.int .i64 0,.bool false,.bool false,.bool false,.bool false,.bool false,.bool false,.bool false,.slice none 0 0,.slice none 0 0,.int .i64 0,.slice none 0 0,.int .i64 0,.int .i64 0]):=⟨by kernel_rfl⟩
instance fld114x0:Fld Tryz.prog 114 0 0:=⟨_,_,6,Tryz.underlying114,rfl,rfl,by kernel_rfl⟩
instance fld114x1:Fld Tryz.prog 114 1 7:=⟨_,_,11,Tryz.underlying114,rfl,rfl,by kernel_rfl⟩
instance fld114x2:Fld Tryz.prog 114 2 19:=⟨_,_,0,Tryz.underlying114,rfl,rfl,by kernel_rfl⟩
abbrev und119:=Und.mk (P:=Tryz.prog) (t:=119) Tryz.underlying119
attribute [instance] und119
abbrev und124:=Und.mk (P:=Tryz.prog) (t:=124) Tryz.underlying124
attribute [instance] und124
instance fld126x0:Fld Tryz.prog 126 0 0:=⟨_,_,6,Tryz.underlying126,rfl,rfl,by kernel_rfl⟩
instance fld126x1:Fld Tryz.prog 126 1 7:=⟨_,_,11,Tryz.underlying126,rfl,rfl,by kernel_rfl⟩
instance fld126x2:Fld Tryz.prog 126 2 19:=⟨_,_,0,Tryz.underlying126,rfl,rfl,by kernel_rfl⟩
instance fld126x3:Fld Tryz.prog 126 3 20:=⟨_,_,0,Tryz.underlying126,rfl,rfl,by kernel_rfl⟩
instance fld126x4:Fld Tryz.prog 126 4 21:=⟨_,_,0,Tryz.underlying126,rfl,rfl,by kernel_rfl⟩
instance fld126x5:Fld Tryz.prog 126 5 22:=⟨_,_,0,Tryz.underlying126,rfl,rfl,by kernel_rfl⟩
instance fld126x6:Fld Tryz.prog 126 6 23:=⟨_,_,0,Tryz.underlying126,rfl,rfl,by kernel_rfl⟩
instance fld126x7:Fld Tryz.prog 126 7 24:=⟨_,_,0,Tryz.underlying126,rfl,rfl,by kernel_rfl⟩
abbrev und157:=Und.mk (P:=Tryz.prog) (t:=157) Tryz.underlying157
attribute [instance] und157
abbrev und159:=Und.mk (P:=Tryz.prog) (t:=159) Tryz.underlying159
attribute [instance] und159
instance siz159:Siz Tryz.prog 159 1:=⟨by kernel_rfl⟩
instance zer159:Zer Tryz.prog 159 (.nilFunc):=⟨by kernel_rfl⟩
abbrev und167:=Und.mk (P:=Tryz.prog) (t:=167) Tryz.underlying167
attribute [instance] und167
instance siz167:Siz Tryz.prog 167 4:=⟨by kernel_rfl⟩
instance byt167:Byt Tryz.prog 167 40:=⟨by kernel_rfl⟩
instance zer167:Zer Tryz.prog 167 (.agg #[.int .i64 0,.int .i64 0,.string ByteArray.empty,.int .i64 0]):=⟨by kernel_rfl⟩
instance fld167x0:Fld Tryz.prog 167 0 0:=⟨_,_,0,Tryz.underlying167,rfl,rfl,by kernel_rfl⟩
instance fld167x1:Fld Tryz.prog 167 1 1:=⟨_,_,0,Tryz.underlying167,rfl,rfl,by kernel_rfl⟩
instance fld167x2:Fld Tryz.prog 167 2 2:=⟨_,_,0,Tryz.underlying167,rfl,rfl,by kernel_rfl⟩
instance fld167x3:Fld Tryz.prog 167 3 3:=⟨_,_,0,Tryz.underlying167,rfl,rfl,by kernel_rfl⟩
abbrev und168:=Und.mk (P:=Tryz.prog) (t:=168) Tryz.underlying168
attribute [instance] und168
instance fld170x0:Fld Tryz.prog 170 0 0:=⟨_,_,0,Tryz.underlying170,rfl,rfl,by kernel_rfl⟩
instance fld170x1:Fld Tryz.prog 170 1 1:=⟨_,_,0,Tryz.underlying170,rfl,rfl,by kernel_rfl⟩
instance fld170x2:Fld Tryz.prog 170 2 2:=⟨_,_,0,Tryz.underlying170,rfl,rfl,by kernel_rfl⟩
abbrev und180:=Und.mk (P:=Tryz.prog) (t:=180) Tryz.underlying180
attribute [instance] und180
abbrev und187:=Und.mk (P:=Tryz.prog) (t:=187) Tryz.underlying187
attribute [instance] und187
instance siz187:Siz Tryz.prog 187 9:=⟨by kernel_rfl⟩
instance byt187:Byt Tryz.prog 187 72:=⟨by kernel_rfl⟩
instance zer187:Zer Tryz.prog 187 (.agg #[.int .i64 0,.int .i64 0,.int .i64 0,.int .i64 0,.int .i64 0,.int .i64 0,.int .i64 0,.int .i64 0,.int .i64 0]):=⟨by kernel_rfl⟩
instance fld187x0:Fld Tryz.prog 187 0 0:=⟨_,_,0,Tryz.underlying187,rfl,rfl,by kernel_rfl⟩
instance fld187x1:Fld Tryz.prog 187 1 1:=⟨_,_,0,Tryz.underlying187,rfl,rfl,by kernel_rfl⟩
instance fld187x2:Fld Tryz.prog 187 2 2:=⟨_,_,0,Tryz.underlying187,rfl,rfl,by kernel_rfl⟩
instance fld187x3:Fld Tryz.prog 187 3 3:=⟨_,_,0,Tryz.underlying187,rfl,rfl,by kernel_rfl⟩
instance fld187x4:Fld Tryz.prog 187 4 4:=⟨_,_,0,Tryz.underlying187,rfl,rfl,by kernel_rfl⟩
instance fld187x5:Fld Tryz.prog 187 5 5:=⟨_,_,0,Tryz.underlying187,rfl,rfl,by kernel_rfl⟩
instance fld187x6:Fld Tryz.prog 187 6 6:=⟨_,_,0,Tryz.underlying187,rfl,rfl,by kernel_rfl⟩
instance fld187x7:Fld Tryz.prog 187 7 7:=⟨_,_,0,Tryz.underlying187,rfl,rfl,by kernel_rfl⟩
instance fld187x8:Fld Tryz.prog 187 8 8:=⟨_,_,0,Tryz.underlying187,rfl,rfl,by kernel_rfl⟩
instance siz190:Siz Tryz.prog 190 2:=⟨by kernel_rfl⟩
instance byt190:Byt Tryz.prog 190 16:=⟨by kernel_rfl⟩
instance zer190:Zer Tryz.prog 190 (.agg #[.int .i64 0,.int .i64 0]):=⟨by kernel_rfl⟩
instance fld190x0:Fld Tryz.prog 190 0 0:=⟨_,_,0,Tryz.underlying190,rfl,rfl,by kernel_rfl⟩
abbrev und204:=Und.mk (P:=Tryz.prog) (t:=204) Tryz.underlying204
attribute [instance] und204
instance zer204:Zer Tryz.prog 204 (.slice none 0 0):=⟨by kernel_rfl⟩
abbrev und210:=Und.mk (P:=Tryz.prog) (t:=210) Tryz.underlying210
attribute [instance] und210
instance siz210:Siz Tryz.prog 210 2:=⟨by kernel_rfl⟩
instance zer210:Zer Tryz.prog 210 (.agg #[.int .i64 0,.int .i64 0]):=⟨by kernel_rfl⟩
instance fld210x0:Fld Tryz.prog 210 0 0:=⟨_,_,0,Tryz.underlying210,rfl,rfl,by kernel_rfl⟩
instance fld210x1:Fld Tryz.prog 210 1 1:=⟨_,_,0,Tryz.underlying210,rfl,rfl,by kernel_rfl⟩
abbrev und238:=Und.mk (P:=Tryz.prog) (t:=238) Tryz.underlying238
attribute [instance] und238
abbrev und262:=Und.mk (P:=Tryz.prog) (t:=262) Tryz.underlying262
attribute [instance] und262
abbrev und263:=Und.mk (P:=Tryz.prog) (t:=263) Tryz.underlying263
attribute [instance] und263
abbrev und291:=Und.mk (P:=Tryz.prog) (t:=291) Tryz.underlying291
attribute [instance] und291
instance siz291:Siz Tryz.prog 291 3:=⟨by kernel_rfl⟩
instance zer291:Zer Tryz.prog 291 (.agg #[.int .i64 0,.int .i64 0,.int .i64 0]):=⟨by kernel_rfl⟩
instance fld291x0:Fld Tryz.prog 291 0 0:=⟨_,_,0,Tryz.underlying291,rfl,rfl,by kernel_rfl⟩
instance fld291x1:Fld Tryz.prog 291 1 1:=⟨_,_,0,Tryz.underlying291,rfl,rfl,by kernel_rfl⟩
instance fld291x2:Fld Tryz.prog 291 2 2:=⟨_,_,0,Tryz.underlying291,rfl,rfl,by kernel_rfl⟩
abbrev und303:=Und.mk (P:=Tryz.prog) (t:=303) Tryz.underlying303
attribute [instance] und303
abbrev und322:=Und.mk (P:=Tryz.prog) (t:=322) Tryz.underlying322
attribute [instance] und322
abbrev und326:=Und.mk (P:=Tryz.prog) (t:=326) Tryz.underlying326
attribute [instance] und326
abbrev und329:=Und.mk (P:=Tryz.prog) (t:=329) Tryz.underlying329
attribute [instance] und329
instance siz329:Siz Tryz.prog 329 2:=⟨by kernel_rfl⟩
instance byt329:Byt Tryz.prog 329 16:=⟨by kernel_rfl⟩
instance zer329:Zer Tryz.prog 329 (.agg #[.int .i64 0,.int .i64 0]):=⟨by kernel_rfl⟩
instance fld329x0:Fld Tryz.prog 329 0 0:=⟨_,_,0,Tryz.underlying329,rfl,rfl,by kernel_rfl⟩
abbrev und340:=Und.mk (P:=Tryz.prog) (t:=340) Tryz.underlying340
attribute [instance] und340
instance siz342:Siz Tryz.prog 342 2:=⟨by kernel_rfl⟩
instance fld342x1:Fld Tryz.prog 342 1 1:=⟨_,_,0,Tryz.underlying342,rfl,rfl,by kernel_rfl⟩
abbrev und343:=Und.mk (P:=Tryz.prog) (t:=343) Tryz.underlying343
attribute [instance] und343
instance siz343:Siz Tryz.prog 343 8:=⟨by kernel_rfl⟩
instance zer343:Zer Tryz.prog 343 (.agg #[.nilFunc,.nilFunc,.nilFunc,.nilFunc,.nilFunc,.nilFunc,.nilFunc,.nilFunc]):=⟨by kernel_rfl⟩
abbrev und345:=Und.mk (P:=Tryz.prog) (t:=345) Tryz.underlying345
attribute [instance] und345
instance fun12:Fun Tryz.prog 12 Tryz.f12:=⟨Tryz.func12,enters_of Tryz.func12 (by kernel_rfl) rfl⟩
instance fun13:Fun Tryz.prog 13 Tryz.f13:=⟨Tryz.func13,enters_of Tryz.func13 (by kernel_rfl) rfl⟩
instance fun14:Fun Tryz.prog 14 Tryz.f14:=⟨Tryz.func14,enters_of Tryz.func14 (by kernel_rfl) rfl⟩
instance fun15:Fun Tryz.prog 15 Tryz.f15:=⟨Tryz.func15,enters_of Tryz.func15 (by kernel_rfl) rfl⟩
instance fun16:Fun Tryz.prog 16 Tryz.f16:=⟨Tryz.func16,enters_of Tryz.func16 (by kernel_rfl) rfl⟩
instance fun18:Fun Tryz.prog 18 Tryz.f18:=⟨Tryz.func18,enters_of Tryz.func18 (by kernel_rfl) rfl⟩
instance fun20:Fun Tryz.prog 20 Tryz.f20:=⟨Tryz.func20,enters_of Tryz.func20 (by kernel_rfl) rfl⟩
instance fun21:Fun Tryz.prog 21 Tryz.f21:=⟨Tryz.func21,enters_of Tryz.func21 (by kernel_rfl) rfl⟩
instance fun23:Fun Tryz.prog 23 Tryz.f23:=⟨Tryz.func23,enters_of Tryz.func23 (by kernel_rfl) rfl⟩
instance fun28:Fun Tryz.prog 28 Tryz.f28:=⟨Tryz.func28,enters_of Tryz.func28 (by kernel_rfl) rfl⟩
instance fun40:Fun Tryz.prog 40 Tryz.f40:=⟨Tryz.func40,enters_of Tryz.func40 (by kernel_rfl) rfl⟩
instance fun41:Fun Tryz.prog 41 Tryz.f41:=⟨Tryz.func41,enters_of Tryz.func41 (by kernel_rfl) rfl⟩
instance fun42:Fun Tryz.prog 42 Tryz.f42:=⟨Tryz.func42,enters_of Tryz.func42 (by kernel_rfl) rfl⟩
instance fun43:Fun Tryz.prog 43 Tryz.f43:=⟨Tryz.func43,enters_of Tryz.func43 (by kernel_rfl) rfl⟩
instance fun44:Fun Tryz.prog 44 Tryz.f44:=⟨Tryz.func44,enters_of Tryz.func44 (by kernel_rfl) rfl⟩
instance fun45:Fun Tryz.prog 45 Tryz.f45:=⟨Tryz.func45,enters_of Tryz.func45 (by kernel_rfl) rfl⟩
instance fun46:Fun Tryz.prog 46 Tryz.f46:=⟨Tryz.func46,enters_of Tryz.func46 (by kernel_rfl) rfl⟩
instance fun47:Fun Tryz.prog 47 Tryz.f47:=⟨Tryz.func47,enters_of Tryz.func47 (by kernel_rfl) rfl⟩
instance fun48:Fun Tryz.prog 48 Tryz.f48:=⟨Tryz.func48,enters_of Tryz.func48 (by kernel_rfl) rfl⟩
instance fun49:Fun Tryz.prog 49 Tryz.f49:=⟨Tryz.func49,enters_of Tryz.func49 (by kernel_rfl) rfl⟩
instance fun50:Fun Tryz.prog 50 Tryz.f50:=⟨Tryz.func50,enters_of Tryz.func50 (by kernel_rfl) rfl⟩
instance fun51:Fun Tryz.prog 51 Tryz.f51:=⟨Tryz.func51,enters_of Tryz.func51 (by kernel_rfl) rfl⟩
instance fun52:Fun Tryz.prog 52 Tryz.f52:=⟨Tryz.func52,enters_of Tryz.func52 (by kernel_rfl) rfl⟩
instance fun53:Fun Tryz.prog 53 Tryz.f53:=⟨Tryz.func53,enters_of Tryz.func53 (by kernel_rfl) rfl⟩
instance fun54:Fun Tryz.prog 54 Tryz.f54:=⟨Tryz.func54,enters_of Tryz.func54 (by kernel_rfl) rfl⟩
instance fun56:Fun Tryz.prog 56 Tryz.f56:=⟨Tryz.func56,enters_of Tryz.func56 (by kernel_rfl) rfl⟩
instance fun57:Fun Tryz.prog 57 Tryz.f57:=⟨Tryz.func57,enters_of Tryz.func57 (by kernel_rfl) rfl⟩
instance fun58:Fun Tryz.prog 58 Tryz.f58:=⟨Tryz.func58,enters_of Tryz.func58 (by kernel_rfl) rfl⟩
instance fun59:Fun Tryz.prog 59 Tryz.f59:=⟨Tryz.func59,enters_of Tryz.func59 (by kernel_rfl) rfl⟩
instance fun60:Fun Tryz.prog 60 Tryz.f60:=⟨Tryz.func60,enters_of Tryz.func60 (by kernel_rfl) rfl⟩
instance fun63:Fun Tryz.prog 63 Tryz.f63:=⟨Tryz.func63,enters_of Tryz.func63 (by kernel_rfl) rfl⟩
instance fun64:Fun Tryz.prog 64 Tryz.f64:=⟨Tryz.func64,enters_of Tryz.func64 (by kernel_rfl) rfl⟩
instance fun78:Fun Tryz.prog 78 Tryz.f78:=⟨Tryz.func78,enters_of Tryz.func78 (by kernel_rfl) rfl⟩
instance fun79:Fun Tryz.prog 79 Tryz.f79:=⟨Tryz.func79,enters_of Tryz.func79 (by kernel_rfl) rfl⟩
instance fun82:Fun Tryz.prog 82 Tryz.f82:=⟨Tryz.func82,enters_of Tryz.func82 (by kernel_rfl) rfl⟩
instance fun83:Fun Tryz.prog 83 Tryz.f83:=⟨Tryz.func83,enters_of Tryz.func83 (by kernel_rfl) rfl⟩
instance fun94:Fun Tryz.prog 94 Tryz.f94:=⟨Tryz.func94,enters_of Tryz.func94 (by kernel_rfl) rfl⟩
instance fun95:Fun Tryz.prog 95 Tryz.f95:=⟨Tryz.func95,enters_of Tryz.func95 (by kernel_rfl) rfl⟩
instance fun96:Fun Tryz.prog 96 Tryz.f96:=⟨Tryz.func96,enters_of Tryz.func96 (by kernel_rfl) rfl⟩
instance fun97:Fun Tryz.prog 97 Tryz.f97:=⟨Tryz.func97,enters_of Tryz.func97 (by kernel_rfl) rfl⟩
instance fun98:Fun Tryz.prog 98 Tryz.f98:=⟨Tryz.func98,enters_of Tryz.func98 (by kernel_rfl) rfl⟩
instance fun99:Fun Tryz.prog 99 Tryz.f99:=⟨Tryz.func99,enters_of Tryz.func99 (by kernel_rfl) rfl⟩
instance fun100:Fun Tryz.prog 100 Tryz.f100:=⟨Tryz.func100,enters_of Tryz.func100 (by kernel_rfl) rfl⟩
instance fun101:Fun Tryz.prog 101 Tryz.f101:=⟨Tryz.func101,enters_of Tryz.func101 (by kernel_rfl) rfl⟩
instance fun102:Fun Tryz.prog 102 Tryz.f102:=⟨Tryz.func102,enters_of Tryz.func102 (by kernel_rfl) rfl⟩
instance fun103:Fun Tryz.prog 103 Tryz.f103:=⟨Tryz.func103,enters_of Tryz.func103 (by kernel_rfl) rfl⟩
instance fun104:Fun Tryz.prog 104 Tryz.f104:=⟨Tryz.func104,enters_of Tryz.func104 (by kernel_rfl) rfl⟩
instance fun105:Fun Tryz.prog 105 Tryz.f105:=⟨Tryz.func105,enters_of Tryz.func105 (by kernel_rfl) rfl⟩
instance fun106:Fun Tryz.prog 106 Tryz.f106:=⟨Tryz.func106,enters_of Tryz.func106 (by kernel_rfl) rfl⟩
instance fun107:Fun Tryz.prog 107 Tryz.f107:=⟨Tryz.func107,enters_of Tryz.func107 (by kernel_rfl) rfl⟩
instance fun109:Fun Tryz.prog 109 Tryz.f109:=⟨Tryz.func109,enters_of Tryz.func109 (by kernel_rfl) rfl⟩
instance fun110:Fun Tryz.prog 110 Tryz.f110:=⟨Tryz.func110,enters_of Tryz.func110 (by kernel_rfl) rfl⟩
instance fun111:Fun Tryz.prog 111 Tryz.f111:=⟨Tryz.func111,enters_of Tryz.func111 (by kernel_rfl) rfl⟩
instance fun112:Fun Tryz.prog 112 Tryz.f112:=⟨Tryz.func112,enters_of Tryz.func112 (by kernel_rfl) rfl⟩
instance fun113:Fun Tryz.prog 113 Tryz.f113:=⟨Tryz.func113,enters_of Tryz.func113 (by kernel_rfl) rfl⟩
instance fun114:Fun Tryz.prog 114 Tryz.f114:=⟨Tryz.func114,enters_of Tryz.func114 (by kernel_rfl) rfl⟩
instance fun115:Fun Tryz.prog 115 Tryz.f115:=⟨Tryz.func115,enters_of Tryz.func115 (by kernel_rfl) rfl⟩
instance fun116:Fun Tryz.prog 116 Tryz.f116:=⟨Tryz.func116,enters_of Tryz.func116 (by kernel_rfl) rfl⟩
instance fun117:Fun Tryz.prog 117 Tryz.f117:=⟨Tryz.func117,enters_of Tryz.func117 (by kernel_rfl) rfl⟩
instance fun118:Fun Tryz.prog 118 Tryz.f118:=⟨Tryz.func118,enters_of Tryz.func118 (by kernel_rfl) rfl⟩
instance fun119:Fun Tryz.prog 119 Tryz.f119:=⟨Tryz.func119,enters_of Tryz.func119 (by kernel_rfl) rfl⟩
instance fun120:Fun Tryz.prog 120 Tryz.f120:=⟨Tryz.func120,enters_of Tryz.func120 (by kernel_rfl) rfl⟩
instance fun127:Fun Tryz.prog 127 Tryz.f127:=⟨Tryz.func127,enters_of Tryz.func127 (by kernel_rfl) rfl⟩
instance fun139:Fun Tryz.prog 139 Tryz.f139:=⟨Tryz.func139,enters_of Tryz.func139 (by kernel_rfl) rfl⟩
instance fun140:Fun Tryz.prog 140 Tryz.f140:=⟨Tryz.func140,enters_of Tryz.func140 (by kernel_rfl) rfl⟩
instance fun141:Fun Tryz.prog 141 Tryz.f141:=⟨Tryz.func141,enters_of Tryz.func141 (by kernel_rfl) rfl⟩
instance fun142:Fun Tryz.prog 142 Tryz.f142:=⟨Tryz.func142,enters_of Tryz.func142 (by kernel_rfl) rfl⟩
instance fun143:Fun Tryz.prog 143 Tryz.f143:=⟨Tryz.func143,enters_of Tryz.func143 (by kernel_rfl) rfl⟩
instance fun144:Fun Tryz.prog 144 Tryz.f144:=⟨Tryz.func144,enters_of Tryz.func144 (by kernel_rfl) rfl⟩
instance fun145:Fun Tryz.prog 145 Tryz.f145:=⟨Tryz.func145,enters_of Tryz.func145 (by kernel_rfl) rfl⟩
instance fun146:Fun Tryz.prog 146 Tryz.f146:=⟨Tryz.func146,enters_of Tryz.func146 (by kernel_rfl) rfl⟩
instance fun147:Fun Tryz.prog 147 Tryz.f147:=⟨Tryz.func147,enters_of Tryz.func147 (by kernel_rfl) rfl⟩
instance fun148:Fun Tryz.prog 148 Tryz.f148:=⟨Tryz.func148,enters_of Tryz.func148 (by kernel_rfl) rfl⟩
instance fun149:Fun Tryz.prog 149 Tryz.f149:=⟨Tryz.func149,enters_of Tryz.func149 (by kernel_rfl) rfl⟩
instance fun150:Fun Tryz.prog 150 Tryz.f150:=⟨Tryz.func150,enters_of Tryz.func150 (by kernel_rfl) rfl⟩
instance fun151:Fun Tryz.prog 151 Tryz.f151:=⟨Tryz.func151,enters_of Tryz.func151 (by kernel_rfl) rfl⟩
instance fun152:Fun Tryz.prog 152 Tryz.f152:=⟨Tryz.func152,enters_of Tryz.func152 (by kernel_rfl) rfl⟩
instance fun153:Fun Tryz.prog 153 Tryz.f153:=⟨Tryz.func153,enters_of Tryz.func153 (by kernel_rfl) rfl⟩
instance fun154:Fun Tryz.prog 154 Tryz.f154:=⟨Tryz.func154,enters_of Tryz.func154 (by kernel_rfl) rfl⟩
instance fun155:Fun Tryz.prog 155 Tryz.f155:=⟨Tryz.func155,enters_of Tryz.func155 (by kernel_rfl) rfl⟩
instance fun156:Fun Tryz.prog 156 Tryz.f156:=⟨Tryz.func156,enters_of Tryz.func156 (by kernel_rfl) rfl⟩
instance fun157:Fun Tryz.prog 157 Tryz.f157:=⟨Tryz.func157,enters_of Tryz.func157 (by kernel_rfl) rfl⟩
instance fun158:Fun Tryz.prog 158 Tryz.f158:=⟨Tryz.func158,enters_of Tryz.func158 (by kernel_rfl) rfl⟩
instance fun159:Fun Tryz.prog 159 Tryz.f159:=⟨Tryz.func159,enters_of Tryz.func159 (by kernel_rfl) rfl⟩
instance fun165:Fun Tryz.prog 165 Tryz.f165:=⟨Tryz.func165,enters_of Tryz.func165 (by kernel_rfl) rfl⟩
instance fun167:Fun Tryz.prog 167 Tryz.f167:=⟨Tryz.func167,enters_of Tryz.func167 (by kernel_rfl) rfl⟩
instance fun168:Fun Tryz.prog 168 Tryz.f168:=⟨Tryz.func168,enters_of Tryz.func168 (by kernel_rfl) rfl⟩
instance fun176:Fun Tryz.prog 176 Tryz.f176:=⟨Tryz.func176,enters_of Tryz.func176 (by kernel_rfl) rfl⟩
instance fun185:Fun Tryz.prog 185 Tryz.f185:=⟨Tryz.func185,enters_of Tryz.func185 (by kernel_rfl) rfl⟩
instance fun186:Fun Tryz.prog 186 Tryz.f186:=⟨Tryz.func186,enters_of Tryz.func186 (by kernel_rfl) rfl⟩
instance fun187:Fun Tryz.prog 187 Tryz.f187:=⟨Tryz.func187,enters_of Tryz.func187 (by kernel_rfl) rfl⟩
instance fun188:Fun Tryz.prog 188 Tryz.f188:=⟨Tryz.func188,enters_of Tryz.func188 (by kernel_rfl) rfl⟩
instance fun189:Fun Tryz.prog 189 Tryz.f189:=⟨Tryz.func189,enters_of Tryz.func189 (by kernel_rfl) rfl⟩
instance fun190:Fun Tryz.prog 190 Tryz.f190:=⟨Tryz.func190,enters_of Tryz.func190 (by kernel_rfl) rfl⟩
instance fun191:Fun Tryz.prog 191 Tryz.f191:=⟨Tryz.func191,enters_of Tryz.func191 (by kernel_rfl) rfl⟩
instance fun192:Fun Tryz.prog 192 Tryz.f192:=⟨Tryz.func192,enters_of Tryz.func192 (by kernel_rfl) rfl⟩
instance fun193:Fun Tryz.prog 193 Tryz.f193:=⟨Tryz.func193,enters_of Tryz.func193 (by kernel_rfl) rfl⟩
instance fun194:Fun Tryz.prog 194 Tryz.f194:=⟨Tryz.func194,enters_of Tryz.func194 (by kernel_rfl) rfl⟩
instance fun195:Fun Tryz.prog 195 Tryz.f195:=⟨Tryz.func195,enters_of Tryz.func195 (by kernel_rfl) rfl⟩
instance fun196:Fun Tryz.prog 196 Tryz.f196:=⟨Tryz.func196,enters_of Tryz.func196 (by kernel_rfl) rfl⟩
instance fun197:Fun Tryz.prog 197 Tryz.f197:=⟨Tryz.func197,enters_of Tryz.func197 (by kernel_rfl) rfl⟩
instance fun198:Fun Tryz.prog 198 Tryz.f198:=⟨Tryz.func198,enters_of Tryz.func198 (by kernel_rfl) rfl⟩
instance fun199:Fun Tryz.prog 199 Tryz.f199:=⟨Tryz.func199,enters_of Tryz.func199 (by kernel_rfl) rfl⟩
instance fun200:Fun Tryz.prog 200 Tryz.f200:=⟨Tryz.func200,enters_of Tryz.func200 (by kernel_rfl) rfl⟩
instance fun201:Fun Tryz.prog 201 Tryz.f201:=⟨Tryz.func201,enters_of Tryz.func201 (by kernel_rfl) rfl⟩
instance fun202:Fun Tryz.prog 202 Tryz.f202:=⟨Tryz.func202,enters_of Tryz.func202 (by kernel_rfl) rfl⟩
instance fun203:Fun Tryz.prog 203 Tryz.f203:=⟨Tryz.func203,enters_of Tryz.func203 (by kernel_rfl) rfl⟩
instance fun204:Fun Tryz.prog 204 Tryz.f204:=⟨Tryz.func204,enters_of Tryz.func204 (by kernel_rfl) rfl⟩
instance fun205:Fun Tryz.prog 205 Tryz.f205:=⟨Tryz.func205,enters_of Tryz.func205 (by kernel_rfl) rfl⟩
instance fun206:Fun Tryz.prog 206 Tryz.f206:=⟨Tryz.func206,enters_of Tryz.func206 (by kernel_rfl) rfl⟩
instance fun207:Fun Tryz.prog 207 Tryz.f207:=⟨Tryz.func207,enters_of Tryz.func207 (by kernel_rfl) rfl⟩
instance fun208:Fun Tryz.prog 208 Tryz.f208:=⟨Tryz.func208,enters_of Tryz.func208 (by kernel_rfl) rfl⟩
instance fun209:Fun Tryz.prog 209 Tryz.f209:=⟨Tryz.func209,enters_of Tryz.func209 (by kernel_rfl) rfl⟩
instance fun210:Fun Tryz.prog 210 Tryz.f210:=⟨Tryz.func210,enters_of Tryz.func210 (by kernel_rfl) rfl⟩
instance fun211:Fun Tryz.prog 211 Tryz.f211:=⟨Tryz.func211,enters_of Tryz.func211 (by kernel_rfl) rfl⟩
instance fun212:Fun Tryz.prog 212 Tryz.f212:=⟨Tryz.func212,enters_of Tryz.func212 (by kernel_rfl) rfl⟩
instance fun213:Fun Tryz.prog 213 Tryz.f213:=⟨Tryz.func213,enters_of Tryz.func213 (by kernel_rfl) rfl⟩
instance fun214:Fun Tryz.prog 214 Tryz.f214:=⟨Tryz.func214,enters_of Tryz.func214 (by kernel_rfl) rfl⟩
instance fun215:Fun Tryz.prog 215 Tryz.f215:=⟨Tryz.func215,enters_of Tryz.func215 (by kernel_rfl) rfl⟩
instance fun217:Fun Tryz.prog 217 Tryz.f217:=⟨Tryz.func217,enters_of Tryz.func217 (by kernel_rfl) rfl⟩
instance fun229:Fun Tryz.prog 229 Tryz.f229:=⟨Tryz.func229,enters_of Tryz.func229 (by kernel_rfl) rfl⟩
instance fun230:Fun Tryz.prog 230 Tryz.f230:=⟨Tryz.func230,enters_of Tryz.func230 (by kernel_rfl) rfl⟩
instance fun231:Fun Tryz.prog 231 Tryz.f231:=⟨Tryz.func231,enters_of Tryz.func231 (by kernel_rfl) rfl⟩
instance fun232:Fun Tryz.prog 232 Tryz.f232:=⟨Tryz.func232,enters_of Tryz.func232 (by kernel_rfl) rfl⟩
instance fun233:Fun Tryz.prog 233 Tryz.f233:=⟨Tryz.func233,enters_of Tryz.func233 (by kernel_rfl) rfl⟩
instance fun234:Fun Tryz.prog 234 Tryz.f234:=⟨Tryz.func234,enters_of Tryz.func234 (by kernel_rfl) rfl⟩
instance fun235:Fun Tryz.prog 235 Tryz.f235:=⟨Tryz.func235,enters_of Tryz.func235 (by kernel_rfl) rfl⟩
instance fun236:Fun Tryz.prog 236 Tryz.f236:=⟨Tryz.func236,enters_of Tryz.func236 (by kernel_rfl) rfl⟩
instance fun238:Fun Tryz.prog 238 Tryz.f238:=⟨Tryz.func238,enters_of Tryz.func238 (by kernel_rfl) rfl⟩
instance fun239:Fun Tryz.prog 239 Tryz.f239:=⟨Tryz.func239,enters_of Tryz.func239 (by kernel_rfl) rfl⟩
instance fun251:Fun Tryz.prog 251 Tryz.f251:=⟨Tryz.func251,enters_of Tryz.func251 (by kernel_rfl) rfl⟩
instance fun252:Fun Tryz.prog 252 Tryz.f252:=⟨Tryz.func252,enters_of Tryz.func252 (by kernel_rfl) rfl⟩
instance fun261:Fun Tryz.prog 261 Tryz.f261:=⟨Tryz.func261,enters_of Tryz.func261 (by kernel_rfl) rfl⟩
instance fun262:Fun Tryz.prog 262 Tryz.f262:=⟨Tryz.func262,enters_of Tryz.func262 (by kernel_rfl) rfl⟩
instance fun263:Fun Tryz.prog 263 Tryz.f263:=⟨Tryz.func263,enters_of Tryz.func263 (by kernel_rfl) rfl⟩
instance fun264:Fun Tryz.prog 264 Tryz.f264:=⟨Tryz.func264,enters_of Tryz.func264 (by kernel_rfl) rfl⟩
instance fun265:Fun Tryz.prog 265 Tryz.f265:=⟨Tryz.func265,enters_of Tryz.func265 (by kernel_rfl) rfl⟩
instance fun266:Fun Tryz.prog 266 Tryz.f266:=⟨Tryz.func266,enters_of Tryz.func266 (by kernel_rfl) rfl⟩
instance fun267:Fun Tryz.prog 267 Tryz.f267:=⟨Tryz.func267,enters_of Tryz.func267 (by kernel_rfl) rfl⟩
instance fun268:Fun Tryz.prog 268 Tryz.f268:=⟨Tryz.func268,enters_of Tryz.func268 (by kernel_rfl) rfl⟩
instance fun269:Fun Tryz.prog 269 Tryz.f269:=⟨Tryz.func269,enters_of Tryz.func269 (by kernel_rfl) rfl⟩
instance fun270:Fun Tryz.prog 270 Tryz.f270:=⟨Tryz.func270,enters_of Tryz.func270 (by kernel_rfl) rfl⟩
instance fun271:Fun Tryz.prog 271 Tryz.f271:=⟨Tryz.func271,enters_of Tryz.func271 (by kernel_rfl) rfl⟩
instance fun272:Fun Tryz.prog 272 Tryz.f272:=⟨Tryz.func272,enters_of Tryz.func272 (by kernel_rfl) rfl⟩
instance fun273:Fun Tryz.prog 273 Tryz.f273:=⟨Tryz.func273,enters_of Tryz.func273 (by kernel_rfl) rfl⟩
instance fun274:Fun Tryz.prog 274 Tryz.f274:=⟨Tryz.func274,enters_of Tryz.func274 (by kernel_rfl) rfl⟩
instance fun275:Fun Tryz.prog 275 Tryz.f275:=⟨Tryz.func275,enters_of Tryz.func275 (by kernel_rfl) rfl⟩
instance fun280:Fun Tryz.prog 280 Tryz.f280:=⟨Tryz.func280,enters_of Tryz.func280 (by kernel_rfl) rfl⟩
instance fun281:Fun Tryz.prog 281 Tryz.f281:=⟨Tryz.func281,enters_of Tryz.func281 (by kernel_rfl) rfl⟩
instance fun282:Fun Tryz.prog 282 Tryz.f282:=⟨Tryz.func282,enters_of Tryz.func282 (by kernel_rfl) rfl⟩
instance fun283:Fun Tryz.prog 283 Tryz.f283:=⟨Tryz.func283,enters_of Tryz.func283 (by kernel_rfl) rfl⟩
instance fun284:Fun Tryz.prog 284 Tryz.f284:=⟨Tryz.func284,enters_of Tryz.func284 (by kernel_rfl) rfl⟩
instance fun285:Fun Tryz.prog 285 Tryz.f285:=⟨Tryz.func285,enters_of Tryz.func285 (by kernel_rfl) rfl⟩
instance fun286:Fun Tryz.prog 286 Tryz.f286:=⟨Tryz.func286,enters_of Tryz.func286 (by kernel_rfl) rfl⟩
instance fun292:Fun Tryz.prog 292 Tryz.f292:=⟨Tryz.func292,enters_of Tryz.func292 (by kernel_rfl) rfl⟩
instance fun296:Fun Tryz.prog 296 Tryz.f296:=⟨Tryz.func296,enters_of Tryz.func296 (by kernel_rfl) rfl⟩
instance fun297:Fun Tryz.prog 297 Tryz.f297:=⟨Tryz.func297,enters_of Tryz.func297 (by kernel_rfl) rfl⟩
instance fun300:Fun Tryz.prog 300 Tryz.f300:=⟨Tryz.func300,enters_of Tryz.func300 (by kernel_rfl) rfl⟩
instance fun305:Fun Tryz.prog 305 Tryz.f305:=⟨Tryz.func305,enters_of Tryz.func305 (by kernel_rfl) rfl⟩
instance fun306:Fun Tryz.prog 306 Tryz.f306:=⟨Tryz.func306,enters_of Tryz.func306 (by kernel_rfl) rfl⟩
instance fun307:Fun Tryz.prog 307 Tryz.f307:=⟨Tryz.func307,enters_of Tryz.func307 (by kernel_rfl) rfl⟩
instance fun310:Fun Tryz.prog 310 Tryz.f310:=⟨Tryz.func310,enters_of Tryz.func310 (by kernel_rfl) rfl⟩
instance fun312:Fun Tryz.prog 312 Tryz.f312:=⟨Tryz.func312,enters_of Tryz.func312 (by kernel_rfl) rfl⟩
instance fun316:Fun Tryz.prog 316 Tryz.f316:=⟨Tryz.func316,enters_of Tryz.func316 (by kernel_rfl) rfl⟩
instance fun317:Fun Tryz.prog 317 Tryz.f317:=⟨Tryz.func317,enters_of Tryz.func317 (by kernel_rfl) rfl⟩
instance fun318:Fun Tryz.prog 318 Tryz.f318:=⟨Tryz.func318,enters_of Tryz.func318 (by kernel_rfl) rfl⟩
instance fun325:Fun Tryz.prog 325 Tryz.f325:=⟨Tryz.func325,enters_of Tryz.func325 (by kernel_rfl) rfl⟩
instance fun329:Fun Tryz.prog 329 Tryz.f329:=⟨Tryz.func329,enters_of Tryz.func329 (by kernel_rfl) rfl⟩
instance fun330:Fun Tryz.prog 330 Tryz.f330:=⟨Tryz.func330,enters_of Tryz.func330 (by kernel_rfl) rfl⟩
instance fun331:Fun Tryz.prog 331 Tryz.f331:=⟨Tryz.func331,enters_of Tryz.func331 (by kernel_rfl) rfl⟩
instance fun333:Fun Tryz.prog 333 Tryz.f333:=⟨Tryz.func333,enters_of Tryz.func333 (by kernel_rfl) rfl⟩
instance fun339:Fun Tryz.prog 339 Tryz.f339:=⟨Tryz.func339,enters_of Tryz.func339 (by kernel_rfl) rfl⟩
instance fun341:Fun Tryz.prog 341 Tryz.f341:=⟨Tryz.func341,enters_of Tryz.func341 (by kernel_rfl) rfl⟩
instance fun342:Fun Tryz.prog 342 Tryz.f342:=⟨Tryz.func342,enters_of Tryz.func342 (by kernel_rfl) rfl⟩
instance fun344:Fun Tryz.prog 344 Tryz.f344:=⟨Tryz.func344,enters_of Tryz.func344 (by kernel_rfl) rfl⟩
instance fun346:Fun Tryz.prog 346 Tryz.f346:=⟨Tryz.func346,enters_of Tryz.func346 (by kernel_rfl) rfl⟩
instance fun347:Fun Tryz.prog 347 Tryz.f347:=⟨Tryz.func347,enters_of Tryz.func347 (by kernel_rfl) rfl⟩
instance fun348:Fun Tryz.prog 348 Tryz.f348:=⟨Tryz.func348,enters_of Tryz.func348 (by kernel_rfl) rfl⟩
instance fun349:Fun Tryz.prog 349 Tryz.f349:=⟨Tryz.func349,enters_of Tryz.func349 (by kernel_rfl) rfl⟩
instance fun350:Fun Tryz.prog 350 Tryz.f350:=⟨Tryz.func350,enters_of Tryz.func350 (by kernel_rfl) rfl⟩
instance fun354:Fun Tryz.prog 354 Tryz.f354:=⟨Tryz.func354,enters_of Tryz.func354 (by kernel_rfl) rfl⟩
instance fun356:Fun Tryz.prog 356 Tryz.f356:=⟨Tryz.func356,enters_of Tryz.func356 (by kernel_rfl) rfl⟩
instance fun357:Fun Tryz.prog 357 Tryz.f357:=⟨Tryz.func357,enters_of Tryz.func357 (by kernel_rfl) rfl⟩
instance fun360:Fun Tryz.prog 360 Tryz.f360:=⟨Tryz.func360,enters_of Tryz.func360 (by kernel_rfl) rfl⟩
end Go.Proofs.YtjdjdoefppebkaaGreatDoor
namespace Go.Eng
open Go Go.RowKit Go.Proofs
inductive Nd where
 | mk (kind n:Int) (s:Str) (kids:List Nd)
namespace Nd
def kind:Nd→Int|mk k _ _ _=>k
def num:Nd→Int|mk _ n _ _=>n
def word:Nd→Str|mk _ _ s _=>s
def kids:Nd→List Nd|mk _ _ _ l=>l
theorem eta (x:Nd):x=mk x.kind x.num x.word x.kids:=by cases x;rfl
theorem ind {P:Nd→Prop} (h:∀ k n s l,(∀ x∈l,P x)→P (mk k n s l)):∀ x,P x
 | mk k n s l=>h k n s l (fun x hx=>ind h x)
 decreasing_by
  have:=List.sizeOf_lt_of_mem hx
  simp only [mk.sizeOf_spec]
  omega
end Nd
inductive NRep (X:List Nat) (w:World):Nd→List Value→Prop
 | mk (k n : Int) (s : Str) (l : List Nd) (p : Option Addr) (c : Nat) (b o : Nat) (css : Nat → List Value) (hl : l.length ≤ c) (hm : c ≤ maxLen) (hn : p = none → c = 0)
    (hp:0<l.length→p=some ⟨b,o,none⟩∧b<w.heap.size∧b∉X) (hr:∀ i (h:i<l.length),NRep X w l[i] (css i))
    (hc:∀ i,i<l.length→∀ j u,(css i)[j]?=some u→w.cell? ⟨b,o+i * 4+j,none⟩=some u) :
    NRep X w (.mk k n s l) [.int .i64 k,.int .i64 n,str s,.slice p l.length c]
theorem NRep.ext {X S X':List Nat} {w w':World} {x:Nd} {cs:List Value} (h:NRep X w x cs) (hS:Stp S w w') (h1:∀ b∈S,b∈X) (h2:∀ b∈X',b∈X∨w.heap.size≤b):NRep X' w' x cs:=by
 induction h with
 | mk k n s l p c b o css hl hm hn hp hr hc ih=>
   refine .mk k n s l p c b o css hl hm hn (fun h0=>?_) ih (fun i hi j u hu=>?_)
   obtain ⟨e1,e2,e3⟩:=hp h0
   refine ⟨e1,Nat.lt_of_lt_of_le e2 hS.size,fun hb=>?_⟩
   rcases h2 b hb with h|h
   exact e3 h
   omega
   obtain ⟨_,_,e3⟩:=hp (by omega)
   exact hS.cell (fun hb=>e3 (h1 b hb)) (hc i hi j u hu)
instance:GoRep Nd where
 k:=4
 rep:=NRep
 len:=by intro X w x cs h;cases h;rfl
 one:=by
  intro X w x cs h u hu
  cases h
  simp at hu
  rcases hu with rfl|rfl|rfl|rfl<;>rfl
 ext:=NRep.ext
def NdV (X:List Nat) (w:World) (v:Value) (x:Nd):Prop:=∃ kv,v=.agg #[.int .i64 x.kind,.int .i64 x.num,str x.word,kv]∧SlV X w kv x.kids
theorem nrep_slv {X:List Nat} {w:World} {x:Nd} {cs:List Value} (h:NRep X w x cs):∃ kv,cs=[.int .i64 x.kind,.int .i64 x.num,str x.word,kv]∧SlV X w kv x.kids:=by
 cases h with
 | mk k n s l p c b o css hl hm hn hp hr hc=>
   refine ⟨_,rfl,p,c,rfl,hl,hm,hn,fun i hi=>?_⟩
   obtain ⟨e1,e2,e3⟩:=hp (by show 0<l.length;have:i<l.length:=hi;omega)
   exact ⟨b,o,css i,e1,e2,e3,hr i hi,hc i hi⟩
theorem slv_nrep {X:List Nat} {w:World} {k n:Int} {s:Str} {l:List Nd} {kv:Value} (h:SlV X w kv l):NRep X w (.mk k n s l) [.int .i64 k,.int .i64 n,str s,kv]:=by
 obtain ⟨p,c,rfl,hl,hm,hn,hc⟩:=h
 have hall:∀ i:Fin l.length,∃ cs:List Value,∃ b o,p=some ⟨b,o,none⟩∧b<w.heap.size∧b∉X∧NRep X w l[i] cs∧∀ j u,cs[j]?=some u→w.cell? ⟨b,o+i * 4+j,none⟩=some u:=by
  intro i
  obtain ⟨b,o,cs,h1,h2,h3,h4,h5⟩:=hc i i.2
  exact ⟨cs,b,o,h1,h2,h3,h4,h5⟩
 obtain ⟨f,hf⟩:=Classical.axiomOfChoice hall
 by_cases h0:0<l.length
 obtain ⟨b,o,e1,e2,e3,_⟩:=hf ⟨0,h0⟩
 refine .mk k n s l p c b o (fun i=>if h:i<l.length then f ⟨i,h⟩ else []) hl hm hn (fun _=>⟨e1,e2,e3⟩) (fun i hi=>?_) (fun i hi j u hu=>?_)
 obtain ⟨_,_,_,_,_,g,_⟩:=hf ⟨i,hi⟩
 simpa [hi] using g
 obtain ⟨b',o',g1,_,_,_,g⟩:=hf ⟨i,hi⟩
 rw [e1] at g1
 simp only [Option.some.injEq,Addr.mk.injEq] at g1
 obtain ⟨rfl,rfl,_⟩:=g1
 exact g j u (by simpa [hi] using hu)
 exact .mk k n s l p c 0 0 (fun _=>[]) hl hm hn (fun h=>absurd h h0) (fun i hi=>by omega) (fun i hi=>by omega)
theorem NdV.up {X:List Nat} {w w':World} {v:Value} {x:Nd} (h:NdV X w v x) (hS:Stp [] w w'):NdV X w' v x:=by
 obtain ⟨kv,rfl,hs⟩:=h
 exact ⟨kv,rfl,hs.up hS⟩
theorem SlV.nd {X:List Nat} {w:World} {v:Value} {l:List Nd} {i:Nat} (h:SlV X w v l) (hi:i<l.length):∃ kv,SlV X w kv l[i].kids∧∀ j u,[Value.int .i64 l[i].kind,.int .i64 l[i].num,str l[i].word,kv][j]?=some u→w.cell? (elAddr v i 4 j)=some u:=by
 obtain ⟨cs,hr,hc⟩:=h.cell hi
 obtain ⟨kv,rfl,hs⟩:=nrep_slv hr
 exact ⟨kv,hs,hc⟩
section
variable {P:Program} {n:Nat} {e:Env} {w:World} {d:Option Nat} {ty:TypeId} {pos:String} {af:Array Edge} {g:Option (Nat×Bool)}
theorem PR_loadNd {X:List Nat} {v:Value} {l:List Nd} {i:Nat} {kv:Value} {x:Operand} {t:TypeId} {D:TypeDesc} [hu:Und P t D] (hA:aggB D=true) [hsz:Siz P t 4] (hx:ev e x=some (.pointer (some (elAddr v i 4 0)))) (hs:SlV X w v l) (hi:i<l.length)
 (hc:∀ j u,[Value.int .i64 l[i].kind,.int .i64 l[i].num,str l[i].word,kv][j]?=some u→w.cell? (elAddr v i 4 j)=some u) :
 PR P n ⟨d,.load t x,ty,pos,af,g⟩ e w (.agg #[.int .i64 l[i].kind,.int .i64 l[i].num,str l[i].word,kv]):=by
 obtain ⟨p,l',c,rfl⟩:=hs.isSome hi
 refine PR_loadN (cs:=[.int .i64 l[i].kind,.int .i64 l[i].num,str l[i].word,kv]) hA hx rfl (fun j u hu=>?_)
 have:=hc j u hu
 simpa [elAddr] using this
end
end Go.Eng
namespace Go.Proofs.YtjdjdoefppebkaaGreatDoor
open Go Go.Eng Go.RowKit
abbrev ndC (x:Nd) (kv:Value):List Value:=[.int .i64 x.kind,.int .i64 x.num,str x.word,kv]
theorem ndC_one {X:List Nat} {w:World} {x:Nd} {kv:Value} {l:List Nd} (h:SlV X w kv l):∀ c∈ndC x kv,c.oneCell'=true:=by
 intro c hc
 simp only [ndC,List.mem_cons,List.not_mem_nil,or_false] at hc
 rcases hc with rfl|rfl|rfl|rfl
 rfl
 rfl
 rfl
 exact h.one
end Go.Proofs.YtjdjdoefppebkaaGreatDoor
namespace Go.Eng
open Go Go.RowKit Go.Proofs
class MKey (P:Program) (kt:Nat) (κ:outParam Type) [DecidableEq κ] where
 enc:κ→Value
 chk:∀ (em:Bool) (a:κ) (w:World),(Instr.checkKey em 10000 kt (enc a)).run P w=.ok () w
 find:∀ (a:κ) (es:List MapEntry) (l:List κ) (w:World),es.map (·.key)=l.map enc→
  (Instr.findKey kt (enc a) es).run P w=.ok ((l.findIdx? (fun b=>decide (b=a))).bind fun i=>(es[i]?).map fun e=>(i,e.val)) w
def MapAt {κ:Type} (enc:κ→Value) (w:World) (r:Nat) (l:List (κ×Value)):Prop:=
 ∃ (es:Array MapEntry) (clock:Nat),w.heap[r]?=some (.map es clock)∧es.toList.map (·.key)=l.map (fun p=>enc p.1)∧es.toList.map (·.val)=l.map (·.2)
theorem MapAt.lt {κ:Type} {enc:κ→Value} {w:World} {r:Nat} {l:List (κ×Value)} (h:MapAt enc w r l):r<w.heap.size:=by
 obtain ⟨es,c,h1,_⟩:=h
 exact (Array.getElem?_eq_some_iff.1 h1).1
theorem MapAt.ext {κ:Type} {enc:κ→Value} {S:List Nat} {w w':World} {r:Nat} {l:List (κ×Value)} (h:MapAt enc w r l) (hS:Stp S w w') (hr:r∉S):MapAt enc w' r l:=by
 have hlt:=h.lt
 obtain ⟨es,c,h1,h2⟩:=h
 exact ⟨es,c,by rw [hS.block r hlt hr];exact h1,h2⟩
theorem MapAt.up {κ:Type} {enc:κ→Value} {w w':World} {r:Nat} {l:List (κ×Value)} (h:MapAt enc w r l) (hS:Stp [] w w'):MapAt enc w' r l:=h.ext hS (by simp)
def mget {κ:Type} [DecidableEq κ] (l:List (κ×Value)) (a:κ) (z:Value):Value:=match l.find? (fun p=>decide (p.1=a)) with|some p=>p.2|none=>z
theorem findNow_of {d:TypeDesc} {κ:Type} [DecidableEq κ] (enc:κ→Value) (h:∀ a b:κ,Instr.sameNow d (enc a) (enc b)=some (decide (a=b))) (a:κ):∀ (es:List MapEntry) (l:List κ) (i:Nat),es.map (·.key)=l.map enc→
 Instr.findNow d (enc a) es i=some ((l.findIdx? (fun b=>decide (b=a))).bind fun j=>(es[j]?).map fun e=>(i+j,e.val))
 | [],[],i,_=>by simp [Instr.findNow]
 | [],_ :: _,i,h=>by simp at h
 | _ :: _,[],i,h=>by simp at h
 | e :: es, b :: l, i, hk => by
   simp only [List.map_cons,List.cons.injEq] at hk
   obtain ⟨h1,h2⟩:=hk
   have ih:=findNow_of enc h a es l (i+1) h2
   simp only [Instr.findNow,h1,h]
   by_cases hab:a=b
   subst hab
   simp [List.findIdx?_cons]
   · have hba:¬ b=a:=fun h=>hab h.symm
     simp only [decide_eq_false hab,ih,List.findIdx?_cons,decide_eq_false hba,Bool.false_eq_true,if_false]
     cases l.findIdx? (fun b=>decide (b=a)) with
     | none=>rfl
     | some j=>
       simp only [Option.bind_some,Option.map_some,List.getElem?_cons_succ]
       rw [show i+1+j=i+(j+1) by omega]
theorem findAsking_of {P:Program} {kt:Nat} {κ:Type} [DecidableEq κ] (enc:κ→Value) (h:∀ (a b:κ) (w:World),(Op.equal kt (enc a) (enc b)).run P w=.ok (decide (a=b)) w) (a:κ) (w:World):∀ (es:List MapEntry) (l:List κ) (i:Nat),es.map (·.key)=l.map enc→
 (Instr.findAsking kt (enc a) es i).run P w=.ok ((l.findIdx? (fun b=>decide (b=a))).bind fun j=>(es[j]?).map fun e=>(i+j,e.val)) w
 | [],[],i,_=>by simp [Instr.findAsking]
 | [],_ :: _,i,h=>by simp at h
 | _ :: _,[],i,h=>by simp at h
 | e :: es, b :: l, i, hk => by
   simp only [List.map_cons,List.cons.injEq] at hk
   obtain ⟨h1,h2⟩:=hk
   have ih:=findAsking_of enc h a w es l (i+1) h2
   simp only [Instr.findAsking,h1]
   by_cases hab:a=b
   subst hab
   simp [List.findIdx?_cons,h]
   · have hba:¬ b=a:=fun h=>hab h.symm
     simp only [Sem.run_bind,h,decide_eq_false hab,Result.andThen,List.findIdx?_cons,decide_eq_false hba,Bool.false_eq_true,if_false,ih]
     cases l.findIdx? (fun b=>decide (b=a)) with
     | none=>rfl
     | some j=>
       simp only [Option.bind_some,Option.map_some,List.getElem?_cons_succ]
       rw [show i+1+j=i+(j+1) by omega]
instance {P:Program} {kt:Nat} [hu:Und P kt (.int .i64)]:MKey P kt Int where
 enc:=fun z=>.int .i64 z
 chk:=fun em a w=>MapKept.run_checkKey (k:=.int .i64 a) hu.h (by simp [MapKept.IsKey]) em 9999
 find:=fun a es l w hk=>by
  have:=findNow_of (d:=.int .i64) (fun z:Int=>Value.int .i64 z) (fun a b=>by simp [Instr.sameNow,Bool.beq_eq_decide_eq]) a es l 0 hk
  simpa using MapKept.run_findKey (w:=w) hu.h this
instance instMKeyStr {P:Program} {kt:Nat} [hu:Und P kt .string]:MKey P kt Str where
 enc:=str
 chk:=fun em a w=>MapKept.run_checkKey (k:=str a) hu.h (by simp [MapKept.IsKey]) em 9999
 find:=fun a es l w hk=>by
  have:=findNow_of (d:=.string) str (fun a b=>by
   simp only [Instr.sameNow,Option.some.injEq]
   rw [beq_toListBytes,str_beq]) a es l 0 hk
  simpa using MapKept.run_findKey (w:=w) hu.h this
section
variable {P:Program} {n:Nat} {e:Env} {w:World} {d:Option Nat} {ty:TypeId} {pos:String} {af:Array Edge} {g:Option (Nat×Bool)}
theorem OE_makeMap {t:TypeId} {κ:Type} (enc:κ→Value):OE P n ⟨d,.makeMap t none,ty,pos,af,g⟩ e w (fun v w'=>∃ r,v=.map (some r)∧w.heap.size≤r∧MapAt enc w' r []∧Stp [] w w'):=
 OE_value (v:=.map (some w.heap.size)) (w':=w.alloc (.map #[] 0)) (fun a ha=>by
  simp [execOp,run_makeMap]) ⟨_,rfl,Nat.le_refl _,⟨#[],0,heap_alloc_new w _,rfl,rfl⟩,Stp.alloc _ _ _⟩
theorem find_fresh {κ:Type} [DecidableEq κ] {l:List κ} {a:κ} (h:∀ b∈l,¬ b=a):l.findIdx? (fun b=>decide (b=a))=none:=by
 rw [List.findIdx?_eq_none_iff]
 intro b hb
 simp [h b hb]
theorem run_mapAdd {mt kt et r:Nat} {κ:Type} [DecidableEq κ] [hm:Und P mt (.map kt et)] [K:MKey P kt κ] {l:List (κ×Value)} {a:κ} {v:Value} (hr:MapAt K.enc w r l) (hn:∀ p∈l,¬ p.1=a) :
 ∃ w',(Instr.mapUpdate mt (.map (some r)) (K.enc a) v).run P w=.ok () w'∧MapAt K.enc w' r (l++[(a,v)])∧Stp [r] w w':=by
 obtain ⟨es,clock,h1,h2,h3⟩:=hr
 have hf:(Instr.findKey kt (K.enc a) es.toList).run P w=.ok none w:=by
  have hk:es.toList.map (·.key)=(l.map (·.1)).map K.enc:=by rw [h2,List.map_map];rfl
  rw [K.find a es.toList (l.map (·.1)) w hk,find_fresh (by simpa using hn)]
  rfl
 have hlt:r<w.heap.size:=(Array.getElem?_eq_some_iff.1 h1).1
 refine ⟨{ w with heap:=w.heap.setIfInBounds r (.map (es.push { key:=K.enc a,val:=v,born:=clock }) (clock+1)) },?_,?_,?_⟩
 simp [Instr.mapUpdate,run_underlying hm.h,MapKept.run_getObj_map h1,K.chk,hf,MapKept.run_setObj_map _ h1,Result.andThen]
 refine ⟨es.push { key:=K.enc a,val:=v,born:=clock },clock+1,by simp [hlt],?_,?_⟩
 simp [h2]
 simp [h3]
 refine ⟨rfl,rfl,rfl,by simp,fun b hb hn=>?_⟩
 simp only [List.mem_singleton] at hn
 simp [Array.getElem?_setIfInBounds_ne (fun h=>hn h.symm)]
theorem OE_insert {mt kt et r:Nat} {κ:Type} [DecidableEq κ] {x y z:Operand} [hm:Und P mt (.map kt et)] [K:MKey P kt κ] {l:List (κ×Value)} {a:κ} {v:Value} (hx:ev e x=some (.map (some r))) (hy:ev e y=some (K.enc a)) (hz:ev e z=some v) (hr:MapAt K.enc w r l) (hn:∀ p∈l,¬ p.1=a) :
 OE P n ⟨d,.insert mt x y z,ty,pos,af,g⟩ e w (fun _ w'=>MapAt K.enc w' r (l++[(a,v)])∧Stp [r] w w'):=by
 obtain ⟨w',h1,h2,h3⟩:=run_mapAdd (mt:=mt) (v:=v) hr hn
 exact OE_skip (w':=w') (fun c hc=>by simp [execOp,hc.ev hx,hc.ev hy,hc.ev hz,h1]) ⟨h2,h3⟩
theorem PR_lookup {mt kt et r:Nat} {κ:Type} [DecidableEq κ] {x y:Operand} {z:Value} [hm:Und P mt (.map kt et)] [K:MKey P kt κ] [hz:Zer P et z] {l:List (κ×Value)} {a:κ} (hx:ev e x=some (.map (some r))) (hy:ev e y=some (K.enc a)) (hr:MapAt K.enc w r l) :
 PR P n ⟨d,.lookup mt x y false,ty,pos,af,g⟩ e w (mget l a z):=by
 refine ⟨fun c hc=>?_⟩
 obtain ⟨es,clock,h1,h2,h3⟩:=hr
 have hk:es.toList.map (·.key)=(l.map (·.1)).map K.enc:=by rw [h2,List.map_map];rfl
 have hf:=K.find a es.toList (l.map (·.1)) w hk
 have hlen:es.toList.length=l.length:=by have:=congrArg List.length h3;simpa using this
 have hv:∀ i:Nat,(es.toList[i]?).map (fun x:MapEntry=>x.val)=(l[i]?).map (fun x:κ×Value=>x.2):=fun i=>by
  have:=congrArg (fun x=>x[i]?) h3
  simpa using this
 have hfind:mget l a z=match (l.map (·.1)).findIdx? (fun b=>decide (b=a)) with|some i=>((es.toList[i]?).map (fun x:MapEntry=>x.val)).getD z|none=>z:=by
  unfold mget
  rw [List.findIdx?_map]
  cases hi:l.findIdx? ((fun b=>decide (b=a)) ∘ fun x=>x.1) with
  | none=>
    have:l.find? (fun p=>decide (p.1=a))=none:=by
     rw [List.find?_eq_none]
     intro p hp
     have:=(List.findIdx?_eq_none_iff.1 hi) p hp
     simpa using this
    rw [this]
  | some i=>
    obtain ⟨hlt,hp,hb⟩:=List.findIdx?_eq_some_iff_getElem.1 hi
    have:l.find? (fun p=>decide (p.1=a))=some l[i]:=by
     rw [List.find?_eq_some_iff_getElem]
     exact ⟨by simpa using hp,i,hlt,rfl,fun j hj=>by simpa using hb j hj⟩
    rw [this]
    simp only [hv,List.getElem?_eq_getElem hlt,Option.map_some,Option.getD_some]
 rw [hfind]
 simp only [execOp,hc.ev hx,hc.ev hy]
 cases hi:(l.map (·.1)).findIdx? (fun b=>decide (b=a)) with
 | none=>
   rw [hi] at hf
   simp [Instr.lookup,run_underlying hm.h,MapKept.run_getObj_map h1,K.chk,hf,Result.andThen,Zer.run]
 | some i=>
   obtain ⟨hlt,_⟩:=List.findIdx?_eq_some_iff_getElem.1 hi
   have hlt':i<es.toList.length:=by rw [hlen];simpa using hlt
   rw [hi] at hf
   simp only [Option.bind_some,List.getElem?_eq_getElem hlt',Option.map_some] at hf
   simp [Instr.lookup,run_underlying hm.h,MapKept.run_getObj_map h1,K.chk,hf,Result.andThen,List.getElem?_eq_getElem hlt']
end
end Go.Eng
namespace Go.Proofs.YtjdjdoefppebkaaGreatDoor
open Go Go.Eng Go.RowKit
def idx {α:Type} (p:α→Bool) (xs:List α):Int:=match xs.findIdx? p with|some i=>(i:Int)|none=>-1
theorem idx_of_at {α:Type} {p:α→Bool} {xs:List α} {k:Nat} (hk:k<xs.length) (hp:p xs[k]=true) (hb:∀ j (h:j<xs.length),j<k→p xs[j]=false):idx p xs=k:=by
 have:xs.findIdx? p=some k:=List.findIdx?_eq_some_iff_getElem.2 ⟨hk,hp,fun j hj=>by simp [hb j (by omega) hj]⟩
 simp [idx,this]
theorem idx_of_none {α:Type} {p:α→Bool} {xs:List α} (hb:∀ j (h:j<xs.length),p xs[j]=false):idx p xs=-1:=by
 have:xs.findIdx? p=none:=by
  rw [List.findIdx?_eq_none_iff]
  intro x hx
  obtain ⟨j,hj,rfl⟩:=List.getElem_of_mem hx
  simp [hb j hj]
 simp [idx,this]
abbrev isS (a:Str):Str→Bool:=fun x=>decide (x=a)
theorem index_any (X:List Nat) (v:Value) (l:List Str) (a:Str) (w:World) (hs:SlV X w v l):Calls Tryz.prog 161 #[v,str a] w (Ret fun r w'=>r=.int .i64 (idx (isS a) l)∧Stp [] w w'):=by
 have hmax:=hs.max
 refine calls_of_WC2 (n:=19) Tryz.func161 rfl rfl rfl ?_
 refine W ?_
 refine WC_loop (σ:=Nat) (fun k=>[(0,v),(1,str a),(8,.int .i64 k),(7,.int .i64 (l.length:Int))]) (fun k w'=>k≤l.length∧Stp [] w w'∧∀ j (h:j<l.length),j<k→isS a l[j]=false) (fun k=>l.length - k) 0 ⟨rfl,rfl,rfl,rfl,trivial⟩ ⟨Nat.zero_le _,Stp.refl _ _,fun j _ h=>absurd h (Nat.not_lt_zero _)⟩ ?_
 have hs0:=hs
 clear hs
 rintro k w1 ⟨hk,hS,hno⟩
 have hs:=hs0.up hS
 by_cases hlt:k<l.length
 focus repeat'(first|refine W1 ?_|omega|refine VG ?_ ?_<;>intro hg|refine VC ?_ ?_<;>intro hc)
 refine WR ?_
 have he':isS a l[k]=true:=by simpa [isS,eq_comm] using hc
 exact .mk ⟨by rw [idx_of_at hlt he' hno],hS⟩
 refine WQ_loop (k+1) ⟨rfl,rfl,rfl,rfl,trivial⟩ ⟨hlt,hS,fun j h hj=>?_⟩ (by omega)
 by_cases e:j=k
 subst e;simpa [isS,eq_comm] using hc
 exact hno j h (by omega)
 have hke:k=l.length:=by omega
 subst hke
 focus repeat'(first|refine W1 ?_|omega|refine VG ?_ ?_<;>intro hg|refine VC ?_ ?_<;>intro hc)
 refine WR ?_
 exact .mk ⟨by rw [idx_of_none (fun j h=>hno j h h)],hS⟩
theorem place14_any (X:List Nat) (v:Value) (l:List Str) (a:Str) (w:World) (hs:SlV X w v l):Calls Tryz.prog 191 #[v,str a] w (Ret fun r w'=>r=.int .i64 (idx (isS a) l)∧Stp [] w w'):=by
 have hmax:=hs.max
 refine calls_of_WC2 (n:=19) Tryz.func191 rfl rfl rfl ?_
 refine W ?_
 refine WC_loop (σ:=Nat) (fun k=>[(0,v),(1,str a),(5,.int .i64 k)]) (fun k w'=>k≤l.length∧Stp [] w w'∧∀ j (h:j<l.length),j<k→isS a l[j]=false) (fun k=>l.length - k) 0 ⟨rfl,rfl,rfl,trivial⟩ ⟨Nat.zero_le _,Stp.refl _ _,fun j _ h=>absurd h (Nat.not_lt_zero _)⟩ ?_
 have hs0:=hs
 clear hs
 rintro k w1 ⟨hk,hS,hno⟩
 have hs:=hs0.up hS
 by_cases hlt:k<l.length
 focus repeat'(first|refine W1 ?_|omega|refine VG ?_ ?_<;>intro hg|refine VC ?_ ?_<;>intro hc)
 refine WR ?_
 have he':isS a l[k]=true:=by simpa [isS,eq_comm] using hc
 exact .mk ⟨by rw [idx_of_at hlt he' hno],hS⟩
 refine WQ_loop (k+1) ⟨rfl,rfl,rfl,trivial⟩ ⟨hlt,hS,fun j h hj=>?_⟩ (by omega)
 by_cases e:j=k
 subst e;simpa [isS,eq_comm] using hc
 exact hno j h (by omega)
 have hke:k=l.length:=by omega
 subst hke
 focus repeat'(first|refine W1 ?_|omega|refine VG ?_ ?_<;>intro hg|refine VC ?_ ?_<;>intro hc)
 refine WR ?_
 exact .mk ⟨by rw [idx_of_none (fun j h=>hno j h h)],hS⟩
theorem place15_any (X:List Nat) (v:Value) (l:List Str) (a:Str) (w:World) (hs:SlV X w v l):Calls Tryz.prog 56 #[v,str a] w (Ret fun r w'=>r=.int .i64 (idx (isS a) l)∧Stp [] w w'):=by
 have hmax:=hs.max
 refine calls_of_WC2 (n:=19) Tryz.func56 rfl rfl rfl ?_
 refine W ?_
 refine WC_loop (σ:=Nat) (fun k=>[(0,v),(1,str a),(5,.int .i64 k)]) (fun k w'=>k≤l.length∧Stp [] w w'∧∀ j (h:j<l.length),j<k→isS a l[j]=false) (fun k=>l.length - k) 0 ⟨rfl,rfl,rfl,trivial⟩ ⟨Nat.zero_le _,Stp.refl _ _,fun j _ h=>absurd h (Nat.not_lt_zero _)⟩ ?_
 have hs0:=hs
 clear hs
 rintro k w1 ⟨hk,hS,hno⟩
 have hs:=hs0.up hS
 by_cases hlt:k<l.length
 focus repeat'(first|refine W1 ?_|omega|refine VG ?_ ?_<;>intro hg|refine VC ?_ ?_<;>intro hc)
 refine WR ?_
 have he':isS a l[k]=true:=by simpa [isS,eq_comm] using hc
 exact .mk ⟨by rw [idx_of_at hlt he' hno],hS⟩
 refine WQ_loop (k+1) ⟨rfl,rfl,rfl,trivial⟩ ⟨hlt,hS,fun j h hj=>?_⟩ (by omega)
 by_cases e:j=k
 subst e;simpa [isS,eq_comm] using hc
 exact hno j h (by omega)
 have hke:k=l.length:=by omega
 subst hke
 focus repeat'(first|refine W1 ?_|omega|refine VG ?_ ?_<;>intro hg|refine VC ?_ ?_<;>intro hc)
 refine WR ?_
 exact .mk ⟨by rw [idx_of_none (fun j h=>hno j h h)],hS⟩
def fieldNames:List Str:=[[100,97,121],[115,101,114,118,101,100],[101,120,116,114,97],[98,121],[116,111],[99,111,117,114,116],[97,109,111,117,110,116]]
def fieldF (a:Str):Int×Int×Bool:=
 let i:=idx (isS a) fieldNames
 if i<0 then (0,0,false) else if i≤1 then (i,3,true) else (i,1,true)
abbrev tup3 (x:Int×Int×Bool):Value:=.tuple #[.int .i64 x.1,.int .i64 x.2.1,.bool x.2.2]
def wst (s:Str):Nat→List Str×Nat
 | 0=>([],0)
 | k+1=>if k=s.length∨byte s k=32 then ((wst s k).1++[(s.take k).drop (wst s k).2],k+1) else wst s k
def wordsOf (s:Str):List Str:=(wst s (s.length+1)).1
theorem wst_le (s:Str):∀ k,(wst s k).2≤k∧(wst s k).1.length≤k
 | 0=>by simp [wst]
 | k + 1 => by
   have:=wst_le s k
   simp only [wst]
   split
   simp;omega
   omega
theorem buildSS1 (a:Str) (w:World):(Instr.buildSlice 119 1 #[(0,str a)]).run Tryz.prog w=.ok (.slice (some ⟨w.heap.size,0,none⟩) 1 1) (w.alloc (.cells #[str a] 9)):=by kernel_rfl
theorem words_any (X:List Nat) (s:Str) (w:World) (hX:∀ b∈X,b<w.heap.size) (hl:s.length≤1000) :
 Calls Tryz.prog 192 #[str s] w (Ret fun r w'=>Row X w' w.heap.size 9 r (wordsOf s)∧Stp [] w w'):=by
 refine calls_of_WC1 (n:=32) Tryz.func192 rfl rfl rfl ?_
 refine W ?_
 refine WC_loop (σ:=Nat×Value) (fun q=>[(0,str s),(3,q.2),(4,.int .i64 ((wst s q.1).2:Int)),(5,.int .i64 (q.1:Int))]) (fun q w'=>q.1≤s.length+1∧Row X w' w.heap.size 9 q.2 (wst s q.1).1∧Stp [] w w') (fun q=>s.length+1 - q.1) (0,.slice none 0 0) ⟨rfl,rfl,rfl,rfl,trivial⟩ ⟨by simp,Row.nil,Stp.refl _ _⟩ ?_
 rintro ⟨k,v⟩ w1 ⟨hk,hrow,hS⟩
 dsimp only at hk hrow ⊢
 obtain ⟨hw1,hw2⟩:=wst_le s k
 by_cases hlt:k≤s.length
 · have nxt:wst s (k+1)=if k=s.length∨byte s k=32 then ((wst s k).1++[(s.take k).drop (wst s k).2],k+1) else wst s k:=rfl
   have hbase:=hS.size
   repeat'(first|refine W1 ?_|omega|refine VG ?_ ?_<;>intro hg|refine VC ?_ ?_<;>intro hc)
   rotate_right
   have hno:¬ (k=s.length∨byte s k=32):=by rintro (h|h)<;>omega
   rw [if_neg hno] at nxt
   refine WQ_loop (k+1,v) ⟨rfl,rfl,by rw [nxt];rfl,rfl,trivial⟩ ⟨by dsimp only;omega,by dsimp only;rw [nxt];exact hrow,hS⟩ (by dsimp only;omega)
   all_goals
    have hyes:k=s.length∨byte s k=32:=by omega
    rw [if_pos hyes] at nxt
    apply WL_pure (PR_sliceT_lh rfl rfl rfl rfl rfl (by omega) (by omega)) rfl
    refine WL_eff (OE_buildSlice (vs:=[(0,str _)]) rfl (buildSS1 _)) rfl ?_
    rintro bv w2 hN
    have hSb:=hN.choose_spec.2.2.2
    have hbv:SlV (ob v++X) w2 bv [(s.take k).drop (wst s k).2]:=hN.slv (fun b hb=>(List.mem_append.1 hb).elim (fun h=>(hrow.ob_le b h).2) (fun h=>Nat.lt_of_lt_of_le (hX b h) hbase)) rfl rfl (by simp [maxLen])
    clear hN
    replace hrow:=hrow.up hSb
    replace hS:=hS.trans hSb
    have hbase:=hS.size
    refine WL_eff (OE_append (X:=X) (base:=w.heap.size) rfl (by decide) rfl rfl hrow hbv (by simp only [List.length_cons,List.length_nil];omega) (by simp only [List.length_cons,List.length_nil,maxLen];omega) hbase) rfl ?_
    rintro v' w3 ⟨hrow',hS',_⟩
    refine W ?_
    refine WQ_loop (k+1,v') ⟨rfl,rfl,by rw [nxt];rfl,rfl,trivial⟩ ⟨by dsimp only;omega,by dsimp only;rw [nxt];exact hrow',hS.own hS' (fun b hb=>.inr (hrow.ob_le b hb).1)⟩ (by dsimp only;omega)
 have hke:k=s.length+1:=by omega
 subst hke
 focus repeat'(first|refine W1 ?_|omega|refine VG ?_ ?_<;>intro hg|refine VC ?_ ?_<;>intro hc)
 refine WR ?_
 exact .mk ⟨hrow,hS⟩
theorem _root_.Go.Eng.Row.slv0 {α:Type} [GoRep α] {w:World} {base T:Nat} {v:Value} {xs:List α} (h:Row [] w base T v xs):SlV [] w v xs:=h.slv (by simp)
theorem fields_words:wordsOf [100,97,121,32,115,101,114,118,101,100,32,101,120,116,114,97,32,98,121,32,116,111,32,99,111,117,114,116,32,97,109,111,117,110,116]=fieldNames:=by decide
theorem Fields_any (X:List Nat) (w:World) (hX:∀ b∈X,b<w.heap.size):Calls Tryz.prog 261 #[] w (Ret fun r w'=>Row X w' w.heap.size 9 r fieldNames∧Stp [] w w'):=by
 refine calls_of_WC0 (n:=2) Tryz.func261 rfl rfl ?_
 refine W ?_
 refine CL rfl (evs1 rfl) rfl (words_any X [100,97,121,32,115,101,114,118,101,100,32,101,120,116,114,97,32,98,121,32,116,111,32,99,111,117,114,116,32,97,109,111,117,110,116] _ hX (by decide)) ?_
 rintro v w1 ⟨hr,hS⟩
 rw [fields_words] at hr
 refine W ?_
 refine WR ?_
 exact .mk ⟨hr,hS⟩
theorem Field14_any (a:Str) (w:World):Calls Tryz.prog 194 #[str a] w (Ret fun r w'=>r=tup3 (fieldF a)∧Stp [] w w'):=by
 refine calls_of_WC1 (n:=15) Tryz.func194 rfl rfl rfl ?_
 refine W ?_
 refine CL rfl evs0 rfl (Fields_any [] _ (by simp)) ?_
 rintro v w1 ⟨hr,hS⟩
 refine W ?_
 refine CL rfl (evs2 rfl rfl) rfl (place14_any [] _ _ a _ (hr.slv (by simp))) ?_
 rintro _ w2 ⟨rfl,hS2⟩
 replace hS:=hS.trans hS2
 unfold fieldF
 generalize idx (isS a) fieldNames=i
 repeat'(first|refine W1 ?_|refine VG ?_ ?_<;>intro hg|refine VC ?_ ?_<;>intro hc)
 all_goals (refine WR ?_)
 exact .mk ⟨by simp only [if_pos hc],hS⟩
 rename_i h1
 exact .mk ⟨by simp only [if_neg h1,if_pos hc],hS⟩
 rename_i h1
 exact .mk ⟨by simp only [if_neg h1,if_neg hc],hS⟩
def leafN (k n:Int) (s:Str):Int:=
 if k=4 then (if n=0 then (fieldF s).2.1 else 0) else if ¬ s=[] then 0
 else if k=1 then (if 0≤n∧n≤2147483647 then 1 else 0) else if k=2 then (if 0≤n∧n≤1 then 2 else 0) else if k=3 then (if 0≤n∧n≤3652058 then 3 else 0) else 0
theorem fieldF_no {a:Str} (h:(fieldF a).2.2=false):(fieldF a).2.1=0:=by
 unfold fieldF at h ⊢
 dsimp only at h ⊢
 split<;>rename_i h1
 rfl
 rw [if_neg h1] at h
 split at h<;>simp at h
theorem leaf14_any (X:List Nat) (v:Value) (x:Nd) (w:World) (hx:NdV X w v x) :
 Calls Tryz.prog 188 #[v] w (Ret fun r w'=>r=.int .i64 (leafN x.kind x.num x.word)∧Stp [] w w'):=by
 obtain ⟨kv,rfl,hs⟩:=hx
 refine calls_of_WC1 (n:=69) Tryz.func188 rfl rfl rfl ?_
 refine W ?_
 refine WL_eff (OE_box rfl) rfl ?_
 rintro _ w1 ⟨b,rfl,hb,hblk,hS⟩
 replace hblk:Blk w1 b _ (ndC x kv):=hblk
 repeat'(first|refine W1 ?_|omega|refine VG ?_ ?_<;>intro hg|refine VC ?_ ?_<;>intro hc)
 · refine CL rfl (evs1 rfl) rfl (Field14_any x.word _) ?_
   rintro _ w2 ⟨rfl,hS2⟩
   have hno:=@fieldF_no x.word
   have hk:x.kind=4:=hc
   generalize hfd:fieldF x.word=fd at *
   obtain ⟨f1,f2,f3⟩:=fd
   replace hblk:=hblk.up hS2
   replace hS:=hS.trans hS2
   cases f3 with
   | true=>
     repeat'(first|refine W1 ?_|omega|refine VG ?_ ?_<;>intro hg|refine VC ?_ ?_<;>intro hc)
     all_goals (refine WR ?_)
     refine .mk ⟨?_,hS⟩
     simp only [leafN,if_pos hk]
     rw [if_neg (by assumption)]
     refine .mk ⟨?_,hS⟩
     simp only [leafN,if_pos hk]
     rw [if_pos (by omega),hfd]
     rfl
   | false=>
     have h0:=hno rfl
     dsimp only at h0
     subst h0
     repeat'(first|refine W1 ?_|omega|refine VG ?_ ?_<;>intro hg|refine VC ?_ ?_<;>intro hc)
     all_goals (refine WR ?_)
     refine .mk ⟨?_,hS⟩
     simp only [leafN,if_pos hk]
     split
     rw [hfd]
     rfl
 all_goals (refine WR ?_)
 all_goals
  refine .mk ⟨?_,hS⟩
  simp only [leafN]
  repeat' split
  all_goals first|rfl|omega|(exfalso;simp_all;done)|(exfalso;simp_all;omega)
def areB (l want:List Int):Bool:=decide (l=want∧∀ x∈l,x≠0)
set_option maxHeartbeats 1000000 in
theorem are_any (X Y:List Nat) (u v:Value) (l m:List Int) (w:World) (hl:SlV X w u l) (hm:SlV Y w v m) :
 Calls Tryz.prog 189 #[u,v] w (Ret fun r w'=>r=.bool (areB l m)∧Stp [] w w'):=by
 have hmax:=hl.max
 have hmax2:=hm.max
 refine calls_of_WC2 (n:=33) Tryz.func189 rfl rfl rfl ?_
 repeat'(first|refine W1 ?_|omega|refine VG ?_ ?_<;>intro hg|refine VC ?_ ?_<;>intro hc)
 refine WR ?_
 refine .mk ⟨?_,Stp.refl _ _⟩
 congr 1
 symm
 refine decide_eq_false (fun h=>?_)
 have:=congrArg List.length h.1
 omega
 have hlen:l.length=m.length:=by omega
 have hl0:=hl
 have hm0:=hm
 refine WC_loop (σ:=Nat) (fun k=>[(0,u),(1,v),(5,.int .i64 k)]) (fun k w'=>k≤l.length∧Stp [] w w'∧∀ j (h:j<l.length) (h':j<m.length),j<k→l[j]=m[j]∧l[j]≠0) (fun k=>l.length - k) 0 ⟨rfl,rfl,rfl,trivial⟩ ⟨Nat.zero_le _,Stp.refl _ _,fun j _ _ h=>absurd h (Nat.not_lt_zero _)⟩ ?_
 clear hl hm
 rintro k w1 ⟨hk,hS,hall⟩
 have hl:=hl0.up hS
 have hm:=hm0.up hS
 by_cases hlt:k<l.length
 · have hlt2:k<m.length:=by omega
   repeat'(first|refine W1 ?_|omega|refine VG ?_ ?_<;>intro hg|refine VC ?_ ?_<;>intro hc)
   refine WC_drawn 16 [] [] [(0,0),(1,0),(2,0),(3,1),(4,0),(5,0),(6,0),(7,1),(8,0),(9,0),(10,0),(11,0),(12,0),(13,1),(14,0),(15,0)] rfl mixed (by kernel_rfl) (by kernel_rfl) (by kernel_rfl) (fun w1 hS1=>?_)
   replace hl:=hl.up hS1;replace hm:=hm.up hS1
   replace hS:=hS.trans hS1
   repeat'(first|refine D1 ?_|omega|refine WD_splitN rfl rfl rfl rfl (fun hg=>?_) (fun hg=>?_)|(refine WD_splitBN rfl rfl rfl rfl (fun hg=>?_) (fun hg=>?_)<;>refine D1 ?_)|fail)
   all_goals (repeat'(first|refine W1 ?_|omega|refine VG ?_ ?_<;>intro hg|refine VC ?_ ?_<;>intro hc))
   all_goals first
    | (refine WQ_loop (k + 1) ⟨rfl, rfl, rfl, trivial⟩ ⟨hlt, hS, fun j h h' hj => ?_⟩ (by omega)
       by_cases e:j=k
       subst e;omega
       exact hall j h h' (by omega))
    | (refine WR ?_)
   all_goals
    refine .mk ⟨?_,hS⟩
    congr 1
    symm
    refine decide_eq_false (fun h=>?_)
    obtain ⟨rfl,h2⟩:=h
    have:=h2 _ (List.getElem_mem hlt)
    omega
 focus repeat'(first|refine W1 ?_|omega|refine VG ?_ ?_<;>intro hg|refine VC ?_ ?_<;>intro hc)
 refine WR ?_
 refine .mk ⟨?_,hS⟩
 congr 1
 symm
 refine decide_eq_true ⟨List.ext_getElem hlen (fun j h h'=>(hall j h h' (by omega)).1),fun x hx=>?_⟩
 obtain ⟨j,hj,rfl⟩:=List.getElem_of_mem hx
 exact (hall j hj (by omega) (by omega)).2
theorem buildSI1 (a:Int) (w:World):(Instr.buildSlice 22 1 #[(0,.int .i64 a)]).run Tryz.prog w=.ok (.slice (some ⟨w.heap.size,0,none⟩) 1 1) (w.alloc (.cells #[.int .i64 a] 3)):=by kernel_rfl
theorem buildSI2 (a b:Int) (w:World):(Instr.buildSlice 22 2 #[(0,.int .i64 a),(1,.int .i64 b)]).run Tryz.prog w=.ok (.slice (some ⟨w.heap.size,0,none⟩) 2 2) (w.alloc (.cells #[.int .i64 a,.int .i64 b] 3)):=by kernel_rfl
theorem buildSI3 (a b c:Int) (w:World):(Instr.buildSlice 22 3 #[(0,.int .i64 a),(1,.int .i64 b),(2,.int .i64 c)]).run Tryz.prog w=.ok (.slice (some ⟨w.heap.size,0,none⟩) 3 3) (w.alloc (.cells #[.int .i64 a,.int .i64 b,.int .i64 c] 3)):=by kernel_rfl
theorem NewSl.stp {w w':World} {T len:Nat} {cs:List Value} {v:Value} (h:NewSl w T len cs v w'):Stp [] w w':=h.choose_spec.2.2.2
def opsA:List Str:=[[43],[45],[42]]
def opsC:List Str:=[[60],[60,61],[61],[33,61],[62],[62,61]]
def opsL:List Str:=[[97,110,100],[111,114]]
theorem opsA_words:wordsOf [43,32,45,32,42]=opsA:=by decide
theorem opsC_words:wordsOf [60,32,60,61,32,61,32,33,61,32,62,32,62,61]=opsC:=by decide
theorem opsL_words:wordsOf [97,110,100,32,111,114]=opsL:=by decide
def binR (s:Str) (l:List Int):Int:=
 if 0≤idx (isS s) opsA∧areB l [1,1]=true then 1 else if 0≤idx (isS s) opsC∧(areB l [1,1]=true∨areB l [3,3]=true) then 2 else if 0≤idx (isS s) opsL∧areB l [2,2]=true then 2 else 0
theorem binary14_any (X:List Nat) (s:Str) (u:Value) (l:List Int) (w:World) (hl:SlV X w u l) :
 Calls Tryz.prog 190 #[str s,u] w (Ret fun r w'=>r=.int .i64 (binR s l)∧Stp [] w w'):=by
 refine calls_of_WC2 (n:=42) Tryz.func190 rfl rfl rfl ?_
 refine W ?_
 refine WL_eff (OE_buildSlice (vs:=[(0,.int .i64 1),(1,.int .i64 1)]) rfl (buildSI2 _ _)) rfl ?_
 rintro a1 w1 hN
 have ha:=hN.slv (X:=[]) (ys:=[(1:Int),1]) (by simp) rfl rfl (by simp [maxLen])
 have hS:=NewSl.stp hN
 clear hN
 replace hl:=hl.up hS
 refine CL rfl (evs2 rfl rfl) rfl (are_any _ _ _ _ _ _ _ hl ha) ?_
 rintro _ w2 ⟨rfl,hS2⟩
 replace hl:=hl.up hS2
 replace hS:=hS.trans hS2
 refine W ?_
 refine WL_eff (OE_buildSlice (vs:=[(0,.int .i64 3),(1,.int .i64 3)]) rfl (buildSI2 _ _)) rfl ?_
 rintro a3 w3 hN
 have ha:=hN.slv (X:=[]) (ys:=[(3:Int),3]) (by simp) rfl rfl (by simp [maxLen])
 have hS3:=NewSl.stp hN
 clear hN
 replace hl:=hl.up hS3
 replace hS:=hS.trans hS3
 refine CL rfl (evs2 rfl rfl) rfl (are_any _ _ _ _ _ _ _ hl ha) ?_
 rintro _ w4 ⟨rfl,hS4⟩
 replace hl:=hl.up hS4
 replace hS:=hS.trans hS4
 clear ha
 unfold binR
 generalize areB l [1,1]=p1
 generalize areB l [3,3]=p3
 refine W ?_
 refine CL rfl (evs1 rfl) rfl (words_any [] [43,32,45,32,42] _ (by simp) (by decide)) ?_
 rintro _ w5 ⟨hr,hS5⟩
 rw [opsA_words] at hr
 replace hl:=hl.up hS5
 replace hS:=hS.trans hS5
 refine W ?_
 refine CL rfl (evs2 rfl rfl) rfl (place14_any [] _ _ s _ hr.slv0) ?_
 rintro _ w6 ⟨rfl,hS6⟩
 replace hl:=hl.up hS6
 replace hS:=hS.trans hS6
 generalize idx (isS s) opsA=i1
 clear hr
 cases p1<;>cases p3<;>by_cases hi:0≤i1
 all_goals (repeat'(first|refine W1 ?_|omega|refine VG ?_ ?_<;>intro hg|refine VC ?_ ?_<;>intro hc))
 all_goals first
  | (refine CL rfl (evs1 rfl) rfl (words_any [] [60, 32, 60, 61, 32, 61, 32, 33, 61, 32, 62, 32, 62, 61] _ (by simp) (by decide)) ?_
     rintro _ w7 ⟨hr,hS7⟩
     rw [opsC_words] at hr
     replace hl:=hl.up hS7
     replace hS:=hS.trans hS7
     refine W ?_
     refine CL rfl (evs2 rfl rfl) rfl (place14_any [] _ _ s _ hr.slv0) ?_
     rintro _ w8 ⟨rfl,hS8⟩
     replace hl:=hl.up hS8
     replace hS:=hS.trans hS8
     generalize idx (isS s) opsC=i2
     clear hr
     by_cases hi2:0≤i2)
  | (refine WR ?_
     exact .mk ⟨by simp [hi],hS⟩)
 all_goals (repeat'(first|refine W1 ?_|omega|refine VG ?_ ?_<;>intro hg|refine VC ?_ ?_<;>intro hc))
 all_goals first
  | (refine CL rfl (evs1 rfl) rfl (words_any [] [97, 110, 100, 32, 111, 114] _ (by simp) (by decide)) ?_
     rintro _ w9 ⟨hr,hS9⟩
     rw [opsL_words] at hr
     replace hl:=hl.up hS9
     replace hS:=hS.trans hS9
     refine W ?_
     refine CL rfl (evs2 rfl rfl) rfl (place14_any [] _ _ s _ hr.slv0) ?_
     rintro _ w10 ⟨rfl,hS10⟩
     replace hl:=hl.up hS10
     replace hS:=hS.trans hS10
     generalize idx (isS s) opsL=i3
     clear hr
     by_cases hi3:0≤i3)
  | (refine WR ?_
     exact .mk ⟨by simp [hi,hi2],hS⟩)
 all_goals (repeat'(first|refine W1 ?_|omega|refine VG ?_ ?_<;>intro hg|refine VC ?_ ?_<;>intro hc))
 all_goals first
  | (refine WL_eff (OE_buildSlice (vs := [(0, .int .i64 2), (1, .int .i64 2)]) rfl (buildSI2 _ _)) rfl ?_
     rintro a2 w11 hN
     have ha:=hN.slv (X:=[]) (ys:=[(2:Int),2]) (by simp) rfl rfl (by simp [maxLen])
     have hS11:=NewSl.stp hN
     clear hN
     replace hl:=hl.up hS11
     replace hS:=hS.trans hS11
     refine W ?_
     refine CL rfl (evs2 rfl rfl) rfl (are_any _ _ _ _ _ _ _ hl ha) ?_
     rintro _ w12 ⟨rfl,hS12⟩
     replace hS:=hS.trans hS12
     generalize areB l [2,2]=p2
     cases p2)
  | (refine WR ?_
     exact .mk ⟨by simp [hi,hi2,hi3],hS⟩)
 all_goals (refine W ?_)
 all_goals (refine WR ?_)
 all_goals exact .mk ⟨by simp [hi,hi2,hi3],hS⟩
structure Sig where
 kind:Int
 s:Str
 a:Int
 b:Int
 c:Int
 deriving DecidableEq
theorem buildSS4 (a b c d:Str) (w:World):(Instr.buildSlice 119 4 #[(0,str a),(1,str b),(2,str c),(3,str d)]).run Tryz.prog w=.ok (.slice (some ⟨w.heap.size,0,none⟩) 4 4) (w.alloc (.cells #[str a,str b,str c,str d] 9)):=by kernel_rfl
abbrev SigE:=Sig×Value
def ent:Nat→SigE
 | 5=>(⟨5,[45],1,0,0⟩,.int .i64 1)
 | 10=>(⟨5,[110,111,116],2,0,0⟩,.int .i64 2)
 | 15=>(⟨10,[110,101,120,116],3,0,0⟩,.int .i64 3)
 | 20=>(⟨10,[112,114,101,118],3,0,0⟩,.int .i64 3)
 | 26=>(⟨10,[108,97,116,101,114],3,3,0⟩,.int .i64 3)
 | 32=>(⟨10,[101,97,114,108,105,101,114],3,3,0⟩,.int .i64 3)
 | _=>(⟨10,[98,101,116,119,101,101,110],3,3,0⟩,.int .i64 1)
def ents:List Nat:=[5,10,15,20,26,32,38]
def units:List Str:=[[100,97,121,115],[119,101,101,107,115],[109,111,110,116,104,115],[99,111,117,114,116,100,97,121,115]]
def unitE (u:Str):List SigE:=[(⟨7,u,3,1,0⟩,.int .i64 3),(⟨8,u,3,1,0⟩,.int .i64 3)]
def sigs:List SigE:=ents.map ent++units.flatMap unitE
def sigF (x:Sig):Value:=mget sigs x (.int .i64 0)
def binT (s:Str) (a b:Int):Int:=
 if s∈opsA then (if a=b∧a=1 then 1 else 0) else if s∈opsC then (if a=b∧¬ a=2 then 2 else 0) else if s∈opsL then (if a=b∧a=2 then 2 else 0) else 0
theorem _root_.Go.Eng.SlV.on {α:Type} [GoRep α] {X S:List Nat} {w w':World} {v:Value} {xs:List α} (h:SlV X w v xs) (hS:Stp S w w') (hs:∀ b∈S,b∈X):SlV X w' v xs:=h.ext hS hs (fun _ h=>.inl h)
def sigI (x:Sig):Int:=match sigF x with|.int _ z=>z|_=>0
theorem sigF_int (x:Sig):sigF x=.int .i64 (sigI x):=by
 have:∀ p∈sigs,∃ z,p.2=Value.int .i64 z:=by
  intro p hp
  simp only [sigs,ents,units,List.map_cons,List.map_nil,List.flatMap_cons,List.flatMap_nil,unitE,List.cons_append,List.nil_append,List.append_nil,List.mem_cons,List.not_mem_nil,or_false,ent] at hp
  rcases hp with rfl|rfl|rfl|rfl|rfl|rfl|rfl|rfl|rfl|rfl|rfl|rfl|rfl|rfl|rfl<;>exact ⟨_,rfl⟩
 unfold sigI sigF mget
 cases h:sigs.find? (fun p=>decide (p.1=x)) with
 | none=>rfl
 | some p=>
   obtain ⟨z,hz⟩:=this p (List.mem_of_find?_eq_some h)
   simp only [hz]
def combT (k n:Int) (s:Str) (ts:List Int):Int:=
 if ts.length > 3 then 0 else if (0:Int)∈ts then 0 else if ts=[] then leafN k n s else if ¬ n=0 then 0
 else if k=9∧s=[]∧ts.getD 0 0=2∧ts.getD 1 0=ts.getD 2 0 then ts.getD 1 0
 else if k=6∧ts.getD 2 0=0 then binT s (ts.getD 0 0) (ts.getD 1 0) else sigI ⟨k,s,ts.getD 0 0,ts.getD 1 0,ts.getD 2 0⟩
def typeT:Nd→Int
 | .mk k n s l=>combT k n s (l.map typeT)
theorem typeT_eq (x:Nd):typeT x=combT x.kind x.num x.word (x.kids.map typeT):=by
 cases x
 rw [typeT]
 rfl
theorem sig_vals:∀ p∈sigs,∃ z,p.2=Value.int .i64 z:=by
 intro p hp
 simp only [sigs,ents,units,List.map_cons,List.map_nil,List.flatMap_cons,List.flatMap_nil,unitE,List.cons_append,List.nil_append,List.append_nil,List.mem_cons,List.not_mem_nil,or_false,ent] at hp
 rcases hp with rfl|rfl|rfl|rfl|rfl|rfl|rfl|rfl|rfl|rfl|rfl|rfl|rfl|rfl|rfl<;>exact ⟨_,rfl⟩
theorem sigI_none {x:Sig} (h:¬ ∃ p∈sigs,p.1=x):sigI x=0:=by
 unfold sigI sigF mget
 have:sigs.find? (fun p=>decide (p.1=x))=none:=by
  rw [List.find?_eq_none]
  intro p hp
  simpa using fun e=>h ⟨p,hp,e⟩
 rw [this]
def opsN:List Str:=[[110,101,120,116],[112,114,101,118]]
def opsE:List Str:=[[108,97,116,101,114],[101,97,114,108,105,101,114]]
theorem opsN_words:wordsOf [110,101,120,116,32,112,114,101,118]=opsN:=by decide
theorem opsE_words:wordsOf [108,97,116,101,114,32,101,97,114,108,105,101,114]=opsE:=by decide
theorem units_words:wordsOf [100,97,121,115,32,119,101,101,107,115,32,109,111,110,116,104,115,32,99,111,117,114,116,100,97,121,115]=units:=by decide
theorem idx_mem {s:Str} {l:List Str}:0≤idx (isS s) l↔s∈l:=by
 unfold idx
 cases h:l.findIdx? (isS s) with
 | none=>
   rw [List.findIdx?_eq_none_iff] at h
   constructor
   intro h0
   simp at h0
   intro hm
   have:=h s hm
   simp at this
 | some i=>
   obtain ⟨hi,hp,_⟩:=List.findIdx?_eq_some_iff_getElem.1 h
   constructor
   intro _
   have:l[i]=s:=by simpa using hp
   rw [← this]
   exact List.getElem_mem _
   intro _
   simp
def callR (s:Str) (l:List Int):Int:=
 if 0≤idx (isS s) opsN∧areB l [3]=true then 3 else if 0≤idx (isS s) opsE∧areB l [3,3]=true then 3 else if s=[98,101,116,119,101,101,110]∧areB l [3,3]=true then 1 else 0
def combR (k n:Int) (s:Str) (ts:List Int):Int:=
 if ts=[] then leafN k n s else if ¬ n=0 then 0
 else if k=5 then (if s=[45]∧areB ts [1]=true∨s=[110,111,116]∧areB ts [2]=true then ts.getD 0 0 else 0)
 else if k=6 then binR s ts
 else if k=7∨k=8 then (if 0≤idx (isS s) units∧areB ts [3,1]=true then 3 else 0)
 else if k=9 then (if s=[]∧ts.length=3∧areB ts [2,ts.getD 1 0,ts.getD 1 0]=true then ts.getD 1 0 else 0)
 else if k=10 then callR s ts else 0
theorem areB_iff {l m:List Int}:areB l m=true↔l=m∧∀ x∈l,x≠0:=by simp [areB]
theorem areB_no {l m:List Int} (h:¬ (l=m∧∀ x∈l,x≠0)):areB l m=false:=by simp [areB];simpa using h
theorem combR_bad (k n:Int) (s:Str) (ts:List Int) (h0:¬ ts=[]) (hb:(0:Int)∈ts∨ts.length > 3):combR k n s ts=0:=by
 have hno:∀ m:List Int,m.length≤3→areB ts m=false:=fun m hm=>areB_no (fun ⟨h1,h2⟩=>by
  rcases hb with hb|hb
  exact h2 0 hb rfl
  rw [h1] at hb;omega)
 unfold combR binR callR
 simp only [hno _ (show [(1:Int)].length≤3 by decide),hno _ (show [(2:Int)].length≤3 by decide),hno _ (show [(3:Int)].length≤3 by decide),hno [1,1] (by decide),hno [3,3] (by decide),hno [2,2] (by decide),hno [3,1] (by decide),hno [2,ts.getD 1 0,ts.getD 1 0] (by simp),if_neg h0]
 simp
theorem binR_eq (s:Str) (a b:Int) (ha:a≠0) (hb:b≠0) (hr:1≤a∧a≤3) (hr2:1≤b∧b≤3):binR s [a,b]=binT s a b:=by
 unfold binR binT
 simp only [idx_mem,areB_iff]
 have e:∀ c d:Int,([a,b]=[c,d]∧∀ x∈[a,b],x≠0)↔(a=c∧b=d):=fun c d=>by simp [ha,hb]
 simp only [e]
 by_cases hA:s∈opsA
 have hC:¬ s∈opsC:=by
  simp only [opsA,List.mem_cons,List.not_mem_nil,or_false] at hA
  rcases hA with rfl|rfl|rfl<;>decide
 have hL:¬ s∈opsL:=by
  simp only [opsA,List.mem_cons,List.not_mem_nil,or_false] at hA
  rcases hA with rfl|rfl|rfl<;>decide
 simp only [hA,hC,hL,true_and,false_and,if_false,if_true]
 by_cases h1:a=1∧b=1
 rw [if_pos h1,if_pos ⟨by omega,by omega⟩]
 rw [if_neg h1,if_neg (fun h=>by omega)]
 simp only [hA,false_and,if_false]
 by_cases hC:s∈opsC
 have hL:¬ s∈opsL:=by
  simp only [opsC,List.mem_cons,List.not_mem_nil,or_false] at hC
  rcases hC with rfl|rfl|rfl|rfl|rfl|rfl<;>decide
 simp only [hC,hL,true_and,false_and,if_false,if_true]
 by_cases h1:a=1∧b=1∨a=3∧b=3
 rw [if_pos h1,if_pos ⟨by omega,by omega⟩]
 rw [if_neg h1,if_neg (fun h=>by omega)]
 simp only [hC,false_and,if_false]
 by_cases hL:s∈opsL
 simp only [hL,true_and,if_true]
 by_cases h1:a=2∧b=2
 rw [if_pos h1,if_pos ⟨by omega,by omega⟩]
 rw [if_neg h1,if_neg (fun h=>by omega)]
 simp only [hL,false_and,if_false]
def keysS:List Sig:=sigs.map (·.1)
def sigG (k:Int) (s:Str) (a b c:Int):Int:=
 if c=0 then
  if b=0 then (if k=5∧s=[45]∧a=1 then 1 else if k=5∧s=[110,111,116]∧a=2 then 2 else if k=10∧s∈opsN∧a=3 then 3 else 0)
  else if a=3∧b=3∧k=10∧s∈opsE then 3 else if a=3∧b=3∧k=10∧s=[98,101,116,119,101,101,110] then 1 else if a=3∧b=1∧(k=7∨k=8)∧s∈units then 3 else 0
 else 0
theorem keys_all:∀ x∈keysS,sigI x=sigG x.kind x.s x.a x.b x.c:=by
 intro x hx
 simp only [keysS,sigs,ents,units,List.map_cons,List.map_nil,List.flatMap_cons,List.flatMap_nil,unitE,List.cons_append,List.nil_append,List.append_nil,List.mem_cons,List.not_mem_nil,or_false,ent] at hx
 rcases hx with rfl|rfl|rfl|rfl|rfl|rfl|rfl|rfl|rfl|rfl|rfl|rfl|rfl|rfl|rfl<;>decide
theorem sigI_eq (k:Int) (s:Str) (a b c:Int):sigI ⟨k,s,a,b,c⟩=sigG k s a b c:=by
 by_cases hx:(⟨k,s,a,b,c⟩:Sig)∈keysS
 exact keys_all _ hx
 rw [sigI_none (fun ⟨p,hp,e⟩=>hx (e ▸ List.mem_map_of_mem hp))]
 unfold sigG
 symm
 split
 rename_i hc
 subst hc
 split
 rename_i hb
 subst hb
 split
 rename_i h;obtain ⟨rfl,rfl,rfl⟩:=h;exact absurd (by decide) hx
 split
 rename_i h;obtain ⟨rfl,rfl,rfl⟩:=h;exact absurd (by decide) hx
 split
 rename_i h
 obtain ⟨rfl,h,rfl⟩:=h
 simp only [opsN,List.mem_cons,List.not_mem_nil,or_false] at h
 rcases h with rfl|rfl<;>exact absurd (by decide) hx
 rfl
 split
 rename_i h
 obtain ⟨rfl,rfl,rfl,h⟩:=h
 simp only [opsE,List.mem_cons,List.not_mem_nil,or_false] at h
 rcases h with rfl|rfl<;>exact absurd (by decide) hx
 split
 rename_i h;obtain ⟨rfl,rfl,rfl,rfl⟩:=h;exact absurd (by decide) hx
 split
 rename_i h
 obtain ⟨rfl,rfl,h1,h⟩:=h
 simp only [units,List.mem_cons,List.not_mem_nil,or_false] at h
 rcases h1 with rfl|rfl<;>rcases h with rfl|rfl|rfl|rfl<;>exact absurd (by decide) hx
 rfl
 rfl
theorem areB1 {a x:Int} (ha:a≠0):areB [a] [x]=decide (a=x):=by simp [areB,ha]
theorem areB2 {a b x y:Int} (ha:a≠0) (hb:b≠0):areB [a,b] [x,y]=decide (a=x∧b=y):=by simp [areB,ha,hb]
theorem areB3 {a b c x y z:Int} (ha:a≠0) (hb:b≠0) (hc:c≠0):areB [a,b,c] [x,y,z]=decide (a=x∧b=y∧c=z):=by simp [areB,ha,hb,hc]
theorem areB_len {l m:List Int} (h:¬ l.length=m.length):areB l m=false:=areB_no (fun h'=>h (by rw [h'.1]))
theorem combR_eq (k n:Int) (s:Str) (ts:List Int) (hr:∀ t∈ts,0≤t∧t≤3):combR k n s ts=combT k n s ts:=by
 by_cases h0:ts=[]
 subst h0;simp [combR,combT]
 by_cases hb:(0:Int)∈ts∨ts.length > 3
 rw [combR_bad k n s ts h0 hb]
 unfold combT
 rcases hb with hb|hb
 simp [hb]
 simp [show ts.length > 3 from hb]
 have hz:¬ (0:Int)∈ts:=fun h=>hb (.inl h)
 have hl:¬ ts.length > 3:=fun h=>hb (.inr h)
 unfold combR combT
 rw [if_neg h0,if_neg hl,if_neg hz,if_neg h0]
 by_cases hn:¬ n=0
 rw [if_pos hn,if_pos hn]
 rw [if_neg hn,if_neg hn]
 match ts,h0,hl with
 | [a], _, _=>
   have ha:a≠0:=fun e=>hz (by simp [e])
   have hra:=hr a (by simp)
   simp only [List.getD_cons_zero,List.getD_cons_succ,List.getD_nil,sigI_eq,callR,binR,idx_mem,areB1 ha,areB_len (show ¬ [a].length=[(1:Int),1].length by simp),areB_len (show ¬ [a].length=[(3:Int),3].length by simp),areB_len (show ¬ [a].length=[(2:Int),2].length by simp),areB_len (show ¬ [a].length=[(3:Int),1].length by simp),decide_eq_true_eq]
   have hb0:binT s a 0=0:=by
    unfold binT
    have h1:¬ (a=0∧a=1):=fun h=>ha h.1
    have h2:¬ (a=0∧¬ a=2):=fun h=>ha h.1
    have h3:¬ (a=0∧a=2):=fun h=>ha h.1
    simp only [if_neg h1,if_neg h2,if_neg h3,ite_self]
   simp only [hb0,sigG,List.length_cons,List.length_nil,Bool.false_eq_true,and_false,or_self,if_false]
   grind (splits:=40)
 | [a, b], _, _=>
   have ha:a≠0:=fun e=>hz (by simp [e])
   have hb:b≠0:=fun e=>hz (by simp [e])
   have hra:=hr a (by simp)
   have hrb:=hr b (by simp)
   simp only [List.getD_cons_zero,List.getD_cons_succ,List.getD_nil,sigI_eq,callR,binR_eq s a b ha hb (by omega) (by omega),idx_mem,areB2 ha hb,areB_len (show ¬ [a,b].length=[(1:Int)].length by simp),areB_len (show ¬ [a,b].length=[(2:Int)].length by simp),areB_len (show ¬ [a,b].length=[(3:Int)].length by simp),decide_eq_true_eq]
   simp only [sigG,List.length_cons,List.length_nil,Bool.false_eq_true,and_false,or_self,if_false]
   grind (splits:=40)
 | [a, b, c], _, _=>
   have ha:a≠0:=fun e=>hz (by simp [e])
   have hb:b≠0:=fun e=>hz (by simp [e])
   have hc:c≠0:=fun e=>hz (by simp [e])
   have hra:=hr a (by simp)
   have hrb:=hr b (by simp)
   have hrc:=hr c (by simp)
   simp only [List.getD_cons_zero,List.getD_cons_succ,sigI_eq,callR,binR,idx_mem,areB3 ha hb hc,areB_len (show ¬ [a,b,c].length=[(1:Int)].length by simp),areB_len (show ¬ [a,b,c].length=[(2:Int)].length by simp),areB_len (show ¬ [a,b,c].length=[(3:Int)].length by simp),areB_len (show ¬ [a,b,c].length=[(1:Int),1].length by simp),areB_len (show ¬ [a,b,c].length=[(3:Int),3].length by simp),areB_len (show ¬ [a,b,c].length=[(2:Int),2].length by simp),areB_len (show ¬ [a,b,c].length=[(3:Int),1].length by simp),decide_eq_true_eq]
   simp only [sigG,List.length_cons,List.length_nil,Bool.false_eq_true,and_false,or_self,if_false]
   grind (splits:=40)
 | _ :: _ :: _ :: _ :: _,_,hl=>exact absurd (by simp) hl
theorem leafN_range (k n:Int) (s:Str):0≤leafN k n s∧leafN k n s≤3:=by
 have h:0≤(fieldF s).2.1∧(fieldF s).2.1≤3:=by
  unfold fieldF
  dsimp only
  split
  simp
  split<;>simp
 unfold leafN
 grind
theorem combT_range (k n:Int) (s:Str) (ts:List Int) (hr:∀ t∈ts,0≤t∧t≤3):0≤combT k n s ts∧combT k n s ts≤3:=by
 unfold combT
 split
 omega
 split
 omega
 split
 exact leafN_range _ _ _
 split
 omega
 have hg:∀ i,0≤ts.getD i 0∧ts.getD i 0≤3:=by
  intro i
  by_cases hi:i<ts.length
  have:=hr ts[i] (List.getElem_mem hi)
  simpa [List.getD,hi] using this
  simp [List.getD,List.getElem?_eq_none (Nat.le_of_not_lt hi)]
 split
 exact hg 1
 split
 unfold binT
 split
 split<;>omega
 split
 split<;>omega
 split
 split<;>omega
 omega
 rw [sigI_eq]
 unfold sigG
 grind
theorem typeT_range (x:Nd):0≤typeT x∧typeT x≤3:=by
 induction x using Nd.ind with
 | h k n s l ih=>
 rw [typeT_eq]
 refine combT_range _ _ _ _ (fun t ht=>?_)
 obtain ⟨y,hy,rfl⟩:=List.mem_map.1 ht
 exact ih y hy
theorem typeT_R (x:Nd):typeT x=combR x.kind x.num x.word (x.kids.map typeT):=by
 rw [typeT_eq,combR_eq]
 intro t ht
 obtain ⟨y,hy,rfl⟩:=List.mem_map.1 ht
 exact typeT_range y
def nestN:Nd→Nat
 | .mk k n s l=>1+(l.map nestN).foldl max 0
theorem nestN_eq (x:Nd):nestN x=1+(x.kids.map nestN).foldl max 0:=by
 cases x
 rw [nestN]
 rfl
theorem foldl_max_le (l:List Nat):∀ (m b:Nat),l.foldl max m≤b↔m≤b∧∀ x∈l,x≤b:=by
 induction l with
 | nil=>intro m b;simp
 | cons y r ih=>
   intro m b
   rw [List.foldl_cons,ih]
   simp only [List.mem_cons,forall_eq_or_imp]
   constructor
   rintro ⟨h1,h2⟩
   exact ⟨by omega,by omega,h2⟩
   rintro ⟨h1,h2,h3⟩
   exact ⟨by omega,h3⟩
theorem nest_kid {x y:Nd} (h:y∈x.kids):nestN y<nestN x:=by
 rw [nestN_eq x]
 have:=(foldl_max_le (x.kids.map nestN) 0 ((x.kids.map nestN).foldl max 0)).1 (Nat.le_refl _)
 have:=this.2 (nestN y) (List.mem_map_of_mem h)
 omega
theorem Nesting_any (x:Nd):∀ (X:List Nat) (v:Value) (w:World),nestN x≤1000000→NdV X w v x→
 Calls Tryz.prog 100 #[v] w (Ret fun r w'=>r=.int .i64 (nestN x:Int)∧Stp [] w w'):=by
 induction x using Nd.ind with
 | h k n s l ih=>
 intro X v w hb hx
 generalize hxe:Nd.mk k n s l=x at *
 have ih':∀ y∈x.kids,∀ (X:List Nat) (v:Value) (w:World),nestN y≤1000000→NdV X w v y→Calls Tryz.prog 100 #[v] w (Ret fun r w'=>r=.int .i64 (nestN y:Int)∧Stp [] w w'):=by
  subst hxe;exact ih
 clear ih hxe k n s l
 obtain ⟨kv,rfl,hs⟩:=hx
 have hmax:=hs.max
 refine calls_of_WC1 (n:=22) Tryz.func100 rfl rfl rfl ?_
 refine W ?_
 refine WL_eff (OE_box rfl) rfl ?_
 rintro _ w1 ⟨b,rfl,hbb,hblk,hS⟩
 replace hblk:Blk w1 b _ (ndC x kv):=hblk
 replace hs:=hs.up hS
 refine W ?_
 have hs0:=hs
 have hblk0:=hblk
 refine WC_loop (σ:=Nat) (fun k=>[(1,.pointer (some ⟨b,0,none⟩)),(3,.int .i64 ((((x.kids.take k).map nestN).foldl max 0:Nat):Int)),(4,.int .i64 k)]) (fun k w'=>k≤x.kids.length∧Stp [] w1 w') (fun k=>x.kids.length - k) 0 ⟨rfl,rfl,rfl,trivial⟩ ⟨Nat.zero_le _,Stp.refl _ _⟩ ?_
 clear hs hblk
 rintro k w2 ⟨hk,hS2⟩
 have hs:=hs0.up hS2
 have hblk:=hblk0.up hS2
 by_cases hlt:k<x.kids.length
 obtain ⟨kv2,hs2,hc2⟩:=hs.nd hlt
 have hkid:=nest_kid (List.getElem_mem hlt)
 focus repeat'(first|refine W1 ?_|omega|refine VG ?_ ?_<;>intro hg|refine VC ?_ ?_<;>intro hc)
 apply WL_pure (PR_loadNd rfl rfl hs hlt hc2) rfl
 refine CL rfl (evs1 rfl) rfl (ih' x.kids[k] (List.getElem_mem hlt) X _ _ (by omega) ⟨kv2,rfl,hs2⟩) ?_
 rintro _ w3 ⟨rfl,hS3⟩
 refine W ?_
 refine WQ_loop (k+1) ⟨rfl,?_,rfl,trivial⟩ ⟨hlt,hS2.trans hS3⟩ (by omega)
 rw [List.take_succ_eq_append_getElem hlt,List.map_append,List.foldl_append]
 show some _=some _
 congr 2
 simp only [List.map_cons,List.map_nil,List.foldl_cons,List.foldl_nil]
 omega
 have hke:k=x.kids.length:=by omega
 subst hke
 have hn:=nestN_eq x
 rw [List.take_length]
 focus repeat'(first|refine W1 ?_|omega|refine VG ?_ ?_<;>intro hg|refine VC ?_ ?_<;>intro hc)
 refine WR ?_
 refine .mk ⟨?_,hS.trans hS2⟩
 rw [hn]
 congr 1
theorem call14_any (X:List Nat) (s:Str) (u:Value) (l:List Int) (w:World) (hl:SlV X w u l) :
 Calls Tryz.prog 193 #[str s,u] w (Ret fun r w'=>r=.int .i64 (callR s l)∧Stp [] w w'):=by
 refine calls_of_WC2 (n:=33) Tryz.func193 rfl rfl rfl ?_
 refine W ?_
 refine WL_eff (OE_buildSlice (vs:=[(0,.int .i64 3),(1,.int .i64 3)]) rfl (buildSI2 _ _)) rfl ?_
 rintro a3 w3 hN
 have ha:=hN.slv (X:=[]) (ys:=[(3:Int),3]) (by simp) rfl rfl (by simp [maxLen])
 have hS:=NewSl.stp hN
 clear hN
 replace hl:=hl.up hS
 refine CL rfl (evs2 rfl rfl) rfl (are_any _ _ _ _ _ _ _ hl ha) ?_
 rintro _ w4 ⟨rfl,hS4⟩
 replace hl:=hl.up hS4
 replace hS:=hS.trans hS4
 clear ha
 unfold callR
 generalize areB l [3,3]=p3
 refine W ?_
 refine CL rfl (evs1 rfl) rfl (words_any [] [110,101,120,116,32,112,114,101,118] _ (by simp) (by decide)) ?_
 rintro _ w5 ⟨hr,hS5⟩
 rw [opsN_words] at hr
 replace hl:=hl.up hS5
 replace hS:=hS.trans hS5
 refine W ?_
 refine CL rfl (evs2 rfl rfl) rfl (place14_any [] _ _ s _ hr.slv0) ?_
 rintro _ w6 ⟨rfl,hS6⟩
 replace hl:=hl.up hS6
 replace hS:=hS.trans hS6
 generalize idx (isS s) opsN=i1
 clear hr
 have rest:∀ (w:World) (Q:Exit→Act→World→Prop),True:=fun _ _=>trivial
 by_cases hi:0≤i1
 all_goals (repeat'(first|refine W1 ?_|omega|refine VG ?_ ?_<;>intro hg|refine VC ?_ ?_<;>intro hc))
 all_goals first
  | (refine WL_eff (OE_buildSlice (vs := [(0, .int .i64 3)]) rfl (buildSI1 _)) rfl ?_
     rintro a1 w7 hN
     have ha:=hN.slv (X:=[]) (ys:=[(3:Int)]) (by simp) rfl rfl (by simp [maxLen])
     have hS7:=NewSl.stp hN
     clear hN
     replace hl:=hl.up hS7
     replace hS:=hS.trans hS7
     refine W ?_
     refine CL rfl (evs2 rfl rfl) rfl (are_any _ _ _ _ _ _ _ hl ha) ?_
     rintro _ w8 ⟨rfl,hS8⟩
     replace hl:=hl.up hS8
     replace hS:=hS.trans hS8
     generalize areB l [3]=p1
     cases p1)
  | generalize areB l [3]=p1
 all_goals (repeat'(first|refine W1 ?_|omega|refine VG ?_ ?_<;>intro hg|refine VC ?_ ?_<;>intro hc))
 all_goals first
  | (refine WR ?_
     exact .mk ⟨by simp [hi],hS⟩)
  | (refine CL rfl (evs1 rfl) rfl (words_any [] [108, 97, 116, 101, 114, 32, 101, 97, 114, 108, 105, 101, 114] _ (by simp) (by decide)) ?_
     rintro _ w9 ⟨hr,hS9⟩
     rw [opsE_words] at hr
     replace hl:=hl.up hS9
     replace hS:=hS.trans hS9
     refine W ?_
     refine CL rfl (evs2 rfl rfl) rfl (place14_any [] _ _ s _ hr.slv0) ?_
     rintro _ w10 ⟨rfl,hS10⟩
     replace hS:=hS.trans hS10
     generalize idx (isS s) opsE=i2
     clear hr)
 all_goals by_cases hi2:0≤i2
 all_goals cases p3
 all_goals by_cases hs:s=[98,101,116,119,101,101,110]
 all_goals (repeat'(first|refine W1 ?_|omega|refine VG ?_ ?_<;>intro hg|refine VC ?_ ?_<;>intro hc))
 all_goals try contradiction
 all_goals (refine WR ?_)
 all_goals exact .mk ⟨by simp [hi,hi2,hs],hS⟩
def okN:Nd→Bool
 | .mk k n s l=>decide (l.length≤1000) && (l.map okN).all id
theorem okN_iff (x:Nd):okN x=true↔x.kids.length≤1000∧∀ y∈x.kids,okN y=true:=by
 cases x
 rw [okN]
 simp [Nd.kids]
abbrev ndL (k n:Int) (s:Str) (kv:Value):List Value:=[.int .i64 k,.int .i64 n,str s,kv]
set_option maxHeartbeats 1000000 in
theorem typed_any (x:Nd):∀ (X:List Nat) (v:Value) (w:World),okN x=true→NdV X w v x→
 Calls Tryz.prog 101 #[v] w (Ret fun r w'=>r=.int .i64 (typeT x)∧Stp [] w w'):=by
 induction x using Nd.ind with
 | h k n s l ih=>
 intro X v w hok hx
 obtain ⟨hk1,hk2⟩:=(okN_iff _).1 hok
 replace hk1:l.length≤1000:=hk1
 replace hk2:∀ y∈l,okN y=true:=hk2
 obtain ⟨kv,rfl,hs⟩:=hx
 replace hs:SlV X w kv l:=hs
 rw [typeT_R]
 show Calls _ _ _ _ (Ret fun r w'=>r=.int .i64 (combR k n s (l.map typeT))∧Stp [] w w')
 refine calls_of_WC1 (n:=104) Tryz.func101 rfl rfl rfl ?_
 refine W ?_
 refine WL_eff (OE_box rfl) rfl ?_
 rintro _ w1 ⟨b,rfl,hbb,hblk,hS⟩
 replace hblk:Blk w1 b _ (ndL k n s kv):=hblk
 replace hs:=hs.up hS
 repeat'(first|refine W1 ?_|omega|refine VG ?_ ?_<;>intro hg|refine VC ?_ ?_<;>intro hc)
 refine CL rfl (evs1 rfl) rfl (leaf14_any X _ (.mk k n s l) _ ⟨kv,rfl,hs⟩) ?_
 rintro _ w2 ⟨rfl,hS2⟩
 refine W ?_
 refine WR ?_
 have hl0:l=[]:=List.length_eq_zero_iff.1 (by omega)
 subst hl0
 exact .mk ⟨by simp [combR];rfl,hS.trans hS2⟩
 have hne:¬ l.map typeT=[]:=by
  intro h
  have:=congrArg List.length h
  simp at this
  subst this
  simp at hc
 have hlen:(l.map typeT).length=l.length:=by simp
 have hget:∀ i (h:i<l.length) (h':i<(l.map typeT).length),(l.map typeT)[i]=typeT l[i]:=by intro i h h';simp
 generalize hts:l.map typeT=ts at *
 refine WC_cutB (σ:=Value) (fun u=>[(1,.pointer (some ⟨b,0,none⟩)),(3,u)]) (fun u w'=>SlV [] w' u ts∧Stp [] w1 w') ?_ ?_
 have hs0:=hs
 have hblk0:=hblk
 have hXw:w1.heap.size≤w1.heap.size:=Nat.le_refl _
 refine WC_loop (σ:=Nat×Value) (fun q=>[(1,.pointer (some ⟨b,0,none⟩)),(3,q.2),(4,.int .i64 (q.1:Int))]) (fun q w'=>q.1≤l.length∧Row [] w' w1.heap.size 3 q.2 (ts.take q.1)∧Stp [] w1 w') (fun q=>l.length - q.1) (0,.slice none 0 0) ⟨rfl,rfl,rfl,trivial⟩ ⟨Nat.zero_le _,Row.nil,Stp.refl _ _⟩ ?_
 clear hs hblk
 rintro ⟨j,u⟩ w2 ⟨hj,hrow,hS2⟩
 dsimp only at hj hrow ⊢
 have hs:=hs0.up hS2
 have hblk:=hblk0.up hS2
 by_cases hlt:j<l.length
 obtain ⟨kv2,hs2,hc2⟩:=hs.nd hlt
 focus repeat'(first|refine W1 ?_|omega|refine VG ?_ ?_<;>intro hg|refine VC ?_ ?_<;>intro hc)
 apply WL_pure (PR_loadNd rfl rfl hs hlt hc2) rfl
 refine CL rfl (evs1 rfl) rfl (ih l[j] (List.getElem_mem hlt) X _ _ (hk2 _ (List.getElem_mem hlt)) ⟨kv2,rfl,hs2⟩) ?_
 rintro _ w3 ⟨rfl,hS3⟩
 replace hrow:=hrow.up hS3
 replace hS2:=hS2.trans hS3
 refine W ?_
 refine WL_eff (OE_buildSlice (vs:=[(0,.int .i64 (typeT l[j]))]) rfl (buildSI1 _)) rfl ?_
 rintro bv w4 hN
 have hbv:SlV (ob u++[]) w4 bv [typeT l[j]]:=hN.slv (fun b hb=>(hrow.ob_le b (by simpa using hb)).2) rfl rfl (by simp [maxLen])
 have hS4:=NewSl.stp hN
 clear hN
 replace hrow:=hrow.up hS4
 replace hS2:=hS2.trans hS4
 have hbase:=hS2.size
 have hlt':(ts.take j).length≤1000:=by rw [List.length_take];omega
 refine WL_eff (OE_append (X:=[]) (base:=w1.heap.size) rfl (by decide) rfl rfl hrow hbv (by simp only [List.length_cons,List.length_nil];omega) (by simp only [List.length_cons,List.length_nil,maxLen];omega) hbase) rfl ?_
 rintro u' w5 ⟨hrow',hS5,_⟩
 refine W ?_
 refine WQ_loop (j+1,u') ⟨rfl,rfl,rfl,trivial⟩ ⟨by dsimp only;omega,?_,hS2.own hS5 (fun c hc=>.inr (hrow.ob_le c hc).1)⟩ (by dsimp only;omega)
 dsimp only
 rw [List.take_succ_eq_append_getElem (by omega),hget j hlt]
 exact hrow'
 have hje:j=l.length:=by omega
 subst hje
 rw [← hlen,List.take_length] at hrow
 focus repeat'(first|refine W1 ?_|omega|refine VG ?_ ?_<;>intro hg|refine VC ?_ ?_<;>intro hc)
 exact WQ_cut u ⟨rfl,rfl,trivial⟩ ⟨hrow.slv0,hS2⟩
 rintro u w2 ⟨hu,hS2⟩
 replace hblk:=hblk.up hS2
 replace hS:=hS.trans hS2
 have hts1:1≤ts.length:=by
  cases ts with
  | nil=>exact absurd rfl hne
  | cons=>simp
 clear hget hts hs
 have h0:∀ (h:0<ts.length),ts.getD 0 0=ts[0]:=fun h=>by simp [List.getD,h]
 have h1:∀ (h:1<ts.length),ts.getD 1 0=ts[1]:=fun h=>by simp [List.getD,h]
 unfold combR
 rw [if_neg hne]
 refine W ?_
 by_cases hn:¬ n=0
 rw [if_pos hn]
 focus repeat'(first|refine W1 ?_|omega|refine VG ?_ ?_<;>intro hg|refine VC ?_ ?_<;>intro hc)
 refine WR ?_
 exact .mk ⟨rfl,hS⟩
 rw [if_neg hn]
 by_cases k5:k=5
 subst k5
 rw [if_pos rfl]
 have hl0:0<ts.length:=by omega
 by_cases hm:s=[45]∨s=[110,111,116]
 have fin:∀ (z:Int) (p:Bool),(s=[45]∧z=1∨s=[110,111,116]∧z=2)→areB ts [z]=p→(if s=[45]∧areB ts [1]=true∨s=[110,111,116]∧areB ts [2]=true then ts.getD 0 0 else 0)=if p then ts.getD 0 0 else 0:=by
  rintro z p (⟨rfl,rfl⟩|⟨rfl,rfl⟩) hp<;>simp [hp]
 rcases hm with rfl|rfl
 · repeat'(first|refine W1 ?_|omega|refine VG ?_ ?_<;>intro hg|refine VC ?_ ?_<;>intro hc)
   refine WL_eff (OE_buildSlice (vs:=[(0,.int .i64 1)]) rfl (buildSI1 _)) rfl ?_
   rintro a1 w7 hN
   have ha:=hN.slv (X:=[]) (ys:=[(1:Int)]) (by simp) rfl rfl (by simp [maxLen])
   have hS7:=NewSl.stp hN
   clear hN
   replace hu:=hu.up hS7
   replace hblk:=hblk.up hS7
   replace hS:=hS.trans hS7
   refine W ?_
   refine CL rfl (evs2 rfl rfl) rfl (are_any _ _ _ _ _ _ _ hu ha) ?_
   rintro _ w8 ⟨rfl,hS8⟩
   replace hu:=hu.up hS8
   replace hblk:=hblk.up hS8
   replace hS:=hS.trans hS8
   rw [fin 1 _ (.inl ⟨rfl,rfl⟩) rfl]
   cases areB ts [1] with
   | true=>
     repeat'(first|refine W1 ?_|omega|refine VG ?_ ?_<;>intro hg|refine VC ?_ ?_<;>intro hc)
     refine WR ?_
     refine .mk ⟨?_,hS⟩
     rw [if_pos rfl,h0 hts1]
   | false=>
     repeat'(first|refine W1 ?_|omega|refine VG ?_ ?_<;>intro hg|refine VC ?_ ?_<;>intro hc)
     refine WR ?_
     exact .mk ⟨rfl,hS⟩
 · repeat'(first|refine W1 ?_|omega|refine VG ?_ ?_<;>intro hg|refine VC ?_ ?_<;>intro hc)
   refine WL_eff (OE_buildSlice (vs:=[(0,.int .i64 2)]) rfl (buildSI1 _)) rfl ?_
   rintro a1 w7 hN
   have ha:=hN.slv (X:=[]) (ys:=[(2:Int)]) (by simp) rfl rfl (by simp [maxLen])
   have hS7:=NewSl.stp hN
   clear hN
   replace hu:=hu.up hS7
   replace hblk:=hblk.up hS7
   replace hS:=hS.trans hS7
   refine W ?_
   refine CL rfl (evs2 rfl rfl) rfl (are_any _ _ _ _ _ _ _ hu ha) ?_
   rintro _ w8 ⟨rfl,hS8⟩
   replace hu:=hu.up hS8
   replace hS:=hS.trans hS8
   rw [fin 2 _ (.inr ⟨rfl,rfl⟩) rfl]
   cases areB ts [2] with
   | true=>
     repeat'(first|refine W1 ?_|omega|refine VG ?_ ?_<;>intro hg|refine VC ?_ ?_<;>intro hc)
     refine WR ?_
     refine .mk ⟨?_,hS⟩
     rw [if_pos rfl,h0 hts1]
   | false=>
     repeat'(first|refine W1 ?_|omega|refine VG ?_ ?_<;>intro hg|refine VC ?_ ?_<;>intro hc)
     refine WR ?_
     exact .mk ⟨rfl,hS⟩
 · have hm1:¬ s=[45]:=fun h=>hm (.inl h)
   have hm2:¬ s=[110,111,116]:=fun h=>hm (.inr h)
   rw [if_neg (by rintro (⟨h,_⟩|⟨h,_⟩)<;>contradiction)]
   repeat'(first|refine W1 ?_|omega|refine VG ?_ ?_<;>intro hg|refine VC ?_ ?_<;>intro hc)
   all_goals try contradiction
   refine WR ?_
   exact .mk ⟨rfl,hS⟩
 rw [if_neg k5]
 by_cases k6:k=6
 subst k6
 rw [if_pos rfl]
 focus repeat'(first|refine W1 ?_|omega|refine VG ?_ ?_<;>intro hg|refine VC ?_ ?_<;>intro hc)
 refine CL rfl (evs2 rfl rfl) rfl (binary14_any [] s u ts _ hu) ?_
 rintro _ w3 ⟨rfl,hS3⟩
 refine W ?_
 refine WR ?_
 exact .mk ⟨rfl,hS.trans hS3⟩
 rw [if_neg k6]
 by_cases k78:k=7∨k=8
 · rw [if_pos k78]
   have n9:¬ k=9:=by omega
   have n10:¬ k=10:=by omega
   repeat'(first|refine W1 ?_|omega|refine VG ?_ ?_<;>intro hg|refine VC ?_ ?_<;>intro hc)
   all_goals
    refine WC_drawn 10 [] [] [(1,0),(2,1),(0,2),(3,2),(4,0),(5,0),(6,0),(7,2),(8,2),(9,0)] rfl mixed (by kernel_rfl) (by kernel_rfl) (by kernel_rfl) (fun w1 hS1=>?_)
    replace hu:=hu.up hS1
    replace hblk:=hblk.up hS1
    replace hS:=hS.trans hS1
    refine D ?_
    refine WD_eff rfl trivial (OE_call rfl (evs1 rfl) (words_any [] [100,97,121,115,32,119,101,101,107,115,32,109,111,110,116,104,115,32,99,111,117,114,116,100,97,121,115] _ (by simp) (by decide))) (fun _ _ h=>h.2) rfl ?_
    rintro _ w5 ⟨hr,hS5⟩
    rw [units_words] at hr
    replace hu:=hu.up hS5
    replace hS:=hS.trans hS5
    refine WD_eff rfl trivial (OE_call rfl (evs2 rfl rfl) (place14_any [] _ _ s _ hr.slv0)) (fun _ _ h=>h.2) rfl ?_
    rintro _ w6 ⟨rfl,hS6⟩
    replace hu:=hu.up hS6
    replace hS:=hS.trans hS6
    generalize idx (isS s) units=i1
    by_cases hi:0≤i1
    focus repeat'(first|refine D1 ?_|omega|refine WD_splitN rfl rfl rfl rfl (fun hg=>?_) (fun hg=>?_)|(refine WD_splitBN rfl rfl rfl rfl (fun hg=>?_) (fun hg=>?_)<;>refine D1 ?_)|fail)
    refine WD_eff rfl rfl (OE_buildSlice (vs:=[(0,.int .i64 3),(1,.int .i64 1)]) rfl (buildSI2 _ _)) (fun _ _ h=>NewSl.stp h) rfl ?_
    rintro a1 w7 hN
    have ha:=hN.slv (X:=[]) (ys:=[(3:Int),1]) (by simp) rfl rfl (by simp [maxLen])
    have hS7:=NewSl.stp hN
    clear hN
    replace hu:=hu.up hS7
    replace hS:=hS.trans hS7
    refine WD_eff rfl rfl (OE_call rfl (evs2 rfl rfl) (are_any _ _ _ _ _ _ _ hu ha)) (fun _ _ h=>h.2) rfl ?_
    rintro _ w8 ⟨rfl,hS8⟩
    replace hS:=hS.trans hS8
    generalize areB ts [3,1]=p
    cases p
    refine D ?_
    focus repeat'(first|refine W1 ?_|omega|refine VG ?_ ?_<;>intro hg|refine VC ?_ ?_<;>intro hc)
    refine WR ?_
    exact .mk ⟨by simp,hS⟩
    refine D ?_
    focus repeat'(first|refine W1 ?_|omega|refine VG ?_ ?_<;>intro hg|refine VC ?_ ?_<;>intro hc)
    refine WR ?_
    exact .mk ⟨by simp [hi],hS⟩
    focus repeat'(first|refine D1 ?_|omega|refine WD_splitN rfl rfl rfl rfl (fun hg=>?_) (fun hg=>?_)|(refine WD_splitBN rfl rfl rfl rfl (fun hg=>?_) (fun hg=>?_)<;>refine D1 ?_)|fail)
    focus repeat'(first|refine W1 ?_|omega|refine VG ?_ ?_<;>intro hg|refine VC ?_ ?_<;>intro hc)
    refine WR ?_
    exact .mk ⟨by simp [hi],hS⟩
 rw [if_neg k78]
 by_cases k9:k=9
 subst k9
 rw [if_pos rfl]
 focus repeat'(first|refine W1 ?_|omega|refine VG ?_ ?_<;>intro hg|refine VC ?_ ?_<;>intro hc)
 refine WC_drawn 19 [] [] [(0,0),(1,1),(2,0),(3,0),(4,0),(5,0),(6,0),(7,0),(8,0),(9,0),(10,0),(11,0),(12,1),(13,0),(14,0),(15,1),(16,2),(17,2),(18,0)] rfl mixed (by kernel_rfl) (by kernel_rfl) (by kernel_rfl) (fun w1 hS1=>?_)
 replace hu:=hu.up hS1
 replace hblk:=hblk.up hS1
 replace hS:=hS.trans hS1
 have hum:=hu.max
 by_cases hs:s=[]
 subst hs
 by_cases h3:ts.length=3
 have hl1:1<ts.length:=by omega
 have h1':=h1 hl1
 focus repeat'(first|refine D1 ?_|omega|refine WD_splitN rfl rfl rfl rfl (fun hg=>?_) (fun hg=>?_)|(refine WD_splitBN rfl rfl rfl rfl (fun hg=>?_) (fun hg=>?_)<;>refine D1 ?_)|fail)
 refine WD_eff rfl rfl (OE_buildSlice (vs:=[(0,.int .i64 2),(1,.int .i64 _),(2,.int .i64 _)]) rfl (buildSI3 _ _ _)) (fun _ _ h=>NewSl.stp h) rfl ?_
 rintro a1 w7 hN
 have ha:=hN.slv (X:=[]) (ys:=[(2:Int),ts[1],ts[1]]) (by simp) rfl rfl (by simp [maxLen])
 have hS7:=NewSl.stp hN
 clear hN
 replace hu:=hu.up hS7
 replace hS:=hS.trans hS7
 refine WD_eff rfl rfl (OE_call rfl (evs2 rfl rfl) (are_any _ _ _ _ _ _ _ hu ha)) (fun _ _ h=>h.2) rfl ?_
 rintro _ w8 ⟨rfl,hS8⟩
 replace hu:=hu.up hS8
 replace hS:=hS.trans hS8
 rw [h1']
 cases hp:areB ts [2,ts[1],ts[1]]
 refine D ?_
 focus repeat'(first|refine W1 ?_|omega|refine VG ?_ ?_<;>intro hg|refine VC ?_ ?_<;>intro hc)
 refine WR ?_
 exact .mk ⟨by simp,hS⟩
 refine D ?_
 focus repeat'(first|refine W1 ?_|omega|refine VG ?_ ?_<;>intro hg|refine VC ?_ ?_<;>intro hc)
 refine WR ?_
 exact .mk ⟨by simp [h3],hS⟩
 focus repeat'(first|refine D1 ?_|omega|refine WD_splitN rfl rfl rfl rfl (fun hg=>?_) (fun hg=>?_)|(refine WD_splitBN rfl rfl rfl rfl (fun hg=>?_) (fun hg=>?_)<;>refine D1 ?_)|fail)
 focus repeat'(first|refine W1 ?_|omega|refine VG ?_ ?_<;>intro hg|refine VC ?_ ?_<;>intro hc)
 refine WR ?_
 exact .mk ⟨by simp [h3],hS⟩
 · repeat'(first|refine D1 ?_|omega|refine WD_splitN rfl rfl rfl rfl (fun hg=>?_) (fun hg=>?_)|(refine WD_splitBN rfl rfl rfl rfl (fun hg=>?_) (fun hg=>?_)<;>refine D1 ?_)|fail)
   all_goals try contradiction
   repeat'(first|refine W1 ?_|omega|refine VG ?_ ?_<;>intro hg|refine VC ?_ ?_<;>intro hc)
   refine WR ?_
   exact .mk ⟨by simp [hs],hS⟩
 rw [if_neg k9]
 by_cases k10:k=10
 subst k10
 rw [if_pos rfl]
 focus repeat'(first|refine W1 ?_|omega|refine VG ?_ ?_<;>intro hg|refine VC ?_ ?_<;>intro hc)
 refine CL rfl (evs2 rfl rfl) rfl (call14_any [] s u ts _ hu) ?_
 rintro _ w3 ⟨rfl,hS3⟩
 refine W ?_
 refine WR ?_
 exact .mk ⟨rfl,hS.trans hS3⟩
 rw [if_neg k10]
 repeat'(first|refine W1 ?_|omega|refine VG ?_ ?_<;>intro hg|refine VC ?_ ?_<;>intro hc)
 refine WR ?_
 exact .mk ⟨rfl,hS⟩
def sizeN:Nd→Nat
 | .mk k n s l=>1+(l.map sizeN).sum
theorem sizeN_eq (x:Nd):sizeN x=1+(x.kids.map sizeN).sum:=by
 cases x
 rw [sizeN]
 rfl
theorem sum_le_of_mem {l:List Nat} {a:Nat} (h:a∈l):a≤l.sum:=by
 induction l with
 | nil=>cases h
 | cons x r ih=>
   rw [List.sum_cons]
   rcases List.mem_cons.1 h with rfl|h
   omega
   have:=ih h;omega
theorem size_kid {x y:Nd} (h:y∈x.kids):sizeN y<sizeN x:=by
 rw [sizeN_eq x]
 have:=sum_le_of_mem (List.mem_map_of_mem (f:=sizeN) h)
 omega
theorem size_pos (x:Nd):1≤sizeN x:=by rw [sizeN_eq];omega
theorem len_le_sum (l:List Nd):l.length≤(l.map sizeN).sum:=by
 induction l with
 | nil=>simp
 | cons x r ih=>
   have:=size_pos x
   simp
   omega
theorem okN_of_size (x:Nd):sizeN x≤1000→okN x=true:=by
 induction x using Nd.ind with
 | h k n s l ih=>
 intro h
 rw [okN_iff]
 have h1:=sizeN_eq (.mk k n s l)
 have h2:=len_le_sum l
 refine ⟨?_,fun y hy=>ih y hy ?_⟩
 show l.length≤1000
 have:sizeN (.mk k n s l)=1+(l.map sizeN).sum:=h1
 omega
 have:=size_kid (x:=.mk k n s l) (y:=y) hy
 omega
theorem Of14_any (X:List Nat) (v:Value) (x:Nd) (w:World) (hok:okN x=true) (hn:nestN x≤1000000) (hx:NdV X w v x) :
 Calls Tryz.prog 46 #[v] w (Ret fun r w'=>r=.tuple #[.int .i64 (if nestN x≤12 then typeT x else 0),.int .i64 (if nestN x≤12 then (if typeT x=0 then 21 else 0) else 2)]∧Stp [] w w'):=by
 obtain ⟨kv,rfl,hs⟩:=hx
 refine calls_of_WC1 (n:=13) Tryz.func46 rfl rfl rfl ?_
 refine W ?_
 refine WL_eff (OE_box rfl) rfl ?_
 rintro _ w1 ⟨b,rfl,hbb,hblk,hS⟩
 replace hblk:Blk w1 b _ (ndC x kv):=hblk
 replace hs:=hs.up hS
 refine W ?_
 refine CL rfl (evs1 rfl) rfl (Nesting_any x X _ _ hn ⟨kv,rfl,hs⟩) ?_
 rintro _ w2 ⟨rfl,hS2⟩
 replace hs:=hs.up hS2;replace hblk:=hblk.up hS2
 replace hS:=hS.trans hS2
 by_cases hn:nestN x≤12
 rw [if_pos hn,if_pos hn]
 focus repeat'(first|refine W1 ?_|omega|refine VG ?_ ?_<;>intro hg|refine VC ?_ ?_<;>intro hc)
 refine CL rfl (evs1 rfl) rfl (typed_any x X _ _ hok ⟨kv,rfl,hs⟩) ?_
 rintro _ w3 ⟨rfl,hS3⟩
 replace hS:=hS.trans hS3
 focus repeat'(first|refine W1 ?_|omega|refine VG ?_ ?_<;>intro hg|refine VC ?_ ?_<;>intro hc)
 refine WR ?_
 exact .mk ⟨by rw [if_pos hc,hc],hS⟩
 refine WR ?_
 exact .mk ⟨by rw [if_neg hc],hS⟩
 rw [if_neg hn,if_neg hn]
 focus repeat'(first|refine W1 ?_|omega|refine VG ?_ ?_<;>intro hg|refine VC ?_ ?_<;>intro hc)
 refine WR ?_
 exact .mk ⟨rfl,hS⟩
theorem typed_kids {x:Nd} (h:typeT x≠0):x.kids.length≤3∧∀ y∈x.kids,typeT y≠0:=by
 rw [typeT_eq] at h
 unfold combT at h
 refine ⟨?_,fun y hy e=>?_⟩
 by_cases hl:(x.kids.map typeT).length > 3
 rw [if_pos hl] at h;exact absurd rfl h
 simpa using hl
 by_cases hl:(x.kids.map typeT).length > 3
 rw [if_pos hl] at h;exact absurd rfl h
 rw [if_neg hl,if_pos (by rw [← e];exact List.mem_map_of_mem hy)] at h
 exact absurd rfl h
def opsF:List Str:=[[110,101,120,116],[112,114,101,118],[108,97,116,101,114],[101,97,114,108,105,101,114],[98,101,116,119,101,101,110]]
inductive Shape (k:Int) (s:Str) (m:Nat):Prop
 | neg (h:k=5) (hs:s=[45]∨s=[110,111,116]) (hm:m=1)
 | bin (h:k=6) (hs:s∈opsA∨s∈opsC∨s∈opsL) (hm:m=2)
 | unit (h:k=7∨k=8) (hs:s∈units) (hm:m=2)
 | cond (h:k=9) (hm:m=3)
 | call (h:k=10) (hs:s∈opsF) (hm:1≤m∧m≤2)
theorem typed_shape {x:Nd} (h:typeT x≠0) (hk:x.kids≠[]):x.num=0∧Shape x.kind x.word x.kids.length:=by
 have hl:=(typed_kids h).1
 rw [typeT_R] at h
 have hlen:(x.kids.map typeT).length=x.kids.length:=by simp
 have hne:¬ x.kids.map typeT=[]:=by simpa using hk
 generalize x.kids.map typeT=ts at *
 rw [← hlen]
 unfold combR at h
 rw [if_neg hne] at h
 have hn:x.num=0:=Decidable.byContradiction (fun hn=>by rw [if_pos hn] at h;exact absurd rfl h)
 refine ⟨hn,?_⟩
 rw [if_neg (by simpa using hn)] at h
 have hlm:∀ m:List Int,areB ts m=true→ts.length=m.length:=fun m hm=>by rw [(areB_iff.1 hm).1]
 by_cases k5:x.kind=5
 rw [if_pos k5] at h
 split at h
 rename_i hh
 rcases hh with ⟨h1,h2⟩|⟨h1,h2⟩
 exact .neg k5 (.inl h1) (hlm _ h2)
 exact .neg k5 (.inr h1) (hlm _ h2)
 exact absurd rfl h
 rw [if_neg k5] at h
 by_cases k6:x.kind=6
 rw [if_pos k6] at h
 unfold binR at h
 simp only [idx_mem] at h
 split at h
 rename_i hh;exact .bin k6 (.inl hh.1) (hlm _ hh.2)
 split at h
 rename_i hh
 rcases hh.2 with h2|h2
 exact .bin k6 (.inr (.inl hh.1)) (hlm _ h2)
 exact .bin k6 (.inr (.inl hh.1)) (hlm _ h2)
 split at h
 rename_i hh;exact .bin k6 (.inr (.inr hh.1)) (hlm _ hh.2)
 exact absurd rfl h
 rw [if_neg k6] at h
 by_cases k78:x.kind=7∨x.kind=8
 rw [if_pos k78] at h
 simp only [idx_mem] at h
 split at h
 rename_i hh;exact .unit k78 hh.1 (hlm _ hh.2)
 exact absurd rfl h
 rw [if_neg k78] at h
 by_cases k9:x.kind=9
 rw [if_pos k9] at h
 split at h
 rename_i hh;exact .cond k9 hh.2.1
 exact absurd rfl h
 rw [if_neg k9] at h
 by_cases k10:x.kind=10
 rw [if_pos k10] at h
 unfold callR at h
 simp only [idx_mem] at h
 split at h
 rename_i hh
 refine .call k10 ?_ (by have:=hlm _ hh.2;simp at this;omega)
 have:=hh.1
 simp only [opsN,opsF,List.mem_cons,List.not_mem_nil,or_false] at this ⊢
 rcases this with h|h<;>simp [h]
 split at h
 rename_i hh
 refine .call k10 ?_ (by have:=hlm _ hh.2;simp at this;omega)
 have:=hh.1
 simp only [opsE,opsF,List.mem_cons,List.not_mem_nil,or_false] at this ⊢
 rcases this with h|h<;>simp [h]
 split at h
 rename_i hh
 refine .call k10 ?_ (by have:=hlm _ hh.2;simp at this;omega)
 simp [opsF,hh.1]
 exact absurd rfl h
 rw [if_neg k10] at h
 exact absurd rfl h
end Go.Proofs.YtjdjdoefppebkaaGreatDoor
namespace Go.Eng
open Go
structure Ins where
 op:Int
 n:Int
 deriving DecidableEq,Inhabited
instance:Flat Ins where
 k:=2
 enc:=fun x=>[.int .i64 x.op,.int .i64 x.n]
 len:=fun _=>rfl
 one:=by intro x u hu;simp at hu;rcases hu with rfl|rfl<;>rfl
def agg {α:Type} [Flat α] (x:α):Value:=.agg (Flat.enc x).toArray
theorem Row.keep {β:Type} [Flat β] {X S:List Nat} {w w':World} {base T:Nat} {v:Value} {xs:List β} (h:Row X w base T v xs) (hS:Stp S w w') (hd:∀ b∈S,b∉ob v):Row X w' base T v xs:=by
 have h':Row S w base T v xs:=h
 have:=h'.ext (X':=X) hS (fun b hb=>⟨hb,hd b hb⟩)
 obtain ⟨css,h1,h2,h3⟩:=h
 refine ⟨css,h1,h2,?_⟩
 have h4:Row S w base T v xs:=⟨css,h1,h2,h3⟩
 obtain ⟨ho,hr⟩:=h3
 refine ⟨ho,?_⟩
 rcases hr with hn|⟨q,cap,cur,rfl,hb,hg,rest⟩
 exact .inl hn
 refine .inr ⟨q,cap,cur,rfl,hb,?_,rest⟩
 rw [hS.block q (Array.getElem?_eq_some_iff.1 hg).1 (fun hq=>hd q hq (by simp [ob]))]
 exact hg
end Go.Eng
namespace Go.Proofs.YtjdjdoefppebkaaGreatDoor
open Go Go.Eng Go.RowKit
theorem buildI (a b:Int) (w:World):(Instr.build 51 #[(0,.int .i64 a),(1,.int .i64 b)]).run Tryz.prog w=.ok (agg (Ins.mk a b)) w:=by kernel_rfl
theorem buildI0 (a:Int) (w:World):(Instr.build 51 #[(0,.int .i64 a)]).run Tryz.prog w=.ok (agg (Ins.mk a 0)) w:=by kernel_rfl
theorem buildSI (d:Ins) (w:World):(Instr.buildSlice 40 1 #[(0,agg d)]).run Tryz.prog w=.ok (.slice (some ⟨w.heap.size,0,none⟩) 1 1) (w.alloc (.cells (Flat.enc d).toArray 51)):=by kernel_rfl
abbrev Cf:=Nat→List Ins
def chC (c y n:Cf) (p0:Nat):List Ins:=
 c p0 ++ [⟨14, ((p0 + (c p0).length + 1 + (y (p0 + (c p0).length + 1)).length + 1 : Nat) : Int)⟩] ++ y (p0 + (c p0).length + 1) ++
   [⟨13,((p0+(c p0).length+1+(y (p0+(c p0).length+1)).length+1+(n (p0+(c p0).length+1+(y (p0+(c p0).length+1)).length+1)).length:Nat):Int)⟩]++n (p0+(c p0).length+1+(y (p0+(c p0).length+1)).length+1)
def opEs:List (Str×List Int):=[([43],[5]),([42],[7]),([110,111,116],[12]),([60],[9]),([60,61],[10]),([61],[11]),([62],[10,12]),([62,61],[9,12]),([33,61],[11,12]),([100,97,121,115],[15]),([119,101,101,107,115],[16]),([109,111,110,116,104,115],[17]),([99,111,117,114,116,100,97,121,115],[18]),([110,101,120,116],[19]),([112,114,101,118],[20]),([108,97,116,101,114],[21]),([101,97,114,108,105,101,114],[22]),([98,101,116,119,101,101,110],[23])]
def opF (s:Str):List Int:=match opEs.find? (fun p=>decide (p.1=s)) with|some p=>p.2|none=>[]
theorem opF_len (s:Str):(opF s).length≤2:=by
 unfold opF
 cases h:opEs.find? (fun p=>decide (p.1=s)) with
 | none=>simp
 | some p=>
   have hp:=List.mem_of_find?_eq_some h
   have:∀ p∈opEs,p.2.length≤2:=by decide
   exact this p hp
def seqC:List Cf→Nat→List Ins
 | [],_=>[]
 | c :: r,p=>c p++seqC r (p+(c p).length)
theorem seqC_append (a b:List Cf) (p:Nat):seqC (a++b) p=seqC a p++seqC b (p+(seqC a p).length):=by
 induction a generalizing p with
 | nil=>simp [seqC]
 | cons c r ih=>
   simp only [List.cons_append,seqC,ih,List.length_append,List.append_assoc]
   rw [Nat.add_assoc]
theorem seqC_step (cs:List Cf) (p i:Nat) (h:i<cs.length):seqC (cs.take (i+1)) p=seqC (cs.take i) p++cs[i] (p+(seqC (cs.take i) p).length):=by
 rw [List.take_succ_eq_append_getElem h,seqC_append]
 simp [seqC]
theorem seqC_le (cs:List Cf) (p i:Nat):(seqC (cs.take i) p).length≤(seqC cs p).length:=by
 have:seqC cs p=seqC (cs.take i) p++seqC (cs.drop i) (p+(seqC (cs.take i) p).length):=by rw [← seqC_append,List.take_append_drop]
 rw [this,List.length_append]
 omega
def insO (l:List Int):List Ins:=l.map (fun o=>⟨o,0⟩)
def plainC (k:Int) (s:Str) (cs:List Cf) (p:Nat):List Ins:=seqC cs p++(if k=8∨k=5∧s=[45] then [⟨8,0⟩] else [])++insO (opF s)
def leafI (k n:Int) (s:Str):Ins:=if k=1 then ⟨1,n⟩ else if k=2 then ⟨2,n⟩ else if k=3 then ⟨3,n⟩ else ⟨4,(fieldF s).1⟩
def nilC:Cf:=fun _=>[]
def combC (k n:Int) (s:Str) (cs:List Cf) (p:Nat):List Ins:=
 if cs.length=0 then [leafI k n s]
 else if k=9 then chC (cs.getD 0 nilC) (cs.getD 1 nilC) (cs.getD 2 nilC) p
 else if k=6∧s=[97,110,100] then chC (cs.getD 0 nilC) (cs.getD 1 nilC) (fun _=>[⟨2,0⟩]) p
 else if k=6∧s=[111,114] then chC (cs.getD 0 nilC) (fun _=>[⟨2,1⟩]) (cs.getD 1 nilC) p
 else if k=6∧s=[45] then plainC k s cs p++[⟨6,0⟩]
 else plainC k s cs p
def codeN:Nd→Nat→List Ins
 | .mk k n s l=>combC k n s (l.map codeN)
theorem codeN_eq (x:Nd):codeN x=combC x.kind x.num x.word (x.kids.map codeN):=by
 cases x
 rw [codeN]
 rfl
theorem buildNb0 (w:World):(Instr.build 27 #[(0,.int .i64 2)]).run Tryz.prog w=.ok (.agg #[.int .i64 2,.int .i64 0,str [],.slice none 0 0]) w:=by kernel_rfl
theorem buildNb1 (w:World):(Instr.build 27 #[(0,.int .i64 2),(1,.int .i64 1)]).run Tryz.prog w=.ok (.agg #[.int .i64 2,.int .i64 1,str [],.slice none 0 0]) w:=by kernel_rfl
theorem nilSlv {α:Type} [GoRep α] (X:List Nat) (w:World):SlV (α:=α) X w (.slice none 0 0) []:=⟨none,0,rfl,Nat.le_refl _,by simp [maxLen],fun _=>rfl,fun i h=>absurd h (Nat.not_lt_zero _)⟩
theorem cell_on {α:Type} [GoRep α] {X:List Nat} {w w':World} {v u:Value} {l:List α} {i k j:Nat} (hs:SlV X w v l) (hi:i<l.length) (hS:Stp X w w') (h:w.cell? (elAddr v i k j)=some u):w'.cell? (elAddr v i k j)=some u:=by
 obtain ⟨p,c,rfl,_,_,_,hc⟩:=hs
 obtain ⟨b,o,cs,rfl,_,hx,_⟩:=hc i hi
 exact hS.cell hx h
theorem codeN_leaf {x:Nd} (h:x.kids=[]) (p:Nat):codeN x p=[leafI x.kind x.num x.word]:=by
 rw [codeN_eq,h]
 simp [combC]
theorem codeN_getD {x:Nd} {i:Nat} (h:i<x.kids.length):(x.kids.map codeN).getD i nilC=codeN x.kids[i]:=by simp [List.getD,h]
theorem seqC_len (l:List Nd) (h:∀ y∈l,∀ p,(codeN y p).length≤8 * sizeN y) (p:Nat):(seqC (l.map codeN) p).length≤8 * (l.map sizeN).sum:=by
 induction l generalizing p with
 | nil=>simp [seqC]
 | cons x r ih=>
   simp only [List.map_cons,seqC,List.length_append,List.sum_cons]
   have h1:=h x (by simp) p
   have h2:=ih (fun y hy=>h y (by simp [hy])) (p+(codeN x p).length)
   omega
theorem insO_len (l:List Int):(insO l).length=l.length:=by simp [insO]
theorem getD_len {l:List Nd} (h:∀ y∈l,∀ p,(codeN y p).length≤8 * sizeN y) (i p:Nat):((l.map codeN).getD i nilC p).length≤8 * (l.map sizeN).getD i 0:=by
 by_cases hi:i<l.length
 simp [List.getD,hi]
 exact h _ (List.getElem_mem hi) p
 simp [List.getD,hi,nilC]
theorem getD_sum (l:List Nat):l.getD 0 0+l.getD 1 0+l.getD 2 0≤l.sum:=by
 rcases l with _|⟨a,_|⟨b,_|⟨c,r⟩⟩⟩<;>simp<;>omega
theorem chC_len (c y n:Cf) (A B C:Nat) (hc:∀ p,(c p).length≤A) (hy:∀ p,(y p).length≤B) (hn:∀ p,(n p).length≤C) (p:Nat):(chC c y n p).length≤A+B+C+2:=by
 unfold chC
 simp only [List.length_append,List.length_cons,List.length_nil]
 have h1:=hc p
 have h2:=hy (p+(c p).length+1)
 have h3:=hn (p+(c p).length+1+(y (p+(c p).length+1)).length+1)
 omega
theorem codeN_len (x:Nd):∀ p,(codeN x p).length≤8 * sizeN x:=by
 induction x using Nd.ind with
 | h k n s l ih=>
 intro p
 rw [codeN_eq,sizeN_eq]
 show (combC k n s (l.map codeN) p).length≤8 * (1+(l.map sizeN).sum)
 have hs:=getD_sum (l.map sizeN)
 have g:=getD_len ih
 have hp:(plainC k s (l.map codeN) p).length≤8 * (l.map sizeN).sum+3:=by
  unfold plainC
  simp only [List.length_append,insO_len]
  have h1:=seqC_len l ih p
  have h2:=opF_len s
  have h3:(if k=8∨k=5∧s=[45] then [(⟨8,0⟩:Ins)] else []).length≤1:=by split<;>simp
  omega
 unfold combC
 split
 simp;omega
 split
 refine Nat.le_trans (chC_len _ _ _ _ _ _ (g 0) (g 1) (g 2) p) (by omega)
 split
 refine Nat.le_trans (chC_len _ _ _ _ _ 1 (g 0) (g 1) (fun _=>by simp) p) (by omega)
 split
 refine Nat.le_trans (chC_len _ _ _ _ 1 _ (g 0) (fun _=>by simp) (g 1) p) (by omega)
 split
 simp only [List.length_append,List.length_cons,List.length_nil];omega
 omega
def exprF (x:Nd):List Ins:=codeN x 0++[⟨24,0⟩]
def errX (x:Nd):Int:=if nestN x≤12 then (if typeT x=0 then 21 else if (exprF x).length > 200 then 2 else 0) else 2
def ExprR (w:World) (x:Nd) (r:Value) (w':World):Prop:=∃ cv,r=.tuple #[cv,.int .i64 (errX x)]∧(∀ X:List Nat,(∀ b∈X,b<w.heap.size)→SlV X w' cv (if errX x=0 then exprF x else []))∧Stp [] w w'
theorem leafR_any (v:Value) (x:Nd) (w:World) (hx:NdV [] w v x):Calls Tryz.prog 102 #[v] w (Ret fun r w'=>r=agg (leafI x.kind x.num x.word)∧Stp [] w w'):=by
 obtain ⟨kv,rfl,hs⟩:=hx
 refine calls_of_WC1 (n:=32) Tryz.func102 rfl rfl rfl ?_
 refine W ?_
 refine WL_eff (OE_box rfl) rfl ?_
 rintro _ w1 ⟨b,rfl,hb,hblk,hS⟩
 replace hblk:Blk w1 b _ (ndC x kv):=hblk
 have hsz:=hS.size
 refine WL_eff OE_alloc rfl ?_
 rintro _ w2 ⟨b2,rfl,hb2,hblk2,hS2⟩
 replace hblk:=hblk.up hS2
 replace hS:=hS.trans hS2
 repeat'(first|refine W1 ?_|omega|refine VG ?_ ?_<;>intro hg|refine VC ?_ ?_<;>intro hc)
 apply WL_build (vs:=[(0,.int .i64 1),(1,.int .i64 _)]) rfl (buildI _ _) rfl
 refine WL_eff0 (OE_storeA (us:=Flat.enc (Ins.mk 1 x.num)) rfl rfl rfl rfl (Flat.one _) hblk2 rfl) ?_
 rintro _ w3 ⟨hS3,hblk3⟩
 refine W ?_
 refine WQ_retc rfl rfl rfl hblk3 rfl ?_
 refine .mk ⟨by rw [leafI,if_pos (by assumption)];rfl,hS.own hS3 (fun c hc=>.inr (by simp at hc;omega))⟩
 apply WL_build (vs:=[(0,.int .i64 2),(1,.int .i64 _)]) rfl (buildI _ _) rfl
 refine WL_eff0 (OE_storeA (us:=Flat.enc (Ins.mk 2 x.num)) rfl rfl rfl rfl (Flat.one _) hblk2 rfl) ?_
 rintro _ w3 ⟨hS3,hblk3⟩
 refine W ?_
 refine WQ_retc rfl rfl rfl hblk3 rfl ?_
 refine .mk ⟨by rw [leafI,if_neg (by assumption),if_pos (by assumption)];rfl,hS.own hS3 (fun c hc=>.inr (by simp at hc;omega))⟩
 apply WL_build (vs:=[(0,.int .i64 3),(1,.int .i64 _)]) rfl (buildI _ _) rfl
 refine WL_eff0 (OE_storeA (us:=Flat.enc (Ins.mk 3 x.num)) rfl rfl rfl rfl (Flat.one _) hblk2 rfl) ?_
 rintro _ w3 ⟨hS3,hblk3⟩
 refine W ?_
 refine WQ_retc rfl rfl rfl hblk3 rfl ?_
 refine .mk ⟨by rw [leafI,if_neg (by assumption),if_neg (by assumption),if_pos (by assumption)];rfl,hS.own hS3 (fun c hc=>.inr (by simp at hc;omega))⟩
 refine CL rfl (evs1 rfl) rfl (Field14_any x.word _) ?_
 rintro _ w3 ⟨rfl,hS3⟩
 replace hblk2:=hblk2.up hS3
 replace hS:=hS.trans hS3
 refine W ?_
 apply WL_build (vs:=[(0,.int .i64 4),(1,.int .i64 _)]) rfl (buildI _ _) rfl
 refine WL_eff0 (OE_storeA (us:=Flat.enc (Ins.mk 4 (fieldF x.word).1)) rfl rfl rfl rfl (Flat.one _) hblk2 rfl) ?_
 rintro _ w4 ⟨hS4,hblk4⟩
 refine W ?_
 refine WQ_retc rfl rfl rfl hblk4 rfl ?_
 refine .mk ⟨by rw [leafI,if_neg (by assumption),if_neg (by assumption),if_neg (by assumption)];rfl,hS.own hS4 (fun c hc=>.inr (by simp at hc;omega))⟩
def plainO (k:Int) (s:Str):List Int:=(if k=8∨k=5∧s=[45] then [8] else [])++opF s++(if k=6∧s=[45] then [6] else [])
def names9:List Str:=[[43],[45],[42],[60],[60,61],[61],[62],[62,61],[33,61]]
def codes9:List (Sl Int):=[⟨[5]⟩,⟨[6]⟩,⟨[7]⟩,⟨[9]⟩,⟨[10]⟩,⟨[11]⟩,⟨[10,12]⟩,⟨[9,12]⟩,⟨[11,12]⟩]
theorem buildSI4 (a b c d:Int) (w:World):(Instr.buildSlice 22 4 #[(0,.int .i64 a),(1,.int .i64 b),(2,.int .i64 c),(3,.int .i64 d)]).run Tryz.prog w=.ok (.slice (some ⟨w.heap.size,0,none⟩) 4 4) (w.alloc (.cells #[.int .i64 a,.int .i64 b,.int .i64 c,.int .i64 d] 3)):=by kernel_rfl
theorem buildSI5 (a b c d e:Int) (w:World):(Instr.buildSlice 22 5 #[(0,.int .i64 a),(1,.int .i64 b),(2,.int .i64 c),(3,.int .i64 d),(4,.int .i64 e)]).run Tryz.prog w=.ok (.slice (some ⟨w.heap.size,0,none⟩) 5 5) (w.alloc (.cells #[.int .i64 a,.int .i64 b,.int .i64 c,.int .i64 d,.int .i64 e] 3)):=by kernel_rfl
theorem buildSS5 (a b c d e:Str) (w:World):(Instr.buildSlice 119 5 #[(0,str a),(1,str b),(2,str c),(3,str d),(4,str e)]).run Tryz.prog w=.ok (.slice (some ⟨w.heap.size,0,none⟩) 5 5) (w.alloc (.cells #[str a,str b,str c,str d,str e] 9)):=by kernel_rfl
theorem buildSS9 (a b c d e f g h i:Str) (w:World):(Instr.buildSlice 119 9 #[(0,str a),(1,str b),(2,str c),(3,str d),(4,str e),(5,str f),(6,str g),(7,str h),(8,str i)]).run Tryz.prog w=.ok (.slice (some ⟨w.heap.size,0,none⟩) 9 9) (w.alloc (.cells #[str a,str b,str c,str d,str e,str f,str g,str h,str i] 9)):=by kernel_rfl
theorem buildSV9 (p0 p1 p2 p3 p4 p5 p6 p7 p8:Option Addr) (l0 l1 l2 l3 l4 l5 l6 l7 l8 c0 c1 c2 c3 c4 c5 c6 c7 c8:Nat) (w:World):(Instr.buildSlice 180 9 #[(0,.slice p0 l0 c0),(1,.slice p1 l1 c1),(2,.slice p2 l2 c2),(3,.slice p3 l3 c3),(4,.slice p4 l4 c4),(5,.slice p5 l5 c5),(6,.slice p6 l6 c6),(7,.slice p7 l7 c7),(8,.slice p8 l8 c8)]).run Tryz.prog w=.ok (.slice (some ⟨w.heap.size,0,none⟩) 9 9) (w.alloc (.cells #[.slice p0 l0 c0,.slice p1 l1 c1,.slice p2 l2 c2,.slice p3 l3 c3,.slice p4 l4 c4,.slice p5 l5 c5,.slice p6 l6 c6,.slice p7 l7 c7,.slice p8 l8 c8] 22)):=by kernel_rfl
theorem o6 {s:Str} (h:s∈opsA∨s∈opsC∨s∈opsL) (ha:¬ s=[97,110,100]) (ho:¬ s=[111,114]):∃ i,∃ h:i<codes9.length,idx (isS s) names9=(i:Int)∧codes9[i].l=plainO 6 s:=by
 simp only [opsA,opsC,opsL,List.mem_cons,List.not_mem_nil,or_false] at h
 rcases h with (h|h|h)|(h|h|h|h|h|h)|(h|h)<;>subst h
 exact ⟨0,by decide,by decide,by decide⟩
 exact ⟨1,by decide,by decide,by decide⟩
 exact ⟨2,by decide,by decide,by decide⟩
 exact ⟨3,by decide,by decide,by decide⟩
 exact ⟨4,by decide,by decide,by decide⟩
 exact ⟨5,by decide,by decide,by decide⟩
 exact ⟨8,by decide,by decide,by decide⟩
 exact ⟨6,by decide,by decide,by decide⟩
 exact ⟨7,by decide,by decide,by decide⟩
 exact absurd rfl ha
 exact absurd rfl ho
theorem oU {s:Str} (h:s∈units):∃ i,∃ h:i < [(15:Int),16,17,18].length,idx (isS s) units=(i:Int)∧plainO 7 s=[[(15:Int),16,17,18][i]]∧plainO 8 s=[8,[(15:Int),16,17,18][i]]:=by
 simp only [units,List.mem_cons,List.not_mem_nil,or_false] at h
 rcases h with h|h|h|h<;>subst h
 exact ⟨0,by decide,by decide,by decide,by decide⟩
 exact ⟨1,by decide,by decide,by decide,by decide⟩
 exact ⟨2,by decide,by decide,by decide,by decide⟩
 exact ⟨3,by decide,by decide,by decide,by decide⟩
theorem oC {s:Str} (h:s∈opsF):∃ i,∃ h:i < [(19:Int),20,21,22,23].length,idx (isS s) opsF=(i:Int)∧plainO 10 s=[[(19:Int),20,21,22,23][i]]:=by
 simp only [opsF,List.mem_cons,List.not_mem_nil,or_false] at h
 rcases h with h|h|h|h|h<;>subst h
 exact ⟨0,by decide,by decide,by decide⟩
 exact ⟨1,by decide,by decide,by decide⟩
 exact ⟨2,by decide,by decide,by decide⟩
 exact ⟨3,by decide,by decide,by decide⟩
 exact ⟨4,by decide,by decide,by decide⟩
theorem simple_any (X:List Nat) (v:Value) (x:Nd) (w:World) (hX0:∀ b∈X,b<w.heap.size) (hsh:Shape x.kind x.word x.kids.length) (h9:¬ x.kind=9) (ha:¬ (x.kind=6∧x.word=[97,110,100])) (ho:¬ (x.kind=6∧x.word=[111,114])) (hx:NdV [] w v x) :
 Calls Tryz.prog 104 #[v] w (Ret fun r w'=>SlV X w' r (plainO x.kind x.word)∧Stp [] w w'):=by
 obtain ⟨kv,rfl,hs⟩:=hx
 refine calls_of_WC1 (n:=63) Tryz.func104 rfl rfl rfl ?_
 refine W ?_
 refine WL_eff (OE_box rfl) rfl ?_
 rintro _ w0 ⟨b,rfl,hb,hblk,hS⟩
 replace hblk:Blk w0 b _ (ndC x kv):=hblk
 have hX:∀ b∈X,b<w0.heap.size:=fun b hb=>Nat.lt_of_lt_of_le (hX0 b hb) hS.size
 refine W ?_
 refine WL_eff (OE_buildSlice (vs:=[(0,.int .i64 5)]) rfl (buildSI1 _)) rfl ?_
 rintro a0 u0 hN
 have s_a0:SlV X u0 a0 [(5:Int)]:=hN.slv hX rfl rfl (by simp [maxLen])
 have hT:=NewSl.stp hN
 clear hN
 replace hblk:=hblk.up hT
 replace hS:=hS.trans hT
 replace hX:=fun b hb=>Nat.lt_of_lt_of_le (hX b hb) hT.size
 clear hT
 refine WL_eff (OE_buildSlice (vs:=[(0,.int .i64 6)]) rfl (buildSI1 _)) rfl ?_
 rintro a1 u1 hN
 have s_a1:SlV X u1 a1 [(6:Int)]:=hN.slv hX rfl rfl (by simp [maxLen])
 have hT:=NewSl.stp hN
 clear hN
 replace hblk:=hblk.up hT
 replace hS:=hS.trans hT
 replace hX:=fun b hb=>Nat.lt_of_lt_of_le (hX b hb) hT.size
 replace s_a0:=s_a0.up hT
 clear hT
 refine WL_eff (OE_buildSlice (vs:=[(0,.int .i64 7)]) rfl (buildSI1 _)) rfl ?_
 rintro a2 u2 hN
 have s_a2:SlV X u2 a2 [(7:Int)]:=hN.slv hX rfl rfl (by simp [maxLen])
 have hT:=NewSl.stp hN
 clear hN
 replace hblk:=hblk.up hT
 replace hS:=hS.trans hT
 replace hX:=fun b hb=>Nat.lt_of_lt_of_le (hX b hb) hT.size
 replace s_a0:=s_a0.up hT
 replace s_a1:=s_a1.up hT
 clear hT
 refine WL_eff (OE_buildSlice (vs:=[(0,.int .i64 9)]) rfl (buildSI1 _)) rfl ?_
 rintro a3 u3 hN
 have s_a3:SlV X u3 a3 [(9:Int)]:=hN.slv hX rfl rfl (by simp [maxLen])
 have hT:=NewSl.stp hN
 clear hN
 replace hblk:=hblk.up hT
 replace hS:=hS.trans hT
 replace hX:=fun b hb=>Nat.lt_of_lt_of_le (hX b hb) hT.size
 replace s_a0:=s_a0.up hT
 replace s_a1:=s_a1.up hT
 replace s_a2:=s_a2.up hT
 clear hT
 refine WL_eff (OE_buildSlice (vs:=[(0,.int .i64 10)]) rfl (buildSI1 _)) rfl ?_
 rintro a4 u4 hN
 have s_a4:SlV X u4 a4 [(10:Int)]:=hN.slv hX rfl rfl (by simp [maxLen])
 have hT:=NewSl.stp hN
 clear hN
 replace hblk:=hblk.up hT
 replace hS:=hS.trans hT
 replace hX:=fun b hb=>Nat.lt_of_lt_of_le (hX b hb) hT.size
 replace s_a0:=s_a0.up hT
 replace s_a1:=s_a1.up hT
 replace s_a2:=s_a2.up hT
 replace s_a3:=s_a3.up hT
 clear hT
 refine WL_eff (OE_buildSlice (vs:=[(0,.int .i64 11)]) rfl (buildSI1 _)) rfl ?_
 rintro a5 u5 hN
 have s_a5:SlV X u5 a5 [(11:Int)]:=hN.slv hX rfl rfl (by simp [maxLen])
 have hT:=NewSl.stp hN
 clear hN
 replace hblk:=hblk.up hT
 replace hS:=hS.trans hT
 replace hX:=fun b hb=>Nat.lt_of_lt_of_le (hX b hb) hT.size
 replace s_a0:=s_a0.up hT
 replace s_a1:=s_a1.up hT
 replace s_a2:=s_a2.up hT
 replace s_a3:=s_a3.up hT
 replace s_a4:=s_a4.up hT
 clear hT
 refine WL_eff (OE_buildSlice (vs:=[(0,.int .i64 10),(1,.int .i64 12)]) rfl (buildSI2 _ _)) rfl ?_
 rintro a6 u6 hN
 have s_a6:SlV X u6 a6 [(10:Int),(12:Int)]:=hN.slv hX rfl rfl (by simp [maxLen])
 have hT:=NewSl.stp hN
 clear hN
 replace hblk:=hblk.up hT
 replace hS:=hS.trans hT
 replace hX:=fun b hb=>Nat.lt_of_lt_of_le (hX b hb) hT.size
 replace s_a0:=s_a0.up hT
 replace s_a1:=s_a1.up hT
 replace s_a2:=s_a2.up hT
 replace s_a3:=s_a3.up hT
 replace s_a4:=s_a4.up hT
 replace s_a5:=s_a5.up hT
 clear hT
 refine WL_eff (OE_buildSlice (vs:=[(0,.int .i64 9),(1,.int .i64 12)]) rfl (buildSI2 _ _)) rfl ?_
 rintro a7 u7 hN
 have s_a7:SlV X u7 a7 [(9:Int),(12:Int)]:=hN.slv hX rfl rfl (by simp [maxLen])
 have hT:=NewSl.stp hN
 clear hN
 replace hblk:=hblk.up hT
 replace hS:=hS.trans hT
 replace hX:=fun b hb=>Nat.lt_of_lt_of_le (hX b hb) hT.size
 replace s_a0:=s_a0.up hT
 replace s_a1:=s_a1.up hT
 replace s_a2:=s_a2.up hT
 replace s_a3:=s_a3.up hT
 replace s_a4:=s_a4.up hT
 replace s_a5:=s_a5.up hT
 replace s_a6:=s_a6.up hT
 clear hT
 refine WL_eff (OE_buildSlice (vs:=[(0,.int .i64 11),(1,.int .i64 12)]) rfl (buildSI2 _ _)) rfl ?_
 rintro a8 u8 hN
 have s_a8:SlV X u8 a8 [(11:Int),(12:Int)]:=hN.slv hX rfl rfl (by simp [maxLen])
 have hT:=NewSl.stp hN
 clear hN
 replace hblk:=hblk.up hT
 replace hS:=hS.trans hT
 replace hX:=fun b hb=>Nat.lt_of_lt_of_le (hX b hb) hT.size
 replace s_a0:=s_a0.up hT
 replace s_a1:=s_a1.up hT
 replace s_a2:=s_a2.up hT
 replace s_a3:=s_a3.up hT
 replace s_a4:=s_a4.up hT
 replace s_a5:=s_a5.up hT
 replace s_a6:=s_a6.up hT
 replace s_a7:=s_a7.up hT
 clear hT
 obtain ⟨p0,c0,rfl,_⟩:=id s_a0
 obtain ⟨p1,c1,rfl,_⟩:=id s_a1
 obtain ⟨p2,c2,rfl,_⟩:=id s_a2
 obtain ⟨p3,c3,rfl,_⟩:=id s_a3
 obtain ⟨p4,c4,rfl,_⟩:=id s_a4
 obtain ⟨p5,c5,rfl,_⟩:=id s_a5
 obtain ⟨p6,c6,rfl,_⟩:=id s_a6
 obtain ⟨p7,c7,rfl,_⟩:=id s_a7
 obtain ⟨p8,c8,rfl,_⟩:=id s_a8
 refine WL_eff (OE_buildSlice (vs:=[(0,.slice p0 _ c0),(1,.slice p1 _ c1),(2,.slice p2 _ c2),(3,.slice p3 _ c3),(4,.slice p4 _ c4),(5,.slice p5 _ c5),(6,.slice p6 _ c6),(7,.slice p7 _ c7),(8,.slice p8 _ c8)]) rfl (buildSV9 _ _ _ _ _ _ _ _ _ _ _ _ _ _ _ _ _ _ _ _ _ _ _ _ _ _ _)) rfl ?_
 rintro tw u9 hN
 have s_tw:SlV X u9 tw codes9:=hN.slvS (xss:=codes9) hX rfl rfl (fun i hi hi'=>match i,hi with|0,_=>s_a0|1,_=>s_a1|2,_=>s_a2|3,_=>s_a3|4,_=>s_a4|5,_=>s_a5|6,_=>s_a6|7,_=>s_a7|8,_=>s_a8) (by decide)
 have hT:=NewSl.stp hN
 clear hN
 replace hblk:=hblk.up hT
 replace hS:=hS.trans hT
 replace hX:=fun b hb=>Nat.lt_of_lt_of_le (hX b hb) hT.size
 replace s_a0:=s_a0.up hT
 replace s_a1:=s_a1.up hT
 replace s_a2:=s_a2.up hT
 replace s_a3:=s_a3.up hT
 replace s_a4:=s_a4.up hT
 replace s_a5:=s_a5.up hT
 replace s_a6:=s_a6.up hT
 replace s_a7:=s_a7.up hT
 replace s_a8:=s_a8.up hT
 clear hT
 clear s_a0 s_a1 s_a2 s_a3 s_a4 s_a5 s_a6 s_a7 s_a8
 refine W ?_
 refine WL_eff (OE_buildSlice (vs:=[(0,.int .i64 19),(1,.int .i64 20),(2,.int .i64 21),(3,.int .i64 22),(4,.int .i64 23)]) rfl (buildSI5 _ _ _ _ _)) rfl ?_
 rintro cl u10 hN
 have s_cl:SlV X u10 cl [(19:Int),20,21,22,23]:=hN.slv hX rfl rfl (by simp [maxLen])
 have hT:=NewSl.stp hN
 clear hN
 replace hblk:=hblk.up hT
 replace hS:=hS.trans hT
 replace hX:=fun b hb=>Nat.lt_of_lt_of_le (hX b hb) hT.size
 replace s_tw:=s_tw.up hT
 clear hT
 refine W ?_
 refine WL_eff (OE_buildSlice (vs:=[(0,.int .i64 15),(1,.int .i64 16),(2,.int .i64 17),(3,.int .i64 18)]) rfl (buildSI4 _ _ _ _)) rfl ?_
 rintro un u11 hN
 have s_un:SlV X u11 un [(15:Int),16,17,18]:=hN.slv hX rfl rfl (by simp [maxLen])
 have hT:=NewSl.stp hN
 clear hN
 replace hblk:=hblk.up hT
 replace hS:=hS.trans hT
 replace hX:=fun b hb=>Nat.lt_of_lt_of_le (hX b hb) hT.size
 replace s_tw:=s_tw.up hT
 replace s_cl:=s_cl.up hT
 clear hT
 refine W ?_
 refine WL_eff (OE_buildSlice (vs:=[(0,str [100,97,121,115]),(1,str [119,101,101,107,115]),(2,str [109,111,110,116,104,115]),(3,str [99,111,117,114,116,100,97,121,115])]) rfl (buildSS4 _ _ _ _)) rfl ?_
 rintro us u12 hN
 have s_us:SlV X u12 us units:=hN.slv hX rfl rfl (by simp [units,maxLen])
 have hT:=NewSl.stp hN
 clear hN
 replace hblk:=hblk.up hT
 replace hS:=hS.trans hT
 replace hX:=fun b hb=>Nat.lt_of_lt_of_le (hX b hb) hT.size
 replace s_tw:=s_tw.up hT
 replace s_cl:=s_cl.up hT
 replace s_un:=s_un.up hT
 clear hT
 refine W ?_
 refine CL rfl (evs2 rfl rfl) rfl (place15_any X _ units x.word _ s_us) ?_
 rintro _ w2 ⟨rfl,hT⟩
 replace hblk:=hblk.up hT;replace s_tw:=s_tw.up hT;replace s_cl:=s_cl.up hT;replace s_un:=s_un.up hT
 replace hS:=hS.trans hT
 replace hX:=fun b hb=>Nat.lt_of_lt_of_le (hX b hb) hT.size
 clear hT s_us
 have hO7:x.kind=7∨x.kind=8→x.word∈units:=fun hk=>by
  rcases hsh with ⟨h,_,_⟩|⟨h,_,_⟩|⟨h,hu,_⟩|⟨h,_⟩|⟨h,_,_⟩<;>first|exact hu|omega
 have hO6:x.kind=6→x.word∈opsA∨x.word∈opsC∨x.word∈opsL:=fun hk=>by
  rcases hsh with ⟨h,_,_⟩|⟨h,hu,_⟩|⟨h,_,_⟩|⟨h,_⟩|⟨h,_,_⟩<;>first|exact hu|omega
 have hO5:x.kind=5→x.word=[45]∨x.word=[110,111,116]:=fun hk=>by
  rcases hsh with ⟨h,hu,_⟩|⟨h,_,_⟩|⟨h,_,_⟩|⟨h,_⟩|⟨h,_,_⟩<;>first|exact hu|omega
 have hO10:¬ x.kind=5→¬ x.kind=6→¬ x.kind=7→¬ x.kind=8→x.kind=10∧x.word∈opsF:=fun _ _ _ _=>by
  rcases hsh with ⟨h,_,_⟩|⟨h,_,_⟩|⟨h,_,_⟩|⟨h,_⟩|⟨h,hu,_⟩<;>first|exact ⟨h,hu⟩|omega
 refine W ?_
 by_cases k5:x.kind=5
 have hw5:=hO5 k5
 focus repeat'(first|refine W1 ?_|omega|refine VG ?_ ?_<;>intro hg|refine VC ?_ ?_<;>intro hc)
 refine WL_eff (OE_buildSlice (vs:=[(0,.int .i64 8)]) rfl (buildSI1 _)) rfl ?_
 rintro r w3 hN
 have hr:SlV X w3 r [(8:Int)]:=hN.slv hX rfl rfl (by simp [maxLen])
 have hT:=NewSl.stp hN
 refine W ?_
 refine WR ?_
 have hw:x.word=[45]:=by assumption
 exact .mk ⟨by rw [k5,hw];exact hr,hS.trans hT⟩
 refine WL_eff (OE_buildSlice (vs:=[(0,.int .i64 12)]) rfl (buildSI1 _)) rfl ?_
 rintro r w3 hN
 have hr:SlV X w3 r [(12:Int)]:=hN.slv hX rfl rfl (by simp [maxLen])
 have hT:=NewSl.stp hN
 refine W ?_
 refine WR ?_
 have hw:x.word=[110,111,116]:=hw5.resolve_left (by assumption)
 exact .mk ⟨by rw [k5,hw];exact hr,hS.trans hT⟩
 by_cases k6:x.kind=6
 have hw6:=hO6 k6
 obtain ⟨i,hi,hid,hco⟩:=o6 hw6 (fun h=>ha ⟨k6,h⟩) (fun h=>ho ⟨k6,h⟩)
 focus repeat'(first|refine W1 ?_|omega|refine VG ?_ ?_<;>intro hg|refine VC ?_ ?_<;>intro hc)
 refine WL_eff (OE_buildSlice (vs:=[(0,str [43]),(1,str [45]),(2,str [42]),(3,str [60]),(4,str [60,61]),(5,str [61]),(6,str [62]),(7,str [62,61]),(8,str [33,61])]) rfl (buildSS9 _ _ _ _ _ _ _ _ _)) rfl ?_
 rintro nv w3 hN
 have s_n:SlV X w3 nv names9:=hN.slv hX rfl rfl (by simp [names9,maxLen])
 have hT:=NewSl.stp hN
 replace hblk:=hblk.up hT;replace s_tw:=s_tw.up hT
 replace hS:=hS.trans hT
 clear hT hN
 refine W ?_
 refine CL rfl (evs2 rfl rfl) rfl (place15_any X _ names9 x.word _ s_n) ?_
 rintro _ w4 ⟨rfl,hT⟩
 replace hblk:=hblk.up hT;replace s_tw:=s_tw.up hT
 replace hS:=hS.trans hT
 rw [hid]
 obtain ⟨u,hcell,hsu⟩:=s_tw.sub hi
 refine W ?_
 apply WL_pure (PR_load1 rfl rfl hcell) rfl
 refine W ?_
 refine WR ?_
 exact .mk ⟨by rw [k6,← hco];exact hsu,hS⟩
 by_cases k7:x.kind=7
 obtain ⟨i,hi,hid,hco,_⟩:=oU (hO7 (.inl k7))
 rw [hid]
 focus repeat'(first|refine W1 ?_|omega|refine VG ?_ ?_<;>intro hg|refine VC ?_ ?_<;>intro hc)
 refine WL_eff (OE_buildSlice (vs:=[(0,.int .i64 _)]) rfl (buildSI1 _)) rfl ?_
 rintro r w3 hN
 have hr:SlV X w3 r [[(15:Int),16,17,18][i]]:=hN.slv hX rfl rfl (by simp [maxLen])
 have hT:=NewSl.stp hN
 refine W ?_
 refine WR ?_
 exact .mk ⟨by rw [k7,hco];exact hr,hS.trans hT⟩
 by_cases k8:x.kind=8
 obtain ⟨i,hi,hid,_,hco⟩:=oU (hO7 (.inr k8))
 rw [hid]
 focus repeat'(first|refine W1 ?_|omega|refine VG ?_ ?_<;>intro hg|refine VC ?_ ?_<;>intro hc)
 refine WL_eff (OE_buildSlice (vs:=[(0,.int .i64 8),(1,.int .i64 _)]) rfl (buildSI2 _ _)) rfl ?_
 rintro r w3 hN
 have hr:SlV X w3 r [8,[(15:Int),16,17,18][i]]:=hN.slv hX rfl rfl (by simp [maxLen])
 have hT:=NewSl.stp hN
 refine W ?_
 refine WR ?_
 exact .mk ⟨by rw [k8,hco];exact hr,hS.trans hT⟩
 obtain ⟨k10,hw10⟩:=hO10 k5 k6 k7 k8
 obtain ⟨i,hi,hid,hco⟩:=oC hw10
 repeat'(first|refine W1 ?_|omega|refine VG ?_ ?_<;>intro hg|refine VC ?_ ?_<;>intro hc)
 refine WL_eff (OE_buildSlice (vs:=[(0,str [110,101,120,116]),(1,str [112,114,101,118]),(2,str [108,97,116,101,114]),(3,str [101,97,114,108,105,101,114]),(4,str [98,101,116,119,101,101,110])]) rfl (buildSS5 _ _ _ _ _)) rfl ?_
 rintro nv w3 hN
 have s_n:SlV X w3 nv opsF:=hN.slv hX rfl rfl (by simp [opsF,maxLen])
 have hT:=NewSl.stp hN
 replace hblk:=hblk.up hT;replace s_cl:=s_cl.up hT
 replace hS:=hS.trans hT
 replace hX:=fun b hb=>Nat.lt_of_lt_of_le (hX b hb) hT.size
 clear hT hN
 refine W ?_
 refine CL rfl (evs2 rfl rfl) rfl (place15_any X _ opsF x.word _ s_n) ?_
 rintro _ w4 ⟨rfl,hT⟩
 replace hblk:=hblk.up hT;replace s_cl:=s_cl.up hT
 replace hS:=hS.trans hT
 replace hX:=fun b hb=>Nat.lt_of_lt_of_le (hX b hb) hT.size
 rw [hid]
 refine W ?_
 refine WL_eff (OE_buildSlice (vs:=[(0,.int .i64 _)]) rfl (buildSI1 _)) rfl ?_
 rintro r w5 hN
 have hr:SlV X w5 r [[(19:Int),20,21,22,23][i]]:=hN.slv hX rfl rfl (by simp [maxLen])
 have hT:=NewSl.stp hN
 refine W ?_
 refine WR ?_
 exact .mk ⟨by rw [k10,hco];exact hr,hS.trans hT⟩
abbrev RwI (w w':World) (v:Value) (xs:List Ins):Prop:=RowF 51 w w' v xs
def CodeOk (x:Nd) (f:Cf):Prop:=∀ (w:World) (nv:Value) (p:Nat) (z:Int),z=(p:Int)→NdV [] w nv x→p+(f p).length≤100000→
 Calls Tryz.prog 47 #[nv,.int .i64 z] w (Ret fun r w'=>RwI w w' r (f p))
theorem choiceR_any {x y n:Nd} {f g h:Cf} (hx:CodeOk x f) (hy:CodeOk y g) (hn:CodeOk n h) (w:World) (xv yv nv:Value) (p0:Nat) (z0:Int) (hz:z0=(p0:Int))
 (gx:NdV [] w xv x) (gy:NdV [] w yv y) (gn:NdV [] w nv n) (hl:p0+(chC f g h p0).length≤100000) :
 Calls Tryz.prog 103 #[xv,yv,nv,.int .i64 z0] w (Ret fun r w'=>RwI w w' r (chC f g h p0)):=by
 have hl':=hl
 unfold chC at hl'
 simp only [List.length_append,List.length_cons,List.length_nil] at hl'
 obtain ⟨xk,rfl,sx⟩:=gx
 obtain ⟨yk,rfl,sy⟩:=gy
 obtain ⟨nk,rfl,sn⟩:=gn
 subst hz
 refine calls_of_WC4 (n:=60) Tryz.func103 rfl rfl rfl ?_
 refine W ?_
 refine WL_eff (OE_box rfl) rfl ?_
 rintro _ w1 ⟨b1,rfl,hb1,k1,hS1⟩
 replace k1:Blk w1 b1 _ (ndC x xk):=k1
 refine WL_eff (OE_box rfl) rfl ?_
 rintro _ w2 ⟨b2,rfl,hb2,k2,hS2⟩
 replace k2:Blk w2 b2 _ (ndC y yk):=k2
 refine WL_eff (OE_box rfl) rfl ?_
 rintro _ w3 ⟨b3,rfl,hb3,k3,hS3⟩
 replace k3:Blk w3 b3 _ (ndC n nk):=k3
 have hS:=(hS1.trans hS2).trans hS3
 replace k1:=(k1.up hS2).up hS3
 replace k2:=k2.up hS3
 replace sx:=sx.up hS
 replace sy:=sy.up hS
 replace sn:=sn.up hS
 clear hS1 hS2 hS3
 have hch:=chC.eq_1 f g h p0
 generalize hA:f p0=A at *
 generalize hp:p0+A.length+1=p at *
 generalize hB:g p=B at *
 generalize hqq:p+B.length+1=q at *
 generalize hD:h q=D at *
 rw [hch]
 have e1:(A++[(⟨14,0⟩:Ins)]).length=A.length+1:=by simp
 have e2:(A++[(⟨14,0⟩:Ins)]++B).length=A.length+1+B.length:=by simp;omega
 have e3:(A++[(⟨14,0⟩:Ins)]++B++[(⟨13,0⟩:Ins)]).length=A.length+1+B.length+1:=by simp;omega
 have e4:∀ z,(A++[(⟨14,z⟩:Ins)]++B++[(⟨13,0⟩:Ins)]).length=A.length+1+B.length+1:=by simp;omega
 have e5:∀ z,(A++[(⟨14,z⟩:Ins)]++B++[(⟨13,0⟩:Ins)]++D).length=A.length+1+B.length+1+D.length:=by simp;omega
 refine W ?_
 refine CL rfl (evs2 rfl rfl) rfl (hx _ _ p0 _ rfl ⟨xk,rfl,sx⟩ (by rw [hA];omega)) ?_
 rintro v w4 hr
 rw [hA] at hr
 have hsl:=hr.slv (X:=[]) (by simp)
 refine W ?_
 apply WL_build (vs:=[(0,.int .i64 14)]) rfl (buildI0 _) rfl
 refine WL_eff (OE_buildSlice (vs:=[(0,agg (Ins.mk 14 0))]) rfl (buildSI _)) rfl ?_
 rintro u wb hN
 have hu:SlV (ob v) wb u [Ins.mk 14 0]:=hN.slv (fun b hb=>(hr.ob_le b hb).2) rfl rfl (by simp [maxLen])
 have hT:=NewSl.stp hN
 clear hN
 replace hr:=hr.up hT
 clear hT hsl
 refine WL_eff (OE_appF rfl (by decide) rfl rfl hr hu (by simp only [List.length_cons,List.length_nil];omega) (by simp only [List.length_cons,List.length_nil,maxLen];omega)) rfl ?_
 clear hu hr
 rintro v wc ⟨hr,-,-⟩
 have hsl:=hr.slv (X:=[]) (by simp)
 have kk:=k2.up hr.2
 refine W ?_
 refine CL rfl (evs2 rfl rfl) rfl (hy _ _ p _ (by omega) ⟨yk,rfl,sy.up hr.2⟩ (by rw [hB];omega)) ?_
 rintro u wd hu
 rw [hB] at hu
 have hus:=hu.slv (X:=ob v) (fun b hb=>(hr.ob_le b hb).2)
 replace hr:=hr.up hu.2
 clear hu hsl kk
 refine WL_eff (OE_appF rfl (by decide) rfl rfl hr hus (by rw [e1];omega) (by rw [e1];simp only [maxLen];omega)) rfl ?_
 clear hus hr
 rintro v we ⟨hr,-,-⟩
 have hsl:=hr.slv (X:=[]) (by simp)
 refine W ?_
 apply WL_build (vs:=[(0,.int .i64 13)]) rfl (buildI0 _) rfl
 refine WL_eff (OE_buildSlice (vs:=[(0,agg (Ins.mk 13 0))]) rfl (buildSI _)) rfl ?_
 rintro u wb hN
 have hu:SlV (ob v) wb u [Ins.mk 13 0]:=hN.slv (fun b hb=>(hr.ob_le b hb).2) rfl rfl (by simp [maxLen])
 have hT:=NewSl.stp hN
 clear hN
 replace hr:=hr.up hT
 clear hT hsl
 refine WL_eff (OE_appF rfl (by decide) rfl rfl hr hu (by simp only [e2,List.length_cons,List.length_nil];omega) (by simp only [e2,List.length_cons,List.length_nil,maxLen];omega)) rfl ?_
 clear hu hr
 rintro v wc ⟨hr,-,-⟩
 have hsl:=hr.slv (X:=[]) (by simp)
 have hi1:A.length<(A++[(⟨14,0⟩:Ins)]++B++[(⟨13,0⟩:Ins)]).length:=by rw [e3];omega
 refine W ?_
 have hop1:(A++[(⟨14,0⟩:Ins)]++B++[(⟨13,0⟩:Ins)])[A.length]=⟨14,0⟩:=by simp
 have hq1:(p0:Int)+((A++[(⟨14,0⟩:Ins)]++B++[(⟨13,0⟩:Ins)]).length:Int)=(q:Int):=by rw [e3];omega
 refine WL_eff0 (OE_setF (i:=A.length) (j:=1) (u:=.int .i64 ((p0:Int)+((A++[(⟨14,0⟩:Ins)]++B++[(⟨13,0⟩:Ins)]).length:Int))) (y':=⟨14,(q:Int)⟩) rfl rfl rfl rfl rfl hr hi1 (by decide) (by rw [hop1,← hq1];rfl)) ?_
 have hset1:(A++[(⟨14,0⟩:Ins)]++B++[(⟨13,0⟩:Ins)]).set A.length ⟨14,(q:Int)⟩=A++[(⟨14,(q:Int)⟩:Ins)]++B++[(⟨13,0⟩:Ins)]:=by simp
 rw [hset1]
 clear hr hsl
 rintro _ wf ⟨hr,-⟩
 have hsl:=hr.slv (X:=[]) (by simp)
 have e4':=e4 (q:Int)
 have kk:=k3.up hr.2
 refine W ?_
 refine CL rfl (evs2 rfl rfl) rfl (hn _ _ q _ (by omega) ⟨nk,rfl,sn.up hr.2⟩ (by rw [hD];omega)) ?_
 rintro u wd hu
 rw [hD] at hu
 have hus:=hu.slv (X:=ob v) (fun b hb=>(hr.ob_le b hb).2)
 replace hr:=hr.up hu.2
 clear hu hsl kk
 refine WL_eff (OE_appF rfl (by decide) rfl rfl hr hus (by rw [e4];omega) (by rw [e4];simp only [maxLen];omega)) rfl ?_
 clear hus hr
 rintro v we ⟨hr,-,-⟩
 have hsl:=hr.slv (X:=[]) (by simp)
 have e5':=e5 (q:Int)
 have hi2:A.length+1+B.length<(A++[(⟨14,(q:Int)⟩:Ins)]++B++[(⟨13,0⟩:Ins)]++D).length:=by rw [e5];omega
 refine W ?_
 have e2':(A++[(⟨14,(q:Int)⟩:Ins)]++B).length=A.length+1+B.length:=by simp;omega
 have hsp:A++[(⟨14,(q:Int)⟩:Ins)]++B++[(⟨13,0⟩:Ins)]++D=(A++[(⟨14,(q:Int)⟩:Ins)]++B)++(⟨13,0⟩:Ins) :: D:=by simp
 rw [e2]
 have hop2:(A++[(⟨14,(q:Int)⟩:Ins)]++B++[(⟨13,0⟩:Ins)]++D)[A.length+1+B.length]=⟨13,0⟩:=by
  rw [List.getElem_append_left (by rw [e4];omega),List.getElem_append_right (by omega)]
  simp
 have hq2:(p0:Int)+((A++[(⟨14,(q:Int)⟩:Ins)]++B++[(⟨13,0⟩:Ins)]++D).length:Int)=((q+D.length:Nat):Int):=by rw [e5];omega
 refine WL_eff0 (OE_setF (i:=A.length+1+B.length) (j:=1) (u:=.int .i64 ((p0:Int)+((A++[(⟨14,(q:Int)⟩:Ins)]++B++[(⟨13,0⟩:Ins)]++D).length:Int))) (y':=⟨13,((q+D.length:Nat):Int)⟩) rfl rfl rfl rfl rfl hr hi2 (by decide) (by rw [hop2,← hq2];rfl)) ?_
 have hset2:(A++[(⟨14,(q:Int)⟩:Ins)]++B++[(⟨13,0⟩:Ins)]++D).set (A.length+1+B.length) ⟨13,((q+D.length:Nat):Int)⟩=A++[(⟨14,(q:Int)⟩:Ins)]++B++[(⟨13,((q+D.length:Nat):Int)⟩:Ins)]++D:=by
  rw [hsp,List.set_append_right _ _ (by omega),e2']
  simp
 rw [hset2]
 clear hr hsl
 rintro _ wg ⟨hr,-⟩
 refine W ?_
 refine WR ?_
 exact .mk (hr.pre hS)
theorem codeBool (z:Int):CodeOk (.mk 2 z [] []) (fun _=>[⟨2,z⟩]):=by
 intro w nv p z0 hz hx hl
 have hN:=hx
 obtain ⟨kv,rfl,hs⟩:=hx
 refine calls_of_WC2 (n:=107) Tryz.func47 rfl rfl rfl ?_
 refine W ?_
 refine WL_eff (OE_box rfl) rfl ?_
 rintro _ w1 ⟨b,rfl,hb,hblk,hS⟩
 replace hblk:Blk w1 b _ (ndC (.mk 2 z [] []) kv):=hblk
 replace hs:=hs.up hS;replace hN:=hN.up hS
 have hk0:(Nd.mk 2 z [] []).kids.length=0:=rfl
 repeat'(first|refine W1 ?_|omega|refine VG ?_ ?_<;>intro hg|refine VC ?_ ?_<;>intro hc)
 refine CL rfl (evs1 rfl) rfl (leafR_any _ (.mk 2 z [] []) _ hN) ?_
 rintro _ w2 ⟨rfl,hS2⟩
 refine WL_eff (OE_buildSlice (vs:=[(0,agg (Ins.mk 2 z))]) rfl (buildSI _)) rfl ?_
 rintro u w3 hN3
 have hr:RwI w2 w3 u [Ins.mk 2 z]:=RowF.one hN3 rfl rfl (by simp [maxLen])
 refine W ?_
 refine WR ?_
 exact .mk (hr.pre (hS.trans hS2))
theorem combC_plainO {x:Nd} (cs:List Cf) (p:Nat) (hne:¬ cs.length=0) (h9:¬ x.kind=9) (ha:¬ (x.kind=6∧x.word=[97,110,100])) (ho:¬ (x.kind=6∧x.word=[111,114])):combC x.kind x.num x.word cs p=seqC cs p++insO (plainO x.kind x.word):=by
 unfold combC plainO plainC
 rw [if_neg hne,if_neg h9,if_neg ha,if_neg ho]
 by_cases hm:x.kind=6∧x.word=[45]
 rw [if_pos hm,if_pos hm,hm.1,hm.2]
 simp [insO]
 rw [if_neg hm,if_neg hm]
 by_cases h8:x.kind=8∨x.kind=5∧x.word=[45]
 rw [if_pos h8,if_pos h8]
 simp [insO]
 rw [if_neg h8,if_neg h8]
 simp [insO]
theorem code_ok (x:Nd):typeT x≠0→CodeOk x (codeN x):=by
 induction x using Nd.ind with
 | h k n s l ih=>
 intro hty
 have hkt:=(typed_kids hty).2
 have hcs:∀ i (h:i<(Nd.mk k n s l).kids.length),CodeOk (Nd.mk k n s l).kids[i] (codeN (Nd.mk k n s l).kids[i]):=by
  intro i h
  exact ih _ (List.getElem_mem h) (hkt _ (List.getElem_mem h))
 have hsh:=typed_shape hty
 have hcN:=codeN_eq (.mk k n s l)
 have hcL:=codeN_leaf (x:=.mk k n s l)
 have hgD:=fun i=>codeN_getD (x:=.mk k n s l) (i:=i)
 generalize (Nd.mk k n s l)=x at *
 clear ih
 intro w nv p z0 hz hx hl
 subst hz
 have hN:=hx
 obtain ⟨kv,rfl,hs⟩:=hx
 have hmax:=hs.max
 refine calls_of_WC2 (n:=107) Tryz.func47 rfl rfl rfl ?_
 refine W ?_
 refine WL_eff (OE_box rfl) rfl ?_
 rintro _ wA ⟨b,rfl,hb,hblk,hS⟩
 replace hblk:Blk wA b _ (ndC x kv):=hblk
 replace hs:=hs.up hS;replace hN:=hN.up hS
 by_cases h0:x.kids=[]
 have hk0:x.kids.length=0:=by rw [h0];rfl
 rw [hcL h0]
 focus repeat'(first|refine W1 ?_|omega|refine VG ?_ ?_<;>intro hg|refine VC ?_ ?_<;>intro hc)
 refine CL rfl (evs1 rfl) rfl (leafR_any _ x _ hN) ?_
 rintro _ w2 ⟨rfl,hS2⟩
 refine WL_eff (OE_buildSlice (vs:=[(0,agg (leafI x.kind x.num x.word))]) rfl (buildSI _)) rfl ?_
 rintro u w3 hN3
 have hr:RwI w2 w3 u [leafI x.kind x.num x.word]:=RowF.one hN3 rfl rfl (by simp [maxLen])
 refine W ?_
 refine WR ?_
 exact .mk (hr.pre (hS.trans hS2))
 have hkl:¬ x.kids.length=0:=fun h=>h0 (List.eq_nil_of_length_eq_zero h)
 have hcl:¬ (x.kids.map codeN).length=0:=by simpa using h0
 replace hsh:=(hsh h0).2
 have hk6:x.kind=6→x.kids.length=2:=fun h6=>by
  rcases hsh with ⟨h,_,_⟩|⟨h,_,hm⟩|⟨h,_,_⟩|⟨h,_⟩|⟨h,_,_⟩<;>omega
 have hk9:x.kind=9→x.kids.length=3:=fun h6=>by
  rcases hsh with ⟨h,_,_⟩|⟨h,_,hm⟩|⟨h,_,_⟩|⟨h,hm⟩|⟨h,_,_⟩<;>omega
 by_cases h9:x.kind=9
 have h3:=hk9 h9
 have h0:0<x.kids.length:=by omega
 have h1:1<x.kids.length:=by omega
 have h2:2<x.kids.length:=by omega
 have e9:codeN x=chC (codeN x.kids[0]) (codeN x.kids[1]) (codeN x.kids[2]):=by
  funext p
  rw [hcN,combC,if_neg hcl,if_pos h9,hgD 0 h0,hgD 1 h1,hgD 2 h2]
 rw [e9] at hl ⊢
 focus repeat'(first|refine W1 ?_|omega|refine VG ?_ ?_<;>intro hg|refine VC ?_ ?_<;>intro hc)
 refine WC_drawn 15 [] [] [(0,0),(1,1),(2,0),(3,1),(4,0),(5,1),(6,0),(7,1),(8,0),(9,1),(10,0),(11,1),(12,0),(13,2),(14,0)] rfl mixed (by kernel_rfl) (by kernel_rfl) (by kernel_rfl) (fun w1 hS1=>?_)
 replace hs:=hs.up hS1
 replace hblk:=hblk.up hS1
 replace hS:=hS.trans hS1
 obtain ⟨u0,s0,d0⟩:=hs.nd h0
 obtain ⟨u1,s1,d1⟩:=hs.nd h1
 obtain ⟨u2,s2,d2⟩:=hs.nd h2
 refine D ?_
 refine WD_read rfl trivial (fun w' hS'=>PR_loadNd rfl rfl (hs.on hS' (fun _ h=>h)) h0 (fun j u hj=>cell_on hs h0 hS' (d0 j u hj))) rfl ?_
 refine D ?_
 refine WD_read rfl trivial (fun w' hS'=>PR_loadNd rfl rfl (hs.on hS' (fun _ h=>h)) h1 (fun j u hj=>cell_on hs h1 hS' (d1 j u hj))) rfl ?_
 refine D ?_
 refine WD_read rfl trivial (fun w' hS'=>PR_loadNd rfl rfl (hs.on hS' (fun _ h=>h)) h2 (fun j u hj=>cell_on hs h2 hS' (d2 j u hj))) rfl ?_
 refine D ?_
 refine WD_eff rfl trivial (OE_call rfl (evs4 rfl rfl rfl rfl) (choiceR_any (hcs 0 h0) (hcs 1 h1) (hcs 2 h2) _ _ _ _ p _ rfl ⟨u0,rfl,s0⟩ ⟨u1,rfl,s1⟩ ⟨u2,rfl,s2⟩ hl)) (fun _ _ h=>h.2) rfl ?_
 rintro _ w5 hq
 refine D ?_
 refine W ?_
 refine WR ?_
 exact .mk (hq.pre hS)
 by_cases ha:x.kind=6∧x.word=[97,110,100]
 · obtain ⟨h6,hw⟩:=ha
   have h2:=hk6 h6
   have h0:0<x.kids.length:=by omega
   have h1:1<x.kids.length:=by omega
   have e9:codeN x=chC (codeN x.kids[0]) (codeN x.kids[1]) (fun _=>[⟨2,0⟩]):=by
    funext p
    rw [hcN,combC,if_neg hcl,if_neg h9,if_pos ⟨h6,hw⟩,hgD 0 h0,hgD 1 h1]
   rw [e9] at hl ⊢
   repeat'(first|refine W1 ?_|omega|refine VG ?_ ?_<;>intro hg|refine VC ?_ ?_<;>intro hc)
   all_goals first
    | (exfalso;contradiction)
    | skip
   refine WC_drawn 12 [] [] [(0,0),(1,1),(2,0),(3,1),(4,0),(5,1),(6,0),(7,1),(8,0),(9,0),(10,2),(11,0)] rfl mixed (by kernel_rfl) (by kernel_rfl) (by kernel_rfl) (fun w1 hS1=>?_)
   replace hs:=hs.up hS1
   replace hblk:=hblk.up hS1
   replace hS:=hS.trans hS1
   obtain ⟨u0,s0,d0⟩:=hs.nd h0
   obtain ⟨u1,s1,d1⟩:=hs.nd h1
   refine D ?_
   refine WD_read rfl trivial (fun w' hS'=>PR_loadNd rfl rfl (hs.on hS' (fun _ h=>h)) h0 (fun j u hj=>cell_on hs h0 hS' (d0 j u hj))) rfl ?_
   refine D ?_
   refine WD_read rfl trivial (fun w' hS'=>PR_loadNd rfl rfl (hs.on hS' (fun _ h=>h)) h1 (fun j u hj=>cell_on hs h1 hS' (d1 j u hj))) rfl ?_
   refine D ?_
   apply WD_op
   exact rfl
   apply WO_build (vs:=[(0,.int .i64 2)])
   exact trivial
   exact rfl
   exact buildNb0
   exact rfl
   refine D ?_
   refine WD_eff rfl trivial (OE_call rfl (evs4 rfl rfl rfl rfl) (choiceR_any (hcs 0 h0) (hcs 1 h1) (codeBool 0) _ _ _ _ p _ rfl ⟨u0,rfl,s0⟩ ⟨u1,rfl,s1⟩ ⟨_,rfl,nilSlv _ _⟩ hl)) (fun _ _ h=>h.2) rfl ?_
   rintro _ w5 hq
   refine D ?_
   refine W ?_
   refine WR ?_
   exact .mk (hq.pre hS)
 by_cases ho:x.kind=6∧x.word=[111,114]
 · obtain ⟨h6,hw⟩:=ho
   have h2:=hk6 h6
   have hnw:¬ x.word=[97,110,100]:=fun h=>ha ⟨h6,h⟩
   have h0:0<x.kids.length:=by omega
   have h1:1<x.kids.length:=by omega
   have e9:codeN x=chC (codeN x.kids[0]) (fun _=>[⟨2,1⟩]) (codeN x.kids[1]):=by
    funext p
    rw [hcN,combC,if_neg hcl,if_neg h9,if_neg ha,if_pos ⟨h6,hw⟩,hgD 0 h0,hgD 1 h1]
   rw [e9] at hl ⊢
   repeat'(first|refine W1 ?_|omega|refine VG ?_ ?_<;>intro hg|refine VC ?_ ?_<;>intro hc)
   all_goals first
    | (exfalso;contradiction)
    | skip
   refine WC_drawn 12 [] [] [(0,0),(1,1),(2,0),(3,1),(4,0),(5,0),(6,1),(7,0),(8,1),(9,0),(10,2),(11,0)] rfl mixed (by kernel_rfl) (by kernel_rfl) (by kernel_rfl) (fun w1 hS1=>?_)
   replace hs:=hs.up hS1
   replace hblk:=hblk.up hS1
   replace hS:=hS.trans hS1
   obtain ⟨u0,s0,d0⟩:=hs.nd h0
   obtain ⟨u1,s1,d1⟩:=hs.nd h1
   refine D ?_
   refine WD_read rfl trivial (fun w' hS'=>PR_loadNd rfl rfl (hs.on hS' (fun _ h=>h)) h0 (fun j u hj=>cell_on hs h0 hS' (d0 j u hj))) rfl ?_
   refine D ?_
   apply WD_op
   exact rfl
   apply WO_build (vs:=[(0,.int .i64 2),(1,.int .i64 1)])
   exact trivial
   exact rfl
   exact buildNb1
   exact rfl
   refine D ?_
   refine WD_read rfl trivial (fun w' hS'=>PR_loadNd rfl rfl (hs.on hS' (fun _ h=>h)) h1 (fun j u hj=>cell_on hs h1 hS' (d1 j u hj))) rfl ?_
   refine D ?_
   refine WD_eff rfl trivial (OE_call rfl (evs4 rfl rfl rfl rfl) (choiceR_any (hcs 0 h0) (codeBool 1) (hcs 1 h1) _ _ _ _ p _ rfl ⟨u0,rfl,s0⟩ ⟨_,rfl,nilSlv _ _⟩ ⟨u1,rfl,s1⟩ hl)) (fun _ _ h=>h.2) rfl ?_
   rintro _ w5 hq
   refine D ?_
   refine W ?_
   refine WR ?_
   exact .mk (hq.pre hS)
 have hcp:=combC_plainO (x:=x) _ p hcl h9 ha ho
 rw [hcN,hcp] at hl ⊢
 have hcm:(x.kids.map codeN).length=x.kids.length:=by simp
 generalize hO:plainO x.kind x.word=O at *
 rw [List.length_append,insO_len] at hl
 have main:∀ r w',RwI wA w' r (seqC (x.kids.map codeN) p++insO O)→RwI w w' r (seqC (x.kids.map codeN) p++insO O):=fun r w' h=>h.pre hS
 repeat'(first|refine W1 ?_|omega|refine VG ?_ ?_<;>intro hg|refine VC ?_ ?_<;>intro hc)
 all_goals first
  | (exfalso;first|exact ha ⟨by assumption,by assumption⟩|exact ho ⟨by assumption,by assumption⟩)
  | skip
 all_goals
  refine WC_loop (σ:=Nat×Value) (fun q=>[(1,.int .i64 (p:Int)),(2,.pointer (some ⟨b,0,none⟩)),(5,q.2),(6,.int .i64 (q.1:Int))]) (fun q w'=>q.1≤x.kids.length∧RwI wA w' q.2 (seqC ((x.kids.map codeN).take q.1) p)) (fun q=>x.kids.length - q.1) (0,.slice none 0 0) ⟨rfl,rfl,rfl,rfl,trivial⟩ ⟨Nat.zero_le _,by simpa [seqC] using RowF.nil⟩ ?_
  rintro ⟨j,v⟩ w2 ⟨hj,hr⟩
  dsimp only at hj hr ⊢
  have hsl:=hr.slv (X:=[]) (by simp)
  have hs2:=hs.up hr.2
  have hb2:=hblk.up hr.2
  by_cases hlt:j<x.kids.length
  obtain ⟨kv2,hk2,hc2⟩:=hs2.nd hlt
  have hst:=seqC_step (x.kids.map codeN) p j (by omega)
  have hle:=seqC_le (x.kids.map codeN) p (j+1)
  have hle0:=seqC_le (x.kids.map codeN) p j
  rw [hst,List.length_append] at hle
  rw [List.getElem_map] at hle hst
  focus repeat'(first|refine W1 ?_|omega|refine VG ?_ ?_<;>intro hg|refine VC ?_ ?_<;>intro hc)
  apply WL_pure (PR_loadNd rfl rfl hs2 hlt hc2) rfl
  refine W ?_
  generalize hA:seqC ((x.kids.map codeN).take j) p=A at *
  refine CL rfl (evs2 rfl rfl) rfl (hcs j hlt _ _ (p+A.length) _ (by omega) ⟨kv2,rfl,hk2⟩ (by omega)) ?_
  rintro u w3 hu
  have hus:=hu.slv (X:=ob v) (fun b hb=>(hr.ob_le b hb).2)
  replace hr:=hr.up hu.2
  clear hu
  refine WL_eff (OE_appF rfl (by decide) rfl rfl hr hus (by omega) (by simp only [maxLen];omega)) rfl ?_
  rintro v' w4 ⟨hr',-,-⟩
  refine W ?_
  refine WQ_loop (j+1,v') ⟨rfl,rfl,rfl,rfl,trivial⟩ ⟨by dsimp only;omega,?_⟩ (by dsimp only;omega)
  dsimp only
  rw [hst]
  exact hr'
  have hje:j=(x.kids.map codeN).length:=by omega
  subst hje
  rw [List.take_length] at hr hsl
  generalize seqC (x.kids.map codeN) p=A at *
  focus repeat'(first|refine W1 ?_|omega|refine VG ?_ ?_<;>intro hg|refine VC ?_ ?_<;>intro hc)
  refine CL rfl (evs1 rfl) rfl (simple_any (ob v) _ x _ (fun b hb=>(hr.ob_le b hb).2) hsh h9 ha ho ⟨kv,rfl,hs2⟩) ?_
  rintro ov w3 ⟨hso,hT⟩
  rw [hO] at hso
  replace hr:=hr.up hT
  clear hsl hs2 hb2
  have hOm:=hso.max
  refine W ?_
  refine WC_loop (σ:=Nat×Value) (fun q=>[(5,q.2),(7,ov),(8,.int .i64 (q.1:Int))]) (fun q w'=>q.1≤O.length∧RwI wA w' q.2 (A++insO (O.take q.1))∧SlV (ob q.2) w' ov O) (fun q=>O.length - q.1) (0,v) ⟨rfl,rfl,rfl,trivial⟩ ⟨Nat.zero_le _,by simpa [insO] using hr,hso⟩ ?_
  clear hr hso hT
  rintro ⟨i,v5⟩ w5 ⟨hi,hr,hso⟩
  dsimp only at hi hr hso ⊢
  by_cases hlt:i<O.length
  have hln:(A++insO (O.take i)).length=A.length+i:=by simp [insO];omega
  focus repeat'(first|refine W1 ?_|omega|refine VG ?_ ?_<;>intro hg|refine VC ?_ ?_<;>intro hc)
  apply WL_build (vs:=[(0,.int .i64 _)]) rfl (buildI0 _) rfl
  refine WL_eff (OE_buildSlice (vs:=[(0,agg (Ins.mk O[i] 0))]) rfl (buildSI _)) rfl ?_
  rintro u w6 hN6
  have hu:SlV (ob v5) w6 u [Ins.mk O[i] 0]:=hN6.slv (fun b hb=>(hr.ob_le b hb).2) rfl rfl (by simp [maxLen])
  have hT:=NewSl.stp hN6
  clear hN6
  replace hr:=hr.up hT
  replace hso:=hso.up hT
  refine WL_eff (OE_appF rfl (by decide) rfl rfl hr hu (by rw [hln];simp only [List.length_cons,List.length_nil];omega) (by rw [hln];simp only [List.length_cons,List.length_nil,maxLen];omega)) rfl ?_
  rintro v7 w7 ⟨hr',hS7,hob⟩
  refine W ?_
  refine WQ_loop (i+1,v7) ⟨rfl,rfl,rfl,trivial⟩ ⟨by dsimp only;omega,?_,hso.ext hS7 (fun _ h=>h) hob⟩ (by dsimp only;omega)
  dsimp only
  rw [List.take_succ_eq_append_getElem hlt]
  unfold insO at hr' ⊢
  rw [List.map_append,← List.append_assoc]
  exact hr'
  have hie:i=O.length:=by omega
  subst hie
  rw [List.take_length] at hr
  focus repeat'(first|refine W1 ?_|omega|refine VG ?_ ?_<;>intro hg|refine VC ?_ ?_<;>intro hc)
  refine WR ?_
  exact .mk (main _ _ hr)
theorem ExpressionR_any (v:Value) (x:Nd) (w:World) (hsz:sizeN x≤1000) (hnest:nestN x≤1000000) (hx:NdV [] w v x) :
 Calls Tryz.prog 13 #[v] w (Ret (ExprR w x)):=by
 have hN:=hx
 obtain ⟨kv,rfl,hs⟩:=hx
 refine calls_of_WC1 (n:=24) Tryz.func13 rfl rfl rfl ?_
 refine W ?_
 refine WL_eff (OE_box rfl) rfl ?_
 rintro _ w1 ⟨b,rfl,hb,hblk,hS⟩
 replace hblk:Blk w1 b _ (ndC x kv):=hblk
 replace hs:=hs.up hS;replace hN:=hN.up hS
 refine W ?_
 refine CL rfl (evs1 rfl) rfl (Of14_any [] _ x _ (okN_of_size x hsz) hnest hN) ?_
 rintro _ w2 ⟨rfl,hS2⟩
 replace hs:=hs.up hS2;replace hN:=hN.up hS2;replace hblk:=hblk.up hS2
 replace hS:=hS.trans hS2
 by_cases hn:nestN x≤12
 case neg=>
  rw [if_neg hn,if_neg hn]
  have he:errX x=2:=by rw [errX,if_neg hn]
  repeat'(first|refine W1 ?_|omega|refine VG ?_ ?_<;>intro hg|refine VC ?_ ?_<;>intro hc)
  refine WR ?_
  refine .mk ⟨_,by rw [he];rfl,fun X hX=>?_,hS⟩
  rw [he,if_neg (by decide)]
  exact nilSlv _ _
 by_cases ht:typeT x=0
 rw [if_pos hn,if_pos hn,if_pos ht]
 have he:errX x=21:=by rw [errX,if_pos hn,if_pos ht]
 focus repeat'(first|refine W1 ?_|omega|refine VG ?_ ?_<;>intro hg|refine VC ?_ ?_<;>intro hc)
 refine WR ?_
 refine .mk ⟨_,by rw [he];rfl,fun X hX=>?_,hS⟩
 rw [he,if_neg (by decide)]
 exact nilSlv _ _
 rw [if_pos hn,if_pos hn,if_neg ht]
 have hlen:=codeN_len x 0
 repeat'(first|refine W1 ?_|omega|refine VG ?_ ?_<;>intro hg|refine VC ?_ ?_<;>intro hc)
 refine CL rfl (evs2 rfl rfl) rfl (code_ok x ht _ _ 0 0 rfl hN (by omega)) ?_
 rintro v3 w3 hr
 apply WL_build (vs:=[(0,.int .i64 24)]) rfl (buildI0 _) rfl
 refine WL_eff (OE_buildSlice (vs:=[(0,agg (Ins.mk 24 0))]) rfl (buildSI _)) rfl ?_
 rintro u w4 hN4
 have hu:SlV (ob v3) w4 u [Ins.mk 24 0]:=hN4.slv (fun b hb=>(hr.ob_le b hb).2) rfl rfl (by simp [maxLen])
 have hT:=NewSl.stp hN4
 clear hN4
 replace hr:=hr.up hT
 refine WL_eff (OE_appF rfl (by decide) rfl rfl hr hu (by simp only [List.length_cons,List.length_nil];omega) (by simp only [List.length_cons,List.length_nil,maxLen];omega)) rfl ?_
 clear hu hr hT
 rintro v5 w5 ⟨hr,-,-⟩
 replace hr:=hr.pre hS
 replace hr:RwI w w5 v5 (exprF x):=hr
 have hslv:=hr.slv (X:=[]) (by simp)
 by_cases hg:(exprF x).length > 200
 have he:errX x=2:=by rw [errX,if_pos hn,if_neg ht,if_pos hg]
 focus repeat'(first|refine W1 ?_|omega|refine VG ?_ ?_<;>intro hg|refine VC ?_ ?_<;>intro hc)
 refine WR ?_
 refine .mk ⟨_,by rw [he],fun X hX=>?_,hr.2⟩
 rw [he,if_neg (by decide)]
 exact nilSlv _ _
 have he:errX x=0:=by rw [errX,if_pos hn,if_neg ht,if_neg hg]
 focus repeat'(first|refine W1 ?_|omega|refine VG ?_ ?_<;>intro hg|refine VC ?_ ?_<;>intro hc)
 refine WR ?_
 refine .mk ⟨_,by rw [he],fun X hX=>?_,hr.2⟩
 rw [he,if_pos rfl]
 exact hr.slv hX
end Go.Proofs.YtjdjdoefppebkaaGreatDoor
namespace Go.Eng
open Go Go.RowKit Go.Proofs
theorem NewSl.slvG {α:Type} [GoRep α] {w w':World} {X:List Nat} {T len:Nat} {cs:List Value} {v:Value} {ys:List α} {css:List (List Value)} (h:NewSl w T len cs v w') (hX:∀ b∈X,b<w.heap.size) (hl:len=ys.length) (hcl:css.length=ys.length)
 (hc:cs=css.flatten) (hr:∀ i (hi:i<ys.length) (hi':i<css.length),GoRep.rep X w ys[i] css[i]) (hm:ys.length≤maxLen):SlV X w' v ys:=by
 obtain ⟨b,rfl,hb,hblk,hS⟩:=h
 subst hl
 subst hc
 have hk:∀ c∈css,c.length=GoRep.k α:=by
  intro c hc
  obtain ⟨i,hi,rfl⟩:=List.getElem_of_mem hc
  exact GoRep.len (hr i (by omega) hi)
 refine ⟨some ⟨b,0,none⟩,ys.length,rfl,Nat.le_refl _,hm,fun h=>by simp at h,fun i hi=>⟨b,0,css[i]'(by omega),rfl,hblk.lt,fun hx=>by have:=hX b hx;omega,GoRep.ext (hr i hi (by omega)) hS (by simp) (fun b hb=>.inl hb),fun j u hu=>?_⟩⟩
 refine hblk.cell ?_
 have:=flatten_at css hk i (by omega) j u hu
 rw [Nat.zero_add]
 exact this
theorem SlV.wk {α:Type} [GoRep α] {X X':List Nat} {w:World} {v:Value} {l:List α} (h:SlV X w v l) (hs:∀ b∈X',b∈X):SlV X' w v l:=h.ext (Stp.refl [] w) (by simp) (fun b hb=>.inl (hs b hb))
end Go.Eng
namespace Go.Proofs.YtjdjdoefppebkaaGreatDoor
open Go Go.Eng Go.RowKit
theorem buildSN1 (k n:Int) (s:Str) (p:Option Addr) (l c:Nat) (w:World):(Instr.buildSlice 25 1 #[(0,.agg #[.int .i64 k,.int .i64 n,str s,.slice p l c])]).run Tryz.prog w=.ok (.slice (some ⟨w.heap.size,0,none⟩) 1 1) (w.alloc (.cells #[.int .i64 k,.int .i64 n,str s,.slice p l c] 27)):=by kernel_rfl
theorem index_iff:∀ (s sub:List UInt8),0≤Lib.index s sub↔∃ i,i≤s.length∧sub.isPrefixOf (s.drop i)=true
 | [], sub => by
   unfold Lib.index
   cases sub with
   | nil=>simp
   | cons a l=>simp
 | b :: l, sub => by
   have ih:=index_iff l sub
   have hge:=Lib.index_ge l sub
   unfold Lib.index
   by_cases hp:sub.isPrefixOf (b :: l)=true
   rw [if_pos hp]
   exact ⟨fun _=>⟨0,by omega,hp⟩,fun _=>by omega⟩
   rw [if_neg hp]
   have e:(0:Int)≤(if (Lib.index l sub == -1)=true then -1 else Lib.index l sub+1)↔0≤Lib.index l sub:=by
    by_cases h1:Lib.index l sub=-1
    rw [if_pos (by simpa using h1)];omega
    rw [if_neg (by simpa using h1)];omega
   rw [e,ih]
   constructor
   rintro ⟨i,hi,h⟩
   exact ⟨i+1,by simpa using hi,h⟩
   · rintro ⟨i,hi,h⟩
     cases i with
     | zero=>exact absurd h hp
     | succ i=>exact ⟨i,by simpa using hi,h⟩
theorem take_word:∀ (t r:List UInt8),(∀ c∈t,c≠32)→(t++[32]).isPrefixOf r=true→r.takeWhile (fun c=>decide (c≠32))=t
 | [], r, _, h => by
   cases r with
   | nil=>simp at h
   | cons a l=>
     simp [List.isPrefixOf] at h
     subst h
     rfl
 | c :: t, r, hc, h => by
   cases r with
   | nil=>simp at h
   | cons a l=>
     simp only [List.cons_append,List.isPrefixOf,Bool.and_eq_true,beq_iff_eq] at h
     obtain ⟨rfl,h⟩:=h
     have h1:=hc c (by simp)
     rw [List.takeWhile_cons_of_pos (by simpa using h1),take_word t l (fun x hx=>hc x (by simp [hx])) h]
theorem contains_any (a b:Str) (m:Int) (w:World) (ha:a.length<4294967281) (hm:w.cell? ⟨2,0,none⟩=some (.int .i64 m)) :
 Calls Tryz.prog 176 #[str a,str b] w (Ret fun r w'=>r=.bool (Lib.contains a b)∧Stp [] w w'):=by
 refine (Tryz.strings_Contains ⟨a.toArray⟩ ⟨b.toArray⟩ m w (by rw [str_size];exact ha) hm).mono ?_
 rintro e w' ⟨rfl,rfl⟩
 exact .mk ⟨rfl,Stp.refl _ _⟩
theorem Around01_any (z:Int) (m:Int) (w:World) (hm:0<m) (hz:I64 z):Calls Tryz.prog 18 #[.int .i64 z,.int .i64 m] w (Ret fun r w'=>r=.int .i64 ((if z<0 then -(z+1) else z) % m)∧Stp [] w w'):=by
 unfold I64 at hz
 refine calls_of_WC2 (n:=13) Tryz.func18 rfl rfl rfl ?_
 by_cases h:z<0
 focus repeat'(first|refine W1 ?_|omega|refine VG ?_ ?_<;>intro hg|refine VC ?_ ?_<;>intro hc)
 refine WR ?_
 exact .mk ⟨by rw [if_pos h],Stp.refl _ _⟩
 focus repeat'(first|refine W1 ?_|omega|refine VG ?_ ?_<;>intro hg|refine VC ?_ ?_<;>intro hc)
 refine WR ?_
 exact .mk ⟨by rw [if_neg h],Stp.refl _ _⟩
theorem around_range (z m:Int) (hm:0<m):0≤z % m∧z % m<m:=⟨Int.emod_nonneg _ (by omega),Int.emod_lt_of_pos _ hm⟩
theorem Pick01_any (X:List Nat) (v:Value) (l:List Int) (i m:Int) (w:World) (hm:0<m) (hi:I64 i) (hs:SlV X w v l) (hl:∀ a∈l,I64 a):Calls Tryz.prog 94 #[v,.int .i64 i,.int .i64 m] w (Ret fun r w'=>∃ q:Nat,r=.int .i64 (q:Int)∧(q:Int)<m∧Stp [] w w'):=by
 unfold I64 at hi
 have hmax:=hs.max
 refine calls_of_WC3 (n:=21) Tryz.func94 rfl rfl rfl ?_
 refine W ?_
 by_cases hgo:0≤i∧i<l.length
 obtain ⟨h0,h1⟩:=hgo
 obtain ⟨k,rfl⟩:∃ k:Nat,i=(k:Int):=⟨i.toNat,by omega⟩
 have hk:k<l.length:=by omega
 focus repeat'(first|refine W1 ?_|omega|refine VG ?_ ?_<;>intro hg|refine VC ?_ ?_<;>intro hc)
 refine CL rfl (evs2 rfl rfl) rfl (Around01_any _ m _ hm (hl _ (List.getElem_mem hk))) ?_
 rintro _ w2 ⟨rfl,hS⟩
 refine W ?_
 refine WR ?_
 have:=around_range (if l[k]<0 then -(l[k]+1) else l[k]) m hm
 exact .mk ⟨_,by rw [Int.toNat_of_nonneg this.1],by rw [Int.toNat_of_nonneg this.1];exact this.2,hS⟩
 · repeat'(first|refine W1 ?_|omega|refine VG ?_ ?_<;>intro hg|refine VC ?_ ?_<;>intro hc)
   all_goals first
    | (refine WR ?_
       exact .mk ⟨0,rfl,by simpa using hm,Stp.refl _ _⟩)
theorem buildN023 (k:Int) (s:Str) (p:Option Addr) (l c:Nat) (w:World):(Instr.build 27 #[(0,.int .i64 k),(2,str s),(3,.slice p l c)]).run Tryz.prog w=.ok (.agg #[.int .i64 k,.int .i64 0,str s,.slice p l c]) w:=by kernel_rfl
def szD:Nat→Nat
 | 0=>0
 | d+1=>1+3 * szD d
theorem szD_eq {d:Nat} (h:1≤d):szD d=1+3 * szD (d - 1):=by
 cases d with
 | zero=>omega
 | succ d=>rfl
theorem reps1 {X:List Nat} {w:World} {y0:Nd} {k0:Value} (s0:SlV X w k0 y0.kids):∀ i (hi:i < [y0].length) (hi':i < [ndC y0 k0].length),GoRep.rep X w [y0][i] [ndC y0 k0][i]
 | 0,_,_=>(show NRep X w y0 (ndC y0 k0) by rw [y0.eta];exact slv_nrep s0)
theorem reps2 {X:List Nat} {w:World} {y0 y1:Nd} {k0 k1:Value} (s0:SlV X w k0 y0.kids) (s1:SlV X w k1 y1.kids):∀ i (hi:i < [y0,y1].length) (hi':i < [ndC y0 k0,ndC y1 k1].length),GoRep.rep X w [y0,y1][i] [ndC y0 k0,ndC y1 k1][i]
 | 0,_,_=>(show NRep X w y0 (ndC y0 k0) by rw [y0.eta];exact slv_nrep s0)
 | 1,_,_=>(show NRep X w y1 (ndC y1 k1) by rw [y1.eta];exact slv_nrep s1)
theorem reps3 {X:List Nat} {w:World} {y0 y1 y2:Nd} {k0 k1 k2:Value} (s0:SlV X w k0 y0.kids) (s1:SlV X w k1 y1.kids) (s2:SlV X w k2 y2.kids):∀ i (hi:i < [y0,y1,y2].length) (hi':i < [ndC y0 k0,ndC y1 k1,ndC y2 k2].length),GoRep.rep X w [y0,y1,y2][i] [ndC y0 k0,ndC y1 k1,ndC y2 k2][i]
 | 0,_,_=>(show NRep X w y0 (ndC y0 k0) by rw [y0.eta];exact slv_nrep s0)
 | 1,_,_=>(show NRep X w y1 (ndC y1 k1) by rw [y1.eta];exact slv_nrep s1)
 | 2,_,_=>(show NRep X w y2 (ndC y2 k2) by rw [y2.eta];exact slv_nrep s2)
theorem buildN01 (k n:Int) (w:World):(Instr.build 27 #[(0,.int .i64 k),(1,.int .i64 n)]).run Tryz.prog w=.ok (.agg #[.int .i64 k,.int .i64 n,str [],.slice none 0 0]) w:=by kernel_rfl
theorem buildSN2 (k n:Int) (s:Str) (p:Option Addr) (l c:Nat) (k' n':Int) (s':Str) (p':Option Addr) (l' c':Nat) (w:World):(Instr.buildSlice 25 2 #[(0,.agg #[.int .i64 k,.int .i64 n,str s,.slice p l c]),(1,.agg #[.int .i64 k',.int .i64 n',str s',.slice p' l' c'])]).run Tryz.prog w=.ok (.slice (some ⟨w.heap.size,0,none⟩) 2 2) (w.alloc (.cells #[.int .i64 k,.int .i64 n,str s,.slice p l c,.int .i64 k',.int .i64 n',str s',.slice p' l' c'] 27)):=by kernel_rfl
theorem buildSN3 (k n:Int) (s:Str) (p:Option Addr) (l c:Nat) (k' n':Int) (s':Str) (p':Option Addr) (l' c':Nat) (k'' n'':Int) (s'':Str) (p'':Option Addr) (l'' c'':Nat) (w:World):(Instr.buildSlice 25 3 #[(0,.agg #[.int .i64 k,.int .i64 n,str s,.slice p l c]),(1,.agg #[.int .i64 k',.int .i64 n',str s',.slice p' l' c']),(2,.agg #[.int .i64 k'',.int .i64 n'',str s'',.slice p'' l'' c''])]).run Tryz.prog w=.ok (.slice (some ⟨w.heap.size,0,none⟩) 3 3) (w.alloc (.cells #[.int .i64 k,.int .i64 n,str s,.slice p l c,.int .i64 k',.int .i64 n',str s',.slice p' l' c',.int .i64 k'',.int .i64 n'',str s'',.slice p'' l'' c''] 27)):=by kernel_rfl
theorem size1 (k n:Int) (s:Str) (y0:Nd):sizeN (.mk k n s [y0])=1+sizeN y0:=by rw [sizeN_eq];simp [Nd.kids]
theorem size2 (k n:Int) (s:Str) (y0 y1:Nd):sizeN (.mk k n s [y0,y1])=1+sizeN y0+sizeN y1:=by rw [sizeN_eq];simp [Nd.kids];omega
theorem size3 (k n:Int) (s:Str) (y0 y1 y2:Nd):sizeN (.mk k n s [y0,y1,y2])=1+sizeN y0+sizeN y1+sizeN y2:=by rw [sizeN_eq];simp [Nd.kids];omega
theorem size0 (k n:Int) (s:Str):sizeN (.mk k n s [])=1:=by rw [sizeN_eq];simp [Nd.kids]
theorem nest0 (k n:Int) (s:Str):nestN (.mk k n s [])=1:=by rw [nestN_eq];simp [Nd.kids]
theorem nest1 (k n:Int) (s:Str) (y0:Nd):nestN (.mk k n s [y0])=1+nestN y0:=by rw [nestN_eq];simp [Nd.kids]
theorem nest2 (k n:Int) (s:Str) (y0 y1:Nd):nestN (.mk k n s [y0,y1])=1+max (nestN y0) (nestN y1):=by rw [nestN_eq];simp [Nd.kids]
theorem nest3 (k n:Int) (s:Str) (y0 y1 y2:Nd):nestN (.mk k n s [y0,y1,y2])=1+max (max (nestN y0) (nestN y1)) (nestN y2):=by rw [nestN_eq];simp [Nd.kids]
theorem ty0 {k n τ:Int} {s:Str} (h:leafN k n s=τ):typeT (.mk k n s [])=τ:=by rw [typeT_eq];exact h
theorem ty1 {k τ a:Int} {s:Str} {y0:Nd} (h0:typeT y0=a) (h:combT k 0 s [a]=τ):typeT (.mk k 0 s [y0])=τ:=by rw [typeT_eq];simp only [Nd.kind,Nd.num,Nd.word,Nd.kids,List.map_cons,List.map_nil,h0];exact h
theorem ty2 {k τ a b:Int} {s:Str} {y0 y1:Nd} (h0:typeT y0=a) (h1:typeT y1=b) (h:combT k 0 s [a,b]=τ):typeT (.mk k 0 s [y0,y1])=τ:=by rw [typeT_eq];simp only [Nd.kind,Nd.num,Nd.word,Nd.kids,List.map_cons,List.map_nil,h0,h1];exact h
theorem ty3 {k τ a b c:Int} {s:Str} {y0 y1 y2:Nd} (h0:typeT y0=a) (h1:typeT y1=b) (h2:typeT y2=c) (h:combT k 0 s [a,b,c]=τ):typeT (.mk k 0 s [y0,y1,y2])=τ:=by rw [typeT_eq];simp only [Nd.kind,Nd.num,Nd.word,Nd.kids,List.map_cons,List.map_nil,h0,h1,h2];exact h
end Go.Proofs.YtjdjdoefppebkaaGreatDoor
namespace Go.Eng
open Go
end Go.Eng
namespace Go.Proofs.YtjdjdoefppebkaaGreatDoor
open Go Go.Eng Go.RowKit
def effF (x:Ins):List Int×List Int×List Int×Bool:=
 if x.op=1 then ([],[],[1],decide (-2147483647≤x.n∧x.n≤2147483647))
 else if x.op=2 then ([],[],[2],decide (x.n=0∨x.n=1))
 else if x.op=3 then ([],[],[3],decide (0≤x.n∧x.n≤3652058))
 else if x.op=4 then ([],[],[if x.n=0∨x.n=1 then 3 else 1],decide (0≤x.n∧x.n<7))
 else if x.op=13 then ([],[],[],true)
 else if x.op=14 then ([2],[],[],true)
 else if x.op=5∨x.op=6∨x.op=7 then ([1,1],[],[1],decide (x.n=0))
 else if x.op=8 then ([1],[],[1],decide (x.n=0))
 else if x.op=9∨x.op=10∨x.op=11 then ([1,1],[3,3],[2],decide (x.n=0))
 else if x.op=12 then ([2],[],[2],decide (x.n=0))
 else if x.op=15∨x.op=16∨x.op=17∨x.op=18 then ([3,1],[],[3],decide (x.n=0))
 else if x.op=19∨x.op=20 then ([3],[],[3],decide (x.n=0))
 else if x.op=21∨x.op=22 then ([3,3],[],[3],decide (x.n=0))
 else if x.op=23 then ([3,3],[],[1],decide (x.n=0))
 else if x.op=24 then ([],[],[],decide (x.n=0))
 else ([],[],[],false)
abbrev Shp:=List Int
def nextM (x:Ins) (s:Shp):Option Shp:=
 let e:=effF x
 let k:=s.length - e.1.length
 if e.2.2.2=true∧e.1.length≤s.length∧(s.drop k=e.1∨e.2.1≠[]∧s.drop k=e.2.1)∧(s.take k++e.2.2.1).length≤16 then some (s.take k++e.2.2.1) else none
def reachM (st:List (Option Shp)) (t:Int) (sh:Shp):Option (List (Option Shp)):=
 if 0≤t∧t<st.length then
  match st.getD t.toNat none with
  | some s=>if s=sh then some st else none
  | none=>some (st.set t.toNat (some sh))
 else none
def stepM (st:List (Option Shp)) (i:Nat) (x:Ins):Option (List (Option Shp)):=
 match st.getD i none with
 | none=>none
 | some s=>
   match nextM x s with
   | none=>none
   | some nx=>
     if x.op=24 then (if i+1=st.length∧s.length=1 then some st else none)
     else if x.op=13 then (if x.n > i then reachM st x.n nx else none)
     else if x.op=14 then (if x.n > i then (reachM st x.n nx).bind (fun st'=>reachM st' ((i:Int)+1) nx) else none)
     else reachM st ((i:Int)+1) nx
def runM (code:List Ins):Nat→List (Option Shp)→Option (List (Option Shp))
 | 0,st=>some st
 | k+1,st=>(runM code k st).bind (fun st'=>stepM st' k (code.getD k ⟨0,0⟩))
def verM (code:List Ins):Int×Int:=
 if code.length=0∨code.length > 200 then (0,22) else
  match runM code code.length ((some []) :: List.replicate (code.length - 1) none) with
  | none=>(0,22)
  | some st=>(((st.getD (code.length - 1) none).getD []).headD 0,0)
theorem reachM_len {st st':List (Option Shp)} {t:Int} {sh:Shp} (h:reachM st t sh=some st'):st'.length=st.length:=by
 unfold reachM at h
 split at h
 split at h
 split at h
 cases h;rfl
 cases h
 cases h;simp
 cases h
example:verM [⟨4,0⟩,⟨1,3⟩,⟨15,0⟩,⟨24,0⟩]=(3,0):=by decide
example:verM [⟨24,0⟩]=(0,22):=by decide
def okS (s:Shp):Prop:=∀ k∈s,k=1∨k=2∨k=3
theorem okS_take {s:Shp} (h:okS s) (k:Nat):okS (s.take k):=fun a ha=>h a (List.mem_of_mem_take ha)
theorem okS_app {s t:Shp} (h:okS s) (h':okS t):okS (s++t):=fun a ha=>(List.mem_append.1 ha).elim (h a) (h' a)
theorem eff_no {op n:Int} (h:¬ (1≤op∧op≤24)):effF ⟨op,n⟩=([],[],[],false):=by
 have h1:∀ k:Int,1≤k→k≤24→¬ op=k:=fun k h1 h2 e=>h (by omega)
 simp only [effF]
 rw [if_neg (h1 1 (by decide) (by decide))]
 rw [if_neg (h1 2 (by decide) (by decide))]
 rw [if_neg (h1 3 (by decide) (by decide))]
 rw [if_neg (h1 4 (by decide) (by decide))]
 rw [if_neg (h1 13 (by decide) (by decide))]
 rw [if_neg (h1 14 (by decide) (by decide))]
 rw [if_neg (not_or.2 ⟨h1 5 (by decide) (by decide),(not_or.2 ⟨h1 6 (by decide) (by decide),(h1 7 (by decide) (by decide))⟩)⟩)]
 rw [if_neg (h1 8 (by decide) (by decide))]
 rw [if_neg (not_or.2 ⟨h1 9 (by decide) (by decide),(not_or.2 ⟨h1 10 (by decide) (by decide),(h1 11 (by decide) (by decide))⟩)⟩)]
 rw [if_neg (h1 12 (by decide) (by decide))]
 rw [if_neg (not_or.2 ⟨h1 15 (by decide) (by decide),(not_or.2 ⟨h1 16 (by decide) (by decide),(not_or.2 ⟨h1 17 (by decide) (by decide),(h1 18 (by decide) (by decide))⟩)⟩)⟩)]
 rw [if_neg (not_or.2 ⟨h1 19 (by decide) (by decide),(h1 20 (by decide) (by decide))⟩)]
 rw [if_neg (not_or.2 ⟨h1 21 (by decide) (by decide),(h1 22 (by decide) (by decide))⟩)]
 rw [if_neg (h1 23 (by decide) (by decide))]
 rw [if_neg (h1 24 (by decide) (by decide))]
def OkSt (st:List (Option Shp)):Prop:=∀ s,some s∈st→okS s
theorem eff_gives (x:Ins):okS (effF x).2.2.1:=by
 obtain ⟨op,n⟩:=x
 by_cases hr:1≤op∧op≤24
 have hn:op=1∨op=2∨op=3∨op=4∨op=5∨op=6∨op=7∨op=8∨op=9∨op=10∨op=11∨op=12∨op=13∨op=14∨op=15∨op=16∨op=17∨op=18∨op=19∨op=20∨op=21∨op=22∨op=23∨op=24:=by omega
 rcases hn with rfl|rfl|rfl|rfl|rfl|rfl|rfl|rfl|rfl|rfl|rfl|rfl|rfl|rfl|rfl|rfl|rfl|rfl|rfl|rfl|rfl|rfl|rfl|rfl
 intro k hk;simp [effF] at hk;omega
 intro k hk;simp [effF] at hk;omega
 intro k hk;simp [effF] at hk;omega
 show okS [if n=0∨n=1 then 3 else 1]
 intro k hk;simp at hk;subst hk;split<;>simp
 intro k hk;simp [effF] at hk;omega
 intro k hk;simp [effF] at hk;omega
 intro k hk;simp [effF] at hk;omega
 intro k hk;simp [effF] at hk;omega
 intro k hk;simp [effF] at hk;omega
 intro k hk;simp [effF] at hk;omega
 intro k hk;simp [effF] at hk;omega
 intro k hk;simp [effF] at hk;omega
 intro k hk;simp [effF] at hk
 intro k hk;simp [effF] at hk
 intro k hk;simp [effF] at hk;omega
 intro k hk;simp [effF] at hk;omega
 intro k hk;simp [effF] at hk;omega
 intro k hk;simp [effF] at hk;omega
 intro k hk;simp [effF] at hk;omega
 intro k hk;simp [effF] at hk;omega
 intro k hk;simp [effF] at hk;omega
 intro k hk;simp [effF] at hk;omega
 intro k hk;simp [effF] at hk;omega
 intro k hk;simp [effF] at hk
 rw [eff_no hr];intro k hk;simp at hk
theorem next_ok {x:Ins} {s nx:Shp} (hs:okS s) (h:nextM x s=some nx):okS nx:=by
 unfold nextM at h
 dsimp only at h
 split at h
 cases h;exact okS_app (okS_take hs _) (eff_gives x)
 cases h
theorem reach_ok {st st':List (Option Shp)} {t:Int} {nx:Shp} (hst:OkSt st) (hn:okS nx) (h:reachM st t nx=some st'):OkSt st':=by
 unfold reachM at h
 split at h
 split at h
 split at h
 cases h;exact hst
 cases h
 cases h
 intro s hs
 rcases List.mem_or_eq_of_mem_set hs with h|h
 exact hst s h
 cases h;exact hn
 cases h
theorem step_ok {st st':List (Option Shp)} {i:Nat} {x:Ins} (hst:OkSt st) (h:stepM st i x=some st'):OkSt st'∧st'.length=st.length:=by
 unfold stepM at h
 split at h
 cases h
 rename_i s hs
 have hs0:okS s:=by
  refine hst s ?_
  have hi:i<st.length:=Nat.lt_of_not_le fun hle=>by simp [List.getD,Nat.not_lt.2 hle] at hs
  have:st.getD i none=st[i]:=by simp [List.getD,hi]
  rw [← hs,this];exact List.getElem_mem hi
 split at h
 cases h
 rename_i nx hn
 have hnx:=next_ok hs0 hn
 split at h
 split at h
 cases h;exact ⟨hst,rfl⟩
 cases h
 split at h
 split at h
 exact ⟨reach_ok hst hnx h,reachM_len h⟩
 cases h
 split at h
 split at h
 obtain ⟨s1,h1,h2⟩:=Option.bind_eq_some_iff.1 h
 exact ⟨reach_ok (reach_ok hst hnx h1) hnx h2,by rw [reachM_len h2,reachM_len h1]⟩
 cases h
 exact ⟨reach_ok hst hnx h,reachM_len h⟩
theorem run_ok {code:List Ins} {st0:List (Option Shp)} (h0:OkSt st0):∀ k st,runM code k st0=some st→OkSt st∧st.length=st0.length
 | 0,st,h=>by cases h;exact ⟨h0,rfl⟩
 | k + 1, st, h => by
   obtain ⟨s1,h1,h2⟩:=Option.bind_eq_some_iff.1 h
   obtain ⟨a,b⟩:=run_ok h0 k s1 h1
   obtain ⟨c,d⟩:=step_ok a h2
   exact ⟨c,by omega⟩
theorem step16 {st st':List (Option Shp)} {i:Nat} {x:Ins} (h0:∀ s,some s∈st→s.length≤16) (h:stepM st i x=some st'):∀ s,some s∈st'→s.length≤16:=by
 have hr:∀ {st st':List (Option Shp)} {t:Int} {nx:Shp},(∀ s,some s∈st→s.length≤16)→nx.length≤16→reachM st t nx=some st'→∀ s,some s∈st'→s.length≤16:=by
  intro st st' t nx hst hn h
  unfold reachM at h
  split at h
  split at h
  split at h
  cases h;exact hst
  cases h
  cases h
  intro s hs
  rcases List.mem_or_eq_of_mem_set hs with h|h
  exact hst s h
  cases h;exact hn
  cases h
 have hn:∀ {s nx:Shp},nextM x s=some nx→nx.length≤16:=by
  intro s nx h
  unfold nextM at h
  dsimp only at h
  split at h
  rename_i hc
  cases h;exact hc.2.2.2
  cases h
 unfold stepM at h
 split at h
 cases h
 split at h
 cases h
 rename_i nx hn'
 have hnx:=hn hn'
 split at h
 split at h
 cases h;exact h0
 cases h
 split at h
 split at h
 exact hr h0 hnx h
 cases h
 split at h
 split at h
 obtain ⟨s1,h1,h2⟩:=Option.bind_eq_some_iff.1 h
 exact hr (hr h0 hnx h1) hnx h2
 cases h
 exact hr h0 hnx h
open Go Go.Eng Go.RowKit Go.Proofs Go.ChangeShapes Go.WideShapes Go.Deep
theorem law_own:ownKnob Tryz.prog.godebug=none:=by kernel_rfl
theorem law_laid:laidOutB Tryz.prog=true:=by kernel_rfl
section
variable {H:Type} {enc:TypeId×Value→H} {w:World} {base:Nat} {spare:Nat→Bool} {held:Bool}
end
end Go.Proofs.YtjdjdoefppebkaaGreatDoor
namespace Go.Eng
open Go Go.RowKit Go.Proofs Go.ChangeShapes Go.WideShapes Go.Deep
section
variable {H:Type} {enc:TypeId×Value→H} {P:Program} {w:World} {base:Nat} {spare:Nat→Bool} {held:Bool}
end
end Go.Eng
namespace Go.Proofs.YtjdjdoefppebkaaGreatDoor
open Go Go.Eng Go.RowKit Go.Proofs Go.ChangeShapes Go.WideShapes Go.Deep
section
variable {H:Type} {enc:TypeId×Value→H} {w:World} {base:Nat} {spare:Nat→Bool} {held:Bool}
theorem k3:Tryz.prog.cellsOf 3=1:=by kernel_rfl
end
end Go.Proofs.YtjdjdoefppebkaaGreatDoor
namespace Go.Eng
open Go Go.RowKit
variable {X:List Nat} {w w':World} {base T:Nat} {v:Value} {zs ys:List Int}
def RowI (w:World) (base T:Nat) (v:Value) (zs:List Int):Prop:=(v=.slice none 0 0∧zs=[])∨∃ g cap cur,v=.slice (some ⟨g,0,none⟩) zs.length cap∧base≤g∧w.heap[g]?=some (.cells cur T (0,0))∧zs.length≤cap∧cap≤maxLen∧cur.size=cap∧cur.toList.take zs.length=zs.map (Value.int .i64)
theorem Row.toI (h:Row X w base T v zs):RowI w base T v zs:=by
 obtain ⟨css,hl,hr,hx,ho⟩:=h
 have hc:css=zs.map (fun x=>[Value.int .i64 x]):=by
  apply List.ext_getElem (by simpa using hl)
  intro i h1 h2
  have:css[i]=[Value.int .i64 zs[i]]:=hr i (by omega) h1
  simp [this]
 rcases ho with ⟨rfl,hn⟩|⟨g,cap,cur,rfl,hb,hg,hnc,hcm,hcs,ht⟩
 exact .inl ⟨rfl,List.length_eq_zero_iff.1 hn⟩
 · refine .inr ⟨g,cap,cur,rfl,hb,hg,hnc,hcm,by simpa [GoRep.k,Flat.k] using hcs,?_⟩
   have h2:cur.toList.take (zs.length * 1)=css.flatten:=ht
   rw [Nat.mul_one] at h2
   rw [h2,hc]
   clear h2 ht hx hr hl hc hnc hg hcs
   induction zs with
   | nil=>rfl
   | cons a l ih=>simp at ih ⊢;exact ih
theorem RowI.toRow (h:RowI w base T v zs):Row X w base T v zs:=by
 rcases h with ⟨rfl,rfl⟩|⟨g,cap,cur,rfl,hb,hg,hnc,hcm,hcs,ht⟩
 exact Row.nil
 · refine ⟨zs.map (fun x=>[Value.int .i64 x]),by simp,fun i h1 h2=>by simp;rfl,?_⟩
   have hf:(zs.map (fun x=>[Value.int .i64 x])).flatten=zs.map (Value.int .i64):=by
    clear ht hnc
    induction zs with
    | nil=>rfl
    | cons a l ih=>simp at ih ⊢;exact ih
   rw [hf]
   refine ⟨by simp [GoRep.k,Flat.k],.inr ⟨g,cap,cur,rfl,hb,hg,hnc,hcm,by simpa [GoRep.k,Flat.k] using hcs,by simpa [GoRep.k,Flat.k] using ht⟩⟩
theorem compact_spec {zs:List Int} (hs:zs.Pairwise (·≤·)):(Lib.compact zs).Pairwise (· < ·)∧∀ y,y∈Lib.compact zs↔y∈zs:=by
 have hd:∀ i j,i≤j→j<zs.length→zs.toArray[i]!≤zs.toArray[j]!:=by
  intro i j hij hj
  rcases Nat.lt_or_eq_of_le hij with h|rfl
  have:=List.pairwise_iff_getElem.1 hs i j (by omega) hj h
  simpa [getElem!_pos,hj,show i<zs.length by omega] using this
  exact Int.le_refl _
 have key:∀ m,m≤zs.length→(Lib.compactUpTo zs.toArray m).Pairwise (· < ·)∧∀ y,y∈Lib.compactUpTo zs.toArray m↔∃ i,i<m∧y=zs.toArray[i]!:=by
  intro m
  induction m with
  | zero=>intro _;refine ⟨by simp [Lib.compactUpTo],fun y=>by simp [Lib.compactUpTo]⟩
  | succ m ih=>
    intro hm
    obtain ⟨i1,i2⟩:=ih (by omega)
    rw [Lib.compactUpTo_succ]
    by_cases hk:Lib.keeps zs.toArray m=true
    rw [if_pos hk]
    refine ⟨List.pairwise_append.2 ⟨i1,List.pairwise_singleton _ _,fun a ha b hb=>?_⟩,fun y=>?_⟩
    obtain ⟨i,hi,rfl⟩:=(i2 a).1 ha
    rw [List.mem_singleton.1 hb]
    have hk':m=0∨zs.toArray[m]!≠zs.toArray[m - 1]!:=by simpa [Lib.keeps] using hk
    have h1:=hd i (m - 1) (by omega) (by omega)
    have h2:=hd (m - 1) m (by omega) (by omega)
    have h3:=hk'.resolve_left (by omega)
    omega
    rw [List.mem_append,i2,List.mem_singleton]
    constructor
    rintro (⟨i,hi,rfl⟩|rfl)
    exact ⟨i,by omega,rfl⟩
    exact ⟨m,by omega,rfl⟩
    rintro ⟨i,hi,rfl⟩
    by_cases hi':i<m
    exact .inl ⟨i,hi',rfl⟩
    exact .inr (by rw [show i=m by omega])
    rw [if_neg hk,List.append_nil]
    have hk':¬ (m=0∨zs.toArray[m]!≠zs.toArray[m - 1]!):=by simpa [Lib.keeps] using hk
    have hm0:m≠0:=fun h=>hk' (.inl h)
    have he:zs.toArray[m]! = zs.toArray[m - 1]!:=Decidable.byContradiction fun h=>hk' (.inr h)
    refine ⟨i1,fun y=>?_⟩
    rw [i2]
    constructor
    rintro ⟨i,hi,rfl⟩
    exact ⟨i,by omega,rfl⟩
    rintro ⟨i,hi,rfl⟩
    by_cases hi':i<m
    exact ⟨i,hi',rfl⟩
    exact ⟨m - 1,by omega,by rw [show i=m by omega,he]⟩
 obtain ⟨h1,h2⟩:=key zs.length (Nat.le_refl _)
 refine ⟨h1,fun y=>?_⟩
 show y∈Lib.compactUpTo zs.toArray zs.length↔_
 rw [h2]
 constructor
 rintro ⟨i,hi,rfl⟩
 simp [getElem!_pos,hi]
 intro h
 obtain ⟨i,hi,rfl⟩:=List.getElem_of_mem h
 exact ⟨i,hi,by simp [getElem!_pos,hi]⟩
def sortU (zs:List Int):List Int:=Lib.compact (zs.mergeSort fun x y=>decide (x≤y))
theorem sortU_spec (zs:List Int):(sortU zs).Pairwise (· < ·)∧∀ y,y∈sortU zs↔y∈zs:=by
 have hp:(zs.mergeSort fun x y=>decide (x≤y)).Pairwise (·≤·):=by
  have:=List.pairwise_mergeSort (le:=fun (x y:Int)=>decide (x≤y)) (fun a b c h1 h2=>by simp at *;omega) (fun a b=>by simp;omega) zs
  exact this.imp (fun h=>by simpa using h)
 obtain ⟨h1,h2⟩:=compact_spec hp
 exact ⟨h1,fun y=>by unfold sortU;rw [h2];exact (List.mergeSort_perm zs _).mem_iff⟩
theorem put_heap {g q:Nat} {cur:Array Value} (os:Array Obj) (h:w.heap[g]?=some (.cells cur T (0,0))) (hl:ys.length≤cur.size) :
 Stp [g] w (Go.Sort.grow (Go.Sort.putRow (Value.int .i64) (Go.Sort.ahead w q) g 0 ys.toArray) os)∧
 ∃ cur',(Go.Sort.grow (Go.Sort.putRow (Value.int .i64) (Go.Sort.ahead w q) g 0 ys.toArray) os).heap[g]?=some (.cells cur' T (0,0))∧cur'.size=cur.size∧cur'.toList.take ys.length=ys.map (Value.int .i64):=by
 have hlt:g<w.heap.size:=(Array.getElem?_eq_some_iff.1 h).1
 have hh:(Go.Sort.grow (Go.Sort.putRow (Value.int .i64) (Go.Sort.ahead w q) g 0 ys.toArray) os).heap=w.heap.modify g (Go.Sort.onCells (Go.Sort.putCells (Value.int .i64) 0 ys.toArray))++os:=rfl
 refine ⟨⟨rfl,rfl,rfl,by rw [hh];simp,fun b hb hn=>?_⟩,Go.Sort.putCells (Value.int .i64) 0 ys.toArray cur,?_,by simp [Go.Sort.putCells],?_⟩
 rw [hh,Array.getElem?_append_left (by simpa using hb),Array.getElem?_modify,if_neg (by simp at hn;exact fun e=>hn e.symm)]
 rw [hh,Array.getElem?_append_left (by simpa using hlt),Array.getElem?_modify,if_pos rfl,h]
 rfl
 apply List.ext_getElem
 simp [Go.Sort.putCells];omega
 intro i h1 h2
 have hi:i<ys.length:=by simpa using h2
 simp [Go.Sort.putCells,hi]
theorem holds_row {g:Nat} {cur:Array Value} (h:w.heap[g]?=some (.cells cur T (0,0))) (ht:cur.toList.take zs.length=zs.map (Value.int .i64)):Go.Sort.Holds (Value.int .i64) w g 0 zs.toArray:=by
 intro j hj
 have hj':j<zs.length:=by simpa using hj
 have hc:cur[j]?=some (.int .i64 zs[j]):=by
  have h1:(cur.toList.take zs.length)[j]?=some (.int .i64 zs[j]):=by rw [ht];simp [hj']
  rw [List.getElem?_take,if_pos hj'] at h1
  simpa using h1
 constructor
 simp [World.cell?,h,hc,hj']
 simp [World.frozen?,h]
end Go.Eng
namespace Go.Proofs.YtjdjdoefppebkaaGreatDoor
open Go Go.Eng Go.RowKit
theorem Sort_row {X:List Nat} {base T:Nat} {v:Value} {zs:List Int} (w:World) (h:Row X w base T v zs) (hsz:zs.length<4611686018427387904) :
 Calls Tryz.prog 82 #[v] w (Ret fun r w'=>r=.tuple #[]∧Row X w' base T v (zs.mergeSort fun x y=>decide (x≤y))∧Stp (ob v) w w'):=by
 rcases h.toI with ⟨rfl,rfl⟩|⟨g,cap,cur,rfl,hb,hg,hnc,hcm,hcs,ht⟩
 refine (Tryz.slices_Sort_int_none none 0 w).mono ?_
 rintro _ _ ⟨rfl,rfl⟩
 exact .mk ⟨rfl,by simpa using Row.nil,Stp.refl _ _⟩
 have hlt:g<w.heap.size:=(Array.getElem?_eq_some_iff.1 hg).1
 refine (Tryz.slices_Sort_int g 0 cap zs w (holds_row hg ht) hlt hsz).mono ?_
 rintro _ _ ⟨rfl,q,os,rfl⟩
 have hl:(zs.mergeSort fun x y=>decide (x≤y)).length=zs.length:=List.length_mergeSort zs
 obtain ⟨hS,cur',h1,h2,h3⟩:=put_heap (q:=q) os hg (ys:=zs.mergeSort fun x y=>decide (x≤y)) (by omega)
 refine .mk ⟨rfl,RowI.toRow (.inr ⟨g,cap,cur',by rw [hl],hb,h1,by omega,hcm,by omega,h3⟩),hS⟩
theorem Compact_row {X:List Nat} {base T:Nat} {v:Value} {zs:List Int} (w:World) (h:Row X w base T v zs) (hsz:zs.length≤9223372036854775807) :
 Calls Tryz.prog 83 #[v] w (Ret fun r w'=>Row X w' base T r (Lib.compact zs)∧Stp (ob v) w w'∧ob r=ob v):=by
 rcases h.toI with ⟨rfl,rfl⟩|⟨g,cap,cur,rfl,hb,hg,hnc,hcm,hcs,ht⟩
 refine (Tryz.slices_Compact_int_empty none 0 w).mono ?_
 rintro _ _ ⟨rfl,rfl⟩
 exact .mk ⟨by rw [show Lib.compact ([]:List Int)=[] from rfl];exact Row.nil,Stp.refl _ _,rfl⟩
 refine (Tryz.slices_Compact_int g 0 cap zs w (holds_row hg ht) hsz hnc).mono ?_
 rintro _ _ ⟨rfl,q,rfl⟩
 have hcl:(Lib.compact zs).length≤zs.length:=by
  unfold Lib.compact Lib.compactUpTo
  rw [List.length_map]
  exact Nat.le_trans (List.length_filter_le _ _) (by simp)
 have e:∀ W:World,W=Go.Sort.grow W #[]:=fun W=>by simp [Go.Sort.grow]
 rw [e (Go.Sort.putRow _ _ _ _ _)]
 obtain ⟨hS,cur',h1,h2,h3⟩:=put_heap (q:=q) #[] hg (ys:=Lib.compact zs++List.replicate (zs.length - (Lib.compact zs).length) 0) (by simp;omega)
 refine .mk ⟨RowI.toRow (.inr ⟨g,cap,cur',rfl,hb,h1,by omega,hcm,by omega,?_⟩),hS,rfl⟩
 have h4:=congrArg (List.take (Lib.compact zs).length) h3
 rw [List.take_take,Nat.min_eq_left (by simp)] at h4
 rw [h4]
 simp
theorem field_spec (s:Str) (y:Int):((fieldF s).2.2=true∧y=(fieldF s).1)↔∃ i,i<7∧s=fieldNames.getD i []∧y=(i:Int):=by
 by_cases h0:s=[100,97,121]
 subst h0
 have e:fieldF [100,97,121]=(0,3,true):=by decide +kernel
 have u:∀ i,i<7→[100,97,121]=fieldNames.getD i []→i=0:=by decide +kernel
 rw [e]
 constructor
 rintro ⟨-,rfl⟩;exact ⟨0,by decide,by decide +kernel,rfl⟩
 rintro ⟨i,hi,he,rfl⟩;rw [u i hi he];exact ⟨rfl,rfl⟩
 by_cases h1:s=[115,101,114,118,101,100]
 subst h1
 have e:fieldF [115,101,114,118,101,100]=(1,3,true):=by decide +kernel
 have u:∀ i,i<7→[115,101,114,118,101,100]=fieldNames.getD i []→i=1:=by decide +kernel
 rw [e]
 constructor
 rintro ⟨-,rfl⟩;exact ⟨1,by decide,by decide +kernel,rfl⟩
 rintro ⟨i,hi,he,rfl⟩;rw [u i hi he];exact ⟨rfl,rfl⟩
 by_cases h2:s=[101,120,116,114,97]
 subst h2
 have e:fieldF [101,120,116,114,97]=(2,1,true):=by decide +kernel
 have u:∀ i,i<7→[101,120,116,114,97]=fieldNames.getD i []→i=2:=by decide +kernel
 rw [e]
 constructor
 rintro ⟨-,rfl⟩;exact ⟨2,by decide,by decide +kernel,rfl⟩
 rintro ⟨i,hi,he,rfl⟩;rw [u i hi he];exact ⟨rfl,rfl⟩
 by_cases h3:s=[98,121]
 subst h3
 have e:fieldF [98,121]=(3,1,true):=by decide +kernel
 have u:∀ i,i<7→[98,121]=fieldNames.getD i []→i=3:=by decide +kernel
 rw [e]
 constructor
 rintro ⟨-,rfl⟩;exact ⟨3,by decide,by decide +kernel,rfl⟩
 rintro ⟨i,hi,he,rfl⟩;rw [u i hi he];exact ⟨rfl,rfl⟩
 by_cases h4:s=[116,111]
 subst h4
 have e:fieldF [116,111]=(4,1,true):=by decide +kernel
 have u:∀ i,i<7→[116,111]=fieldNames.getD i []→i=4:=by decide +kernel
 rw [e]
 constructor
 rintro ⟨-,rfl⟩;exact ⟨4,by decide,by decide +kernel,rfl⟩
 rintro ⟨i,hi,he,rfl⟩;rw [u i hi he];exact ⟨rfl,rfl⟩
 by_cases h5:s=[99,111,117,114,116]
 subst h5
 have e:fieldF [99,111,117,114,116]=(5,1,true):=by decide +kernel
 have u:∀ i,i<7→[99,111,117,114,116]=fieldNames.getD i []→i=5:=by decide +kernel
 rw [e]
 constructor
 rintro ⟨-,rfl⟩;exact ⟨5,by decide,by decide +kernel,rfl⟩
 rintro ⟨i,hi,he,rfl⟩;rw [u i hi he];exact ⟨rfl,rfl⟩
 by_cases h6:s=[97,109,111,117,110,116]
 subst h6
 have e:fieldF [97,109,111,117,110,116]=(6,1,true):=by decide +kernel
 have u:∀ i,i<7→[97,109,111,117,110,116]=fieldNames.getD i []→i=6:=by decide +kernel
 rw [e]
 constructor
 rintro ⟨-,rfl⟩;exact ⟨6,by decide,by decide +kernel,rfl⟩
 rintro ⟨i,hi,he,rfl⟩;rw [u i hi he];exact ⟨rfl,rfl⟩
 constructor
 rintro ⟨h,-⟩
 exfalso
 have hn:fieldNames.findIdx? (isS s)=none:=List.findIdx?_eq_none_iff.2 fun x hx=>by
  simp only [fieldNames,List.mem_cons,List.not_mem_nil,or_false] at hx
  rcases hx with rfl|rfl|rfl|rfl|rfl|rfl|rfl<;>simp only [isS,decide_eq_false_iff_not]<;>intro e<;>first|exact (absurd e h0)|exact (absurd e.symm h0)|exact (absurd e h1)|exact (absurd e.symm h1)|exact (absurd e h2)|exact (absurd e.symm h2)|exact (absurd e h3)|exact (absurd e.symm h3)|exact (absurd e h4)|exact (absurd e.symm h4)|exact (absurd e h5)|exact (absurd e.symm h5)|exact (absurd e h6)|exact (absurd e.symm h6)|skip
 simp [fieldF,idx,hn] at h
 · rintro ⟨i,hi,he,-⟩
   exfalso
   match i,hi with
   | 0,_=>exact h0 he
   | 1,_=>exact h1 he
   | 2,_=>exact h2 he
   | 3,_=>exact h3 he
   | 4,_=>exact h4 he
   | 5,_=>exact h5 he
   | 6,_=>exact h6 he
end Go.Proofs.YtjdjdoefppebkaaGreatDoor
namespace Go.Eng
open Go Go.RowKit Go.Proofs
section
variable {P:Program} {n:Nat} {e:Env} {w:World} {d:Option Nat} {ty:TypeId} {pos:String} {af:Array Edge} {g:Option (Nat×Bool)}
theorem PR_conv {src dst:TypeId} {k k':IntKind} {x:Operand} {a:Int} {D:TypeDesc} [hs:Und P src D] [hd:Und P dst (.int k)] (hx:ev e x=some (.int k' a)) :
 PR P n ⟨d,.convert src dst x,ty,pos,af,g⟩ e w (.int k (k.wrap a)):=
 ⟨fun c ha => by
   have hk:P.intKind dst=k:=by simp [Program.intKind,hd.h]
   have:=run_convert_int (P:=P) w src dst k' a (by rw [hs.h];rfl) (by rw [hk];exact hd.h)
   simp [execOp,ha.ev hx,this,hk]⟩
theorem PR_convTo {src dst:TypeId} {k k':IntKind} {x:Operand} {a b:Int} {D:TypeDesc} [hs:Und P src D] [hd:Und P dst (.int k)] (hx:ev e x=some (.int k' a)) (hb:k.wrap a=b) :
 PR P n ⟨d,.convert src dst x,ty,pos,af,g⟩ e w (.int k b):=hb ▸ PR_conv hx
section
variable {x y:Operand} {t u:TypeId} {k:IntKind} {a b:Int}
end
end
structure Fl where
 i:Nat
 d:Nat
 T:Nat
 z:Value
section rules
variable {P:Program} {n:Nat} {ops:Array Oper} {Lt:List Nat} {Q:Exit→Act→World→Prop} {F:List Fl} {rest join:List (Nat×Nat)} {e:Env} {J:World→List Nat→Prop}
variable {i d:Nat} {op:Op} {ty:TypeId} {pos:String} {af:Array Edge} {gd:Option (Nat×Bool)} {v:Value}
end rules
end Go.Eng
namespace Go.Proofs.YtjdjdoefppebkaaGreatDoor
open Go Go.Eng Go.RowKit
theorem typeT_kid {x y:Nd} (h:typeT x≠0) (hy:y∈x.kids):typeT y≠0:=by
 intro h0
 apply h
 rw [typeT_eq]
 unfold combT
 split
 rfl
 rw [if_pos (by rw [← h0];exact List.mem_map_of_mem hy)]
def Seg (C:List Ins) (p:Nat) (c:List Ins):Prop:=∃ A B,C=A++c++B∧A.length=p
theorem Seg.left {C a b:List Ins} {p:Nat} (h:Seg C p (a++b)):Seg C p a:=by
 obtain ⟨A,B,rfl,hp⟩:=h
 exact ⟨A,b++B,by simp,hp⟩
theorem Seg.right {C a b:List Ins} {p:Nat} (h:Seg C p (a++b)):Seg C (p+a.length) b:=by
 obtain ⟨A,B,rfl,hp⟩:=h
 exact ⟨A++a,B,by simp,by simp [hp]⟩
theorem Seg.at {C r:List Ins} {x:Ins} {p:Nat} (h:Seg C p (x :: r)):C.getD p ⟨0,0⟩=x:=by
 obtain ⟨A,B,rfl,hp⟩:=h
 subst hp
 simp
def runP (C:List Ins):Nat→Nat→List (Option Shp)→Option (List (Option Shp))
 | _,0,st=>some st
 | p,k+1,st=>(stepM st p (C.getD p ⟨0,0⟩)).bind (runP C (p+1) k)
theorem runP_add (C:List Ins) (b:Nat):∀ (a p:Nat) (st:List (Option Shp)),runP C p (a+b) st=(runP C p a st).bind (runP C (p+a) b)
 | 0,p,st=>by simp [runP]
 | a + 1, p, st => by
   rw [show a+1+b=(a+b)+1 by omega,runP,runP]
   cases h:stepM st p (C.getD p ⟨0,0⟩) with
   | none=>rfl
   | some st'=>
     simp only [Option.bind_some]
     rw [runP_add C b a (p+1) st',show p+1+a=p+(a+1) by omega]
theorem runP_one (C:List Ins) (p:Nat) (st:List (Option Shp)):runP C p 1 st=stepM st p (C.getD p ⟨0,0⟩):=by
 rw [runP]
 cases stepM st p (C.getD p ⟨0,0⟩)<;>rfl
theorem runM_runP (C:List Ins) (st:List (Option Shp)):∀ k:Nat,runM C k st=runP C 0 k st
 | 0=>rfl
 | k + 1 => by
   rw [runM,runP_add,runM_runP C st k]
   cases runP C 0 k st with
   | none=>rfl
   | some st'=>simp only [Option.bind_some,Nat.zero_add];rw [runP_one]
def Runs (C:List Ins) (p:Nat) (c:List Ins) (s s':Shp):Prop:=
 ∀ st : List (Option Shp), st.length = C.length → p + c.length < C.length → st[p]? = some (some s) → (∀ i, p < i → i < p + c.length → st[i]? = some none)→
   (st[p+c.length]?=some none∨st[p+c.length]?=some (some s'))→
   ∃ st',runP C p c.length st=some st'∧st'.length=C.length∧st'[p+c.length]?=some (some s')∧∀ i,p+c.length<i→st'[i]?=st[i]?
theorem reachP {st:List (Option Shp)} {t:Nat} {sh:Shp} (h:t<st.length) (h2:st[t]?=some none∨st[t]?=some (some sh)) :
 ∃ st',reachM st (t:Int) sh=some st'∧st'.length=st.length∧st'[t]?=some (some sh)∧∀ i,i≠t→st'[i]?=st[i]?:=by
 unfold reachM
 rw [if_pos (by omega),Int.toNat_natCast,List.getD_eq_getElem?_getD]
 rcases h2 with h2|h2
 rw [h2]
 exact ⟨_,rfl,by simp,by simp [h],fun i hi=>List.getElem?_set_ne (fun e=>hi e.symm)⟩
 rw [h2]
 simp only [Option.getD_some,if_pos]
 exact ⟨_,rfl,rfl,h2,fun _ _=>rfl⟩
theorem Runs.app {C a b:List Ins} {p:Nat} {s s1 s2:Shp} (ha:Runs C p a s s1) (hb:Runs C (p+a.length) b s1 s2) (h1:a≠[]) (h2:b≠[]):Runs C p (a++b) s s2:=by
 intro st hl hlt h0 hn hq
 have l1:=List.length_pos_iff.2 h1
 have l2:=List.length_pos_iff.2 h2
 simp only [List.length_append] at hlt hn hq ⊢
 obtain ⟨st1,r1,e1,e2,e3⟩:=ha st hl (by omega) h0 (fun i hi hi2=>hn i hi (by omega)) (.inl (hn _ (by omega) (by omega)))
 obtain ⟨st2,r2,g1,g2,g3⟩:=hb st1 e1 (by omega) e2 (fun i hi hi2=>by rw [e3 i hi];exact hn i (by omega) (by omega)) (by rw [e3 _ (by omega),Nat.add_assoc];exact hq)
 refine ⟨st2,by rw [runP_add,r1];exact r2,g1,by rw [← Nat.add_assoc];exact g2,fun i hi=>by rw [g3 i (by omega),e3 i (by omega)]⟩
theorem runs_one {C:List Ins} {p:Nat} {x:Ins} {s s':Shp} (hs:Seg C p [x]) (h1:x.op≠24) (h2:x.op≠13) (h3:x.op≠14) (hx:nextM x s=some s'):Runs C p [x] s s':=by
 intro st hl hlt h0 hn hq
 simp only [List.length_cons,List.length_nil,Nat.zero_add] at hlt hq ⊢
 obtain ⟨st',r1,r2,r3,r4⟩:=reachP (st:=st) (t:=p+1) (sh:=s') (by omega) hq
 refine ⟨st',?_,by omega,r3,fun i hi=>r4 i (by omega)⟩
 rw [runP_one,hs.at]
 unfold stepM
 rw [List.getD_eq_getElem?_getD,h0]
 simp only [Option.getD_some,hx]
 rw [if_neg h1,if_neg h2,if_neg h3]
 exact r1
def foldB (b:Nat):List Ins→Shp→Option Shp
 | [],s=>some s
 | x :: r, s => match nextM x s with
   | none=>none
   | some s'=>if s'.length≤b then foldB b r s' else none
theorem next_frame {x:Ins} {ts r s:Shp} (h:nextM x ts=some r) (hl:s.length+r.length≤16):nextM x (s++ts)=some (s++r):=by
 unfold nextM at h ⊢
 dsimp only at h ⊢
 split at h
 rename_i hc
 obtain ⟨c1,c2,c3,c4⟩:=hc
 simp only [Option.some.injEq] at h
 have e1:(s++ts).length - (effF x).1.length=s.length+(ts.length - (effF x).1.length):=by rw [List.length_append];omega
 have e2:(s++ts).drop (s.length+(ts.length - (effF x).1.length))=ts.drop (ts.length - (effF x).1.length):=by
  rw [List.drop_append,List.drop_of_length_le (by omega),List.nil_append]
  congr 1
  omega
 have e3:(s++ts).take (s.length+(ts.length - (effF x).1.length))=s++ts.take (ts.length - (effF x).1.length):=by
  rw [List.take_append,List.take_of_length_le (by omega),show s.length+(ts.length - (effF x).1.length) - s.length=ts.length - (effF x).1.length by omega]
 rw [e1,e2,e3]
 have e4:s++ts.take (ts.length - (effF x).1.length)++(effF x).2.2.1=s++r:=by rw [List.append_assoc,h]
 rw [e4,if_pos ⟨c1,by rw [List.length_append];omega,c3,by rw [List.length_append];omega⟩]
 cases h
theorem runs_line {C:List Ins} (b:Nat):∀ (L:List Ins) (p:Nat) (s ts r:Shp),L≠[]→Seg C p L→(∀ x∈L,x.op≠24∧x.op≠13∧x.op≠14)→foldB b L ts=some r→s.length+b≤16→Runs C p L (s++ts) (s++r)
 | [],_,_,_,_,h,_,_,_,_=>absurd rfl h
 | [x], p, s, ts, r, _, hs, ho, hf, hb => by
   obtain ⟨o1,o2,o3⟩:=ho x (by simp)
   unfold foldB at hf
   cases hx:nextM x ts with
   | none=>rw [hx] at hf;cases hf
   | some s1=>
     rw [hx] at hf
     simp only at hf
     split at hf
     rename_i hl
     simp only [foldB,Option.some.injEq] at hf
     subst hf
     exact runs_one hs o1 o2 o3 (next_frame hx (by omega))
     cases hf
 | x :: y :: L, p, s, ts, r, _, hs, ho, hf, hb => by
   obtain ⟨o1,o2,o3⟩:=ho x (by simp)
   rw [foldB] at hf
   cases hx:nextM x ts with
   | none=>rw [hx] at hf;cases hf
   | some s1=>
     rw [hx] at hf
     simp only at hf
     split at hf
     rename_i hl
     have hs1:Seg C p ([x]++(y :: L)):=hs
     exact Runs.app (a:=[x]) (runs_one hs1.left o1 o2 o3 (next_frame hx (by omega))) (runs_line b (y :: L) _ s s1 r (by simp) hs1.right (fun z hz=>ho z (by simp [hz])) hf hb) (by simp) (by simp)
     cases hf
theorem runs_ch {C Lc Ly Ln:List Ins} {p:Nat} {s s':Shp} (t1 t2:Int)
 (hs:Seg C p (Lc++[⟨14,t1⟩]++Ly++[⟨13,t2⟩]++Ln)) (ht1:t1=((p+Lc.length+1+Ly.length+1:Nat):Int)) (ht2:t2=((p+Lc.length+1+Ly.length+1+Ln.length:Nat):Int))
 (hc:Runs C p Lc s (s++[2])) (hy:Runs C (p+Lc.length+1) Ly s s') (hn:Runs C (p+Lc.length+1+Ly.length+1) Ln s s') (h1:Lc≠[]) (h2:Ly≠[]) (h3:Ln≠[]) (hl:s.length≤16) (hl':s'.length≤16) :
 Runs C p (Lc++[⟨14,t1⟩]++Ly++[⟨13,t2⟩]++Ln) s s':=by
 intro st hlen hlt h0 hno hq
 have l1:=List.length_pos_iff.2 h1
 have l2:=List.length_pos_iff.2 h2
 have l3:=List.length_pos_iff.2 h3
 have hlen0:(Lc++[(⟨14,t1⟩:Ins)]++Ly++[(⟨13,t2⟩:Ins)]++Ln).length=Lc.length+(1+(Ly.length+(1+Ln.length))):=by simp only [List.length_append,List.length_cons,List.length_nil];omega
 rw [hlen0] at hlt hno hq ⊢
 have g14:C.getD (p+Lc.length) ⟨0,0⟩=⟨14,t1⟩:=(show Seg C (p+Lc.length) (⟨14,t1⟩ :: (Ly++[⟨13,t2⟩]++Ln)) from (show Seg C p (Lc++(⟨14,t1⟩ :: (Ly++[⟨13,t2⟩]++Ln))) by simpa using hs).right).at
 have g13:C.getD (p+Lc.length+1+Ly.length) ⟨0,0⟩=⟨13,t2⟩:=by
  have h:=(show Seg C p ((Lc++[⟨14,t1⟩]++Ly)++(⟨13,t2⟩ :: Ln)) by simpa using hs).right.at
  rw [← h]
  congr 1
  simp only [List.length_append,List.length_cons,List.length_nil]
  omega
 obtain ⟨st1,r1,e1,e2,e3⟩:=hc st hlen (by omega) h0 (fun i hi hi2=>hno i hi (by omega)) (.inl (hno _ (by omega) (by omega)))
 have n14:nextM ⟨14,t1⟩ (s++[2])=some s:=by
  have:=next_frame (x:=⟨14,t1⟩) (ts:=[2]) (r:=[]) (s:=s) (by simp [nextM,effF]) (by simpa using hl)
  simpa using this
 obtain ⟨st2,q1,q2,q3,q4⟩:=reachP (st:=st1) (t:=p+Lc.length+1+Ly.length+1) (sh:=s) (by omega) (.inl (by rw [e3 _ (by omega)];exact hno _ (by omega) (by omega)))
 obtain ⟨st3,u1,u2,u3,u4⟩:=reachP (st:=st2) (t:=p+Lc.length+1) (sh:=s) (by omega) (.inl (by rw [q4 _ (by omega),e3 _ (by omega)];exact hno _ (by omega) (by omega)))
 have s14:runP C (p+Lc.length) 1 st1=some st3:=by
  rw [runP_one,g14]
  unfold stepM
  rw [List.getD_eq_getElem?_getD,e2]
  simp only [Option.getD_some,n14]
  rw [if_neg (by simp),if_neg (by simp),if_pos trivial,if_pos (by omega),ht1,q1]
  simp only [Option.bind_some]
  rw [← u1]
  congr 1
 obtain ⟨st4,v1,v2,v3,v4⟩:=hy st3 (by omega) (by omega) u3 (fun i hi hi2=>by rw [u4 i (by omega),q4 i (by omega),e3 i (by omega)];exact hno i (by omega) (by omega)) (.inl (by rw [u4 _ (by omega),q4 _ (by omega),e3 _ (by omega)];exact hno _ (by omega) (by omega)))
 have n13:nextM ⟨13,t2⟩ s'=some s':=by
  simp [nextM,effF,hl']
 have hq4:st4[p+Lc.length+1+Ly.length+1+Ln.length]?=st[p+(Lc.length+(1+(Ly.length+(1+Ln.length))))]?:=by
  rw [v4 _ (by omega),u4 _ (by omega),q4 _ (by omega),e3 _ (by omega)]
  congr 1
  omega
 obtain ⟨st5,w1,w2,w3,w4⟩:=reachP (st:=st4) (t:=p+Lc.length+1+Ly.length+1+Ln.length) (sh:=s') (by omega) (by rw [hq4];exact hq)
 have s13:runP C (p+Lc.length+1+Ly.length) 1 st4=some st5:=by
  rw [runP_one,g13]
  unfold stepM
  rw [List.getD_eq_getElem?_getD,v3]
  simp only [Option.getD_some,n13]
  rw [if_neg (by simp),if_pos trivial,if_pos (by omega),ht2,w1]
 obtain ⟨st6,x1,x2,x3,x4⟩:=hn st5 (by omega) (by omega) (by rw [w4 _ (by omega),v4 _ (by omega),u4 _ (by omega)];exact q3) (fun i hi hi2=>by rw [w4 i (by omega),v4 i (by omega),u4 i (by omega),q4 i (by omega),e3 i (by omega)];exact hno i (by omega) (by omega)) (.inr w3)
 refine ⟨st6,?_,x2,?_,fun i hi=>by rw [x4 i (by omega),w4 i (by omega),v4 i (by omega),u4 i (by omega),q4 i (by omega),e3 i (by omega)]⟩
 rw [runP_add,r1,Option.bind_some,runP_add,s14,Option.bind_some,runP_add,v1,Option.bind_some,runP_add,s13,Option.bind_some]
 exact x1
 rw [← x3]
 congr 1
 omega
theorem sig_mem {x:Sig} (h:sigI x≠0):(x,Value.int .i64 (sigI x))∈sigs:=by
 have hs:=sigF_int x
 unfold sigI sigF mget at *
 cases hf:sigs.find? (fun p=>decide (p.1=x)) with
 | none=>rw [hf] at h;simp at h
 | some p=>
   have h1:=List.mem_of_find?_eq_some hf
   have h2:=List.find?_some hf
   simp only [decide_eq_true_eq] at h2
   rw [hf] at hs
   simp only at hs ⊢
   rw [← hs,← h2]
   exact h1
theorem sig_cases {x:Sig} (h:sigI x≠0):∃ e∈sigs,x=e.1∧e.2=.int .i64 (sigI x):=⟨_,sig_mem h,rfl,rfl⟩
theorem ts_of {ts:List Int} (h0:(0:Int)∉ts) (h3:ts.length≤3) (hn:ts≠[]) (h2:ts.getD 2 0=0):(ts.getD 1 0=0∧ts=[ts.getD 0 0])∨(ts.getD 1 0≠0∧ts=[ts.getD 0 0,ts.getD 1 0]):=by
 match ts,h3 with
 | [],_=>exact absurd rfl hn
 | [a],_=>left;exact ⟨rfl,rfl⟩
 | [a,b],_=>right;refine ⟨fun hb=>h0 ?_,rfl⟩;simp at hb;simp [hb]
 | [a,b,c],_=>exact absurd (by simp at h2;simp [h2]) h0
theorem combT_cases {k n:Int} {s:Str} {ts:List Int} (h:combT k n s ts≠0) :
 (ts=[]∧combT k n s ts=leafN k n s)∨
 ((0:Int)∉ts∧ts.length≤3∧ts≠[]∧((k=9∧ts=[2,combT k n s ts,combT k n s ts])∨(k=6∧ts.getD 2 0=0∧combT k n s ts=binT s (ts.getD 0 0) (ts.getD 1 0))∨(combT k n s ts=sigI ⟨k,s,ts.getD 0 0,ts.getD 1 0,ts.getD 2 0⟩))):=by
 unfold combT at h ⊢
 split at h
 exact absurd rfl h
 rename_i h3
 split at h
 exact absurd rfl h
 rename_i h0
 rw [if_neg h3,if_neg h0]
 split at h
 rename_i he
 left
 exact ⟨he,by rw [if_pos he]⟩
 rename_i he
 right
 rw [if_neg he]
 refine ⟨h0,by omega,he,?_⟩
 split at h
 exact absurd rfl h
 rename_i hn
 rw [if_neg hn]
 split at h
 · rename_i h9
   left
   rw [if_pos h9]
   refine ⟨h9.1,?_⟩
   obtain ⟨_,_,e2,e3⟩:=h9
   match ts,h3 with
   | [],_=>exact absurd rfl he
   | [a],_=>simp at e2 e3 h
   | [a,b],_=>simp at e2 e3 h;exact absurd e3 h
   | [a,b,c],_=>simp at e2 e3 ⊢;exact ⟨e2,e3.symm⟩
   | a :: b :: c :: d :: r,h3=>simp at h3
 rename_i h9
 rw [if_neg h9]
 split at h
 rename_i h6
 right;left
 rw [if_pos h6]
 exact ⟨h6.1,h6.2,rfl⟩
 rename_i h6
 right;right
 rw [if_neg h6]
theorem ctyLen2 {α:Type} {l:List α} (h:l.length=2):∃ a b,l=[a,b]:=by
 match l,h with
 | [a,b],_=>exact ⟨a,b,rfl⟩
theorem ctyLen3 {α:Type} {l:List α} (h:l.length=3):∃ a b c,l=[a,b,c]:=by
 match l,h with
 | [a,b,c],_=>exact ⟨a,b,c,rfl⟩
theorem codeN_ne (x:Nd):typeT x≠0→∀ p,codeN x p≠[]:=by
 induction x using Nd.ind with
 | h k n s l ih=>
 intro ht p
 have hk:∀ y∈l,typeT y≠0:=fun y hy=>typeT_kid (x:=.mk k n s l) ht hy
 rw [codeN]
 unfold combC
 have hp:∀ p,l≠[]→plainC k s (l.map codeN) p≠[]:=by
  intro p hl
  unfold plainC
  cases l with
  | nil=>exact absurd rfl hl
  | cons y r=>
    have:=ih y (by simp) (hk y (by simp)) p
    simp only [List.map_cons,seqC]
    intro h
    simp only [List.append_eq_nil_iff] at h
    exact this h.1.1.1
 split
 simp
 rename_i hl
 have hl':l≠[]:=fun h=>hl (by rw [h];rfl)
 split
 unfold chC;simp
 split
 unfold chC;simp
 split
 unfold chC;simp
 split
 simp
 exact hp p hl'
theorem runs_seq {C:List Ins}:∀ (l:List Nd),(∀ y∈l,∀ p s,Seg C p (codeN y p)→s.length+nestN y≤16→Runs C p (codeN y p) s (s++[typeT y]))→(∀ y∈l,∀ p,codeN y p≠[])→
 ∀ p s,l≠[]→Seg C p (seqC (l.map codeN) p)→(∀ y∈l,s.length+(l.length - 1)+nestN y≤16)→Runs C p (seqC (l.map codeN) p) s (s++l.map typeT)
 | [],_,_,_,_,h,_,_=>absurd rfl h
 | [y], hr, hne, p, s, _, hs, hb => by
   have e:seqC ([y].map codeN) p=codeN y p:=by simp [seqC]
   rw [e] at hs ⊢
   exact hr y (by simp) p s hs (by have:=hb y (by simp);simpa using this)
 | y :: z :: l, hr, hne, p, s, _, hs, hb => by
   have e:seqC ((y :: z :: l).map codeN) p=codeN y p++seqC ((z :: l).map codeN) (p+(codeN y p).length):=by simp [seqC]
   rw [e] at hs ⊢
   have h1:=hr y (by simp) p s hs.left (by have:=hb y (by simp);omega)
   have h2:=runs_seq (z :: l) (fun y hy=>hr y (by simp [hy])) (fun y hy=>hne y (by simp [hy])) (p+(codeN y p).length) (s++[typeT y]) (by simp) hs.right (fun w hw=>by
    have:=hb w (by simp [hw])
    simp only [List.length_append,List.length_cons,List.length_nil] at this ⊢
    omega)
   have h3:seqC ((z :: l).map codeN) (p+(codeN y p).length)≠[]:=by
    simp only [List.map_cons,seqC]
    intro h
    simp only [List.append_eq_nil_iff] at h
    exact hne z (by simp) _ h.1
   have:=Runs.app h1 h2 (hne y (by simp) p) h3
   simpa using this
theorem runs_plain {C:List Ins} {l:List Nd} {L:List Ins} {p:Nat} {s ts r:Shp} (hr:∀ y∈l,∀ p s,Seg C p (codeN y p)→s.length+nestN y≤16→Runs C p (codeN y p) s (s++[typeT y])) (hne:∀ y∈l,∀ p,codeN y p≠[])
 (hts:l.map typeT=ts) (hl:l≠[]) (hL:L≠[]) (hs:Seg C p (seqC (l.map codeN) p++L)) (hb:∀ y∈l,s.length+(l.length - 1)+nestN y≤16) (ho:∀ x∈L,x.op≠24∧x.op≠13∧x.op≠14) (hf:foldB 2 L ts=some r) (h2:s.length+2≤16) :
 Runs C p (seqC (l.map codeN) p++L) s (s++r):=by
 have h1:=runs_seq l hr hne p s hl hs.left hb
 rw [hts] at h1
 have h3:seqC (l.map codeN) p≠[]:=by
  cases l with
  | nil=>exact absurd rfl hl
  | cons y l=>
    simp only [List.map_cons,seqC]
    intro h
    simp only [List.append_eq_nil_iff] at h
    exact hne y (by simp) _ h.1
 exact Runs.app h1 (runs_line 2 L _ s ts r hL hs.right ho hf h2) h3 hL
def extraL (k:Int) (s:Str):List Ins:=(if k=8∨k=5∧s=[45] then [⟨8,0⟩] else [])++insO (opF s)
theorem plainC_eq (k:Int) (s:Str) (cs:List Cf) (p:Nat):plainC k s cs p=seqC cs p++extraL k s:=by unfold plainC extraL;rw [List.append_assoc]
def okL (L:List Ins) (ts:List Int) (t:Int):Bool:=decide (L≠[]) && L.all (fun x=>decide (x.op≠24∧x.op≠13∧x.op≠14)) && decide (foldB 2 L ts=some [t])
theorem okL_spec {L:List Ins} {ts:List Int} {t:Int} (h:okL L ts t=true):L≠[]∧(∀ x∈L,x.op≠24∧x.op≠13∧x.op≠14)∧foldB 2 L ts=some [t]:=by
 unfold okL at h
 simp only [Bool.and_eq_true,decide_eq_true_eq,List.all_eq_true] at h
 exact ⟨h.1.1,h.1.2,h.2⟩
def sigOk (e:SigE):Bool:=
 match e.2 with
 | .int .i64 t=>decide (e.1.kind≠9) && decide (e.1.kind≠6) && decide (e.1.c=0) && okL (extraL e.1.kind e.1.s) (if e.1.b=0 then [e.1.a] else [e.1.a,e.1.b]) t
 | _=>false
theorem sigs_ok:sigs.all sigOk=true:=by decide +kernel
theorem arith_ok:opsA.all (fun s=>okL (extraL 6 s++(if s=[45] then [⟨6,0⟩] else [])) [1,1] 1 && !decide (s=[97,110,100]) && !decide (s=[111,114]))=true:=by decide +kernel
theorem comp_ok:opsC.all (fun s=>okL (extraL 6 s) [1,1] 2 && okL (extraL 6 s) [3,3] 2 && !decide (s=[97,110,100]) && !decide (s=[111,114]) && !decide (s=[45]))=true:=by decide +kernel
theorem code_runs (C:List Ins) (x:Nd):typeT x≠0→∀ p s,Seg C p (codeN x p)→s.length+nestN x≤16→Runs C p (codeN x p) s (s++[typeT x]):=by
 induction x using Nd.ind with
 | h k n s l ih=>
 intro ht p sh hs hb
 have hk:∀ y∈l,typeT y≠0:=fun y hy=>typeT_kid (x:=.mk k n s l) ht hy
 have hr:∀ y∈l,∀ p s,Seg C p (codeN y p)→s.length+nestN y≤16→Runs C p (codeN y p) s (s++[typeT y]):=fun y hy=>ih y hy (hk y hy)
 have hne:∀ y∈l,∀ p,codeN y p≠[]:=fun y hy=>codeN_ne y (hk y hy)
 have hnest:∀ y∈l,nestN y+1≤nestN (.mk k n s l):=fun y hy=>by have:=nest_kid (x:=.mk k n s l) hy;omega
 have hrange:=typeT_range (.mk k n s l)
 have hteq:typeT (.mk k n s l)=combT k n s (l.map typeT):=typeT_eq _
 rw [codeN] at hs ⊢
 rw [hteq] at ht hrange ⊢
 rcases combT_cases ht with ⟨he,hc⟩|⟨h0,h3,hn0,hc⟩
 ·
   have hl:l=[]:=by simpa using he
   subst hl
   unfold combC at hs ⊢
   rw [if_pos (show (List.map codeN ([]:List Nd)).length=0 from rfl)] at hs ⊢
   rw [hc] at ht ⊢
   have hlen:sh.length+1≤16:=by
    have:1≤nestN (.mk k n s []):=by rw [nestN_eq];omega
    omega
   refine runs_one hs ?_ ?_ ?_ ?_
   unfold leafI;split<;>(try split)<;>(try split)<;>simp
   unfold leafI;split<;>(try split)<;>(try split)<;>simp
   unfold leafI;split<;>(try split)<;>(try split)<;>simp
   have hnx:nextM (leafI k n s) []=some [leafN k n s]:=by
    unfold leafN at ht ⊢
    unfold leafI
    by_cases k4:k=4
    subst k4
    rw [if_pos rfl] at ht ⊢
    split at ht
    · rename_i hn
      rw [if_pos hn]
      have hf:((fieldF s).2.1=3∧((fieldF s).1=0∨(fieldF s).1=1))∨((fieldF s).2.1=1∧2≤(fieldF s).1∧(fieldF s).1<7):=by
       have h1:(fieldF s).2.2=true:=by
        cases hb:(fieldF s).2.2 with
        | true=>rfl
        | false=>exact absurd (fieldF_no hb) ht
       obtain ⟨i,hi,hsn,_⟩:=(field_spec s (fieldF s).1).1 ⟨h1,rfl⟩
       subst hsn
       match i,hi with
       | 0,_=>decide +kernel
       | 1,_=>decide +kernel
       | 2,_=>decide +kernel
       | 3,_=>decide +kernel
       | 4,_=>decide +kernel
       | 5,_=>decide +kernel
       | 6,_=>decide +kernel
      rw [if_neg (by decide),if_neg (by decide),if_neg (by decide)]
      rcases hf with ⟨e1,e2⟩|⟨e1,e2,e3⟩
      simp [nextM,effF,e1,e2];omega
      simp [nextM,effF,e1];omega
    exact absurd rfl ht
    rw [if_neg k4] at ht ⊢
    split at ht
    exact absurd rfl ht
    rename_i hs0
    rw [if_neg hs0]
    by_cases k1:k=1
    rw [if_pos k1] at ht ⊢
    rw [if_pos k1]
    split at ht
    rename_i h;rw [if_pos h];simp [nextM,effF];omega
    exact absurd rfl ht
    rw [if_neg k1] at ht ⊢
    rw [if_neg k1]
    by_cases k2:k=2
    rw [if_pos k2] at ht ⊢
    rw [if_pos k2]
    split at ht
    rename_i h;rw [if_pos h];simp [nextM,effF];omega
    exact absurd rfl ht
    rw [if_neg k2] at ht ⊢
    rw [if_neg k2]
    by_cases k3:k=3
    rw [if_pos k3] at ht ⊢
    rw [if_pos k3]
    split at ht
    rename_i h;rw [if_pos h];simp [nextM,effF];omega
    exact absurd rfl ht
    rw [if_neg k3] at ht;exact absurd rfl ht
   have:=next_frame (s:=sh) hnx (by simpa using hlen)
   simpa using this
 · have hl:l≠[]:=fun h=>hn0 (by rw [h];rfl)
   have hlen:l.length≤3:=by simpa using h3
   have hlen0:¬ (l.map codeN).length=0:=by simpa using hl
   unfold combC at hs ⊢
   rw [if_neg hlen0] at hs ⊢
   rcases hc with ⟨h9,hts⟩|⟨h6,hg2,hbt⟩|hsg
   ·
     rw [if_pos h9] at hs ⊢
     generalize combT k n s (l.map typeT)=t at *
     have hl3:l.length=3:=by have:=congrArg List.length hts;simpa using this
     obtain ⟨a,b,c,rfl⟩:=ctyLen3 hl3
     simp only [List.map_cons,List.map_nil,List.cons.injEq,and_true] at hts
     obtain ⟨ta,tb,tc⟩:=hts
     simp only [List.map_cons,List.map_nil,List.getD_cons_zero,List.getD_cons_succ] at hs ⊢
     unfold chC at hs ⊢
     have na:=hnest a (by simp)
     have nb:=hnest b (by simp)
     have nc:=hnest c (by simp)
     refine runs_ch _ _ hs rfl rfl ?_ ?_ ?_ (hne a (by simp) _) (hne b (by simp) _) (hne c (by simp) _) (by omega) (by simp only [List.length_append,List.length_cons,List.length_nil];omega)
     rw [← ta]
     exact hr a (by simp) p sh (by have:=hs.left.left.left.left;exact this) (by omega)
     rw [← tb]
     have h2:=hs.left.left.right
     simp only [List.length_append,List.length_cons,List.length_nil] at h2
     exact hr b (by simp) _ sh h2 (by omega)
     rw [← tc]
     have h2:=hs.right
     simp only [List.length_append,List.length_cons,List.length_nil] at h2
     have e:p+((codeN a p).length+(0+1)+(codeN b (p+(codeN a p).length+1)).length+(0+1))=p+(codeN a p).length+1+(codeN b (p+(codeN a p).length+1)).length+1:=by omega
     rw [e] at h2
     exact hr c (by simp) _ sh h2 (by omega)
   ·
     subst h6
     rw [if_neg (by decide)] at hs ⊢
     rcases ts_of h0 h3 hn0 hg2 with ⟨hb0,hts⟩|⟨hb0,hts⟩
     exfalso
     apply ht
     rw [hbt,hb0]
     have ha0:(l.map typeT).getD 0 0≠0:=fun h=>h0 (by rw [hts,h];simp)
     unfold binT
     split
     rw [if_neg (by omega)]
     split
     rw [if_neg (by omega)]
     split
     rw [if_neg (by omega)]
     rfl
     have hl2:l.length=2:=by have:=congrArg List.length hts;simpa using this
     obtain ⟨a,b,rfl⟩:=ctyLen2 hl2
     simp only [List.map_cons,List.map_nil,List.getD_cons_zero,List.getD_cons_succ] at hbt
     have na:=hnest a (by simp)
     have nb:=hnest b (by simp)
     have ra:=typeT_range a
     have hbnd:∀ y∈[a,b],sh.length+([a,b].length - 1)+nestN y≤16:=fun y hy=>by
      have:=hnest y hy
      simp only [List.length_cons,List.length_nil]
      omega
     have h2:sh.length+2≤16:=by
      have:1≤nestN a:=by rw [nestN_eq];omega
      omega
     by_cases hA:s∈opsA
     have hok:=List.all_eq_true.1 arith_ok s hA
     simp only [Bool.and_eq_true,Bool.not_eq_true',decide_eq_false_iff_not] at hok
     obtain ⟨⟨hok,hand⟩,hor⟩:=hok
     obtain ⟨o1,o2,o3⟩:=okL_spec hok
     have hab:typeT a=typeT b∧typeT a=1:=by
      unfold binT at hbt
      rw [if_pos hA] at hbt
      split at hbt
      assumption
      exact absurd hbt ht
     have ht1:combT 6 n s ([a,b].map typeT)=1:=by
      show combT 6 n s [typeT a,typeT b]=1
      rw [hbt];unfold binT;rw [if_pos hA,if_pos hab]
     rw [ht1]
     rw [if_neg (by intro h;exact hand h.2),if_neg (by intro h;exact hor h.2)] at hs ⊢
     split at hs
     rename_i hm
     rw [if_pos hm]
     rw [plainC_eq,List.append_assoc] at hs ⊢
     rw [if_pos hm.2] at o1 o2 o3
     exact runs_plain hr hne (ts:=[1,1]) (by simp [hab.2,← hab.1]) (by simp) o1 hs hbnd o2 o3 h2
     rename_i hm
     rw [if_neg hm]
     have hm':¬ s=[45]:=fun h=>hm ⟨rfl,h⟩
     rw [if_neg hm',List.append_nil] at o1 o2 o3
     rw [plainC_eq] at hs ⊢
     exact runs_plain hr hne (ts:=[1,1]) (by simp [hab.2,← hab.1]) (by simp) o1 hs hbnd o2 o3 h2
     by_cases hC:s∈opsC
     have hok:=List.all_eq_true.1 comp_ok s hC
     simp only [Bool.and_eq_true,Bool.not_eq_true',decide_eq_false_iff_not] at hok
     obtain ⟨⟨⟨⟨hok1,hok3⟩,hand⟩,hor⟩,hmi⟩:=hok
     have hab:typeT a=typeT b∧¬ typeT a=2:=by
      unfold binT at hbt
      rw [if_neg hA,if_pos hC] at hbt
      split at hbt
      assumption
      exact absurd hbt ht
     have ht2:combT 6 n s ([a,b].map typeT)=2:=by
      show combT 6 n s [typeT a,typeT b]=2
      rw [hbt];unfold binT;rw [if_neg hA,if_pos hC,if_pos hab]
     rw [ht2]
     rw [if_neg (by intro h;exact hand h.2),if_neg (by intro h;exact hor h.2),if_neg (by intro h;exact hmi h.2),plainC_eq] at hs ⊢
     have ka:=hk a (by simp)
     have h13:typeT a=1∨typeT a=3:=by omega
     rcases h13 with h|h
     obtain ⟨o1,o2,o3⟩:=okL_spec hok1
     exact runs_plain hr hne (ts:=[1,1]) (by simp [h,← hab.1]) (by simp) o1 hs hbnd o2 o3 h2
     obtain ⟨o1,o2,o3⟩:=okL_spec hok3
     exact runs_plain hr hne (ts:=[3,3]) (by simp [h,← hab.1]) (by simp) o1 hs hbnd o2 o3 h2
     have hL:s∈opsL:=by
      by_cases hL:s∈opsL
      exact hL
      exfalso;apply ht;show combT 6 n s [typeT a,typeT b]=0;rw [hbt];unfold binT;rw [if_neg hA,if_neg hC,if_neg hL]
     have hab:typeT a=typeT b∧typeT a=2:=by
      unfold binT at hbt
      rw [if_neg hA,if_neg hC,if_pos hL] at hbt
      split at hbt
      assumption
      exact absurd hbt ht
     have ht2:combT 6 n s ([a,b].map typeT)=2:=by
      show combT 6 n s [typeT a,typeT b]=2
      rw [hbt];unfold binT;rw [if_neg hA,if_neg hC,if_pos hL,if_pos hab]
     rw [ht2]
     have hconst:∀ (z:Int) (q:Nat),(z=0∨z=1)→Seg C q [⟨2,z⟩]→Runs C q [⟨2,z⟩] sh (sh++[2]):=fun z q hz hsq=>by
      have hnx:nextM ⟨2,z⟩ []=some [2]:=by simp [nextM,effF,hz]
      have:=next_frame (s:=sh) hnx (by simp only [List.length_cons,List.length_nil];omega)
      rw [List.append_nil] at this
      exact runs_one hsq (by simp) (by simp) (by simp) this
     simp only [opsL,List.mem_cons,List.not_mem_nil,or_false] at hL
     rcases hL with hL|hL
     rw [if_pos ⟨rfl,hL⟩] at hs ⊢
     simp only [List.map_cons,List.map_nil,List.getD_cons_zero,List.getD_cons_succ] at hs ⊢
     unfold chC at hs ⊢
     refine runs_ch _ _ hs rfl rfl ?_ ?_ ?_ (hne a (by simp) _) (hne b (by simp) _) (by simp) (by omega) (by simp only [List.length_append,List.length_cons,List.length_nil];omega)
     have h1:=hr a (by simp) p sh hs.left.left.left.left (by omega)
     rw [hab.2] at h1
     exact h1
     have h2:=hs.left.left.right
     simp only [List.length_append,List.length_cons,List.length_nil] at h2
     have h1:=hr b (by simp) _ sh h2 (by omega)
     rw [← hab.1,hab.2] at h1
     exact h1
     have h2:=hs.right
     simp only [List.length_append,List.length_cons,List.length_nil] at h2
     have e:p+((codeN a p).length+(0+1)+(codeN b (p+(codeN a p).length+1)).length+(0+1))=p+(codeN a p).length+1+(codeN b (p+(codeN a p).length+1)).length+1:=by omega
     rw [e] at h2
     exact hconst 0 _ (.inl rfl) h2
     have hna:¬ ((6:Int)=6∧s=[97,110,100]):=by rintro ⟨_,h⟩;rw [hL] at h;exact absurd h (by decide)
     rw [if_neg hna,if_pos ⟨rfl,hL⟩] at hs ⊢
     simp only [List.map_cons,List.map_nil,List.getD_cons_zero,List.getD_cons_succ] at hs ⊢
     unfold chC at hs ⊢
     refine runs_ch _ _ hs rfl rfl ?_ ?_ ?_ (hne a (by simp) _) (by simp) (hne b (by simp) _) (by omega) (by simp only [List.length_append,List.length_cons,List.length_nil];omega)
     have h1:=hr a (by simp) p sh hs.left.left.left.left (by omega)
     rw [hab.2] at h1
     exact h1
     have h2:=hs.left.left.right
     simp only [List.length_append,List.length_cons,List.length_nil] at h2
     exact hconst 1 _ (.inr rfl) h2
     have h2:=hs.right
     simp only [List.length_append,List.length_cons,List.length_nil] at h2
     have e:p+((codeN a p).length+(0+1)+(0+1)+(0+1))=p+(codeN a p).length+1+(0+1)+1:=by omega
     rw [e] at h2
     have h1:=hr b (by simp) _ sh h2 (by omega)
     rw [← hab.1,hab.2] at h1
     exact h1
   ·
     obtain ⟨e,he,hxe,hev⟩:=sig_cases (by rw [← hsg];exact ht)
     have hok:=List.all_eq_true.1 sigs_ok e he
     unfold sigOk at hok
     rw [hev] at hok
     simp only [Bool.and_eq_true,decide_eq_true_eq] at hok
     obtain ⟨⟨⟨k9,k6⟩,hc0⟩,hokl⟩:=hok
     rw [← hxe] at k9 k6 hc0 hokl
     simp only at k9 k6 hc0 hokl
     obtain ⟨o1,o2,o3⟩:=okL_spec hokl
     rw [if_neg k9,if_neg (by intro h;exact k6 h.1),if_neg (by intro h;exact k6 h.1),if_neg (by intro h;exact k6 h.1),plainC_eq] at hs ⊢
     rw [hsg]
     have hts:l.map typeT=(if (l.map typeT).getD 1 0=0 then [(l.map typeT).getD 0 0] else [(l.map typeT).getD 0 0,(l.map typeT).getD 1 0]):=by
      rcases ts_of h0 h3 hn0 hc0 with ⟨h1,h2⟩|⟨h1,h2⟩
      rw [if_pos h1];exact h2
      rw [if_neg h1];exact h2
     have hl2:l.length≤2:=by
      have:=congrArg List.length hts
      rw [List.length_map] at this
      split at this<;>simp only [List.length_cons,List.length_nil] at this<;>omega
     have h2:sh.length+2≤16:=by
      cases l with
      | nil=>exact absurd rfl hl
      | cons y r=>
        have:=hnest y (by simp)
        have:1≤nestN y:=by rw [nestN_eq];omega
        omega
     exact runs_plain hr hne hts hl o1 hs (fun y hy=>by have:=hnest y hy;omega) o2 o3 h2
theorem verM_expr (y:Nd) (ht:typeT y≠0) (hn:nestN y≤12) (hl:(exprF y).length≤200):verM (exprF y)=(typeT y,0):=by
 have hne:=codeN_ne y ht 0
 have hpos:=List.length_pos_iff.2 hne
 unfold exprF at hl ⊢
 have hlen:(codeN y 0++[(⟨24,0⟩:Ins)]).length=(codeN y 0).length+1:=by simp
 have hr:=code_runs (codeN y 0++[⟨24,0⟩]) y ht 0 [] ⟨[],[⟨24,0⟩],by simp,rfl⟩ (by simp only [List.length_nil];omega)
 obtain ⟨st,r1,r2,r3,_⟩:=hr ((some []) :: List.replicate ((codeN y 0++[(⟨24,0⟩:Ins)]).length - 1) none) (by simp) (by rw [hlen];omega) (by simp) (fun i hi hi2=>by
  cases i with
  | zero=>omega
  | succ i=>
    rw [List.getElem?_cons_succ,List.getElem?_replicate,if_pos (by rw [hlen];omega)]) (.inl (by
  rw [Nat.zero_add]
  obtain ⟨m,hm⟩:∃ m,(codeN y 0).length=m+1:=⟨(codeN y 0).length - 1,by omega⟩
  rw [hm,List.getElem?_cons_succ,List.getElem?_replicate,if_pos (by rw [hlen];omega)]))
 rw [Nat.zero_add] at r3
 rw [List.nil_append] at r3
 unfold verM
 rw [if_neg (by rw [hlen] at hl ⊢;omega)]
 have hrun:runM (codeN y 0++[⟨24,0⟩]) (codeN y 0++[(⟨24,0⟩:Ins)]).length ((some []) :: List.replicate ((codeN y 0++[(⟨24,0⟩:Ins)]).length - 1) none)=some st:=by
  rw [runM_runP]
  conv=>lhs;arg 3;rw [hlen]
  rw [runP_add,r1,Option.bind_some,Nat.zero_add,runP_one]
  have hg:(codeN y 0++[(⟨24,0⟩:Ins)]).getD (codeN y 0).length ⟨0,0⟩=⟨24,0⟩:=by simp
  rw [hg]
  unfold stepM
  rw [List.getD_eq_getElem?_getD,r3]
  have hnx:nextM ⟨24,0⟩ [typeT y]=some [typeT y]:=by simp [nextM,effF]
  simp only [Option.getD_some,hnx]
  rw [if_pos trivial,if_pos (by constructor<;>simp [r2])]
 rw [hrun]
 have e:(codeN y 0++[(⟨24,0⟩:Ins)]).length - 1=(codeN y 0).length:=by rw [hlen];omega
 simp only [e]
 rw [List.getD_eq_getElem?_getD,r3]
 rfl
end Go.Proofs.YtjdjdoefppebkaaGreatDoor
