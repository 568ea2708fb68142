/-
Merged by program out of own texts: Ty, Nd0, Typ1, Eng10, Typ2, Typ3, Typ4, Typ5, Typ6, Typ7, Typ8, Typ9, Typ10, Typ13, Cmp1, Cmp2, Cmp3, Cmp4, Cmp5, Cmp6, Cmp7, Cmp8, Prn1, Nam1, Nam2, Gen1, Gen3, Ver1, Ver2, Ver3, Ver5, Ver6, Ver7a, Ver7b, Ver7c, Ver8.
-/
import Derived.Test.YtjdjdoefppebkaaGreatDoorM1
import Derived.Test.YtjdjdoefppebkaaGreatDoorRows
import Derived.MapKept
import Derived.Laws.StructEq
import Derived.ChangeKeysEq
set_option linter.unusedVariables false
set_option linter.unusedSimpArgs false
namespace Go.Proofs.YtjdjdoefppebkaaGreatDoor
open Go Go.Eng
theorem mixed:Tryz.prog.follows .mixedOrders=true:=by kernel_rfl
abbrev und3:=Und.mk (P:=Tryz.prog) (t:=3) Tryz.underlying3
attribute [instance] und3
instance siz3:Siz Tryz.prog 3 1:=⟨by kernel_rfl⟩
instance byt3:Byt Tryz.prog 3 8:=⟨by kernel_rfl⟩
instance zer3:Zer Tryz.prog 3 (.int .i64 0):=⟨by kernel_rfl⟩
abbrev und4:=Und.mk (P:=Tryz.prog) (t:=4) Tryz.underlying4
attribute [instance] und4
instance siz4:Siz Tryz.prog 4 1:=⟨by kernel_rfl⟩
instance byt4:Byt Tryz.prog 4 1:=⟨by kernel_rfl⟩
instance zer4:Zer Tryz.prog 4 (.bool false):=⟨by kernel_rfl⟩
abbrev und5:=Und.mk (P:=Tryz.prog) (t:=5) Tryz.underlying5
attribute [instance] und5
instance siz5:Siz Tryz.prog 5 1:=⟨by kernel_rfl⟩
abbrev und9:=Und.mk (P:=Tryz.prog) (t:=9) Tryz.underlying9
attribute [instance] und9
instance siz9:Siz Tryz.prog 9 1:=⟨by kernel_rfl⟩
abbrev und20:=Und.mk (P:=Tryz.prog) (t:=20) Tryz.underlying20
attribute [instance] und20
abbrev und21:=Und.mk (P:=Tryz.prog) (t:=21) Tryz.underlying21
attribute [instance] und21
abbrev und22:=Und.mk (P:=Tryz.prog) (t:=22) Tryz.underlying22
attribute [instance] und22
instance siz22:Siz Tryz.prog 22 1:=⟨by kernel_rfl⟩
instance byt22:Byt Tryz.prog 22 24:=⟨by kernel_rfl⟩
instance zer22:Zer Tryz.prog 22 (.slice none 0 0):=⟨by kernel_rfl⟩
abbrev und24:=Und.mk (P:=Tryz.prog) (t:=24) Tryz.underlying24
attribute [instance] und24
instance siz24:Siz Tryz.prog 24 5:=⟨by kernel_rfl⟩
instance fld24x0:Fld Tryz.prog 24 0 0:=⟨_,_,0,Tryz.underlying24,rfl,rfl,by kernel_rfl⟩
instance fld24x1:Fld Tryz.prog 24 1 1:=⟨_,_,0,Tryz.underlying24,rfl,rfl,by kernel_rfl⟩
instance fld24x2:Fld Tryz.prog 24 2 2:=⟨_,_,0,Tryz.underlying24,rfl,rfl,by kernel_rfl⟩
instance fld24x3:Fld Tryz.prog 24 3 3:=⟨_,_,0,Tryz.underlying24,rfl,rfl,by kernel_rfl⟩
instance fld24x4:Fld Tryz.prog 24 4 4:=⟨_,_,0,Tryz.underlying24,rfl,rfl,by kernel_rfl⟩
abbrev und25:=Und.mk (P:=Tryz.prog) (t:=25) Tryz.underlying25
attribute [instance] und25
instance siz25:Siz Tryz.prog 25 1:=⟨by kernel_rfl⟩
abbrev und27:=Und.mk (P:=Tryz.prog) (t:=27) Tryz.underlying27
attribute [instance] und27
instance siz27:Siz Tryz.prog 27 4:=⟨by kernel_rfl⟩
instance byt27:Byt Tryz.prog 27 56:=⟨by kernel_rfl⟩
instance zer27:Zer Tryz.prog 27 (.agg #[.int .i64 0,.int .i64 0,.string ByteArray.empty,.slice none 0 0]):=⟨by kernel_rfl⟩
instance fld27x0:Fld Tryz.prog 27 0 0:=⟨_,_,0,Tryz.underlying27,rfl,rfl,by kernel_rfl⟩
instance fld27x1:Fld Tryz.prog 27 1 1:=⟨_,_,0,Tryz.underlying27,rfl,rfl,by kernel_rfl⟩
instance fld27x2:Fld Tryz.prog 27 2 2:=⟨_,_,0,Tryz.underlying27,rfl,rfl,by kernel_rfl⟩
instance fld27x3:Fld Tryz.prog 27 3 3:=⟨_,_,0,Tryz.underlying27,rfl,rfl,by kernel_rfl⟩
abbrev und29:=Und.mk (P:=Tryz.prog) (t:=29) Tryz.underlying29
attribute [instance] und29
instance siz29:Siz Tryz.prog 29 7:=⟨by kernel_rfl⟩
instance zer29:Zer Tryz.prog 29 (.agg #[.int .i64 0,.int .i64 0,.int .i64 0,.int .i64 0,.int .i64 0,.int .i64 0,.int .i64 0]):=⟨by kernel_rfl⟩
instance fld29x0:Fld Tryz.prog 29 0 0:=⟨_,_,0,Tryz.underlying29,rfl,rfl,by kernel_rfl⟩
instance fld29x1:Fld Tryz.prog 29 1 1:=⟨_,_,0,Tryz.underlying29,rfl,rfl,by kernel_rfl⟩
instance fld29x2:Fld Tryz.prog 29 2 2:=⟨_,_,0,Tryz.underlying29,rfl,rfl,by kernel_rfl⟩
instance fld29x3:Fld Tryz.prog 29 3 3:=⟨_,_,0,Tryz.underlying29,rfl,rfl,by kernel_rfl⟩
instance fld29x4:Fld Tryz.prog 29 4 4:=⟨_,_,0,Tryz.underlying29,rfl,rfl,by kernel_rfl⟩
instance fld29x5:Fld Tryz.prog 29 5 5:=⟨_,_,0,Tryz.underlying29,rfl,rfl,by kernel_rfl⟩
instance fld29x6:Fld Tryz.prog 29 6 6:=⟨_,_,0,Tryz.underlying29,rfl,rfl,by kernel_rfl⟩
abbrev und30:=Und.mk (P:=Tryz.prog) (t:=30) Tryz.underlying30
attribute [instance] und30
abbrev und31:=Und.mk (P:=Tryz.prog) (t:=31) Tryz.underlying31
attribute [instance] und31
instance siz31:Siz Tryz.prog 31 1:=⟨by kernel_rfl⟩
abbrev und32:=Und.mk (P:=Tryz.prog) (t:=32) Tryz.underlying32
attribute [instance] und32
instance siz32:Siz Tryz.prog 32 1:=⟨by kernel_rfl⟩
abbrev und33:=Und.mk (P:=Tryz.prog) (t:=33) Tryz.underlying33
attribute [instance] und33
instance siz33:Siz Tryz.prog 33 1:=⟨by kernel_rfl⟩
abbrev und35:=Und.mk (P:=Tryz.prog) (t:=35) Tryz.underlying35
attribute [instance] und35
instance siz35:Siz Tryz.prog 35 2:=⟨by kernel_rfl⟩
instance zer35:Zer Tryz.prog 35 (.agg #[.int .i64 0,.slice none 0 0]):=⟨by kernel_rfl⟩
instance fld35x1:Fld Tryz.prog 35 1 1:=⟨_,_,0,Tryz.underlying35,rfl,rfl,by kernel_rfl⟩
abbrev und37:=Und.mk (P:=Tryz.prog) (t:=37) Tryz.underlying37
attribute [instance] und37
instance siz37:Siz Tryz.prog 37 12:=⟨by kernel_rfl⟩
instance zer37:Zer Tryz.prog 37 (.agg #[.bool false,.bool false,.bool false,.bool false,.bool false,.bool false,.bool false,.slice none 0 0,.slice none 0 0,.int .i64 0,.slice none 0 0,.int .i64 0]):=⟨by kernel_rfl⟩
instance fld37x0:Fld Tryz.prog 37 0 0:=⟨_,_,6,Tryz.underlying37,rfl,rfl,by kernel_rfl⟩
instance fld37x1:Fld Tryz.prog 37 1 7:=⟨_,_,0,Tryz.underlying37,rfl,rfl,by kernel_rfl⟩
instance fld37x2:Fld Tryz.prog 37 2 8:=⟨_,_,0,Tryz.underlying37,rfl,rfl,by kernel_rfl⟩
instance fld37x3:Fld Tryz.prog 37 3 9:=⟨_,_,1,Tryz.underlying37,rfl,rfl,by kernel_rfl⟩
abbrev und40:=Und.mk (P:=Tryz.prog) (t:=40) Tryz.underlying40
attribute [instance] und40
instance siz40:Siz Tryz.prog 40 1:=⟨by kernel_rfl⟩
abbrev und41:=Und.mk (P:=Tryz.prog) (t:=41) Tryz.underlying41
attribute [instance] und41
instance siz41:Siz Tryz.prog 41 1:=⟨by kernel_rfl⟩
instance zer41:Zer Tryz.prog 41 (.int .i64 0):=⟨by kernel_rfl⟩
abbrev und45:=Und.mk (P:=Tryz.prog) (t:=45) Tryz.underlying45
attribute [instance] und45
instance siz45:Siz Tryz.prog 45 1:=⟨by kernel_rfl⟩
instance zer45:Zer Tryz.prog 45 (.slice none 0 0):=⟨by kernel_rfl⟩
abbrev und51:=Und.mk (P:=Tryz.prog) (t:=51) Tryz.underlying51
attribute [instance] und51
instance siz51:Siz Tryz.prog 51 2:=⟨by kernel_rfl⟩
instance byt51:Byt Tryz.prog 51 16:=⟨by kernel_rfl⟩
instance zer51:Zer Tryz.prog 51 (.agg #[.int .i64 0,.int .i64 0]):=⟨by kernel_rfl⟩
instance fld51x0:Fld Tryz.prog 51 0 0:=⟨_,_,0,Tryz.underlying51,rfl,rfl,by kernel_rfl⟩
instance fld51x1:Fld Tryz.prog 51 1 1:=⟨_,_,0,Tryz.underlying51,rfl,rfl,by kernel_rfl⟩
abbrev und77:=Und.mk (P:=Tryz.prog) (t:=77) Tryz.underlying77
attribute [instance] und77
instance siz77:Siz Tryz.prog 77 3:=⟨by kernel_rfl⟩
instance byt77:Byt Tryz.prog 77 24:=⟨by kernel_rfl⟩
instance zer77:Zer Tryz.prog 77 (.agg #[.int .i64 0,.int .i64 0,.int .i64 0]):=⟨by kernel_rfl⟩
instance fld77x0:Fld Tryz.prog 77 0 0:=⟨_,_,0,Tryz.underlying77,rfl,rfl,by kernel_rfl⟩
instance fld77x1:Fld Tryz.prog 77 1 1:=⟨_,_,0,Tryz.underlying77,rfl,rfl,by kernel_rfl⟩
instance fld77x2:Fld Tryz.prog 77 2 2:=⟨_,_,0,Tryz.underlying77,rfl,rfl,by kernel_rfl⟩
abbrev und83:=Und.mk (P:=Tryz.prog) (t:=83) Tryz.underlying83
attribute [instance] und83
instance siz83:Siz Tryz.prog 83 7:=⟨by kernel_rfl⟩
instance zer83:Zer Tryz.prog 83 (.agg #[.int .i64 0,.int .i64 0,.int .i64 0,.int .i64 0,.int .i64 0,.int .i64 0,.int .i64 0]):=⟨by kernel_rfl⟩
instance fld103x0:Fld Tryz.prog 103 0 0:=⟨_,_,0,Tryz.underlying103,rfl,rfl,by kernel_rfl⟩
instance fld103x1:Fld Tryz.prog 103 1 1:=⟨_,_,0,Tryz.underlying103,rfl,rfl,by kernel_rfl⟩
abbrev und111:=Und.mk (P:=Tryz.prog) (t:=111) Tryz.underlying111
attribute [instance] und111
instance siz111:Siz Tryz.prog 111 2:=⟨by kernel_rfl⟩
instance byt111:Byt Tryz.prog 111 16:=⟨by kernel_rfl⟩
instance zer111:Zer Tryz.prog 111 (.agg #[.int .i64 0,.int .i64 0]):=⟨by kernel_rfl⟩
abbrev und119:=Und.mk (P:=Tryz.prog) (t:=119) Tryz.underlying119
attribute [instance] und119
abbrev und124:=Und.mk (P:=Tryz.prog) (t:=124) Tryz.underlying124
attribute [instance] und124
instance fld126x0:Fld Tryz.prog 126 0 0:=⟨_,_,6,Tryz.underlying126,rfl,rfl,by kernel_rfl⟩
instance fld126x1:Fld Tryz.prog 126 1 7:=⟨_,_,11,Tryz.underlying126,rfl,rfl,by kernel_rfl⟩
instance fld126x2:Fld Tryz.prog 126 2 19:=⟨_,_,0,Tryz.underlying126,rfl,rfl,by kernel_rfl⟩
instance fld126x3:Fld Tryz.prog 126 3 20:=⟨_,_,0,Tryz.underlying126,rfl,rfl,by kernel_rfl⟩
instance fld126x4:Fld Tryz.prog 126 4 21:=⟨_,_,0,Tryz.underlying126,rfl,rfl,by kernel_rfl⟩
instance fld126x5:Fld Tryz.prog 126 5 22:=⟨_,_,0,Tryz.underlying126,rfl,rfl,by kernel_rfl⟩
instance fld126x6:Fld Tryz.prog 126 6 23:=⟨_,_,0,Tryz.underlying126,rfl,rfl,by kernel_rfl⟩
instance fld126x7:Fld Tryz.prog 126 7 24:=⟨_,_,0,Tryz.underlying126,rfl,rfl,by kernel_rfl⟩
instance zer156:Zer Tryz.prog 156 (.agg #[.slice none 0 0]):=⟨by kernel_rfl⟩
instance fld156x0:Fld Tryz.prog 156 0 0:=⟨_,_,0,Tryz.underlying156,rfl,rfl,by kernel_rfl⟩
abbrev und157:=Und.mk (P:=Tryz.prog) (t:=157) Tryz.underlying157
attribute [instance] und157
abbrev und159:=Und.mk (P:=Tryz.prog) (t:=159) Tryz.underlying159
attribute [instance] und159
instance siz159:Siz Tryz.prog 159 1:=⟨by kernel_rfl⟩
instance zer159:Zer Tryz.prog 159 (.nilFunc):=⟨by kernel_rfl⟩
abbrev und167:=Und.mk (P:=Tryz.prog) (t:=167) Tryz.underlying167
attribute [instance] und167
instance siz167:Siz Tryz.prog 167 4:=⟨by kernel_rfl⟩
instance byt167:Byt Tryz.prog 167 40:=⟨by kernel_rfl⟩
instance zer167:Zer Tryz.prog 167 (.agg #[.int .i64 0,.int .i64 0,.string ByteArray.empty,.int .i64 0]):=⟨by kernel_rfl⟩
instance fld167x0:Fld Tryz.prog 167 0 0:=⟨_,_,0,Tryz.underlying167,rfl,rfl,by kernel_rfl⟩
instance fld167x1:Fld Tryz.prog 167 1 1:=⟨_,_,0,Tryz.underlying167,rfl,rfl,by kernel_rfl⟩
instance fld167x2:Fld Tryz.prog 167 2 2:=⟨_,_,0,Tryz.underlying167,rfl,rfl,by kernel_rfl⟩
instance fld167x3:Fld Tryz.prog 167 3 3:=⟨_,_,0,Tryz.underlying167,rfl,rfl,by kernel_rfl⟩
abbrev und168:=Und.mk (P:=Tryz.prog) (t:=168) Tryz.underlying168
attribute [instance] und168
instance fld170x0:Fld Tryz.prog 170 0 0:=⟨_,_,0,Tryz.underlying170,rfl,rfl,by kernel_rfl⟩
instance fld170x1:Fld Tryz.prog 170 1 1:=⟨_,_,0,Tryz.underlying170,rfl,rfl,by kernel_rfl⟩
instance fld170x2:Fld Tryz.prog 170 2 2:=⟨_,_,0,Tryz.underlying170,rfl,rfl,by kernel_rfl⟩
abbrev und180:=Und.mk (P:=Tryz.prog) (t:=180) Tryz.underlying180
attribute [instance] und180
abbrev und181:=Und.mk (P:=Tryz.prog) (t:=181) Tryz.underlying181
attribute [instance] und181
instance fld183x0:Fld Tryz.prog 183 0 0:=⟨_,_,0,Tryz.underlying183,rfl,rfl,by kernel_rfl⟩
instance fld183x1:Fld Tryz.prog 183 1 1:=⟨_,_,0,Tryz.underlying183,rfl,rfl,by kernel_rfl⟩
instance fld183x2:Fld Tryz.prog 183 2 2:=⟨_,_,0,Tryz.underlying183,rfl,rfl,by kernel_rfl⟩
abbrev und187:=Und.mk (P:=Tryz.prog) (t:=187) Tryz.underlying187
attribute [instance] und187
instance siz187:Siz Tryz.prog 187 9:=⟨by kernel_rfl⟩
instance byt187:Byt Tryz.prog 187 72:=⟨by kernel_rfl⟩
instance zer187:Zer Tryz.prog 187 (.agg #[.int .i64 0,.int .i64 0,.int .i64 0,.int .i64 0,.int .i64 0,.int .i64 0,.int .i64 0,.int .i64 0,.int .i64 0]):=⟨by kernel_rfl⟩
instance fld187x0:Fld Tryz.prog 187 0 0:=⟨_,_,0,Tryz.underlying187,rfl,rfl,by kernel_rfl⟩
instance fld187x1:Fld Tryz.prog 187 1 1:=⟨_,_,0,Tryz.underlying187,rfl,rfl,by kernel_rfl⟩
instance fld187x2:Fld Tryz.prog 187 2 2:=⟨_,_,0,Tryz.underlying187,rfl,rfl,by kernel_rfl⟩
instance fld187x3:Fld Tryz.prog 187 3 3:=⟨_,_,0,Tryz.underlying187,rfl,rfl,by kernel_rfl⟩
instance fld187x4:Fld Tryz.prog 187 4 4:=⟨_,_,0,Tryz.underlying187,rfl,rfl,by kernel_rfl⟩
instance fld187x5:Fld Tryz.prog 187 5 5:=⟨_,_,0,Tryz.underlying187,rfl,rfl,by kernel_rfl⟩
instance fld187x6:Fld Tryz.prog 187 6 6:=⟨_,_,0,Tryz.underlying187,rfl,rfl,by kernel_rfl⟩
instance fld187x7:Fld Tryz.prog 187 7 7:=⟨_,_,0,Tryz.underlying187,rfl,rfl,by kernel_rfl⟩
instance fld187x8:Fld Tryz.prog 187 8 8:=⟨_,_,0,Tryz.underlying187,rfl,rfl,by kernel_rfl⟩
instance siz190:Siz Tryz.prog 190 2:=⟨by kernel_rfl⟩
instance byt190:Byt Tryz.prog 190 16:=⟨by kernel_rfl⟩
instance zer190:Zer Tryz.prog 190 (.agg #[.int .i64 0,.int .i64 0]):=⟨by kernel_rfl⟩
instance fld190x0:Fld Tryz.prog 190 0 0:=⟨_,_,0,Tryz.underlying190,rfl,rfl,by kernel_rfl⟩
abbrev und204:=Und.mk (P:=Tryz.prog) (t:=204) Tryz.underlying204
attribute [instance] und204
instance zer204:Zer Tryz.prog 204 (.slice none 0 0):=⟨by kernel_rfl⟩
abbrev und210:=Und.mk (P:=Tryz.prog) (t:=210) Tryz.underlying210
attribute [instance] und210
instance siz210:Siz Tryz.prog 210 2:=⟨by kernel_rfl⟩
instance zer210:Zer Tryz.prog 210 (.agg #[.int .i64 0,.int .i64 0]):=⟨by kernel_rfl⟩
instance fld210x0:Fld Tryz.prog 210 0 0:=⟨_,_,0,Tryz.underlying210,rfl,rfl,by kernel_rfl⟩
instance fld210x1:Fld Tryz.prog 210 1 1:=⟨_,_,0,Tryz.underlying210,rfl,rfl,by kernel_rfl⟩
abbrev und227:=Und.mk (P:=Tryz.prog) (t:=227) Tryz.underlying227
attribute [instance] und227
abbrev und238:=Und.mk (P:=Tryz.prog) (t:=238) Tryz.underlying238
attribute [instance] und238
abbrev und241:=Und.mk (P:=Tryz.prog) (t:=241) Tryz.underlying241
attribute [instance] und241
instance siz241:Siz Tryz.prog 241 3:=⟨by kernel_rfl⟩
instance zer241:Zer Tryz.prog 241 (.agg #[.int .i64 0,.int .i64 0,.int .i64 0]):=⟨by kernel_rfl⟩
abbrev und243:=Und.mk (P:=Tryz.prog) (t:=243) Tryz.underlying243
attribute [instance] und243
abbrev und262:=Und.mk (P:=Tryz.prog) (t:=262) Tryz.underlying262
attribute [instance] und262
abbrev und263:=Und.mk (P:=Tryz.prog) (t:=263) Tryz.underlying263
attribute [instance] und263
abbrev und274:=Und.mk (P:=Tryz.prog) (t:=274) Tryz.underlying274
attribute [instance] und274
abbrev und291:=Und.mk (P:=Tryz.prog) (t:=291) Tryz.underlying291
attribute [instance] und291
instance siz291:Siz Tryz.prog 291 3:=⟨by kernel_rfl⟩
instance zer291:Zer Tryz.prog 291 (.agg #[.int .i64 0,.int .i64 0,.int .i64 0]):=⟨by kernel_rfl⟩
instance fld291x0:Fld Tryz.prog 291 0 0:=⟨_,_,0,Tryz.underlying291,rfl,rfl,by kernel_rfl⟩
instance fld291x1:Fld Tryz.prog 291 1 1:=⟨_,_,0,Tryz.underlying291,rfl,rfl,by kernel_rfl⟩
instance fld291x2:Fld Tryz.prog 291 2 2:=⟨_,_,0,Tryz.underlying291,rfl,rfl,by kernel_rfl⟩
abbrev und297:=Und.mk (P:=Tryz.prog) (t:=297) Tryz.underlying297
attribute [instance] und297
abbrev und303:=Und.mk (P:=Tryz.prog) (t:=303) Tryz.underlying303
attribute [instance] und303
abbrev und322:=Und.mk (P:=Tryz.prog) (t:=322) Tryz.underlying322
attribute [instance] und322
abbrev und326:=Und.mk (P:=Tryz.prog) (t:=326) Tryz.underlying326
attribute [instance] und326
abbrev und329:=Und.mk (P:=Tryz.prog) (t:=329) Tryz.underlying329
attribute [instance] und329
instance siz329:Siz Tryz.prog 329 2:=⟨by kernel_rfl⟩
instance byt329:Byt Tryz.prog 329 16:=⟨by kernel_rfl⟩
instance zer329:Zer Tryz.prog 329 (.agg #[.int .i64 0,.int .i64 0]):=⟨by kernel_rfl⟩
instance fld329x0:Fld Tryz.prog 329 0 0:=⟨_,_,0,Tryz.underlying329,rfl,rfl,by kernel_rfl⟩
abbrev und340:=Und.mk (P:=Tryz.prog) (t:=340) Tryz.underlying340
attribute [instance] und340
instance siz342:Siz Tryz.prog 342 2:=⟨by kernel_rfl⟩
instance fld342x1:Fld Tryz.prog 342 1 1:=⟨_,_,0,Tryz.underlying342,rfl,rfl,by kernel_rfl⟩
abbrev und343:=Und.mk (P:=Tryz.prog) (t:=343) Tryz.underlying343
attribute [instance] und343
instance siz343:Siz Tryz.prog 343 8:=⟨by kernel_rfl⟩
instance zer343:Zer Tryz.prog 343 (.agg #[.nilFunc,.nilFunc,.nilFunc,.nilFunc,.nilFunc,.nilFunc,.nilFunc,.nilFunc]):=⟨by kernel_rfl⟩
abbrev und345:=Und.mk (P:=Tryz.prog) (t:=345) Tryz.underlying345
attribute [instance] und345
instance fun12:Fun Tryz.prog 12 Tryz.f12:=⟨Tryz.func12,enters_of Tryz.func12 (by kernel_rfl) rfl⟩
instance fun14:Fun Tryz.prog 14 Tryz.f14:=⟨Tryz.func14,enters_of Tryz.func14 (by kernel_rfl) rfl⟩
instance fun18:Fun Tryz.prog 18 Tryz.f18:=⟨Tryz.func18,enters_of Tryz.func18 (by kernel_rfl) rfl⟩
instance fun20:Fun Tryz.prog 20 Tryz.f20:=⟨Tryz.func20,enters_of Tryz.func20 (by kernel_rfl) rfl⟩
instance fun23:Fun Tryz.prog 23 Tryz.f23:=⟨Tryz.func23,enters_of Tryz.func23 (by kernel_rfl) rfl⟩
instance fun27:Fun Tryz.prog 27 Tryz.f27:=⟨Tryz.func27,enters_of Tryz.func27 (by kernel_rfl) rfl⟩
instance fun28:Fun Tryz.prog 28 Tryz.f28:=⟨Tryz.func28,enters_of Tryz.func28 (by kernel_rfl) rfl⟩
instance fun38:Fun Tryz.prog 38 Tryz.f38:=⟨Tryz.func38,enters_of Tryz.func38 (by kernel_rfl) rfl⟩
instance fun39:Fun Tryz.prog 39 Tryz.f39:=⟨Tryz.func39,enters_of Tryz.func39 (by kernel_rfl) rfl⟩
instance fun40:Fun Tryz.prog 40 Tryz.f40:=⟨Tryz.func40,enters_of Tryz.func40 (by kernel_rfl) rfl⟩
instance fun41:Fun Tryz.prog 41 Tryz.f41:=⟨Tryz.func41,enters_of Tryz.func41 (by kernel_rfl) rfl⟩
instance fun42:Fun Tryz.prog 42 Tryz.f42:=⟨Tryz.func42,enters_of Tryz.func42 (by kernel_rfl) rfl⟩
instance fun43:Fun Tryz.prog 43 Tryz.f43:=⟨Tryz.func43,enters_of Tryz.func43 (by kernel_rfl) rfl⟩
instance fun44:Fun Tryz.prog 44 Tryz.f44:=⟨Tryz.func44,enters_of Tryz.func44 (by kernel_rfl) rfl⟩
instance fun45:Fun Tryz.prog 45 Tryz.f45:=⟨Tryz.func45,enters_of Tryz.func45 (by kernel_rfl) rfl⟩
instance fun48:Fun Tryz.prog 48 Tryz.f48:=⟨Tryz.func48,enters_of Tryz.func48 (by kernel_rfl) rfl⟩
instance fun49:Fun Tryz.prog 49 Tryz.f49:=⟨Tryz.func49,enters_of Tryz.func49 (by kernel_rfl) rfl⟩
instance fun50:Fun Tryz.prog 50 Tryz.f50:=⟨Tryz.func50,enters_of Tryz.func50 (by kernel_rfl) rfl⟩
instance fun57:Fun Tryz.prog 57 Tryz.f57:=⟨Tryz.func57,enters_of Tryz.func57 (by kernel_rfl) rfl⟩
instance fun58:Fun Tryz.prog 58 Tryz.f58:=⟨Tryz.func58,enters_of Tryz.func58 (by kernel_rfl) rfl⟩
instance fun59:Fun Tryz.prog 59 Tryz.f59:=⟨Tryz.func59,enters_of Tryz.func59 (by kernel_rfl) rfl⟩
instance fun63:Fun Tryz.prog 63 Tryz.f63:=⟨Tryz.func63,enters_of Tryz.func63 (by kernel_rfl) rfl⟩
instance fun64:Fun Tryz.prog 64 Tryz.f64:=⟨Tryz.func64,enters_of Tryz.func64 (by kernel_rfl) rfl⟩
instance fun76:Fun Tryz.prog 76 Tryz.f76:=⟨Tryz.func76,enters_of Tryz.func76 (by kernel_rfl) rfl⟩
instance fun77:Fun Tryz.prog 77 Tryz.f77:=⟨Tryz.func77,enters_of Tryz.func77 (by kernel_rfl) rfl⟩
instance fun78:Fun Tryz.prog 78 Tryz.f78:=⟨Tryz.func78,enters_of Tryz.func78 (by kernel_rfl) rfl⟩
instance fun79:Fun Tryz.prog 79 Tryz.f79:=⟨Tryz.func79,enters_of Tryz.func79 (by kernel_rfl) rfl⟩
instance fun81:Fun Tryz.prog 81 Tryz.f81:=⟨Tryz.func81,enters_of Tryz.func81 (by kernel_rfl) rfl⟩
instance fun82:Fun Tryz.prog 82 Tryz.f82:=⟨Tryz.func82,enters_of Tryz.func82 (by kernel_rfl) rfl⟩
instance fun83:Fun Tryz.prog 83 Tryz.f83:=⟨Tryz.func83,enters_of Tryz.func83 (by kernel_rfl) rfl⟩
instance fun91:Fun Tryz.prog 91 Tryz.f91:=⟨Tryz.func91,enters_of Tryz.func91 (by kernel_rfl) rfl⟩
instance fun92:Fun Tryz.prog 92 Tryz.f92:=⟨Tryz.func92,enters_of Tryz.func92 (by kernel_rfl) rfl⟩
instance fun93:Fun Tryz.prog 93 Tryz.f93:=⟨Tryz.func93,enters_of Tryz.func93 (by kernel_rfl) rfl⟩
instance fun94:Fun Tryz.prog 94 Tryz.f94:=⟨Tryz.func94,enters_of Tryz.func94 (by kernel_rfl) rfl⟩
instance fun95:Fun Tryz.prog 95 Tryz.f95:=⟨Tryz.func95,enters_of Tryz.func95 (by kernel_rfl) rfl⟩
instance fun96:Fun Tryz.prog 96 Tryz.f96:=⟨Tryz.func96,enters_of Tryz.func96 (by kernel_rfl) rfl⟩
instance fun97:Fun Tryz.prog 97 Tryz.f97:=⟨Tryz.func97,enters_of Tryz.func97 (by kernel_rfl) rfl⟩
instance fun98:Fun Tryz.prog 98 Tryz.f98:=⟨Tryz.func98,enters_of Tryz.func98 (by kernel_rfl) rfl⟩
instance fun99:Fun Tryz.prog 99 Tryz.f99:=⟨Tryz.func99,enters_of Tryz.func99 (by kernel_rfl) rfl⟩
instance fun109:Fun Tryz.prog 109 Tryz.f109:=⟨Tryz.func109,enters_of Tryz.func109 (by kernel_rfl) rfl⟩
instance fun110:Fun Tryz.prog 110 Tryz.f110:=⟨Tryz.func110,enters_of Tryz.func110 (by kernel_rfl) rfl⟩
instance fun111:Fun Tryz.prog 111 Tryz.f111:=⟨Tryz.func111,enters_of Tryz.func111 (by kernel_rfl) rfl⟩
instance fun112:Fun Tryz.prog 112 Tryz.f112:=⟨Tryz.func112,enters_of Tryz.func112 (by kernel_rfl) rfl⟩
instance fun117:Fun Tryz.prog 117 Tryz.f117:=⟨Tryz.func117,enters_of Tryz.func117 (by kernel_rfl) rfl⟩
instance fun118:Fun Tryz.prog 118 Tryz.f118:=⟨Tryz.func118,enters_of Tryz.func118 (by kernel_rfl) rfl⟩
instance fun119:Fun Tryz.prog 119 Tryz.f119:=⟨Tryz.func119,enters_of Tryz.func119 (by kernel_rfl) rfl⟩
instance fun120:Fun Tryz.prog 120 Tryz.f120:=⟨Tryz.func120,enters_of Tryz.func120 (by kernel_rfl) rfl⟩
instance fun127:Fun Tryz.prog 127 Tryz.f127:=⟨Tryz.func127,enters_of Tryz.func127 (by kernel_rfl) rfl⟩
instance fun136:Fun Tryz.prog 136 Tryz.f136:=⟨Tryz.func136,enters_of Tryz.func136 (by kernel_rfl) rfl⟩
instance fun137:Fun Tryz.prog 137 Tryz.f137:=⟨Tryz.func137,enters_of Tryz.func137 (by kernel_rfl) rfl⟩
instance fun138:Fun Tryz.prog 138 Tryz.f138:=⟨Tryz.func138,enters_of Tryz.func138 (by kernel_rfl) rfl⟩
instance fun139:Fun Tryz.prog 139 Tryz.f139:=⟨Tryz.func139,enters_of Tryz.func139 (by kernel_rfl) rfl⟩
instance fun140:Fun Tryz.prog 140 Tryz.f140:=⟨Tryz.func140,enters_of Tryz.func140 (by kernel_rfl) rfl⟩
instance fun141:Fun Tryz.prog 141 Tryz.f141:=⟨Tryz.func141,enters_of Tryz.func141 (by kernel_rfl) rfl⟩
instance fun142:Fun Tryz.prog 142 Tryz.f142:=⟨Tryz.func142,enters_of Tryz.func142 (by kernel_rfl) rfl⟩
instance fun143:Fun Tryz.prog 143 Tryz.f143:=⟨Tryz.func143,enters_of Tryz.func143 (by kernel_rfl) rfl⟩
instance fun144:Fun Tryz.prog 144 Tryz.f144:=⟨Tryz.func144,enters_of Tryz.func144 (by kernel_rfl) rfl⟩
instance fun145:Fun Tryz.prog 145 Tryz.f145:=⟨Tryz.func145,enters_of Tryz.func145 (by kernel_rfl) rfl⟩
instance fun146:Fun Tryz.prog 146 Tryz.f146:=⟨Tryz.func146,enters_of Tryz.func146 (by kernel_rfl) rfl⟩
instance fun147:Fun Tryz.prog 147 Tryz.f147:=⟨Tryz.func147,enters_of Tryz.func147 (by kernel_rfl) rfl⟩
instance fun148:Fun Tryz.prog 148 Tryz.f148:=⟨Tryz.func148,enters_of Tryz.func148 (by kernel_rfl) rfl⟩
instance fun149:Fun Tryz.prog 149 Tryz.f149:=⟨Tryz.func149,enters_of Tryz.func149 (by kernel_rfl) rfl⟩
instance fun150:Fun Tryz.prog 150 Tryz.f150:=⟨Tryz.func150,enters_of Tryz.func150 (by kernel_rfl) rfl⟩
instance fun151:Fun Tryz.prog 151 Tryz.f151:=⟨Tryz.func151,enters_of Tryz.func151 (by kernel_rfl) rfl⟩
instance fun152:Fun Tryz.prog 152 Tryz.f152:=⟨Tryz.func152,enters_of Tryz.func152 (by kernel_rfl) rfl⟩
instance fun153:Fun Tryz.prog 153 Tryz.f153:=⟨Tryz.func153,enters_of Tryz.func153 (by kernel_rfl) rfl⟩
instance fun154:Fun Tryz.prog 154 Tryz.f154:=⟨Tryz.func154,enters_of Tryz.func154 (by kernel_rfl) rfl⟩
instance fun155:Fun Tryz.prog 155 Tryz.f155:=⟨Tryz.func155,enters_of Tryz.func155 (by kernel_rfl) rfl⟩
instance fun156:Fun Tryz.prog 156 Tryz.f156:=⟨Tryz.func156,enters_of Tryz.func156 (by kernel_rfl) rfl⟩
instance fun157:Fun Tryz.prog 157 Tryz.f157:=⟨Tryz.func157,enters_of Tryz.func157 (by kernel_rfl) rfl⟩
instance fun158:Fun Tryz.prog 158 Tryz.f158:=⟨Tryz.func158,enters_of Tryz.func158 (by kernel_rfl) rfl⟩
instance fun159:Fun Tryz.prog 159 Tryz.f159:=⟨Tryz.func159,enters_of Tryz.func159 (by kernel_rfl) rfl⟩
instance fun161:Fun Tryz.prog 161 Tryz.f161:=⟨Tryz.func161,enters_of Tryz.func161 (by kernel_rfl) rfl⟩
instance fun165:Fun Tryz.prog 165 Tryz.f165:=⟨Tryz.func165,enters_of Tryz.func165 (by kernel_rfl) rfl⟩
instance fun167:Fun Tryz.prog 167 Tryz.f167:=⟨Tryz.func167,enters_of Tryz.func167 (by kernel_rfl) rfl⟩
instance fun168:Fun Tryz.prog 168 Tryz.f168:=⟨Tryz.func168,enters_of Tryz.func168 (by kernel_rfl) rfl⟩
instance fun176:Fun Tryz.prog 176 Tryz.f176:=⟨Tryz.func176,enters_of Tryz.func176 (by kernel_rfl) rfl⟩
instance fun178:Fun Tryz.prog 178 Tryz.f178:=⟨Tryz.func178,enters_of Tryz.func178 (by kernel_rfl) rfl⟩
instance fun179:Fun Tryz.prog 179 Tryz.f179:=⟨Tryz.func179,enters_of Tryz.func179 (by kernel_rfl) rfl⟩
instance fun180:Fun Tryz.prog 180 Tryz.f180:=⟨Tryz.func180,enters_of Tryz.func180 (by kernel_rfl) rfl⟩
instance fun181:Fun Tryz.prog 181 Tryz.f181:=⟨Tryz.func181,enters_of Tryz.func181 (by kernel_rfl) rfl⟩
instance fun182:Fun Tryz.prog 182 Tryz.f182:=⟨Tryz.func182,enters_of Tryz.func182 (by kernel_rfl) rfl⟩
instance fun183:Fun Tryz.prog 183 Tryz.f183:=⟨Tryz.func183,enters_of Tryz.func183 (by kernel_rfl) rfl⟩
instance fun184:Fun Tryz.prog 184 Tryz.f184:=⟨Tryz.func184,enters_of Tryz.func184 (by kernel_rfl) rfl⟩
instance fun185:Fun Tryz.prog 185 Tryz.f185:=⟨Tryz.func185,enters_of Tryz.func185 (by kernel_rfl) rfl⟩
instance fun186:Fun Tryz.prog 186 Tryz.f186:=⟨Tryz.func186,enters_of Tryz.func186 (by kernel_rfl) rfl⟩
instance fun187:Fun Tryz.prog 187 Tryz.f187:=⟨Tryz.func187,enters_of Tryz.func187 (by kernel_rfl) rfl⟩
instance fun202:Fun Tryz.prog 202 Tryz.f202:=⟨Tryz.func202,enters_of Tryz.func202 (by kernel_rfl) rfl⟩
instance fun203:Fun Tryz.prog 203 Tryz.f203:=⟨Tryz.func203,enters_of Tryz.func203 (by kernel_rfl) rfl⟩
instance fun204:Fun Tryz.prog 204 Tryz.f204:=⟨Tryz.func204,enters_of Tryz.func204 (by kernel_rfl) rfl⟩
instance fun205:Fun Tryz.prog 205 Tryz.f205:=⟨Tryz.func205,enters_of Tryz.func205 (by kernel_rfl) rfl⟩
instance fun206:Fun Tryz.prog 206 Tryz.f206:=⟨Tryz.func206,enters_of Tryz.func206 (by kernel_rfl) rfl⟩
instance fun207:Fun Tryz.prog 207 Tryz.f207:=⟨Tryz.func207,enters_of Tryz.func207 (by kernel_rfl) rfl⟩
instance fun208:Fun Tryz.prog 208 Tryz.f208:=⟨Tryz.func208,enters_of Tryz.func208 (by kernel_rfl) rfl⟩
instance fun209:Fun Tryz.prog 209 Tryz.f209:=⟨Tryz.func209,enters_of Tryz.func209 (by kernel_rfl) rfl⟩
instance fun210:Fun Tryz.prog 210 Tryz.f210:=⟨Tryz.func210,enters_of Tryz.func210 (by kernel_rfl) rfl⟩
instance fun211:Fun Tryz.prog 211 Tryz.f211:=⟨Tryz.func211,enters_of Tryz.func211 (by kernel_rfl) rfl⟩
instance fun212:Fun Tryz.prog 212 Tryz.f212:=⟨Tryz.func212,enters_of Tryz.func212 (by kernel_rfl) rfl⟩
instance fun213:Fun Tryz.prog 213 Tryz.f213:=⟨Tryz.func213,enters_of Tryz.func213 (by kernel_rfl) rfl⟩
instance fun214:Fun Tryz.prog 214 Tryz.f214:=⟨Tryz.func214,enters_of Tryz.func214 (by kernel_rfl) rfl⟩
instance fun215:Fun Tryz.prog 215 Tryz.f215:=⟨Tryz.func215,enters_of Tryz.func215 (by kernel_rfl) rfl⟩
instance fun217:Fun Tryz.prog 217 Tryz.f217:=⟨Tryz.func217,enters_of Tryz.func217 (by kernel_rfl) rfl⟩
instance fun224:Fun Tryz.prog 224 Tryz.f224:=⟨Tryz.func224,enters_of Tryz.func224 (by kernel_rfl) rfl⟩
instance fun225:Fun Tryz.prog 225 Tryz.f225:=⟨Tryz.func225,enters_of Tryz.func225 (by kernel_rfl) rfl⟩
instance fun226:Fun Tryz.prog 226 Tryz.f226:=⟨Tryz.func226,enters_of Tryz.func226 (by kernel_rfl) rfl⟩
instance fun227:Fun Tryz.prog 227 Tryz.f227:=⟨Tryz.func227,enters_of Tryz.func227 (by kernel_rfl) rfl⟩
instance fun228:Fun Tryz.prog 228 Tryz.f228:=⟨Tryz.func228,enters_of Tryz.func228 (by kernel_rfl) rfl⟩
instance fun229:Fun Tryz.prog 229 Tryz.f229:=⟨Tryz.func229,enters_of Tryz.func229 (by kernel_rfl) rfl⟩
instance fun230:Fun Tryz.prog 230 Tryz.f230:=⟨Tryz.func230,enters_of Tryz.func230 (by kernel_rfl) rfl⟩
instance fun231:Fun Tryz.prog 231 Tryz.f231:=⟨Tryz.func231,enters_of Tryz.func231 (by kernel_rfl) rfl⟩
instance fun232:Fun Tryz.prog 232 Tryz.f232:=⟨Tryz.func232,enters_of Tryz.func232 (by kernel_rfl) rfl⟩
instance fun233:Fun Tryz.prog 233 Tryz.f233:=⟨Tryz.func233,enters_of Tryz.func233 (by kernel_rfl) rfl⟩
instance fun234:Fun Tryz.prog 234 Tryz.f234:=⟨Tryz.func234,enters_of Tryz.func234 (by kernel_rfl) rfl⟩
instance fun235:Fun Tryz.prog 235 Tryz.f235:=⟨Tryz.func235,enters_of Tryz.func235 (by kernel_rfl) rfl⟩
instance fun236:Fun Tryz.prog 236 Tryz.f236:=⟨Tryz.func236,enters_of Tryz.func236 (by kernel_rfl) rfl⟩
instance fun238:Fun Tryz.prog 238 Tryz.f238:=⟨Tryz.func238,enters_of Tryz.func238 (by kernel_rfl) rfl⟩
instance fun239:Fun Tryz.prog 239 Tryz.f239:=⟨Tryz.func239,enters_of Tryz.func239 (by kernel_rfl) rfl⟩
instance fun251:Fun Tryz.prog 251 Tryz.f251:=⟨Tryz.func251,enters_of Tryz.func251 (by kernel_rfl) rfl⟩
instance fun260:Fun Tryz.prog 260 Tryz.f260:=⟨Tryz.func260,enters_of Tryz.func260 (by kernel_rfl) rfl⟩
instance fun267:Fun Tryz.prog 267 Tryz.f267:=⟨Tryz.func267,enters_of Tryz.func267 (by kernel_rfl) rfl⟩
instance fun268:Fun Tryz.prog 268 Tryz.f268:=⟨Tryz.func268,enters_of Tryz.func268 (by kernel_rfl) rfl⟩
instance fun269:Fun Tryz.prog 269 Tryz.f269:=⟨Tryz.func269,enters_of Tryz.func269 (by kernel_rfl) rfl⟩
instance fun270:Fun Tryz.prog 270 Tryz.f270:=⟨Tryz.func270,enters_of Tryz.func270 (by kernel_rfl) rfl⟩
instance fun271:Fun Tryz.prog 271 Tryz.f271:=⟨Tryz.func271,enters_of Tryz.func271 (by kernel_rfl) rfl⟩
instance fun272:Fun Tryz.prog 272 Tryz.f272:=⟨Tryz.func272,enters_of Tryz.func272 (by kernel_rfl) rfl⟩
instance fun273:Fun Tryz.prog 273 Tryz.f273:=⟨Tryz.func273,enters_of Tryz.func273 (by kernel_rfl) rfl⟩
instance fun274:Fun Tryz.prog 274 Tryz.f274:=⟨Tryz.func274,enters_of Tryz.func274 (by kernel_rfl) rfl⟩
instance fun275:Fun Tryz.prog 275 Tryz.f275:=⟨Tryz.func275,enters_of Tryz.func275 (by kernel_rfl) rfl⟩
instance fun280:Fun Tryz.prog 280 Tryz.f280:=⟨Tryz.func280,enters_of Tryz.func280 (by kernel_rfl) rfl⟩
instance fun281:Fun Tryz.prog 281 Tryz.f281:=⟨Tryz.func281,enters_of Tryz.func281 (by kernel_rfl) rfl⟩
instance fun282:Fun Tryz.prog 282 Tryz.f282:=⟨Tryz.func282,enters_of Tryz.func282 (by kernel_rfl) rfl⟩
instance fun283:Fun Tryz.prog 283 Tryz.f283:=⟨Tryz.func283,enters_of Tryz.func283 (by kernel_rfl) rfl⟩
instance fun284:Fun Tryz.prog 284 Tryz.f284:=⟨Tryz.func284,enters_of Tryz.func284 (by kernel_rfl) rfl⟩
instance fun285:Fun Tryz.prog 285 Tryz.f285:=⟨Tryz.func285,enters_of Tryz.func285 (by kernel_rfl) rfl⟩
instance fun286:Fun Tryz.prog 286 Tryz.f286:=⟨Tryz.func286,enters_of Tryz.func286 (by kernel_rfl) rfl⟩
instance fun300:Fun Tryz.prog 300 Tryz.f300:=⟨Tryz.func300,enters_of Tryz.func300 (by kernel_rfl) rfl⟩
instance fun305:Fun Tryz.prog 305 Tryz.f305:=⟨Tryz.func305,enters_of Tryz.func305 (by kernel_rfl) rfl⟩
instance fun306:Fun Tryz.prog 306 Tryz.f306:=⟨Tryz.func306,enters_of Tryz.func306 (by kernel_rfl) rfl⟩
instance fun307:Fun Tryz.prog 307 Tryz.f307:=⟨Tryz.func307,enters_of Tryz.func307 (by kernel_rfl) rfl⟩
instance fun310:Fun Tryz.prog 310 Tryz.f310:=⟨Tryz.func310,enters_of Tryz.func310 (by kernel_rfl) rfl⟩
instance fun312:Fun Tryz.prog 312 Tryz.f312:=⟨Tryz.func312,enters_of Tryz.func312 (by kernel_rfl) rfl⟩
instance fun325:Fun Tryz.prog 325 Tryz.f325:=⟨Tryz.func325,enters_of Tryz.func325 (by kernel_rfl) rfl⟩
instance fun329:Fun Tryz.prog 329 Tryz.f329:=⟨Tryz.func329,enters_of Tryz.func329 (by kernel_rfl) rfl⟩
instance fun330:Fun Tryz.prog 330 Tryz.f330:=⟨Tryz.func330,enters_of Tryz.func330 (by kernel_rfl) rfl⟩
instance fun331:Fun Tryz.prog 331 Tryz.f331:=⟨Tryz.func331,enters_of Tryz.func331 (by kernel_rfl) rfl⟩
instance fun339:Fun Tryz.prog 339 Tryz.f339:=⟨Tryz.func339,enters_of Tryz.func339 (by kernel_rfl) rfl⟩
instance fun341:Fun Tryz.prog 341 Tryz.f341:=⟨Tryz.func341,enters_of Tryz.func341 (by kernel_rfl) rfl⟩
instance fun342:Fun Tryz.prog 342 Tryz.f342:=⟨Tryz.func342,enters_of Tryz.func342 (by kernel_rfl) rfl⟩
instance fun344:Fun Tryz.prog 344 Tryz.f344:=⟨Tryz.func344,enters_of Tryz.func344 (by kernel_rfl) rfl⟩
instance fun346:Fun Tryz.prog 346 Tryz.f346:=⟨Tryz.func346,enters_of Tryz.func346 (by kernel_rfl) rfl⟩
instance fun347:Fun Tryz.prog 347 Tryz.f347:=⟨Tryz.func347,enters_of Tryz.func347 (by kernel_rfl) rfl⟩
instance fun348:Fun Tryz.prog 348 Tryz.f348:=⟨Tryz.func348,enters_of Tryz.func348 (by kernel_rfl) rfl⟩
instance fun354:Fun Tryz.prog 354 Tryz.f354:=⟨Tryz.func354,enters_of Tryz.func354 (by kernel_rfl) rfl⟩
end Go.Proofs.YtjdjdoefppebkaaGreatDoor
namespace Go.Eng
open Go Go.RowKit Go.Proofs
inductive Nd where
 | mk (kind n:Int) (s:Str) (kids:List Nd)
namespace Nd
def kind:Nd→Int|mk k _ _ _=>k
def num:Nd→Int|mk _ n _ _=>n
def word:Nd→Str|mk _ _ s _=>s
def kids:Nd→List Nd|mk _ _ _ l=>l
theorem eta (x:Nd):x=mk x.kind x.num x.word x.kids:=by cases x;rfl
theorem ind {P:Nd→Prop} (h:∀ k n s l,(∀ x∈l,P x)→P (mk k n s l)):∀ x,P x
 | mk k n s l=>h k n s l (fun x hx=>ind h x)
 decreasing_by
  have:=List.sizeOf_lt_of_mem hx
  simp only [mk.sizeOf_spec]
  omega
end Nd
inductive NRep (X:List Nat) (w:World):Nd→List Value→Prop
 | mk (k n : Int) (s : Str) (l : List Nd) (p : Option Addr) (c : Nat) (b o : Nat) (css : Nat → List Value) (hl : l.length ≤ c) (hm : c ≤ maxLen) (hn : p = none → c = 0)
    (hp:0<l.length→p=some ⟨b,o,none⟩∧b<w.heap.size∧b∉X) (hr:∀ i (h:i<l.length),NRep X w l[i] (css i))
    (hc:∀ i,i<l.length→∀ j u,(css i)[j]?=some u→w.cell? ⟨b,o+i * 4+j,none⟩=some u) :
    NRep X w (.mk k n s l) [.int .i64 k,.int .i64 n,str s,.slice p l.length c]
theorem NRep.ext {X S X':List Nat} {w w':World} {x:Nd} {cs:List Value} (h:NRep X w x cs) (hS:Stp S w w') (h1:∀ b∈S,b∈X) (h2:∀ b∈X',b∈X∨w.heap.size≤b):NRep X' w' x cs:=by
 induction h with
 | mk k n s l p c b o css hl hm hn hp hr hc ih =>
   refine .mk k n s l p c b o css hl hm hn (fun h0=>?_) ih (fun i hi j u hu=>?_)
   obtain ⟨e1,e2,e3⟩:=hp h0
   refine ⟨e1,Nat.lt_of_lt_of_le e2 hS.size,fun hb=>?_⟩
   rcases h2 b hb with h|h
   exact e3 h
   omega
   obtain ⟨_,_,e3⟩:=hp (by omega)
   exact hS.cell (fun hb=>e3 (h1 b hb)) (hc i hi j u hu)
instance:GoRep Nd where
 k:=4
 rep:=NRep
 len:=by intro X w x cs h;cases h;rfl
 one:=by
  intro X w x cs h u hu
  cases h
  simp at hu
  rcases hu with rfl|rfl|rfl|rfl<;>rfl
 ext:=NRep.ext
def NdV (X:List Nat) (w:World) (v:Value) (x:Nd):Prop:=∃ kv,v=.agg #[.int .i64 x.kind,.int .i64 x.num,str x.word,kv]∧SlV X w kv x.kids
theorem nrep_slv {X:List Nat} {w:World} {x:Nd} {cs:List Value} (h:NRep X w x cs):∃ kv,cs=[.int .i64 x.kind,.int .i64 x.num,str x.word,kv]∧SlV X w kv x.kids:=by
 cases h with
 | mk k n s l p c b o css hl hm hn hp hr hc =>
   refine ⟨_,rfl,p,c,rfl,hl,hm,hn,fun i hi=>?_⟩
   obtain ⟨e1,e2,e3⟩:=hp (by show 0<l.length;have:i<l.length:=hi;omega)
   exact ⟨b,o,css i,e1,e2,e3,hr i hi,hc i hi⟩
theorem slv_nrep {X:List Nat} {w:World} {k n:Int} {s:Str} {l:List Nd} {kv:Value} (h:SlV X w kv l):NRep X w (.mk k n s l) [.int .i64 k,.int .i64 n,str s,kv]:=by
 obtain ⟨p,c,rfl,hl,hm,hn,hc⟩:=h
 have hall:∀ i:Fin l.length,∃ cs:List Value,∃ b o,p=some ⟨b,o,none⟩∧b<w.heap.size∧b∉X∧NRep X w l[i] cs∧∀ j u,cs[j]?=some u→w.cell? ⟨b,o+i * 4+j,none⟩=some u:=by
  intro i
  obtain ⟨b,o,cs,h1,h2,h3,h4,h5⟩:=hc i i.2
  exact ⟨cs,b,o,h1,h2,h3,h4,h5⟩
 obtain ⟨f,hf⟩:=Classical.axiomOfChoice hall
 by_cases h0:0<l.length
 obtain ⟨b,o,e1,e2,e3,_⟩:=hf ⟨0,h0⟩
 refine .mk k n s l p c b o (fun i=>if h:i<l.length then f ⟨i,h⟩ else []) hl hm hn (fun _=>⟨e1,e2,e3⟩) (fun i hi=>?_) (fun i hi j u hu=>?_)
 obtain ⟨_,_,_,_,_,g,_⟩:=hf ⟨i,hi⟩
 simpa [hi] using g
 obtain ⟨b',o',g1,_,_,_,g⟩:=hf ⟨i,hi⟩
 rw [e1] at g1
 simp only [Option.some.injEq,Addr.mk.injEq] at g1
 obtain ⟨rfl,rfl,_⟩:=g1
 exact g j u (by simpa [hi] using hu)
 exact .mk k n s l p c 0 0 (fun _=>[]) hl hm hn (fun h=>absurd h h0) (fun i hi=>by omega) (fun i hi=>by omega)
theorem NdV.up {X:List Nat} {w w':World} {v:Value} {x:Nd} (h:NdV X w v x) (hS:Stp [] w w'):NdV X w' v x:=by
 obtain ⟨kv,rfl,hs⟩:=h
 exact ⟨kv,rfl,hs.up hS⟩
theorem SlV.nd {X:List Nat} {w:World} {v:Value} {l:List Nd} {i:Nat} (h:SlV X w v l) (hi:i<l.length):∃ kv,SlV X w kv l[i].kids∧∀ j u,[Value.int .i64 l[i].kind,.int .i64 l[i].num,str l[i].word,kv][j]?=some u→w.cell? (elAddr v i 4 j)=some u:=by
 obtain ⟨cs,hr,hc⟩:=h.cell hi
 obtain ⟨kv,rfl,hs⟩:=nrep_slv hr
 exact ⟨kv,hs,hc⟩
section
variable {P:Program} {n:Nat} {e:Env} {w:World} {d:Option Nat} {ty:TypeId} {pos:String} {af:Array Edge} {g:Option (Nat×Bool)}
theorem PR_loadNd {X:List Nat} {v:Value} {l:List Nd} {i:Nat} {kv:Value} {x:Operand} {t:TypeId} {D:TypeDesc} [hu:Und P t D] (hA:aggB D=true) [hsz:Siz P t 4] (hx:ev e x=some (.pointer (some (elAddr v i 4 0)))) (hs:SlV X w v l) (hi:i<l.length)
 (hc:∀ j u,[Value.int .i64 l[i].kind,.int .i64 l[i].num,str l[i].word,kv][j]?=some u→w.cell? (elAddr v i 4 j)=some u) :
 PR P n ⟨d,.load t x,ty,pos,af,g⟩ e w (.agg #[.int .i64 l[i].kind,.int .i64 l[i].num,str l[i].word,kv]):=by
 obtain ⟨p,l',c,rfl⟩:=hs.isSome hi
 refine PR_loadN (cs:=[.int .i64 l[i].kind,.int .i64 l[i].num,str l[i].word,kv]) hA hx rfl (fun j u hu=>?_)
 have:=hc j u hu
 simpa [elAddr] using this
end
end Go.Eng
namespace Go.Proofs.YtjdjdoefppebkaaGreatDoor
open Go Go.Eng Go.RowKit
abbrev ndC (x:Nd) (kv:Value):List Value:=[.int .i64 x.kind,.int .i64 x.num,str x.word,kv]
theorem ndC_one {X:List Nat} {w:World} {x:Nd} {kv:Value} {l:List Nd} (h:SlV X w kv l):∀ c∈ndC x kv,c.oneCell'=true:=by
 intro c hc
 simp only [ndC,List.mem_cons,List.not_mem_nil,or_false] at hc
 rcases hc with rfl|rfl|rfl|rfl
 rfl
 rfl
 rfl
 exact h.one
def nestedN:Nat→Nd→Bool
 | 0,_=>false
 | m+1,x=>x.kids.all (nestedN m)
theorem all_take_succ {α:Type} (p:α→Bool) (l:List α) (k:Nat) (hk:k<l.length):(l.take (k+1)).all p=((l.take k).all p && p l[k]):=by
 rw [List.take_succ_eq_append_getElem hk,List.all_append]
 simp
theorem nested_any (m:Nat):∀ (X:List Nat) (v:Value) (x:Nd) (z:Int) (w:World),z=(m:Int)→m≤1000→NdV X w v x →
 Calls Tryz.prog 91 #[v,.int .i64 z] w (Ret fun r w'=>r=.bool (nestedN m x)∧Stp [] w w'):=by
 induction m with
 | zero =>
   intro X v x z w hz hm hx
   obtain ⟨kv,rfl,hs⟩:=hx
   refine calls_of_WC2 (n:=22) Tryz.func91 rfl rfl rfl ?_
   refine W ?_
   refine WL_eff (OE_box rfl) rfl ?_
   rintro _ w1 ⟨b,rfl,hb,hblk,hS⟩
   repeat' (first|refine W1 ?_|omega|(refine VG ?_ ?_<;>intro hg)|(refine VC ?_ ?_<;>intro hc))
   refine WR ?_
   exact .mk ⟨rfl,hS⟩
 | succ m ih =>
   intro X v x z w hz hm hx
   obtain ⟨kv,rfl,hs⟩:=hx
   have hmax:=hs.max
   refine calls_of_WC2 (n:=22) Tryz.func91 rfl rfl rfl ?_
   refine W ?_
   refine WL_eff (OE_box rfl) rfl ?_
   rintro _ w1 ⟨b,rfl,hb,hblk,hS⟩
   replace hblk:Blk w1 b _ (ndC x kv):=hblk
   replace hs:=hs.up hS
   repeat' (first|refine W1 ?_|omega|(refine VG ?_ ?_<;>intro hg)|(refine VC ?_ ?_<;>intro hc))
   have hs0:=hs
   refine WC_loop (σ:=Nat) (fun k=>[(1,.int .i64 z),(10,kv),(11,.int .i64 (x.kids.length:Int)),(12,.int .i64 k)]) (fun k w'=>k≤x.kids.length∧Stp [] w1 w'∧(x.kids.take k).all (nestedN m)=true) (fun k=>x.kids.length - k) 0 ⟨rfl,rfl,rfl,rfl,trivial⟩ ⟨Nat.zero_le _,Stp.refl _ _,rfl⟩ ?_
   clear hs
   rintro k w2 ⟨hk,hS2,hall⟩
   have hs:=hs0.up hS2
   by_cases hlt:k<x.kids.length
   · have hnx:=all_take_succ (nestedN m) x.kids k hlt
     rw [hall,Bool.true_and] at hnx
     obtain ⟨kv2,hs2,hc2⟩:=hs.nd hlt
     repeat' (first|refine W1 ?_|omega|(refine VG ?_ ?_<;>intro hg)|(refine VC ?_ ?_<;>intro hc))
     apply WL_pure (PR_loadNd rfl rfl hs hlt hc2) rfl
     refine WL_eff OE_alloc rfl ?_
     rintro _ w3 ⟨b3,rfl,hb3,hblk3,hS3⟩
     refine WL_eff0 (OE_storeA (us:=ndC x.kids[k] kv2) rfl rfl rfl rfl (ndC_one hs2) hblk3 rfl) ?_
     rintro _ w4 ⟨hS4,hblk4⟩
     have hS34:=hS3.own hS4 (fun b hb=>.inr (by simp at hb;omega))
     replace hS2:=hS2.trans hS34
     replace hs2:=hs2.up hS34
     refine W ?_
     refine CL rfl (evs2 rfl rfl) rfl (ih X _ x.kids[k] _ _ (by omega) (by omega) ⟨kv2,rfl,hs2⟩) ?_
     rintro _ w5 ⟨rfl,hS5⟩
     replace hS2:=hS2.trans hS5
     cases hq:nestedN m x.kids[k] with
     | true =>
       refine W ?_
       exact WQ_loop (k+1) ⟨rfl,rfl,rfl,rfl,trivial⟩ ⟨hlt,hS2,by rw [hnx,hq]⟩ (by omega)
     | false =>
       refine W ?_
       refine WR ?_
       refine .mk ⟨?_,hS.trans hS2⟩
       have:nestedN (m+1) x=false:=by
        show x.kids.all (nestedN m)=false
        rw [List.all_eq_false]
        exact ⟨_,List.getElem_mem hlt,by simp [hq]⟩
       rw [this]
   have hke:k=x.kids.length:=by omega
   subst hke
   rw [List.take_length] at hall
   focus repeat' (first|refine W1 ?_|omega|(refine VG ?_ ?_<;>intro hg)|(refine VC ?_ ?_<;>intro hc))
   refine WR ?_
   refine .mk ⟨?_,hS.trans hS2⟩
   show _=Value.bool (x.kids.all (nestedN m))
   rw [hall]
end Go.Proofs.YtjdjdoefppebkaaGreatDoor
namespace Go.Eng
open Go Go.RowKit Go.Proofs
class MKey (P:Program) (kt:Nat) (κ:outParam Type) [DecidableEq κ] where
 enc:κ→Value
 chk:∀ (em:Bool) (a:κ) (w:World),(Instr.checkKey em 10000 kt (enc a)).run P w=.ok () w
 find:∀ (a:κ) (es:List MapEntry) (l:List κ) (w:World),es.map (·.key)=l.map enc →
  (Instr.findKey kt (enc a) es).run P w=.ok ((l.findIdx? (fun b=>decide (b=a))).bind fun i=>(es[i]?).map fun e=>(i,e.val)) w
def MapAt {κ:Type} (enc:κ→Value) (w:World) (r:Nat) (l:List (κ×Value)):Prop :=
 ∃ (es:Array MapEntry) (clock:Nat),w.heap[r]?=some (.map es clock)∧es.toList.map (·.key)=l.map (fun p=>enc p.1)∧es.toList.map (·.val)=l.map (·.2)
theorem MapAt.lt {κ:Type} {enc:κ→Value} {w:World} {r:Nat} {l:List (κ×Value)} (h:MapAt enc w r l):r<w.heap.size:=by
 obtain ⟨es,c,h1,_⟩:=h
 exact (Array.getElem?_eq_some_iff.1 h1).1
theorem MapAt.ext {κ:Type} {enc:κ→Value} {S:List Nat} {w w':World} {r:Nat} {l:List (κ×Value)} (h:MapAt enc w r l) (hS:Stp S w w') (hr:r∉S):MapAt enc w' r l:=by
 have hlt:=h.lt
 obtain ⟨es,c,h1,h2⟩:=h
 exact ⟨es,c,by rw [hS.block r hlt hr];exact h1,h2⟩
theorem MapAt.up {κ:Type} {enc:κ→Value} {w w':World} {r:Nat} {l:List (κ×Value)} (h:MapAt enc w r l) (hS:Stp [] w w'):MapAt enc w' r l:=h.ext hS (by simp)
def mget {κ:Type} [DecidableEq κ] (l:List (κ×Value)) (a:κ) (z:Value):Value:=match l.find? (fun p=>decide (p.1=a)) with|some p=>p.2|none=>z
theorem findNow_of {d:TypeDesc} {κ:Type} [DecidableEq κ] (enc:κ→Value) (h:∀ a b:κ,Instr.sameNow d (enc a) (enc b)=some (decide (a=b))) (a:κ):∀ (es:List MapEntry) (l:List κ) (i:Nat),es.map (·.key)=l.map enc →
 Instr.findNow d (enc a) es i=some ((l.findIdx? (fun b=>decide (b=a))).bind fun j=>(es[j]?).map fun e=>(i+j,e.val))
 | [],[],i,_=>by simp [Instr.findNow]
 | [],_ :: _,i,h=>by simp at h
 | _ :: _,[],i,h=>by simp at h
 | e :: es, b :: l, i, hk => by
   simp only [List.map_cons,List.cons.injEq] at hk
   obtain ⟨h1,h2⟩:=hk
   have ih:=findNow_of enc h a es l (i+1) h2
   simp only [Instr.findNow,h1,h]
   by_cases hab:a=b
   subst hab
   simp [List.findIdx?_cons]
   · have hba:¬ b=a:=fun h=>hab h.symm
     simp only [decide_eq_false hab,ih,List.findIdx?_cons,decide_eq_false hba,Bool.false_eq_true,if_false]
     cases l.findIdx? (fun b=>decide (b=a)) with
     | none=>rfl
     | some j =>
       simp only [Option.bind_some,Option.map_some,List.getElem?_cons_succ]
       rw [show i+1+j=i+(j+1) by omega]
theorem findAsking_of {P:Program} {kt:Nat} {κ:Type} [DecidableEq κ] (enc:κ→Value) (h:∀ (a b:κ) (w:World),(Op.equal kt (enc a) (enc b)).run P w=.ok (decide (a=b)) w) (a:κ) (w:World):∀ (es:List MapEntry) (l:List κ) (i:Nat),es.map (·.key)=l.map enc →
 (Instr.findAsking kt (enc a) es i).run P w=.ok ((l.findIdx? (fun b=>decide (b=a))).bind fun j=>(es[j]?).map fun e=>(i+j,e.val)) w
 | [],[],i,_=>by simp [Instr.findAsking]
 | [],_ :: _,i,h=>by simp at h
 | _ :: _,[],i,h=>by simp at h
 | e :: es, b :: l, i, hk => by
   simp only [List.map_cons,List.cons.injEq] at hk
   obtain ⟨h1,h2⟩:=hk
   have ih:=findAsking_of enc h a w es l (i+1) h2
   simp only [Instr.findAsking,h1]
   by_cases hab:a=b
   subst hab
   simp [List.findIdx?_cons,h]
   · have hba:¬ b=a:=fun h=>hab h.symm
     simp only [Sem.run_bind,h,decide_eq_false hab,Result.andThen,List.findIdx?_cons,decide_eq_false hba,Bool.false_eq_true,if_false,ih]
     cases l.findIdx? (fun b=>decide (b=a)) with
     | none=>rfl
     | some j =>
       simp only [Option.bind_some,Option.map_some,List.getElem?_cons_succ]
       rw [show i+1+j=i+(j+1) by omega]
instance {P:Program} {kt:Nat} [hu:Und P kt (.int .i64)]:MKey P kt Int where
 enc:=fun z=>.int .i64 z
 chk:=fun em a w=>MapKept.run_checkKey (k:=.int .i64 a) hu.h (by simp [MapKept.IsKey]) em 9999
 find:=fun a es l w hk=>by
  have:=findNow_of (d:=.int .i64) (fun z:Int=>Value.int .i64 z) (fun a b=>by simp [Instr.sameNow,Bool.beq_eq_decide_eq]) a es l 0 hk
  simpa using MapKept.run_findKey (w:=w) hu.h this
instance instMKeyStr {P:Program} {kt:Nat} [hu:Und P kt .string]:MKey P kt Str where
 enc:=str
 chk:=fun em a w=>MapKept.run_checkKey (k:=str a) hu.h (by simp [MapKept.IsKey]) em 9999
 find:=fun a es l w hk=>by
  have:=findNow_of (d:=.string) str (fun a b=>by
   simp only [Instr.sameNow,Option.some.injEq]
   rw [beq_toListBytes,str_beq]) a es l 0 hk
  simpa using MapKept.run_findKey (w:=w) hu.h this
section
variable {P:Program} {n:Nat} {e:Env} {w:World} {d:Option Nat} {ty:TypeId} {pos:String} {af:Array Edge} {g:Option (Nat×Bool)}
theorem OE_makeMap {t:TypeId} {κ:Type} (enc:κ→Value):OE P n ⟨d,.makeMap t none,ty,pos,af,g⟩ e w (fun v w'=>∃ r,v=.map (some r)∧w.heap.size≤r∧MapAt enc w' r []∧Stp [] w w') :=
 OE_value (v:=.map (some w.heap.size)) (w':=w.alloc (.map #[] 0)) (fun a ha=>by
  simp [execOp,run_makeMap]) ⟨_,rfl,Nat.le_refl _,⟨#[],0,heap_alloc_new w _,rfl,rfl⟩,Stp.alloc _ _ _⟩
theorem find_fresh {κ:Type} [DecidableEq κ] {l:List κ} {a:κ} (h:∀ b∈l,¬ b=a):l.findIdx? (fun b=>decide (b=a))=none:=by
 rw [List.findIdx?_eq_none_iff]
 intro b hb
 simp [h b hb]
theorem run_mapAdd {mt kt et r:Nat} {κ:Type} [DecidableEq κ] [hm:Und P mt (.map kt et)] [K:MKey P kt κ] {l:List (κ×Value)} {a:κ} {v:Value} (hr:MapAt K.enc w r l) (hn:∀ p∈l,¬ p.1=a) :
 ∃ w',(Instr.mapUpdate mt (.map (some r)) (K.enc a) v).run P w=.ok () w'∧MapAt K.enc w' r (l++[(a,v)])∧Stp [r] w w':=by
 obtain ⟨es,clock,h1,h2,h3⟩:=hr
 have hf:(Instr.findKey kt (K.enc a) es.toList).run P w=.ok none w:=by
  have hk:es.toList.map (·.key)=(l.map (·.1)).map K.enc:=by rw [h2,List.map_map];rfl
  rw [K.find a es.toList (l.map (·.1)) w hk,find_fresh (by simpa using hn)]
  rfl
 have hlt:r<w.heap.size:=(Array.getElem?_eq_some_iff.1 h1).1
 refine ⟨{ w with heap:=w.heap.setIfInBounds r (.map (es.push { key:=K.enc a,val:=v,born:=clock }) (clock+1)) },?_,?_,?_⟩
 simp [Instr.mapUpdate,run_underlying hm.h,MapKept.run_getObj_map h1,K.chk,hf,MapKept.run_setObj_map _ h1,Result.andThen]
 refine ⟨es.push { key:=K.enc a,val:=v,born:=clock },clock+1,by simp [hlt],?_,?_⟩
 simp [h2]
 simp [h3]
 refine ⟨rfl,rfl,rfl,by simp,fun b hb hn=>?_⟩
 simp only [List.mem_singleton] at hn
 simp [Array.getElem?_setIfInBounds_ne (fun h=>hn h.symm)]
theorem OE_insert {mt kt et r:Nat} {κ:Type} [DecidableEq κ] {x y z:Operand} [hm:Und P mt (.map kt et)] [K:MKey P kt κ] {l:List (κ×Value)} {a:κ} {v:Value} (hx:ev e x=some (.map (some r))) (hy:ev e y=some (K.enc a)) (hz:ev e z=some v) (hr:MapAt K.enc w r l) (hn:∀ p∈l,¬ p.1=a) :
 OE P n ⟨d,.insert mt x y z,ty,pos,af,g⟩ e w (fun _ w'=>MapAt K.enc w' r (l++[(a,v)])∧Stp [r] w w'):=by
 obtain ⟨w',h1,h2,h3⟩:=run_mapAdd (mt:=mt) (v:=v) hr hn
 exact OE_skip (w':=w') (fun c hc=>by simp [execOp,hc.ev hx,hc.ev hy,hc.ev hz,h1]) ⟨h2,h3⟩
theorem OE_mapAdd {mt kt et r:Nat} {κ:Type} [DecidableEq κ] {x y z:Operand} [hm:Und P mt (.map kt et)] [K:MKey P kt κ] {l:List (κ×Value)} {a:κ} {v:Value} (hx:ev e x=some (.map (some r))) (hy:ev e y=some (K.enc a)) (hz:ev e z=some v) (hr:MapAt K.enc w r l) (hn:∀ p∈l,¬ p.1=a) :
 OE P n ⟨d,.mapUpdate mt x y z,ty,pos,af,g⟩ e w (fun _ w'=>MapAt K.enc w' r (l++[(a,v)])∧Stp [r] w w'):=by
 obtain ⟨w',h1,h2,h3⟩:=run_mapAdd (mt:=mt) (v:=v) hr hn
 exact OE_skip (w':=w') (fun c hc=>by simp [execOp,hc.ev hx,hc.ev hy,hc.ev hz,h1]) ⟨h2,h3⟩
theorem PR_lookup {mt kt et r:Nat} {κ:Type} [DecidableEq κ] {x y:Operand} {z:Value} [hm:Und P mt (.map kt et)] [K:MKey P kt κ] [hz:Zer P et z] {l:List (κ×Value)} {a:κ} (hx:ev e x=some (.map (some r))) (hy:ev e y=some (K.enc a)) (hr:MapAt K.enc w r l) :
 PR P n ⟨d,.lookup mt x y false,ty,pos,af,g⟩ e w (mget l a z):=by
 refine ⟨fun c hc=>?_⟩
 obtain ⟨es,clock,h1,h2,h3⟩:=hr
 have hk:es.toList.map (·.key)=(l.map (·.1)).map K.enc:=by rw [h2,List.map_map];rfl
 have hf:=K.find a es.toList (l.map (·.1)) w hk
 have hlen:es.toList.length=l.length:=by have:=congrArg List.length h3;simpa using this
 have hv:∀ i:Nat,(es.toList[i]?).map (fun x:MapEntry=>x.val)=(l[i]?).map (fun x:κ×Value=>x.2):=fun i=>by
  have:=congrArg (fun x=>x[i]?) h3
  simpa using this
 have hfind:mget l a z=match (l.map (·.1)).findIdx? (fun b=>decide (b=a)) with|some i=>((es.toList[i]?).map (fun x:MapEntry=>x.val)).getD z|none=>z:=by
  unfold mget
  rw [List.findIdx?_map]
  cases hi:l.findIdx? ((fun b=>decide (b=a)) ∘ fun x=>x.1) with
  | none =>
    have:l.find? (fun p=>decide (p.1=a))=none:=by
     rw [List.find?_eq_none]
     intro p hp
     have:=(List.findIdx?_eq_none_iff.1 hi) p hp
     simpa using this
    rw [this]
  | some i =>
    obtain ⟨hlt,hp,hb⟩:=List.findIdx?_eq_some_iff_getElem.1 hi
    have:l.find? (fun p=>decide (p.1=a))=some l[i]:=by
     rw [List.find?_eq_some_iff_getElem]
     exact ⟨by simpa using hp,i,hlt,rfl,fun j hj=>by simpa using hb j hj⟩
    rw [this]
    simp only [hv,List.getElem?_eq_getElem hlt,Option.map_some,Option.getD_some]
 rw [hfind]
 simp only [execOp,hc.ev hx,hc.ev hy]
 cases hi:(l.map (·.1)).findIdx? (fun b=>decide (b=a)) with
 | none =>
   rw [hi] at hf
   simp [Instr.lookup,run_underlying hm.h,MapKept.run_getObj_map h1,K.chk,hf,Result.andThen,Zer.run]
 | some i =>
   obtain ⟨hlt,_⟩:=List.findIdx?_eq_some_iff_getElem.1 hi
   have hlt':i<es.toList.length:=by rw [hlen];simpa using hlt
   rw [hi] at hf
   simp only [Option.bind_some,List.getElem?_eq_getElem hlt',Option.map_some] at hf
   simp [Instr.lookup,run_underlying hm.h,MapKept.run_getObj_map h1,K.chk,hf,Result.andThen,List.getElem?_eq_getElem hlt']
end
end Go.Eng
namespace Go.Proofs.YtjdjdoefppebkaaGreatDoor
open Go Go.Eng Go.RowKit
def idx {α:Type} (p:α→Bool) (xs:List α):Int:=match xs.findIdx? p with|some i=>(i:Int)|none=>-1
theorem idx_of_at {α:Type} {p:α→Bool} {xs:List α} {k:Nat} (hk:k<xs.length) (hp:p xs[k]=true) (hb:∀ j (h:j<xs.length),j<k→p xs[j]=false):idx p xs=k:=by
 have:xs.findIdx? p=some k:=List.findIdx?_eq_some_iff_getElem.2 ⟨hk,hp,fun j hj=>by simp [hb j (by omega) hj]⟩
 simp [idx,this]
theorem idx_of_none {α:Type} {p:α→Bool} {xs:List α} (hb:∀ j (h:j<xs.length),p xs[j]=false):idx p xs=-1:=by
 have:xs.findIdx? p=none:=by
  rw [List.findIdx?_eq_none_iff]
  intro x hx
  obtain ⟨j,hj,rfl⟩:=List.getElem_of_mem hx
  simp [hb j hj]
 simp [idx,this]
abbrev isS (a:Str):Str→Bool:=fun x=>decide (x=a)
theorem index_any (X:List Nat) (v:Value) (l:List Str) (a:Str) (w:World) (hs:SlV X w v l):Calls Tryz.prog 161 #[v,str a] w (Ret fun r w'=>r=.int .i64 (idx (isS a) l)∧Stp [] w w'):=by
 have hmax:=hs.max
 refine calls_of_WC2 (n:=19) Tryz.func161 rfl rfl rfl ?_
 refine W ?_
 refine WC_loop (σ:=Nat) (fun k=>[(0,v),(1,str a),(8,.int .i64 k),(7,.int .i64 (l.length:Int))]) (fun k w'=>k≤l.length∧Stp [] w w'∧∀ j (h:j<l.length),j<k→isS a l[j]=false) (fun k=>l.length - k) 0 ⟨rfl,rfl,rfl,rfl,trivial⟩ ⟨Nat.zero_le _,Stp.refl _ _,fun j _ h=>absurd h (Nat.not_lt_zero _)⟩ ?_
 have hs0:=hs
 clear hs
 rintro k w1 ⟨hk,hS,hno⟩
 have hs:=hs0.up hS
 by_cases hlt:k<l.length
 focus repeat' (first|refine W1 ?_|omega|(refine VG ?_ ?_<;>intro hg)|(refine VC ?_ ?_<;>intro hc))
 refine WR ?_
 have he':isS a l[k]=true:=by simpa [isS,eq_comm] using hc
 exact .mk ⟨by rw [idx_of_at hlt he' hno],hS⟩
 refine WQ_loop (k+1) ⟨rfl,rfl,rfl,rfl,trivial⟩ ⟨hlt,hS,fun j h hj=>?_⟩ (by omega)
 by_cases e:j=k
 subst e;simpa [isS,eq_comm] using hc
 exact hno j h (by omega)
 have hke:k=l.length:=by omega
 subst hke
 focus repeat' (first|refine W1 ?_|omega|(refine VG ?_ ?_<;>intro hg)|(refine VC ?_ ?_<;>intro hc))
 refine WR ?_
 exact .mk ⟨by rw [idx_of_none (fun j h=>hno j h h)],hS⟩
def fieldNames:List Str:=[[100,97,121],[115,101,114,118,101,100],[101,120,116,114,97],[98,121],[116,111],[99,111,117,114,116],[97,109,111,117,110,116]]
abbrev flds:Value:=.slice (some ⟨0,0,none⟩) 7 7
def fieldF (a:Str):Int×Int×Bool :=
 let i:=idx (isS a) fieldNames
 if i<0 then (0,0,false) else if i≤1 then (i,3,true) else (i,1,true)
abbrev tup3 (x:Int×Int×Bool):Value:=.tuple #[.int .i64 x.1,.int .i64 x.2.1,.bool x.2.2]
theorem Field_any (a:Str) (w:World) (hF:SlV [] w flds fieldNames):Calls Tryz.prog 81 #[str a] w (Ret fun r w'=>r=tup3 (fieldF a)∧Stp [] w w'):=by
 refine calls_of_WC1 (n:=17) Tryz.func81 rfl rfl rfl ?_
 refine W ?_
 apply WL_pure (PR_sliceA rfl) rfl
 refine W ?_
 refine CL rfl (evs2 rfl rfl) rfl (index_any [] _ _ a _ hF) ?_
 rintro _ w1 ⟨rfl,hS⟩
 unfold fieldF
 generalize idx (isS a) fieldNames=i
 repeat' (first|refine W1 ?_|(refine VG ?_ ?_<;>intro hg)|(refine VC ?_ ?_<;>intro hc))
 all_goals (refine WR ?_)
 exact .mk ⟨by simp only [if_pos hc],hS⟩
 rename_i h1
 exact .mk ⟨by simp only [if_neg h1,if_pos hc],hS⟩
 rename_i h1
 exact .mk ⟨by simp only [if_neg h1,if_neg hc],hS⟩
theorem _root_.Go.Eng.Row.slv0 {α:Type} [GoRep α] {w:World} {base T:Nat} {v:Value} {xs:List α} (h:Row [] w base T v xs):SlV [] w v xs:=h.slv (by simp)
def leafN (k n:Int) (s:Str):Int :=
 if k=4 then (if n=0 then (fieldF s).2.1 else 0) else if ¬ s=[] then 0
 else if k=1 then (if 0≤n∧n≤2147483647 then 1 else 0) else if k=2 then (if 0≤n∧n≤1 then 2 else 0) else if k=3 then (if 0≤n∧n≤3652058 then 3 else 0) else 0
theorem fieldF_no {a:Str} (h:(fieldF a).2.2=false):(fieldF a).2.1=0:=by
 unfold fieldF at h ⊢
 dsimp only at h ⊢
 split<;>rename_i h1
 rfl
 rw [if_neg h1] at h
 split at h<;>simp at h
theorem leaf_any (X:List Nat) (v:Value) (x:Nd) (w:World) (hx:NdV X w v x) (hF:SlV [] w flds fieldNames) :
 Calls Tryz.prog 178 #[v] w (Ret fun r w'=>r=.int .i64 (leafN x.kind x.num x.word)∧Stp [] w w'):=by
 obtain ⟨kv,rfl,hs⟩:=hx
 refine calls_of_WC1 (n:=50) Tryz.func178 rfl rfl rfl ?_
 refine W ?_
 refine WL_eff (OE_box rfl) rfl ?_
 rintro _ w1 ⟨b,rfl,hb,hblk,hS⟩
 replace hblk:Blk w1 b _ (ndC x kv):=hblk
 replace hF:=hF.up hS
 repeat' (first|refine W1 ?_|omega|(refine VG ?_ ?_<;>intro hg)|(refine VC ?_ ?_<;>intro hc))
 refine CL rfl (evs1 rfl) rfl (Field_any x.word _ hF) ?_
 rintro _ w2 ⟨rfl,hS2⟩
 replace hS:=hS.trans hS2
 focus repeat' (first|refine W1 ?_|omega|(refine VG ?_ ?_<;>intro hg)|(refine VC ?_ ?_<;>intro hc))
 refine WR ?_
 refine .mk ⟨?_,hS⟩
 simp only [leafN]
 rw [if_pos (by assumption),if_pos (by assumption)]
 rfl
 all_goals first
  | (refine WL_eff (OE_makeMap (fun z : Int => Value.int .i64 z)) rfl ?_
     rintro _ w2 ⟨r,rfl,hr,hm,hS2⟩
     have hbl:=hblk.lt
     have hsz:=hS.size
     replace hblk:=hblk.up hS2
     replace hS:=hS.trans hS2
     refine WL_eff0 (OE_insert (a:=(1:Int)) (v:=.int .i64 1) rfl rfl rfl hm (by simp)) ?_
     rintro _ w3 ⟨hm,hS3⟩
     replace hblk:=hblk.ext hS3 (by simp;omega)
     replace hS:=hS.own hS3 (fun b hb=>.inr (by simp at hb;omega))
     refine WL_eff0 (OE_insert (a:=(2:Int)) (v:=.int .i64 2) rfl rfl rfl hm (by simp)) ?_
     rintro _ w4 ⟨hm,hS4⟩
     replace hblk:=hblk.ext hS4 (by simp;omega)
     replace hS:=hS.own hS4 (fun b hb=>.inr (by simp at hb;omega))
     refine WL_eff0 (OE_insert (a:=(3:Int)) (v:=.int .i64 3) rfl rfl rfl hm (by simp)) ?_
     rintro _ w5 ⟨hm,hS5⟩
     replace hblk:=hblk.ext hS5 (by simp;omega)
     replace hS:=hS.own hS5 (fun b hb=>.inr (by simp at hb;omega))
     refine W ?_
     apply WL_pure (PR_lookup (a:=x.kind) rfl rfl hm) rfl
     refine W ?_
     refine WR ?_
     refine .mk ⟨?_,hS⟩
     have hw:x.word=[]:=by first|assumption|exact Decidable.not_not.1 (by assumption)
     simp only [leafN,hw,not_true_eq_false,if_false]
     first
      | (have hk : x.kind = 1 := by assumption
         rw [hk,if_neg (by decide),if_pos rfl,if_pos (by omega)];rfl)
      | (have hk : x.kind = 2 := by assumption
         rw [hk,if_neg (by decide),if_neg (by decide),if_pos rfl,if_pos (by omega)];rfl)
      | (have hk : x.kind = 3 := by assumption
         rw [hk,if_neg (by decide),if_neg (by decide),if_neg (by decide),if_pos rfl,if_pos (by omega)];rfl))
  | skip
 all_goals (refine WR ?_)
 all_goals
  refine .mk ⟨?_,hS⟩
  simp only [leafN]
  repeat' split
  all_goals first|rfl|omega|(exfalso;simp_all;done)|(exfalso;simp_all;omega)
def areB (l want:List Int):Bool:=decide (l=want∧∀ x∈l,x≠0)
theorem buildSI1 (a:Int) (w:World):(Instr.buildSlice 22 1 #[(0,.int .i64 a)]).run Tryz.prog w=.ok (.slice (some ⟨w.heap.size,0,none⟩) 1 1) (w.alloc (.cells #[.int .i64 a] 3)):=by kernel_rfl
theorem buildSI2 (a b:Int) (w:World):(Instr.buildSlice 22 2 #[(0,.int .i64 a),(1,.int .i64 b)]).run Tryz.prog w=.ok (.slice (some ⟨w.heap.size,0,none⟩) 2 2) (w.alloc (.cells #[.int .i64 a,.int .i64 b] 3)):=by kernel_rfl
theorem NewSl.stp {w w':World} {T len:Nat} {cs:List Value} {v:Value} (h:NewSl w T len cs v w'):Stp [] w w':=h.choose_spec.2.2.2
def opsA:List Str:=[[43],[45],[42]]
def opsC:List Str:=[[60],[60,61],[61],[33,61],[62],[62,61]]
def opsL:List Str:=[[97,110,100],[111,114]]
def binR (s:Str) (l:List Int):Int :=
 if 0≤idx (isS s) opsA∧areB l [1,1]=true then 1 else if 0≤idx (isS s) opsC∧(areB l [1,1]=true∨areB l [3,3]=true) then 2 else if 0≤idx (isS s) opsL∧areB l [2,2]=true then 2 else 0
structure Sig where
 kind:Int
 s:Str
 a:Int
 b:Int
 c:Int
 deriving DecidableEq
abbrev sigV (x:Sig):Value:=.agg #[.int .i64 x.kind,str x.s,.int .i64 x.a,.int .i64 x.b,.int .i64 x.c]
theorem sig_eq (x y:Sig) (w:World):(Op.equal 246 (sigV x) (sigV y)).run Tryz.prog w=.ok (decide (x=y)) w:=by
 have h1:Program.stoodInHeld Tryz.prog 246=false:=by kernel_rfl
 obtain ⟨i,hi⟩:∃ i,Tryz.prog.info? 3=some i:=by
  have:=(inferInstance:Siz Tryz.prog 3 1).h
  cases h:Tryz.prog.info? 3 with
  | none=>rw [h] at this;cases this
  | some i=>exact ⟨i,rfl⟩
 have hc:Tryz.prog.cellsOf 3=1:=by kernel_rfl
 obtain ⟨k,s,a,b,c⟩:=x
 obtain ⟨k',s',a',b',c'⟩:=y
 simp [sigV,Op.equal,Op.maxDepth,run_equalIn_struct,h1,Program.fieldsOf,Tryz.underlying246,Op.eqFields,part,Und.isAgg,Siz.run,aggB,run_equalIn_int w _ _ .i64 .i64 _ _ Tryz.underlying3,run_equalIn_string w _ _ _ _ Tryz.underlying9,run_equalIn_array w _ _ _ Tryz.underlying241 hi,hc,Op.eqItems,List.range_succ_eq_map]
 repeat' split
 all_goals simp_all
theorem sig_chk (em:Bool) (x:Sig) (w:World):(Instr.checkKey em 10000 246 (sigV x)).run Tryz.prog w=.ok () w:=by kernel_rfl
instance:MKey Tryz.prog 246 Sig where
 enc:=sigV
 chk:=sig_chk
 find:=fun a es l w hk=>by
  have h2:=run_findKey_eq (P:=Tryz.prog) (k:=246) w (by kernel_rfl) (sigV a) es
  have h3:=findAsking_of sigV sig_eq a w es l 0 hk
  simp only [Nat.zero_add] at h3
  exact h2.trans h3
abbrev arr3 (a b c:Int):Value:=.agg #[.int .i64 a,.int .i64 b,.int .i64 c]
theorem buildA1 (a:Int) (w:World):(Instr.build 241 #[(0,.int .i64 a)]).run Tryz.prog w=.ok (arr3 a 0 0) w:=by kernel_rfl
theorem buildA2 (a b:Int) (w:World):(Instr.build 241 #[(0,.int .i64 a),(1,.int .i64 b)]).run Tryz.prog w=.ok (arr3 a b 0) w:=by kernel_rfl
theorem buildSg (k a b c:Int) (s:Str) (w:World):(Instr.build 246 #[(0,.int .i64 k),(1,str s),(2,arr3 a b c)]).run Tryz.prog w=.ok (sigV ⟨k,s,a,b,c⟩) w:=by kernel_rfl
theorem buildSS4 (a b c d:Str) (w:World):(Instr.buildSlice 119 4 #[(0,str a),(1,str b),(2,str c),(3,str d)]).run Tryz.prog w=.ok (.slice (some ⟨w.heap.size,0,none⟩) 4 4) (w.alloc (.cells #[str a,str b,str c,str d] 9)):=by kernel_rfl
abbrev SigE:=Sig×Value
def ent:Nat→SigE
 | 5=>(⟨5,[45],1,0,0⟩,.int .i64 1)
 | 10=>(⟨5,[110,111,116],2,0,0⟩,.int .i64 2)
 | 15=>(⟨10,[110,101,120,116],3,0,0⟩,.int .i64 3)
 | 20=>(⟨10,[112,114,101,118],3,0,0⟩,.int .i64 3)
 | 26=>(⟨10,[108,97,116,101,114],3,3,0⟩,.int .i64 3)
 | 32=>(⟨10,[101,97,114,108,105,101,114],3,3,0⟩,.int .i64 3)
 | _=>(⟨10,[98,101,116,119,101,101,110],3,3,0⟩,.int .i64 1)
def ents:List Nat:=[5,10,15,20,26,32,38]
def units:List Str:=[[100,97,121,115],[119,101,101,107,115],[109,111,110,116,104,115],[99,111,117,114,116,100,97,121,115]]
def unitE (u:Str):List SigE:=[(⟨7,u,3,1,0⟩,.int .i64 3),(⟨8,u,3,1,0⟩,.int .i64 3)]
def sigs:List SigE:=ents.map ent++units.flatMap unitE
theorem sigs_nodup:(sigs.map (·.1)).Nodup:=by decide
theorem mget_perm {κ:Type} [DecidableEq κ] {l m:List (κ×Value)} (hp:l.Perm m) (hn:(m.map (·.1)).Nodup) (a:κ) (z:Value):mget l a z=mget m a z:=by
 have hn':(l.map (·.1)).Nodup:=(hp.map _).nodup_iff.2 hn
 have key:∀ (l m:List (κ×Value)),(∀ p,p∈l→p∈m)→(m.map (·.1)).Nodup→∀ p,l.find? (fun p=>decide (p.1=a))=some p→m.find? (fun p=>decide (p.1=a))=some p:=by
  intro l m hs hm p hf
  have hpm:=hs p (List.mem_of_find?_eq_some hf)
  have hpa:p.1=a:=by simpa using List.find?_some hf
  cases hq:m.find? (fun p=>decide (p.1=a)) with
  | none=>exact absurd (List.find?_eq_none.1 hq p hpm) (by simp [hpa])
  | some q =>
    have hqm:=List.mem_of_find?_eq_some hq
    have hqa:q.1=a:=by simpa using List.find?_some hq
    obtain ⟨i,hi,rfl⟩:=List.getElem_of_mem hpm
    obtain ⟨j,hj,rfl⟩:=List.getElem_of_mem hqm
    have:i=j:=by
     have h1:=(List.getElem_inj (xs:=m.map (·.1)) (i:=i) (j:=j) (h₀:=by simpa using hi) (h₁:=by simpa using hj) hm).1 (by simp [hpa,hqa])
     exact h1
    subst this
    rfl
 unfold mget
 cases h1:l.find? (fun p=>decide (p.1=a)) with
 | some p=>rw [key l m (fun p h=>hp.mem_iff.1 h) hn p h1]
 | none =>
   cases h2:m.find? (fun p=>decide (p.1=a)) with
   | none=>rfl
   | some p=>rw [key m l (fun p h=>hp.mem_iff.2 h) hn' p h2] at h1;cases h1
theorem signatures_any (w:World):Calls Tryz.prog 180 #[] w (Ret fun r w'=>∃ (m:Nat) (l:List SigE),r=.map (some m)∧MapAt sigV w' m l∧l.Perm sigs∧Stp [] w w'):=by
 refine calls_of_WC0 (n:=62) Tryz.func180 rfl rfl ?_
 refine W ?_
 refine WC_drawn 41 [] [5,10,15,20,26,32,38] [(1,0),(2,0),(3,0),(4,0),(6,0),(7,0),(8,0),(9,0),(11,0),(12,0),(13,0),(14,0),(16,0),(17,0),(18,0),(19,0),(21,0),(22,0),(23,0),(24,0),(25,0),(27,0),(28,0),(29,0),(30,0),(31,0),(33,0),(34,0),(35,0),(36,0),(37,0),(0,2),(5,279241165504),(39,0),(40,0)] rfl mixed (by kernel_rfl) (by kernel_rfl) (by kernel_rfl) (fun w1 hS1=>?_)
 repeat' (first|refine D1 ?_|(apply WD_op;exact rfl;first|(apply WO_build (vs:=[(0,.int .i64 _)]);exact trivial;exact rfl;exact buildA1 _;exact rfl)|(apply WO_build (vs:=[(0,.int .i64 _),(1,.int .i64 _)]);exact trivial;exact rfl;exact buildA2 _ _;exact rfl)|(apply WO_build (vs:=[(0,.int .i64 _),(1,str _),(2,arr3 _ _ _)]);exact trivial;exact rfl;exact buildSg _ _ _ _ _;exact rfl)))
 refine WD_eff rfl trivial (OE_makeMap sigV) (fun _ _ h=>h.choose_spec.2.2.2) rfl ?_
 rintro _ w2 ⟨m,rfl,hm,hmap,hS2⟩
 have hw1:=hS1.size
 refine WD_set ents (fun rem w'=>∃ l,MapAt sigV w' m l∧(l++rem.map ent).Perm (ents.map ent)∧Stp [m] w2 w') rfl (by decide) (by decide) ⟨[],hmap,by simp,Stp.refl _ _⟩ ?_ ?_
 · rintro rem j w' hsub hj ⟨l,hl,hp,hS⟩
   have hkeys:((l++rem.map ent).map (·.1)).Nodup:=(hp.map (·.1)).nodup_iff.2 (by decide)
   have hfresh:∀ p∈l,¬ p.1=(ent j).1:=by
    intro p hp e
    rw [List.map_append,List.nodup_append] at hkeys
    exact hkeys.2.2 p.1 (List.mem_map_of_mem hp) (ent j).1 (by rw [List.map_map];exact List.mem_map.2 ⟨j,hj,rfl⟩) e
   have gen:∀ w'',MapAt sigV w'' m (l++[ent j])→Stp [m] w' w''→∃ l,MapAt sigV w'' m l∧(l++(rem.erase j).map ent).Perm (ents.map ent)∧Stp [m] w2 w'':=by
    intro w'' h1 h2
    refine ⟨_,h1,?_,hS.trans h2⟩
    refine List.Perm.trans ?_ hp
    rw [List.append_assoc]
    exact List.Perm.append_left l (((List.perm_cons_erase hj).map ent).symm)
   have hjis:=hsub.subset hj
   simp only [ents,List.mem_cons,List.not_mem_nil,or_false] at hjis
   rcases hjis with rfl|rfl|rfl|rfl|rfl|rfl|rfl
   all_goals exact ⟨_,rfl,rfl,trivial,(OE_insert (v:=.int .i64 _) rfl rfl rfl hl hfresh).mono (fun _ w'' ⟨h1,h2⟩=>⟨.inr rfl,gen w'' h1 h2⟩)⟩
 rintro w3 ⟨l,hl,hp,hS3⟩
 rw [List.map_nil,List.append_nil] at hp
 have hS:Stp [] w w3:=(hS1.trans hS2).own hS3 (fun b hb=>.inr (by simp at hb;omega))
 have hmw:w.heap.size≤m:=by omega
 clear hmap hS2 hS3
 repeat' (first|refine D1 ?_|refine WD_splitN rfl rfl rfl rfl (fun hg=>?_) (fun hg=>?_)|(refine WD_splitBN rfl rfl rfl rfl (fun hg=>?_) (fun hg=>?_)<;>refine D1 ?_)|fail)
 refine W ?_
 refine WL_eff (OE_buildSlice (vs:=[(0,str [100,97,121,115]),(1,str [119,101,101,107,115]),(2,str [109,111,110,116,104,115]),(3,str [99,111,117,114,116,100,97,121,115])]) rfl (buildSS4 _ _ _ _)) rfl ?_
 rintro uv w4 hN
 have hu:SlV [m] w4 uv units:=hN.slv (fun b hb=>by simp at hb;subst hb;exact hl.lt) rfl rfl (by simp [units,maxLen])
 have hS4:=NewSl.stp hN
 clear hN
 replace hl:=hl.up hS4
 replace hS:=hS.trans hS4
 have hkind:∀ p∈l,p.1.kind=5∨p.1.kind=10:=fun p hpl=>by
  have hpe:=hp.mem_iff.1 hpl
  simp only [ents,List.map_cons,List.map_nil,List.mem_cons,List.not_mem_nil,or_false] at hpe
  rcases hpe with rfl|rfl|rfl|rfl|rfl|rfl|rfl<;>decide
 have hseen:∀ k (h:k<units.length),∀ p∈(units.take k).flatMap unitE,¬ p.1.s=units[k]:=by
  intro k h
  match k,h with
  | 0,_=>(show ∀ p∈(units.take 0).flatMap unitE,¬ p.1.s=units[0]'(by decide));decide
  | 1,_=>(show ∀ p∈(units.take 1).flatMap unitE,¬ p.1.s=units[1]'(by decide));decide
  | 2,_=>(show ∀ p∈(units.take 2).flatMap unitE,¬ p.1.s=units[2]'(by decide));decide
  | 3,_=>(show ∀ p∈(units.take 3).flatMap unitE,¬ p.1.s=units[3]'(by decide));decide
 refine W ?_
 refine WC_loop (σ:=Nat) (fun k=>[(1,.int .i64 1),(3,.int .i64 3),(4,.map (some m)),(40,uv),(41,.int .i64 4),(42,.int .i64 k)]) (fun k w'=>k≤4∧MapAt sigV w' m (l++(units.take k).flatMap unitE)∧Stp [m] w4 w') (fun k=>4 - k) 0 ⟨rfl,rfl,rfl,rfl,rfl,rfl,trivial⟩ ⟨by omega,by simpa using hl,Stp.refl _ _⟩ ?_
 rintro k w5 ⟨hk,hmk,hS5⟩
 have hu5:SlV [m] w5 uv units:=hu.ext hS5 (by simp) (fun b hb=>.inl hb)
 by_cases hlt:k<4
 have hlt2:k<units.length:=hlt
 have hfr:∀ (t:Int),¬ t=5→¬ t=10→∀ p∈l++(units.take k).flatMap unitE,¬ p.1=⟨t,units[k],3,1,0⟩:=by
  intro t h5 h10 p hpm e
  rcases List.mem_append.1 hpm with h|h
  have:=hkind p h
  rw [e] at this
  rcases this with h|h
  exact h5 h
  exact h10 h
  exact hseen k hlt2 p h (by rw [e])
 focus repeat' (first|refine W1 ?_|omega|(refine VG ?_ ?_<;>intro hg)|(refine VC ?_ ?_<;>intro hc))
 apply WL_build (vs:=[(0,.int .i64 3),(1,.int .i64 1)]) rfl (buildA2 _ _) rfl
 apply WL_build (vs:=[(0,.int .i64 7),(1,str _),(2,arr3 _ _ _)]) rfl (buildSg _ _ _ _ _) rfl
 refine W ?_
 refine WL_eff0 (OE_mapAdd (a:=(⟨7,units[k],3,1,0⟩:Sig)) (v:=.int .i64 3) rfl rfl rfl hmk (hfr 7 (by decide) (by decide))) ?_
 rintro _ w6 ⟨hm6,hS6⟩
 refine W ?_
 apply WL_build (vs:=[(0,.int .i64 3),(1,.int .i64 1)]) rfl (buildA2 _ _) rfl
 apply WL_build (vs:=[(0,.int .i64 8),(1,str _),(2,arr3 _ _ _)]) rfl (buildSg _ _ _ _ _) rfl
 refine W ?_
 refine WL_eff0 (OE_mapAdd (a:=(⟨8,units[k],3,1,0⟩:Sig)) (v:=.int .i64 3) rfl rfl rfl hm6 (fun p hpm e=>by
  rcases List.mem_append.1 hpm with h|h
  exact hfr 8 (by decide) (by decide) p h e
  simp only [List.mem_singleton] at h
  subst h
  simp at e)) ?_
 rintro _ w7 ⟨hm7,hS7⟩
 refine W ?_
 refine WQ_loop (k+1) ⟨rfl,rfl,rfl,rfl,rfl,rfl,trivial⟩ ⟨by omega,?_,(hS5.trans hS6).trans hS7⟩ (by omega)
 rw [List.take_succ_eq_append_getElem hlt2,List.flatMap_append]
 have e:l++((units.take k).flatMap unitE++[units[k]].flatMap unitE)=(l++(units.take k).flatMap unitE++[((⟨7,units[k],3,1,0⟩:Sig),Value.int .i64 3)])++[((⟨8,units[k],3,1,0⟩:Sig),Value.int .i64 3)]:=by simp [unitE]
 rw [e]
 exact hm7
 have hke:k=4:=by omega
 subst hke
 focus repeat' (first|refine W1 ?_|omega|(refine VG ?_ ?_<;>intro hg)|(refine VC ?_ ?_<;>intro hc))
 refine WR ?_
 exact .mk ⟨m,_,rfl,hmk,hp.append_right _,hS.own hS5 (fun b hb=>.inr (by simp at hb;omega))⟩
def sigF (x:Sig):Value:=mget sigs x (.int .i64 0)
def binT (s:Str) (a b:Int):Int :=
 if s∈opsA then (if a=b∧a=1 then 1 else 0) else if s∈opsC then (if a=b∧¬ a=2 then 2 else 0) else if s∈opsL then (if a=b∧a=2 then 2 else 0) else 0
theorem binary_any (s:Str) (a b c:Int) (w:World):Calls Tryz.prog 179 #[str s,arr3 a b c] w (Ret fun r w'=>r=.int .i64 (binT s a b)∧Stp [] w w'):=by
 refine calls_of_WC2 (n:=46) Tryz.func179 rfl rfl rfl ?_
 refine W ?_
 refine WL_eff (OE_box rfl) rfl ?_
 rintro _ w1 ⟨q,rfl,hq,hblk,hS⟩
 replace hblk:Blk w1 q _ [.int .i64 a,.int .i64 b,.int .i64 c]:=hblk
 refine W ?_
 by_cases hA:s∈opsA
 · unfold binT
   rw [if_pos hA]
   simp only [opsA,List.mem_cons,List.not_mem_nil,or_false] at hA
   rcases hA with rfl|rfl|rfl
   all_goals (repeat' (first|refine W1 ?_|omega|(refine VG ?_ ?_<;>intro hg)|(refine VC ?_ ?_<;>intro hc)))
   all_goals (refine WR ?_)
   all_goals refine .mk ⟨?_,hS⟩
   all_goals first
    | rw [if_pos ⟨by assumption,by assumption⟩]
    | rw [if_neg (fun h=>by omega)]
 by_cases hC:s∈opsC
 · unfold binT
   rw [if_neg hA,if_pos hC]
   simp only [opsC,List.mem_cons,List.not_mem_nil,or_false] at hC
   rcases hC with rfl|rfl|rfl|rfl|rfl|rfl
   all_goals (repeat' (first|refine W1 ?_|omega|(refine VG ?_ ?_<;>intro hg)|(refine VC ?_ ?_<;>intro hc)))
   all_goals (refine WR ?_)
   all_goals refine .mk ⟨?_,hS⟩
   all_goals first
    | rw [show (if a=b∧¬ a=2 then (2:Int) else 0)=2 from if_pos (by omega)]
    | rw [show (if a=b∧¬ a=2 then (2:Int) else 0)=0 from if_neg (by omega)]
 by_cases hL:s∈opsL
 · unfold binT
   rw [if_neg hA,if_neg hC,if_pos hL]
   simp only [opsL,List.mem_cons,List.not_mem_nil,or_false] at hL
   rcases hL with rfl|rfl
   all_goals (repeat' (first|refine W1 ?_|omega|(refine VG ?_ ?_<;>intro hg)|(refine VC ?_ ?_<;>intro hc)))
   all_goals (refine WR ?_)
   all_goals refine .mk ⟨?_,hS⟩
   all_goals first
    | rw [if_pos ⟨by assumption,by assumption⟩]
    | rw [if_neg (fun h=>by omega)]
 unfold binT
 rw [if_neg hA,if_neg hC,if_neg hL]
 simp only [opsA,opsC,opsL,List.mem_cons,List.not_mem_nil,or_false,not_or] at hA hC hL
 obtain ⟨a1,a2,a3⟩:=hA
 obtain ⟨b1,b2,b3,b4,b5,b6⟩:=hC
 obtain ⟨c1,c2⟩:=hL
 repeat' (first|refine W1 ?_|refine WC_cond rfl (fun hc=>absurd hc (by assumption)) (fun hc=>?_))
 refine WR ?_
 exact .mk ⟨rfl,hS⟩
theorem _root_.Go.Eng.SlV.any {α:Type} [GoRep α] {X:List Nat} {w:World} {v:Value} {xs:List α} (h:SlV X w v xs):SlV [] w v xs:=h.ext (Stp.refl [] w) (by simp) (by simp)
theorem _root_.Go.Eng.SlV.new {α:Type} [GoRep α] {X:List Nat} {w w':World} {v:Value} {xs:List α} (h:SlV X w v xs) (hS:Stp [] w w') (b:Nat) (hb:w.heap.size≤b):SlV [b] w' v xs :=
 h.ext hS (by simp) (fun c hc=>.inr (by simp at hc;omega))
theorem _root_.Go.Eng.SlV.on {α:Type} [GoRep α] {X S:List Nat} {w w':World} {v:Value} {xs:List α} (h:SlV X w v xs) (hS:Stp S w w') (hs:∀ b∈S,b∈X):SlV X w' v xs:=h.ext hS hs (fun _ h=>.inl h)
def sigI (x:Sig):Int:=match sigF x with|.int _ z=>z|_=>0
theorem sigF_int (x:Sig):sigF x=.int .i64 (sigI x):=by
 have:∀ p∈sigs,∃ z,p.2=Value.int .i64 z:=by
  intro p hp
  simp only [sigs,ents,units,List.map_cons,List.map_nil,List.flatMap_cons,List.flatMap_nil,unitE,List.cons_append,List.nil_append,List.append_nil,List.mem_cons,List.not_mem_nil,or_false,ent] at hp
  rcases hp with rfl|rfl|rfl|rfl|rfl|rfl|rfl|rfl|rfl|rfl|rfl|rfl|rfl|rfl|rfl<;>exact ⟨_,rfl⟩
 unfold sigI sigF mget
 cases h:sigs.find? (fun p=>decide (p.1=x)) with
 | none=>rfl
 | some p =>
   obtain ⟨z,hz⟩:=this p (List.mem_of_find?_eq_some h)
   simp only [hz]
def combT (k n:Int) (s:Str) (ts:List Int):Int :=
 if ts.length > 3 then 0 else if (0:Int)∈ts then 0 else if ts=[] then leafN k n s else if ¬ n=0 then 0
 else if k=9∧s=[]∧ts.getD 0 0=2∧ts.getD 1 0=ts.getD 2 0 then ts.getD 1 0
 else if k=6∧ts.getD 2 0=0 then binT s (ts.getD 0 0) (ts.getD 1 0) else sigI ⟨k,s,ts.getD 0 0,ts.getD 1 0,ts.getD 2 0⟩
def typeT:Nd→Int
 | .mk k n s l=>combT k n s (l.map typeT)
theorem typeT_eq (x:Nd):typeT x=combT x.kind x.num x.word (x.kids.map typeT):=by
 cases x
 rw [typeT]
 rfl
def arrC (ts:List Int) (k:Nat):List Value:=[.int .i64 (if 0<k then ts.getD 0 0 else 0),.int .i64 (if 1<k then ts.getD 1 0 else 0),.int .i64 (if 2<k then ts.getD 2 0 else 0)]
theorem arrC_set (ts:List Int) (k:Nat) (hk:k<3):(arrC ts k).set (0+k * 1) (.int .i64 (ts.getD k 0))=arrC ts (k+1):=by
 match k,hk with
 | 0,_=>rfl
 | 1,_=>rfl
 | 2,_=>rfl
theorem arrC_get (ts:List Int) (k:Nat) (hk:k<3):(arrC ts (k+1))[0+k * 1]?=some (.int .i64 (ts.getD k 0)):=by
 match k,hk with
 | 0,_=>rfl
 | 1,_=>rfl
 | 2,_=>rfl
theorem arrC_end (ts:List Int) (h:ts.length≤3):arrC ts ts.length=[.int .i64 (ts.getD 0 0),.int .i64 (ts.getD 1 0),.int .i64 (ts.getD 2 0)]:=by
 match ts,h with
 | [],_=>rfl
 | [a],_=>rfl
 | [a,b],_=>rfl
 | [a,b,c],_=>rfl
theorem of_any (x:Nd):∀ (X XF:List Nat) (v:Value) (w:World),NdV X w v x→SlV XF w flds fieldNames →
 Calls Tryz.prog 92 #[v] w (Ret fun r w'=>r=.int .i64 (typeT x)∧Stp [] w w'):=by
 induction x using Nd.ind with
 | h k n s l ih =>
 intro X XF v w hx hF
 generalize hxe:Nd.mk k n s l=x at *
 have ih':∀ y∈x.kids,∀ (X XF:List Nat) (v:Value) (w:World),NdV X w v y→SlV XF w flds fieldNames→Calls Tryz.prog 92 #[v] w (Ret fun r w'=>r=.int .i64 (typeT y)∧Stp [] w w'):=by
  subst hxe;exact ih
 clear ih hxe k n s l
 have hx0:=hx
 obtain ⟨kv,rfl,hs⟩:=hx
 have hmax:=hs.max
 rw [typeT_eq]
 have hlen:(x.kids.map typeT).length=x.kids.length:=by simp
 have hget:∀ k (h:k<x.kids.length),(x.kids.map typeT).getD k 0=typeT x.kids[k]:=fun k h=>by simp [List.getD,h]
 generalize hts:x.kids.map typeT=ts at *
 refine calls_of_WC1 (n:=80) Tryz.func92 rfl rfl rfl ?_
 refine W ?_
 refine WL_eff (OE_box rfl) rfl ?_
 rintro _ w1 ⟨b,rfl,hb,hblk,hS⟩
 replace hblk:Blk w1 b _ (ndC x kv):=hblk
 replace hs:=hs.up hS
 replace hF:=hF.up hS
 have hlt:=hblk.lt
 refine W ?_
 refine WL_eff OE_alloc rfl ?_
 rintro _ w2 ⟨q,rfl,hq,harr,hS2⟩
 replace harr:Blk w2 q _ (arrC ts 0):=harr
 replace hblk:=hblk.up hS2
 replace hs:=hs.new hS2 q hq
 replace hF:=hF.new hS2 q hq
 replace hS:=hS.trans hS2
 have hwq:w.heap.size≤q:=Nat.le_trans (Nat.le_trans hb (Nat.le_of_lt hlt)) hq
 have hbq:¬ b=q:=by omega
 repeat' (first|refine W1 ?_|omega|(refine VG ?_ ?_<;>intro hg)|(refine VC ?_ ?_<;>intro hc))
 refine WR ?_
 refine .mk ⟨?_,hS⟩
 unfold combT
 rw [if_pos (by omega)]
 have hl3:x.kids.length≤3:=by omega
 refine WC_cutB (σ:=Unit) (fun _=>[(1,.pointer (some ⟨b,0,none⟩)),(3,.pointer (some ⟨q,0,none⟩))]) (fun _ w'=>Stp [q] w2 w'∧Blk w' q 241 [.int .i64 (ts.getD 0 0),.int .i64 (ts.getD 1 0),.int .i64 (ts.getD 2 0)]∧¬ (0:Int)∈ts) ?_ ?_
 have hs0:=hs
 have hF0:=hF
 refine WC_loop (σ:=Nat) (fun k=>[(1,.pointer (some ⟨b,0,none⟩)),(3,.pointer (some ⟨q,0,none⟩)),(11,kv),(12,.int .i64 (x.kids.length:Int)),(13,.int .i64 k)]) (fun k w'=>k≤x.kids.length∧Stp [q] w2 w'∧Blk w' q 241 (arrC ts k)∧¬ (0:Int)∈ts.take k) (fun k=>x.kids.length - k) 0 ⟨rfl,rfl,rfl,rfl,rfl,trivial⟩ ⟨Nat.zero_le _,Stp.refl _ _,harr,by simp⟩ ?_
 clear hs hF harr
 rintro k w3 ⟨hk,hS3,harr,hno⟩
 have hs:=hs0.on hS3 (by simp)
 have hF:=hF0.on hS3 (by simp)
 by_cases hlt:k<x.kids.length
 have hk3:k<3:=by omega
 have hg:=hget k hlt
 have hset:=arrC_set ts k hk3
 have hgt:=arrC_get ts k hk3
 rw [hg] at hset hgt
 obtain ⟨kv2,hs2,hc2⟩:=hs.nd hlt
 focus repeat' (first|refine W1 ?_|omega|(refine VG ?_ ?_<;>intro hg)|(refine VC ?_ ?_<;>intro hc))
 apply WL_pure (PR_loadNd rfl rfl hs hlt hc2) rfl
 refine WL_eff OE_alloc rfl ?_
 rintro _ w4 ⟨b4,rfl,hb4,hblk4,hS4⟩
 have harl:=harr.lt
 replace harr:=harr.up hS4
 refine W ?_
 refine WL_eff0 (OE_storeA (us:=ndC x.kids[k] kv2) rfl rfl rfl rfl (ndC_one hs2) hblk4 rfl) ?_
 rintro _ w5 ⟨hS5,hblk5⟩
 have h4q:¬ b4=q:=by omega
 replace harr:=harr.ext hS5 (by simp;omega)
 have hS45:=hS4.own hS5 (fun c hc=>.inr (by simp at hc;omega))
 replace hs2:=hs2.up hS45
 replace hF:=hF.up hS45
 refine W ?_
 refine CL rfl (evs1 rfl) rfl (ih' x.kids[k] (List.getElem_mem hlt) _ _ _ _ ⟨kv2,rfl,hs2⟩ hF) ?_
 rintro _ w6 ⟨rfl,hS6⟩
 replace harr:=harr.up hS6
 refine W ?_
 refine WL_eff0 (OE_store1 (u:=.int .i64 (typeT x.kids[k])) rfl rfl rfl rfl harr (by simp [arrC];omega)) ?_
 rintro _ w7 ⟨hS7,harr⟩
 rw [hset] at harr
 have hS37:=((hS3.trans (hS45.mono (by simp))).trans (hS6.mono (by simp))).trans hS7
 have hnx:ts.take (k+1)=ts.take k++[typeT x.kids[k]]:=by
  rw [List.take_succ_eq_append_getElem (by omega)]
  congr 2
  subst hts
  simp
 focus repeat' (first|refine W1 ?_|omega|(refine VG ?_ ?_<;>intro hg)|(refine VC ?_ ?_<;>intro hc))
 apply WL_load1 rfl rfl (harr.cell hgt) rfl
 focus repeat' (first|refine W1 ?_|omega|(refine VG ?_ ?_<;>intro hg)|(refine VC ?_ ?_<;>intro hc))
 refine WR ?_
 have h0':typeT x.kids[k]=0:=hc
 refine .mk ⟨?_,hS.own hS37 (fun c hc=>.inr (by simp at hc;omega))⟩
 unfold combT
 rw [if_neg (by omega),if_pos]
 have:typeT x.kids[k]∈ts:=by
  subst hts
  exact List.mem_map_of_mem (List.getElem_mem hlt)
 rwa [h0'] at this
 refine WQ_loop (k+1) ⟨rfl,rfl,rfl,rfl,rfl,trivial⟩ ⟨hlt,hS37,harr,?_⟩ (by omega)
 rw [hnx,List.mem_append]
 rintro (h|h)
 exact hno h
 simp only [List.mem_singleton] at h
 exact hc h.symm
 have hke:k=x.kids.length:=by omega
 subst hke
 focus repeat' (first|refine W1 ?_|omega|(refine VG ?_ ?_<;>intro hg)|(refine VC ?_ ?_<;>intro hc))
 rw [← hlen,arrC_end ts (by omega)] at harr
 rw [← hlen,List.take_length] at hno
 exact WQ_cut () ⟨rfl,rfl,trivial⟩ ⟨hS3,harr,hno⟩
 rintro _ w3 ⟨hS3,harr,hno⟩
 replace hblk:=hblk.ext hS3 (by simpa using hbq)
 replace hF:=hF.on hS3 (by simp)
 replace hs:=hs.on hS3 (by simp)
 replace hS:=hS.own hS3 (fun c hc=>.inr (by simp at hc;omega))
 unfold combT
 rw [if_neg (by omega),if_neg hno]
 by_cases h0:x.kids.length=0
 rw [if_pos (List.length_eq_zero_iff.1 (by omega))]
 focus repeat' (first|refine W1 ?_|omega|(refine VG ?_ ?_<;>intro hg)|(refine VC ?_ ?_<;>intro hc))
 refine CL rfl (evs1 rfl) rfl (leaf_any [q] _ x _ ⟨kv,rfl,hs⟩ hF.any) ?_
 rintro _ w4 ⟨rfl,hS4⟩
 refine W ?_
 refine WR ?_
 exact .mk ⟨rfl,hS.trans hS4⟩
 rw [if_neg (fun h=>h0 (by rw [← hlen,h];rfl))]
 clear hget hts
 generalize ts.getD 0 0=a at *
 generalize ts.getD 1 0=bb at *
 generalize ts.getD 2 0=c at *
 repeat' (first|refine W1 ?_|omega|(refine VG ?_ ?_<;>intro hg)|(refine VC ?_ ?_<;>intro hc))
 refine WR ?_
 exact .mk ⟨by rw [if_pos (by assumption)],hS⟩
 all_goals rw [if_neg (by assumption)]
 all_goals first
  | (have h9 : x.kind = 9 ∧ x.word = [] ∧ a = 2 ∧ bb = c := ⟨by assumption, by assumption, by assumption, by assumption⟩
     rw [if_pos h9]
     refine WR ?_
     exact .mk ⟨rfl,hS⟩)
  | rw [show (if x.kind = 9 ∧ x.word = [] ∧ a = 2 ∧ bb = c then bb else if x.kind = 6 ∧ c = 0 then binT x.word a bb else sigI ⟨x.kind, x.word, a, bb, c⟩) = if x.kind = 6 ∧ c = 0 then binT x.word a bb else sigI ⟨x.kind, x.word, a, bb, c⟩ from if_neg (fun h => by
     obtain ⟨h1,h2,h3,h4⟩:=h
     first|omega|contradiction)]
 all_goals first
  | (have h6 : x.kind = 6 ∧ c = 0 := ⟨by assumption, by assumption⟩
     rw [if_pos h6]
     refine CL rfl (evs2 rfl rfl) rfl (binary_any x.word a bb c _) ?_
     rintro _ w4 ⟨rfl,hS4⟩
     refine W ?_
     refine WR ?_
     exact .mk ⟨rfl,hS.trans hS4⟩)
  | rw [show (if x.kind=6∧c=0 then binT x.word a bb else sigI ⟨x.kind,x.word,a,bb,c⟩)=sigI ⟨x.kind,x.word,a,bb,c⟩ from if_neg (fun h=>by omega)]
 all_goals
  refine WC_drawn 9 [] [] [(1,0),(2,1),(3,0),(4,1),(5,1),(6,0),(0,2),(7,2),(8,0)] rfl mixed (by kernel_rfl) (by kernel_rfl) (by kernel_rfl) (fun w1 hS1=>?_)
  replace hblk:=hblk.up hS1
  replace harr:=harr.up hS1
  replace hS:=hS.trans hS1
  refine D ?_
  apply WD_op
  exact rfl
  apply WO_build (vs:=[(0,.int .i64 _),(1,str _),(2,arr3 _ _ _)])
  exact trivial
  exact rfl
  exact buildSg _ _ _ _ _
  exact rfl
  refine WD_eff rfl trivial (OE_call rfl evs0 (signatures_any _)) (fun _ _ h=>h.choose_spec.choose_spec.2.2.2) rfl ?_
  rintro _ w5 ⟨m,ll,rfl,hm,hp,hS5⟩
  have hmg:=sigF_int ⟨x.kind,x.word,a,bb,c⟩
  unfold sigF at hmg
  rw [← mget_perm hp sigs_nodup] at hmg
  refine WD_eff rfl trivial (OE_pr (PR_lookup (a:=(⟨x.kind,x.word,a,bb,c⟩:Sig)) rfl rfl hm)) (fun _ _ h=>h.2 ▸ Stp.refl _ _) rfl ?_
  rintro _ _ ⟨rfl,rfl⟩
  rw [hmg]
  refine D ?_
  refine W ?_
  refine WR ?_
  exact .mk ⟨rfl,hS.trans hS5⟩
theorem sig_vals:∀ p∈sigs,∃ z,p.2=Value.int .i64 z:=by
 intro p hp
 simp only [sigs,ents,units,List.map_cons,List.map_nil,List.flatMap_cons,List.flatMap_nil,unitE,List.cons_append,List.nil_append,List.append_nil,List.mem_cons,List.not_mem_nil,or_false,ent] at hp
 rcases hp with rfl|rfl|rfl|rfl|rfl|rfl|rfl|rfl|rfl|rfl|rfl|rfl|rfl|rfl|rfl<;>exact ⟨_,rfl⟩
theorem sigI_none {x:Sig} (h:¬ ∃ p∈sigs,p.1=x):sigI x=0:=by
 unfold sigI sigF mget
 have:sigs.find? (fun p=>decide (p.1=x))=none:=by
  rw [List.find?_eq_none]
  intro p hp
  simpa using fun e=>h ⟨p,hp,e⟩
 rw [this]
def opsN:List Str:=[[110,101,120,116],[112,114,101,118]]
def opsE:List Str:=[[108,97,116,101,114],[101,97,114,108,105,101,114]]
theorem idx_mem {s:Str} {l:List Str}:0≤idx (isS s) l↔s∈l:=by
 unfold idx
 cases h:l.findIdx? (isS s) with
 | none =>
   rw [List.findIdx?_eq_none_iff] at h
   constructor
   intro h0
   simp at h0
   intro hm
   have:=h s hm
   simp at this
 | some i =>
   obtain ⟨hi,hp,_⟩:=List.findIdx?_eq_some_iff_getElem.1 h
   constructor
   intro _
   have:l[i]=s:=by simpa using hp
   rw [← this]
   exact List.getElem_mem _
   intro _
   simp
def callR (s:Str) (l:List Int):Int :=
 if 0≤idx (isS s) opsN∧areB l [3]=true then 3 else if 0≤idx (isS s) opsE∧areB l [3,3]=true then 3 else if s=[98,101,116,119,101,101,110]∧areB l [3,3]=true then 1 else 0
def combR (k n:Int) (s:Str) (ts:List Int):Int :=
 if ts=[] then leafN k n s else if ¬ n=0 then 0
 else if k=5 then (if s=[45]∧areB ts [1]=true∨s=[110,111,116]∧areB ts [2]=true then ts.getD 0 0 else 0)
 else if k=6 then binR s ts
 else if k=7∨k=8 then (if 0≤idx (isS s) units∧areB ts [3,1]=true then 3 else 0)
 else if k=9 then (if s=[]∧ts.length=3∧areB ts [2,ts.getD 1 0,ts.getD 1 0]=true then ts.getD 1 0 else 0)
 else if k=10 then callR s ts else 0
theorem areB_iff {l m:List Int}:areB l m=true↔l=m∧∀ x∈l,x≠0:=by simp [areB]
theorem areB_no {l m:List Int} (h:¬ (l=m∧∀ x∈l,x≠0)):areB l m=false:=by simp [areB];simpa using h
theorem combR_bad (k n:Int) (s:Str) (ts:List Int) (h0:¬ ts=[]) (hb:(0:Int)∈ts∨ts.length > 3):combR k n s ts=0:=by
 have hno:∀ m:List Int,m.length≤3→areB ts m=false:=fun m hm=>areB_no (fun ⟨h1,h2⟩=>by
  rcases hb with hb|hb
  exact h2 0 hb rfl
  rw [h1] at hb;omega)
 unfold combR binR callR
 simp only [hno _ (show [(1:Int)].length≤3 by decide),hno _ (show [(2:Int)].length≤3 by decide),hno _ (show [(3:Int)].length≤3 by decide),hno [1,1] (by decide),hno [3,3] (by decide),hno [2,2] (by decide),hno [3,1] (by decide),hno [2,ts.getD 1 0,ts.getD 1 0] (by simp),if_neg h0]
 simp
theorem binR_eq (s:Str) (a b:Int) (ha:a≠0) (hb:b≠0) (hr:1≤a∧a≤3) (hr2:1≤b∧b≤3):binR s [a,b]=binT s a b:=by
 unfold binR binT
 simp only [idx_mem,areB_iff]
 have e:∀ c d:Int,([a,b]=[c,d]∧∀ x∈[a,b],x≠0)↔(a=c∧b=d):=fun c d=>by simp [ha,hb]
 simp only [e]
 by_cases hA:s∈opsA
 have hC:¬ s∈opsC:=by
  simp only [opsA,List.mem_cons,List.not_mem_nil,or_false] at hA
  rcases hA with rfl|rfl|rfl<;>decide
 have hL:¬ s∈opsL:=by
  simp only [opsA,List.mem_cons,List.not_mem_nil,or_false] at hA
  rcases hA with rfl|rfl|rfl<;>decide
 simp only [hA,hC,hL,true_and,false_and,if_false,if_true]
 by_cases h1:a=1∧b=1
 rw [if_pos h1,if_pos ⟨by omega,by omega⟩]
 rw [if_neg h1,if_neg (fun h=>by omega)]
 simp only [hA,false_and,if_false]
 by_cases hC:s∈opsC
 have hL:¬ s∈opsL:=by
  simp only [opsC,List.mem_cons,List.not_mem_nil,or_false] at hC
  rcases hC with rfl|rfl|rfl|rfl|rfl|rfl<;>decide
 simp only [hC,hL,true_and,false_and,if_false,if_true]
 by_cases h1:a=1∧b=1∨a=3∧b=3
 rw [if_pos h1,if_pos ⟨by omega,by omega⟩]
 rw [if_neg h1,if_neg (fun h=>by omega)]
 simp only [hC,false_and,if_false]
 by_cases hL:s∈opsL
 simp only [hL,true_and,if_true]
 by_cases h1:a=2∧b=2
 rw [if_pos h1,if_pos ⟨by omega,by omega⟩]
 rw [if_neg h1,if_neg (fun h=>by omega)]
 simp only [hL,false_and,if_false]
def keysS:List Sig:=sigs.map (·.1)
def sigG (k:Int) (s:Str) (a b c:Int):Int :=
 if c=0 then
  if b=0 then (if k=5∧s=[45]∧a=1 then 1 else if k=5∧s=[110,111,116]∧a=2 then 2 else if k=10∧s∈opsN∧a=3 then 3 else 0)
  else if a=3∧b=3∧k=10∧s∈opsE then 3 else if a=3∧b=3∧k=10∧s=[98,101,116,119,101,101,110] then 1 else if a=3∧b=1∧(k=7∨k=8)∧s∈units then 3 else 0
 else 0
theorem keys_all:∀ x∈keysS,sigI x=sigG x.kind x.s x.a x.b x.c:=by
 intro x hx
 simp only [keysS,sigs,ents,units,List.map_cons,List.map_nil,List.flatMap_cons,List.flatMap_nil,unitE,List.cons_append,List.nil_append,List.append_nil,List.mem_cons,List.not_mem_nil,or_false,ent] at hx
 rcases hx with rfl|rfl|rfl|rfl|rfl|rfl|rfl|rfl|rfl|rfl|rfl|rfl|rfl|rfl|rfl<;>decide
theorem sigI_eq (k:Int) (s:Str) (a b c:Int):sigI ⟨k,s,a,b,c⟩=sigG k s a b c:=by
 by_cases hx:(⟨k,s,a,b,c⟩:Sig)∈keysS
 exact keys_all _ hx
 rw [sigI_none (fun ⟨p,hp,e⟩=>hx (e ▸ List.mem_map_of_mem hp))]
 unfold sigG
 symm
 split
 rename_i hc
 subst hc
 split
 rename_i hb
 subst hb
 split
 rename_i h;obtain ⟨rfl,rfl,rfl⟩:=h;exact absurd (by decide) hx
 split
 rename_i h;obtain ⟨rfl,rfl,rfl⟩:=h;exact absurd (by decide) hx
 split
 rename_i h
 obtain ⟨rfl,h,rfl⟩:=h
 simp only [opsN,List.mem_cons,List.not_mem_nil,or_false] at h
 rcases h with rfl|rfl<;>exact absurd (by decide) hx
 rfl
 split
 rename_i h
 obtain ⟨rfl,rfl,rfl,h⟩:=h
 simp only [opsE,List.mem_cons,List.not_mem_nil,or_false] at h
 rcases h with rfl|rfl<;>exact absurd (by decide) hx
 split
 rename_i h;obtain ⟨rfl,rfl,rfl,rfl⟩:=h;exact absurd (by decide) hx
 split
 rename_i h
 obtain ⟨rfl,rfl,h1,h⟩:=h
 simp only [units,List.mem_cons,List.not_mem_nil,or_false] at h
 rcases h1 with rfl|rfl<;>rcases h with rfl|rfl|rfl|rfl<;>exact absurd (by decide) hx
 rfl
 rfl
theorem areB1 {a x:Int} (ha:a≠0):areB [a] [x]=decide (a=x):=by simp [areB,ha]
theorem areB2 {a b x y:Int} (ha:a≠0) (hb:b≠0):areB [a,b] [x,y]=decide (a=x∧b=y):=by simp [areB,ha,hb]
theorem areB3 {a b c x y z:Int} (ha:a≠0) (hb:b≠0) (hc:c≠0):areB [a,b,c] [x,y,z]=decide (a=x∧b=y∧c=z):=by simp [areB,ha,hb,hc]
theorem areB_len {l m:List Int} (h:¬ l.length=m.length):areB l m=false:=areB_no (fun h'=>h (by rw [h'.1]))
theorem combR_eq (k n:Int) (s:Str) (ts:List Int) (hr:∀ t∈ts,0≤t∧t≤3):combR k n s ts=combT k n s ts:=by
 by_cases h0:ts=[]
 subst h0;simp [combR,combT]
 by_cases hb:(0:Int)∈ts∨ts.length > 3
 rw [combR_bad k n s ts h0 hb]
 unfold combT
 rcases hb with hb|hb
 simp [hb]
 simp [show ts.length > 3 from hb]
 have hz:¬ (0:Int)∈ts:=fun h=>hb (.inl h)
 have hl:¬ ts.length > 3:=fun h=>hb (.inr h)
 unfold combR combT
 rw [if_neg h0,if_neg hl,if_neg hz,if_neg h0]
 by_cases hn:¬ n=0
 rw [if_pos hn,if_pos hn]
 rw [if_neg hn,if_neg hn]
 match ts,h0,hl with
 | [a], _, _ =>
   have ha:a≠0:=fun e=>hz (by simp [e])
   have hra:=hr a (by simp)
   simp only [List.getD_cons_zero,List.getD_cons_succ,List.getD_nil,sigI_eq,callR,binR,idx_mem,areB1 ha,areB_len (show ¬ [a].length=[(1:Int),1].length by simp),areB_len (show ¬ [a].length=[(3:Int),3].length by simp),areB_len (show ¬ [a].length=[(2:Int),2].length by simp),areB_len (show ¬ [a].length=[(3:Int),1].length by simp),decide_eq_true_eq]
   have hb0:binT s a 0=0:=by
    unfold binT
    have h1:¬ (a=0∧a=1):=fun h=>ha h.1
    have h2:¬ (a=0∧¬ a=2):=fun h=>ha h.1
    have h3:¬ (a=0∧a=2):=fun h=>ha h.1
    simp only [if_neg h1,if_neg h2,if_neg h3,ite_self]
   simp only [hb0,sigG,List.length_cons,List.length_nil,Bool.false_eq_true,and_false,or_self,if_false]
   grind (splits:=40)
 | [a, b], _, _ =>
   have ha:a≠0:=fun e=>hz (by simp [e])
   have hb:b≠0:=fun e=>hz (by simp [e])
   have hra:=hr a (by simp)
   have hrb:=hr b (by simp)
   simp only [List.getD_cons_zero,List.getD_cons_succ,List.getD_nil,sigI_eq,callR,binR_eq s a b ha hb (by omega) (by omega),idx_mem,areB2 ha hb,areB_len (show ¬ [a,b].length=[(1:Int)].length by simp),areB_len (show ¬ [a,b].length=[(2:Int)].length by simp),areB_len (show ¬ [a,b].length=[(3:Int)].length by simp),decide_eq_true_eq]
   simp only [sigG,List.length_cons,List.length_nil,Bool.false_eq_true,and_false,or_self,if_false]
   grind (splits:=40)
 | [a, b, c], _, _ =>
   have ha:a≠0:=fun e=>hz (by simp [e])
   have hb:b≠0:=fun e=>hz (by simp [e])
   have hc:c≠0:=fun e=>hz (by simp [e])
   have hra:=hr a (by simp)
   have hrb:=hr b (by simp)
   have hrc:=hr c (by simp)
   simp only [List.getD_cons_zero,List.getD_cons_succ,sigI_eq,callR,binR,idx_mem,areB3 ha hb hc,areB_len (show ¬ [a,b,c].length=[(1:Int)].length by simp),areB_len (show ¬ [a,b,c].length=[(2:Int)].length by simp),areB_len (show ¬ [a,b,c].length=[(3:Int)].length by simp),areB_len (show ¬ [a,b,c].length=[(1:Int),1].length by simp),areB_len (show ¬ [a,b,c].length=[(3:Int),3].length by simp),areB_len (show ¬ [a,b,c].length=[(2:Int),2].length by simp),areB_len (show ¬ [a,b,c].length=[(3:Int),1].length by simp),decide_eq_true_eq]
   simp only [sigG,List.length_cons,List.length_nil,Bool.false_eq_true,and_false,or_self,if_false]
   grind (splits:=40)
 | _ :: _ :: _ :: _ :: _,_,hl=>exact absurd (by simp) hl
theorem leafN_range (k n:Int) (s:Str):0≤leafN k n s∧leafN k n s≤3:=by
 have h:0≤(fieldF s).2.1∧(fieldF s).2.1≤3:=by
  unfold fieldF
  dsimp only
  split
  simp
  split<;>simp
 unfold leafN
 grind
theorem combT_range (k n:Int) (s:Str) (ts:List Int) (hr:∀ t∈ts,0≤t∧t≤3):0≤combT k n s ts∧combT k n s ts≤3:=by
 unfold combT
 split
 omega
 split
 omega
 split
 exact leafN_range _ _ _
 split
 omega
 have hg:∀ i,0≤ts.getD i 0∧ts.getD i 0≤3:=by
  intro i
  by_cases hi:i<ts.length
  have:=hr ts[i] (List.getElem_mem hi)
  simpa [List.getD,hi] using this
  simp [List.getD,List.getElem?_eq_none (Nat.le_of_not_lt hi)]
 split
 exact hg 1
 split
 unfold binT
 split
 split<;>omega
 split
 split<;>omega
 split
 split<;>omega
 omega
 rw [sigI_eq]
 unfold sigG
 grind
theorem typeT_range (x:Nd):0≤typeT x∧typeT x≤3:=by
 induction x using Nd.ind with
 | h k n s l ih =>
 rw [typeT_eq]
 refine combT_range _ _ _ _ (fun t ht=>?_)
 obtain ⟨y,hy,rfl⟩:=List.mem_map.1 ht
 exact ih y hy
theorem typeT_R (x:Nd):typeT x=combR x.kind x.num x.word (x.kids.map typeT):=by
 rw [typeT_eq,combR_eq]
 intro t ht
 obtain ⟨y,hy,rfl⟩:=List.mem_map.1 ht
 exact typeT_range y
def nestN:Nd→Nat
 | .mk k n s l=>1+(l.map nestN).foldl max 0
theorem nestN_eq (x:Nd):nestN x=1+(x.kids.map nestN).foldl max 0:=by
 cases x
 rw [nestN]
 rfl
theorem foldl_max_le (l:List Nat):∀ (m b:Nat),l.foldl max m≤b↔m≤b∧∀ x∈l,x≤b:=by
 induction l with
 | nil=>intro m b;simp
 | cons y r ih =>
   intro m b
   rw [List.foldl_cons,ih]
   simp only [List.mem_cons,forall_eq_or_imp]
   constructor
   rintro ⟨h1,h2⟩
   exact ⟨by omega,by omega,h2⟩
   rintro ⟨h1,h2,h3⟩
   exact ⟨by omega,h3⟩
theorem nestedN_eq (m:Nat):∀ x:Nd,nestedN m x=decide (nestN x≤m):=by
 induction m with
 | zero =>
   intro x
   rw [nestN_eq]
   simp [nestedN]
 | succ m ih =>
   intro x
   rw [nestN_eq]
   have e:(1+(x.kids.map nestN).foldl max 0≤m+1)↔∀ y∈x.kids,nestN y≤m:=by
    rw [show (1+(x.kids.map nestN).foldl max 0≤m+1)↔(x.kids.map nestN).foldl max 0≤m by omega,foldl_max_le]
    simp
   rw [Bool.eq_iff_iff,decide_eq_true_iff,e]
   simp only [nestedN,List.all_eq_true]
   exact ⟨fun h y hy=>by have:=h y hy;rw [ih] at this;simpa using this,fun h y hy=>by rw [ih];simpa using h y hy⟩
theorem nest_kid {x y:Nd} (h:y∈x.kids):nestN y<nestN x:=by
 rw [nestN_eq x]
 have:=(foldl_max_le (x.kids.map nestN) 0 ((x.kids.map nestN).foldl max 0)).1 (Nat.le_refl _)
 have:=this.2 (nestN y) (List.mem_map_of_mem h)
 omega
theorem Of_any (X XF:List Nat) (v:Value) (x:Nd) (w:World) (hx:NdV X w v x) (hF:SlV XF w flds fieldNames) :
 Calls Tryz.prog 38 #[v] w (Ret fun r w'=>r=.tuple #[.int .i64 (if nestN x≤12 then typeT x else 0),.int .i64 (if nestN x≤12 then (if typeT x=0 then 21 else 0) else 2)]∧Stp [] w w'):=by
 obtain ⟨kv,rfl,hs⟩:=hx
 refine calls_of_WC1 (n:=13) Tryz.func38 rfl rfl rfl ?_
 refine W ?_
 refine WL_eff (OE_box rfl) rfl ?_
 rintro _ w1 ⟨b,rfl,hbb,hblk,hS⟩
 replace hblk:Blk w1 b _ (ndC x kv):=hblk
 replace hs:=hs.up hS;replace hF:=hF.up hS
 refine W ?_
 refine CL rfl (evs2 rfl rfl) rfl (nested_any 12 X _ x 12 _ rfl (by omega) ⟨kv,rfl,hs⟩) ?_
 rintro _ w2 ⟨rfl,hS2⟩
 replace hs:=hs.up hS2;replace hF:=hF.up hS2;replace hblk:=hblk.up hS2
 replace hS:=hS.trans hS2
 rw [nestedN_eq]
 by_cases hn:nestN x≤12
 rw [decide_eq_true hn,if_pos hn,if_pos hn]
 refine W ?_
 refine CL rfl (evs1 rfl) rfl (of_any x X XF _ _ ⟨kv,rfl,hs⟩ hF) ?_
 rintro _ w3 ⟨rfl,hS3⟩
 replace hS:=hS.trans hS3
 focus repeat' (first|refine W1 ?_|omega|(refine VG ?_ ?_<;>intro hg)|(refine VC ?_ ?_<;>intro hc))
 refine WR ?_
 exact .mk ⟨by rw [if_neg hc],hS⟩
 refine WR ?_
 have h0:typeT x=0:=by omega
 exact .mk ⟨by rw [if_pos h0,h0],hS⟩
 rw [decide_eq_false hn,if_neg hn,if_neg hn]
 refine W ?_
 refine WR ?_
 exact .mk ⟨rfl,hS⟩
def sizeN:Nd→Nat
 | .mk k n s l=>1+(l.map sizeN).sum
theorem sizeN_eq (x:Nd):sizeN x=1+(x.kids.map sizeN).sum:=by
 cases x
 rw [sizeN]
 rfl
theorem typed_kids {x:Nd} (h:typeT x≠0):x.kids.length≤3∧∀ y∈x.kids,typeT y≠0:=by
 rw [typeT_eq] at h
 unfold combT at h
 refine ⟨?_,fun y hy e=>?_⟩
 by_cases hl:(x.kids.map typeT).length > 3
 rw [if_pos hl] at h;exact absurd rfl h
 simpa using hl
 by_cases hl:(x.kids.map typeT).length > 3
 rw [if_pos hl] at h;exact absurd rfl h
 rw [if_neg hl,if_pos (by rw [← e];exact List.mem_map_of_mem hy)] at h
 exact absurd rfl h
def opsF:List Str:=[[110,101,120,116],[112,114,101,118],[108,97,116,101,114],[101,97,114,108,105,101,114],[98,101,116,119,101,101,110]]
inductive Shape (k:Int) (s:Str) (m:Nat):Prop
 | neg (h:k=5) (hs:s=[45]∨s=[110,111,116]) (hm:m=1)
 | bin (h:k=6) (hs:s∈opsA∨s∈opsC∨s∈opsL) (hm:m=2)
 | unit (h:k=7∨k=8) (hs:s∈units) (hm:m=2)
 | cond (h:k=9) (hm:m=3)
 | call (h:k=10) (hs:s∈opsF) (hm:1≤m∧m≤2)
theorem typed_shape {x:Nd} (h:typeT x≠0) (hk:x.kids≠[]):x.num=0∧Shape x.kind x.word x.kids.length:=by
 have hl:=(typed_kids h).1
 rw [typeT_R] at h
 have hlen:(x.kids.map typeT).length=x.kids.length:=by simp
 have hne:¬ x.kids.map typeT=[]:=by simpa using hk
 generalize x.kids.map typeT=ts at *
 rw [← hlen]
 unfold combR at h
 rw [if_neg hne] at h
 have hn:x.num=0:=Decidable.byContradiction (fun hn=>by rw [if_pos hn] at h;exact absurd rfl h)
 refine ⟨hn,?_⟩
 rw [if_neg (by simpa using hn)] at h
 have hlm:∀ m:List Int,areB ts m=true→ts.length=m.length:=fun m hm=>by rw [(areB_iff.1 hm).1]
 by_cases k5:x.kind=5
 rw [if_pos k5] at h
 split at h
 rename_i hh
 rcases hh with ⟨h1,h2⟩|⟨h1,h2⟩
 exact .neg k5 (.inl h1) (hlm _ h2)
 exact .neg k5 (.inr h1) (hlm _ h2)
 exact absurd rfl h
 rw [if_neg k5] at h
 by_cases k6:x.kind=6
 rw [if_pos k6] at h
 unfold binR at h
 simp only [idx_mem] at h
 split at h
 rename_i hh;exact .bin k6 (.inl hh.1) (hlm _ hh.2)
 split at h
 rename_i hh
 rcases hh.2 with h2|h2
 exact .bin k6 (.inr (.inl hh.1)) (hlm _ h2)
 exact .bin k6 (.inr (.inl hh.1)) (hlm _ h2)
 split at h
 rename_i hh;exact .bin k6 (.inr (.inr hh.1)) (hlm _ hh.2)
 exact absurd rfl h
 rw [if_neg k6] at h
 by_cases k78:x.kind=7∨x.kind=8
 rw [if_pos k78] at h
 simp only [idx_mem] at h
 split at h
 rename_i hh;exact .unit k78 hh.1 (hlm _ hh.2)
 exact absurd rfl h
 rw [if_neg k78] at h
 by_cases k9:x.kind=9
 rw [if_pos k9] at h
 split at h
 rename_i hh;exact .cond k9 hh.2.1
 exact absurd rfl h
 rw [if_neg k9] at h
 by_cases k10:x.kind=10
 rw [if_pos k10] at h
 unfold callR at h
 simp only [idx_mem] at h
 split at h
 rename_i hh
 refine .call k10 ?_ (by have:=hlm _ hh.2;simp at this;omega)
 have:=hh.1
 simp only [opsN,opsF,List.mem_cons,List.not_mem_nil,or_false] at this ⊢
 rcases this with h|h<;>simp [h]
 split at h
 rename_i hh
 refine .call k10 ?_ (by have:=hlm _ hh.2;simp at this;omega)
 have:=hh.1
 simp only [opsE,opsF,List.mem_cons,List.not_mem_nil,or_false] at this ⊢
 rcases this with h|h<;>simp [h]
 split at h
 rename_i hh
 refine .call k10 ?_ (by have:=hlm _ hh.2;simp at this;omega)
 simp [opsF,hh.1]
 exact absurd rfl h
 rw [if_neg k10] at h
 exact absurd rfl h
theorem typed_leaf {x:Nd} (h:typeT x≠0) (hk:x.kids=[]):1≤x.kind∧x.kind≤4:=by
 rw [typeT_eq,hk] at h
 simp [combT] at h
 unfold leafN at h
 grind
end Go.Proofs.YtjdjdoefppebkaaGreatDoor
namespace Go.Eng
open Go
structure Ins where
 op:Int
 n:Int
 deriving DecidableEq,Inhabited
instance:Flat Ins where
 k:=2
 enc:=fun x=>[.int .i64 x.op,.int .i64 x.n]
 len:=fun _=>rfl
 one:=by intro x u hu;simp at hu;rcases hu with rfl|rfl<;>rfl
def agg {α:Type} [Flat α] (x:α):Value:=.agg (Flat.enc x).toArray
theorem Row.keep {β:Type} [Flat β] {X S:List Nat} {w w':World} {base T:Nat} {v:Value} {xs:List β} (h:Row X w base T v xs) (hS:Stp S w w') (hd:∀ b∈S,b∉ob v):Row X w' base T v xs:=by
 have h':Row S w base T v xs:=h
 have:=h'.ext (X':=X) hS (fun b hb=>⟨hb,hd b hb⟩)
 obtain ⟨css,h1,h2,h3⟩:=h
 refine ⟨css,h1,h2,?_⟩
 have h4:Row S w base T v xs:=⟨css,h1,h2,h3⟩
 obtain ⟨ho,hr⟩:=h3
 refine ⟨ho,?_⟩
 rcases hr with hn|⟨q,cap,cur,rfl,hb,hg,rest⟩
 exact .inl hn
 refine .inr ⟨q,cap,cur,rfl,hb,?_,rest⟩
 rw [hS.block q (Array.getElem?_eq_some_iff.1 hg).1 (fun hq=>hd q hq (by simp [ob]))]
 exact hg
end Go.Eng
namespace Go.Proofs.YtjdjdoefppebkaaGreatDoor
open Go Go.Eng Go.RowKit
theorem buildI (a b:Int) (w:World):(Instr.build 51 #[(0,.int .i64 a),(1,.int .i64 b)]).run Tryz.prog w=.ok (agg (Ins.mk a b)) w:=by kernel_rfl
theorem buildSI (d:Ins) (w:World):(Instr.buildSlice 40 1 #[(0,agg d)]).run Tryz.prog w=.ok (.slice (some ⟨w.heap.size,0,none⟩) 1 1) (w.alloc (.cells (Flat.enc d).toArray 51)):=by kernel_rfl
structure Cod (w:World) (bc base:Nat) (v:Value) (xs:List Ins):Prop where
 blk:Blk w bc 156 [v]
 row:Row [] w base 51 v xs
 apart:bc∉ob v
 low:bc<base
 top:base≤w.heap.size
def Cods (w:World) (bc base:Nat) (v:Value) (ys:List Ins) (w':World):Prop :=
 ∃ v',Cod w' bc base v' ys∧Stp (bc :: ob v) w w'∧∀ b∈ob v',b∈ob v∨w.heap.size≤b
theorem Cod.up {w w':World} {bc base:Nat} {v:Value} {xs:List Ins} (h:Cod w bc base v xs) (hS:Stp [] w w'):Cod w' bc base v xs :=
 ⟨h.blk.up hS,h.row.up hS,h.apart,h.low,Nat.le_trans h.top hS.size⟩
theorem Cods.pre {w0 w w':World} {bc base:Nat} {v:Value} {ys:List Ins} (hS:Stp [] w0 w) (h:Cods w bc base v ys w'):Cods w0 bc base v ys w':=by
 obtain ⟨v',h1,h2,h3⟩:=h
 exact ⟨v',h1,(hS.mono (by simp)).trans h2,fun b hb=>(h3 b hb).imp id (fun h=>Nat.le_trans hS.size h)⟩
theorem Cods.next {w w1 w2:World} {bc base:Nat} {v v1:Value} {zs:List Ins} (hS:Stp (bc :: ob v) w w1) (hb:∀ b∈ob v1,b∈ob v∨w.heap.size≤b) (h:Cods w1 bc base v1 zs w2):Cods w bc base v zs w2:=by
 obtain ⟨v',h1,h2,h3⟩:=h
 refine ⟨v',h1,?_,fun b hb'=>?_⟩
 exact hS.own h2 (fun b hb'=>by
  rcases List.mem_cons.1 hb' with rfl|h
  exact .inl (by simp)
  exact (hb b h).imp (fun h=>List.mem_cons_of_mem _ h) id)
 rcases h3 b hb' with h|h
 exact hb b h
 exact .inr (Nat.le_trans hS.size h)
theorem keepX {w w':World} {bc:Nat} {v v':Value} {α:Type} [GoRep α] {u:Value} {xs:List α} (h:SlV (bc :: ob v) w u xs) (hS:Stp (bc :: ob v) w w') (hb:∀ b∈ob v',b∈ob v∨w.heap.size≤b):SlV (bc :: ob v') w' u xs :=
 h.ext hS (fun _ h=>h) (fun b hb'=>by
  rcases List.mem_cons.1 hb' with rfl|h
  exact .inl (by simp)
  exact (hb b h).imp (fun h=>List.mem_cons_of_mem _ h) id)
theorem put_any (bc base:Nat) (v:Value) (xs:List Ins) (op n:Int) (w:World) (hc:Cod w bc base v xs) (hl:xs.length≤1000000) :
 Calls Tryz.prog 77 #[.pointer (some ⟨bc,0,none⟩),.int .i64 op,.int .i64 n] w (Ret fun r w'=>r=.int .i64 (xs.length:Int)∧Cods w bc base v (xs++[⟨op,n⟩]) w'):=by
 obtain ⟨hblk,hrow,hap,hlow,htop⟩:=hc
 refine calls_of_WC3 (n:=25) Tryz.func77 rfl rfl rfl ?_
 refine W ?_
 apply WL_build (vs:=[(0,.int .i64 op),(1,.int .i64 n)]) rfl (buildI _ _) rfl
 refine WL_eff (OE_buildSlice (vs:=[(0,agg (Ins.mk op n))]) rfl (buildSI _)) rfl ?_
 rintro bv w1 hN
 have hbv:SlV (ob v++[]) w1 bv [Ins.mk op n]:=hN.slv (fun b hb=>(hrow.ob_le b (by simpa using hb)).2) rfl rfl (by simp [maxLen])
 have hS1:=NewSl.stp hN
 clear hN
 have hrow1:=hrow.up hS1
 have hblk1:=hblk.up hS1
 have h1:=hS1.size
 refine WL_eff (OE_append (X:=[]) (base:=base) rfl (by decide) rfl rfl hrow1 hbv (by simp only [List.length_cons,List.length_nil];omega) (by simp only [List.length_cons,List.length_nil,maxLen];omega) (by omega)) rfl ?_
 rintro v' w2 ⟨hrow2,hS2,hob⟩
 have hblk2:=hblk1.ext hS2 hap
 have hbl:=hblk1.lt
 refine W ?_
 refine WL_eff0 (OE_store1 (u:=v') rfl rfl hrow2.slv0.cells hrow2.slv0.one hblk2 (by simp)) ?_
 rintro _ w3 ⟨hS3,hblk3⟩
 replace hblk3:Blk w3 bc 156 [v']:=hblk3
 have hap':bc∉ob v':=fun hb=>by
  rcases hob bc hb with h|h
  exact hap h
  omega
 have hrow3:=hrow2.keep hS3 (fun b hb=>by simp at hb;subst hb;exact hap')
 have hs3:=hrow3.slv0
 have hll:(xs++[Ins.mk op n]).length≤1000001:=by simp only [List.length_append,List.length_cons,List.length_nil];omega
 refine W ?_
 refine WR ?_
 refine .mk ⟨?_,v',⟨hblk3,hrow3,hap',hlow,?_⟩,?_,?_⟩
 simp only [List.length_append,List.length_cons,List.length_nil]
 congr 1
 omega
 exact Nat.le_trans htop (Nat.le_trans h1 (Nat.le_trans hS2.size hS3.size))
 exact ((hS1.mono (by simp)).trans (hS2.mono (fun x hx=>by simp [hx]))).trans (hS3.mono (fun x hx=>by simp at hx;simp [hx]))
 intro b hb
 rcases hob b hb with h|h
 exact .inl h
 exact .inr (by omega)
theorem here_any (bc base:Nat) (v:Value) (xs:List Ins) (k:Nat) (w:World) (hc:Cod w bc base v xs) (hk:k<xs.length) (hl:xs.length≤1000000) :
 Calls Tryz.prog 227 #[.pointer (some ⟨bc,0,none⟩),.int .i64 (k:Int)] w (Ret fun r w'=>Cods w bc base v (xs.set k ⟨xs[k].op,(xs.length:Int)⟩) w'):=by
 obtain ⟨hblk,hrow,hap,hlow,htop⟩:=hc
 refine calls_of_WC2 (n:=16) Tryz.func227 rfl rfl rfl ?_
 refine W ?_
 refine WC_drawn 13 [] [12] [(0,0),(1,0),(2,0),(3,1),(4,0),(5,0),(6,0),(7,0),(8,1),(9,0),(10,0),(11,0),(12,2)] rfl mixed (by kernel_rfl) (by kernel_rfl) (by kernel_rfl) (fun w1 hS1=>?_)
 replace hblk:=hblk.up hS1
 replace hrow:=hrow.up hS1
 have hs:=hrow.slv0
 have hsz:=hS1.size
 refine D ?_
 refine WD_late0 rfl trivial (OE_storeF (β:=Ins) (i:=k) (y':=⟨xs[k].op,(xs.length:Int)⟩) rfl rfl rfl rfl rfl hrow hk (by decide) rfl) rfl ?_
 rintro _ w2 ⟨hrow2,hS2⟩
 refine D ?_
 refine W ?_
 refine WR ?_
 refine .mk ⟨v,⟨hblk.ext hS2 hap,hrow2,hap,hlow,by have:=hS2.size;omega⟩,?_,fun b hb=>.inl hb⟩
 exact (hS1.mono (by simp)).trans (hS2.mono (fun x hx=>by simp [hx]))
structure Fr (w0 w:World) (bc base:Nat) (v0 v:Value) (xs:List Ins):Prop where
 cod:Cod w bc base v xs
 stp:Stp (bc :: ob v0) w0 w
 sub:∀ b∈ob v,b∈ob v0∨w0.heap.size≤b
theorem Fr.start {w:World} {bc base:Nat} {v:Value} {xs:List Ins} (h:Cod w bc base v xs):Fr w w bc base v v xs:=⟨h,Stp.refl _ _,fun b hb=>.inl hb⟩
theorem Fr.step {w0 w w':World} {bc base:Nat} {v0 v:Value} {xs ys:List Ins} (h:Fr w0 w bc base v0 v xs) (k:Cods w bc base v ys w'):∃ v',Fr w0 w' bc base v0 v' ys:=by
 obtain ⟨v',h1,h2,h3⟩:=Cods.next h.stp h.sub k
 exact ⟨v',h1,h2,h3⟩
theorem Fr.up {w0 w w':World} {bc base:Nat} {v0 v:Value} {xs:List Ins} (h:Fr w0 w bc base v0 v xs) (hS:Stp [] w w'):Fr w0 w' bc base v0 v xs:=⟨h.cod.up hS,h.stp.trans (hS.mono (by simp)),h.sub⟩
theorem Fr.fin {w0 w:World} {bc base:Nat} {v0 v:Value} {xs:List Ins} (h:Fr w0 w bc base v0 v xs):Cods w0 bc base v0 xs w:=⟨v,h.cod,h.stp,h.sub⟩
theorem Fr.sl {w0 w:World} {bc base:Nat} {v0 v:Value} {xs:List Ins} {α:Type} [GoRep α] {u:Value} {ys:List α} (h:Fr w0 w bc base v0 v xs) (hs:SlV (bc :: ob v0) w0 u ys):SlV (bc :: ob v) w u ys:=keepX hs h.stp h.sub
theorem Fr.bk {w0 w:World} {bc base b T:Nat} {v0 v:Value} {xs:List Ins} {cs:List Value} (h:Fr w0 w bc base v0 v xs) (hb:Blk w0 b T cs) (hn:b∉bc :: ob v0):Blk w b T cs:=hb.ext h.stp hn
abbrev Cf:=Nat→List Ins
def chC (c y n:Cf) (p0:Nat):List Ins :=
 c p0 ++ [⟨14, ((p0 + (c p0).length + 1 + (y (p0 + (c p0).length + 1)).length + 1 : Nat) : Int)⟩] ++ y (p0 + (c p0).length + 1) ++
   [⟨13,((p0+(c p0).length+1+(y (p0+(c p0).length+1)).length+1+(n (p0+(c p0).length+1+(y (p0+(c p0).length+1)).length+1)).length:Nat):Int)⟩]++n (p0+(c p0).length+1+(y (p0+(c p0).length+1)).length+1)
def ExprOk (x:Nd) (f:Cf):Prop:=∀ (w:World) (bc base:Nat) (v nv:Value) (xs:List Ins),Cod w bc base v xs→NdV (bc :: ob v) w nv x→SlV (bc :: ob v) w flds fieldNames→xs.length+(f xs.length).length≤100000 →
 Calls Tryz.prog 76 #[.pointer (some ⟨bc,0,none⟩),nv] w (Ret fun r w'=>Cods w bc base v (xs++f xs.length) w')
theorem choice_any {x y n:Nd} {f g h:Cf} (hx:ExprOk x f) (hy:ExprOk y g) (hn:ExprOk n h) (w:World) (bc base:Nat) (v xv yv nv:Value) (xs:List Ins) (hc:Cod w bc base v xs)
 (gx:NdV (bc :: ob v) w xv x) (gy:NdV (bc :: ob v) w yv y) (gn:NdV (bc :: ob v) w nv n) (hF:SlV (bc :: ob v) w flds fieldNames) (hl:xs.length+(chC f g h xs.length).length≤100000) :
 Calls Tryz.prog 137 #[.pointer (some ⟨bc,0,none⟩),xv,yv,nv] w (Ret fun r w'=>Cods w bc base v (xs++chC f g h xs.length) w'):=by
 have hl':=hl
 unfold chC at hl'
 simp only [List.length_append,List.length_cons,List.length_nil] at hl'
 obtain ⟨xk,rfl,sx⟩:=gx
 obtain ⟨yk,rfl,sy⟩:=gy
 obtain ⟨nk,rfl,sn⟩:=gn
 refine calls_of_WC4 (n:=29) Tryz.func137 rfl rfl rfl ?_
 refine W ?_
 refine WL_eff (OE_box rfl) rfl ?_
 rintro _ w1 ⟨b1,rfl,hb1,k1,hS1⟩
 replace k1:Blk w1 b1 _ (ndC x xk):=k1
 refine WL_eff (OE_box rfl) rfl ?_
 rintro _ w2 ⟨b2,rfl,hb2,k2,hS2⟩
 replace k2:Blk w2 b2 _ (ndC y yk):=k2
 refine WL_eff (OE_box rfl) rfl ?_
 rintro _ w3 ⟨b3,rfl,hb3,k3,hS3⟩
 replace k3:Blk w3 b3 _ (ndC n nk):=k3
 have hS:=(hS1.trans hS2).trans hS3
 have l1:=k1.lt
 have l2:=k2.lt
 have l3:=k3.lt
 replace k1:=(k1.up hS2).up hS3
 replace k2:=k2.up hS3
 have hobv:∀ b∈bc :: ob v,b<w.heap.size:=fun b hb=>by
  rcases List.mem_cons.1 hb with rfl|h
  exact hc.blk.lt
  exact (hc.row.ob_le b h).2
 have n1:b1∉bc :: ob v:=fun h=>by have:=hobv _ h;omega
 have n2:b2∉bc :: ob v:=fun h=>by have:=hobv _ h;omega
 have n3:b3∉bc :: ob v:=fun h=>by have:=hobv _ h;omega
 replace hc:=hc.up hS
 replace sx:=sx.up hS
 replace sy:=sy.up hS
 replace sn:=sn.up hS
 replace hF:=hF.up hS
 have l1:=k1.lt
 have l2:=k2.lt
 have l3:=k3.lt
 have main:∀ ys w',Cods w3 bc base v ys w'→Cods w bc base v ys w':=fun ys w' h=>h.pre hS
 refine W ?_
 have fr:=Fr.start hc
 refine CL rfl (evs2 rfl rfl) rfl (hx _ bc base _ _ _ fr.cod ⟨xk,rfl,fr.sl sx⟩ (fr.sl hF) (by omega)) ?_
 rintro _ w4 hq
 obtain ⟨v4,fr⟩:=fr.step hq
 refine W ?_
 refine CL rfl (evs3 rfl rfl rfl) rfl (put_any bc base _ _ 14 0 _ fr.cod (by simp only [List.length_append];omega)) ?_
 rintro _ w5 ⟨rfl,hq⟩
 obtain ⟨v5,fr⟩:=fr.step hq
 have q2:=fr.bk k2 n2
 refine W ?_
 have e1:(xs++f xs.length++[(⟨14,0⟩:Ins)]).length=xs.length+(f xs.length).length+1:=by simp only [List.length_append,List.length_cons,List.length_nil]
 refine CL rfl (evs2 rfl rfl) rfl (hy _ bc base _ _ _ fr.cod ⟨yk,rfl,fr.sl sy⟩ (fr.sl hF) (by rw [e1];omega)) ?_
 rintro _ w6 hq
 obtain ⟨v6,fr⟩:=fr.step hq
 rw [e1] at fr
 refine W ?_
 refine CL rfl (evs3 rfl rfl rfl) rfl (put_any bc base _ _ 13 0 _ fr.cod (by simp only [List.length_append,List.length_cons,List.length_nil];omega)) ?_
 rintro _ w7 ⟨rfl,hq⟩
 obtain ⟨v7,fr⟩:=fr.step hq
 refine W ?_
 have hch:=chC.eq_1 f g h xs.length
 generalize hA:f xs.length=A at *
 generalize hp:xs.length+A.length+1=p at *
 generalize hB:g p=B at *
 generalize hqq:p+B.length+1=q at *
 generalize hD:h q=D at *
 have e2:((xs++A).length:Int)=((xs.length+A.length:Nat):Int):=by simp only [List.length_append]
 rw [e2]
 refine CL rfl (evs2 rfl rfl) rfl (here_any bc base _ _ (xs.length+A.length) _ fr.cod (by simp only [List.length_append,List.length_cons,List.length_nil];omega) (by simp only [List.length_append,List.length_cons,List.length_nil];omega)) ?_
 rintro _ w8 hq
 obtain ⟨v8,fr⟩:=fr.step hq
 have e3:∀ (l:List Ins) (h:xs.length+A.length<l.length),l=xs++A++[⟨14,0⟩]++B++[⟨13,0⟩]→l.set (xs.length+A.length) ⟨l[xs.length+A.length].op,(l.length:Int)⟩=xs++A++[⟨14,(q:Int)⟩]++B++[⟨13,0⟩]:=by
  intro l h hl
  have hop:l[xs.length+A.length].op=14:=by
   have:l[xs.length+A.length]?=some ⟨14,0⟩:=by
    rw [hl]
    simp
   rw [List.getElem?_eq_getElem h] at this
   rw [Option.some.inj this]
  have hlen:(l.length:Int)=(q:Int):=by
   rw [hl]
   simp only [List.length_append,List.length_cons,List.length_nil]
   omega
  rw [hop,hlen,hl]
  simp
 rw [e3 _ _ rfl] at fr
 have q3:=fr.bk k3 n3
 refine W ?_
 have e4:(xs++A++[(⟨14,(q:Int)⟩:Ins)]++B++[(⟨13,0⟩:Ins)]).length=q:=by simp only [List.length_append,List.length_cons,List.length_nil];omega
 refine CL rfl (evs2 rfl rfl) rfl (hn _ bc base _ _ _ fr.cod ⟨nk,rfl,fr.sl sn⟩ (fr.sl hF) (by rw [e4,hD];omega)) ?_
 rintro _ w9 hq
 obtain ⟨v9,fr⟩:=fr.step hq
 rw [e4,hD] at fr
 refine W ?_
 have e5:((xs++A++[(⟨14,0⟩:Ins)]++B).length:Int)=((p+B.length:Nat):Int):=by simp only [List.length_append,List.length_cons,List.length_nil];omega
 rw [e5]
 refine CL rfl (evs2 rfl rfl) rfl (here_any bc base _ _ (p+B.length) _ fr.cod (by simp only [List.length_append,List.length_cons,List.length_nil];omega) (by simp only [List.length_append,List.length_cons,List.length_nil];omega)) ?_
 rintro _ w10 hq
 obtain ⟨v10,fr⟩:=fr.step hq
 rw [hch]
 have e6:∀ (l:List Ins) (hl:p+B.length<l.length),l=xs++A++[⟨14,(q:Int)⟩]++B++[⟨13,0⟩]++D→l.set (p+B.length) ⟨l[p+B.length].op,(l.length:Int)⟩=xs++(A++[⟨14,(q:Int)⟩]++B++[⟨13,((q+D.length:Nat):Int)⟩]++D):=by
  intro l h hl
  have e7:(xs++A++[(⟨14,(q:Int)⟩:Ins)]++B).length=p+B.length:=by simp only [List.length_append,List.length_cons,List.length_nil];omega
  have hl2:l=(xs++A++[⟨14,(q:Int)⟩]++B)++⟨13,0⟩ :: D:=by rw [hl];simp
  have hop:l[p+B.length].op=13:=by
   have:l[p+B.length]?=some ⟨13,0⟩:=by
    rw [hl2,List.getElem?_append_right (by omega),e7]
    simp
   rw [List.getElem?_eq_getElem h] at this
   rw [Option.some.inj this]
  have hlen:(l.length:Int)=((q+D.length:Nat):Int):=by
   rw [hl2,List.length_append,e7]
   simp only [List.length_cons]
   omega
  rw [hop,hlen,hl2,List.set_append_right _ _ (by omega),e7]
  simp
 rw [e6 _ _ rfl] at fr
 refine W ?_
 refine WR ?_
 exact .mk (main _ _ fr.fin)
def MapS (X:List Nat) (w:World) (r:Nat) (es:List (Str×List Int)):Prop :=
 ∃ l:List (Str×Value),MapAt str w r l∧l.length=es.length∧∀ i (h:i<l.length) (h':i<es.length),l[i].1=es[i].1∧SlV (r :: X) w l[i].2 es[i].2
theorem MapS.up {X:List Nat} {w w':World} {r:Nat} {es:List (Str×List Int)} (h:MapS X w r es) (hS:Stp [] w w'):MapS X w' r es:=by
 obtain ⟨l,h1,h2,h3⟩:=h
 exact ⟨l,h1.up hS,h2,fun i h h'=>⟨(h3 i h h').1,(h3 i h h').2.up hS⟩⟩
theorem OE_insertS {P:Program} {n:Nat} {e:Env} {w:World} {d:Option Nat} {ty:TypeId} {pos:String} {af:Array Edge} {g:Option (Nat×Bool)} {mt kt et r:Nat} {x y z:Operand} [hm:Und P mt (.map kt et)] [hk:Und P kt .string] {X:List Nat} {es:List (Str×List Int)} {a:Str} {v:Value} {xs:List Int} (hx:ev e x=some (.map (some r))) (hy:ev e y=some (str a)) (hz:ev e z=some v)
 (hr:MapS X w r es) (hv:SlV (r :: X) w v xs) (hn:∀ p∈es,¬ p.1=a):OE P n ⟨d,.insert mt x y z,ty,pos,af,g⟩ e w (fun _ w'=>MapS X w' r (es++[(a,xs)])∧Stp [r] w w'):=by
 obtain ⟨l,h1,h2,h3⟩:=hr
 have hfr:∀ p∈l,¬ p.1=a:=by
  intro p hp
  obtain ⟨i,hi,rfl⟩:=List.getElem_of_mem hp
  rw [(h3 i hi (by omega)).1]
  exact hn _ (List.getElem_mem _)
 refine (OE_insert (K:=inferInstance) hx hy hz h1 hfr).mono ?_
 rintro _ w' ⟨g1,g2⟩
 refine ⟨⟨_,g1,by simp [h2],fun i h h'=>?_⟩,g2⟩
 by_cases hi:i<l.length
 have hi':i<es.length:=by omega
 rw [List.getElem_append_left hi,List.getElem_append_left hi']
 exact ⟨(h3 i hi hi').1,(h3 i hi hi').2.on g2 (by simp)⟩
 have hil:i=l.length:=by simp at h;omega
 subst hil
 rw [List.getElem_append_right (Nat.le_refl _),List.getElem_append_right (by omega)]
 simp only [Nat.sub_self,h2,List.getElem_cons_zero]
 exact ⟨trivial,hv.on g2 (by simp)⟩
def opEs:List (Str×List Int):=[([43],[5]),([42],[7]),([110,111,116],[12]),([60],[9]),([60,61],[10]),([61],[11]),([62],[10,12]),([62,61],[9,12]),([33,61],[11,12]),([100,97,121,115],[15]),([119,101,101,107,115],[16]),([109,111,110,116,104,115],[17]),([99,111,117,114,116,100,97,121,115],[18]),([110,101,120,116],[19]),([112,114,101,118],[20]),([108,97,116,101,114],[21]),([101,97,114,108,105,101,114],[22]),([98,101,116,119,101,101,110],[23])]
theorem operators_any (X:List Nat) (w:World) (hX:∀ b∈X,b<w.heap.size):Calls Tryz.prog 228 #[] w (Ret fun r w'=>∃ m,r=.map (some m)∧MapS X w' m opEs∧Stp [] w w'):=by
 refine calls_of_WC0 (n:=21) Tryz.func228 rfl rfl ?_
 refine W ?_
 refine WL_eff (OE_makeMap str) rfl ?_
 rintro _ w1 ⟨m,rfl,hm,hmap,hS⟩
 have hmp:MapS X w1 m []:=⟨[],hmap,rfl,fun i h=>absurd h (Nat.not_lt_zero _)⟩
 have hml:=hmap.lt
 clear hmap
 have hXw:∀ b∈m :: X,b≤m:=fun b hb=>(List.mem_cons.1 hb).elim (fun h=>by omega) (fun h=>by have:=hX b h;omega)
 refine WL_eff (OE_buildSlice (vs:=[(0,.int .i64 5)]) rfl (buildSI1 _)) rfl ?_
 rintro bv w2 hN
 have hbv:SlV (m :: X) w2 bv [(5:Int)]:=hN.slv (fun b hb=>by have:=hXw b hb;omega) rfl rfl (by simp [maxLen])
 have hS2:=NewSl.stp hN
 clear hN
 replace hmp:=hmp.up hS2
 have hml2:=hS2.size
 refine WL_eff0 (OE_insertS (a:=[43]) rfl rfl rfl hmp hbv (by decide)) ?_
 clear hmp
 rintro _ w3 ⟨hmp,hS3⟩
 have hml3:=hS3.size
 replace hml:=Nat.lt_of_lt_of_le (Nat.lt_of_lt_of_le hml hml2) hml3
 replace hS:=(hS.trans hS2).own hS3 (fun b hb=>.inr (by simp at hb;omega))
 clear hS2 hS3 hbv hml2 hml3
 refine WL_eff (OE_buildSlice (vs:=[(0,.int .i64 7)]) rfl (buildSI1 _)) rfl ?_
 rintro bv w2 hN
 have hbv:SlV (m :: X) w2 bv [(7:Int)]:=hN.slv (fun b hb=>by have:=hXw b hb;omega) rfl rfl (by simp [maxLen])
 have hS2:=NewSl.stp hN
 clear hN
 replace hmp:=hmp.up hS2
 have hml2:=hS2.size
 refine WL_eff0 (OE_insertS (a:=[42]) rfl rfl rfl hmp hbv (by decide)) ?_
 clear hmp
 rintro _ w3 ⟨hmp,hS3⟩
 have hml3:=hS3.size
 replace hml:=Nat.lt_of_lt_of_le (Nat.lt_of_lt_of_le hml hml2) hml3
 replace hS:=(hS.trans hS2).own hS3 (fun b hb=>.inr (by simp at hb;omega))
 clear hS2 hS3 hbv hml2 hml3
 refine WL_eff (OE_buildSlice (vs:=[(0,.int .i64 12)]) rfl (buildSI1 _)) rfl ?_
 rintro bv w2 hN
 have hbv:SlV (m :: X) w2 bv [(12:Int)]:=hN.slv (fun b hb=>by have:=hXw b hb;omega) rfl rfl (by simp [maxLen])
 have hS2:=NewSl.stp hN
 clear hN
 replace hmp:=hmp.up hS2
 have hml2:=hS2.size
 refine WL_eff0 (OE_insertS (a:=[110,111,116]) rfl rfl rfl hmp hbv (by decide)) ?_
 clear hmp
 rintro _ w3 ⟨hmp,hS3⟩
 have hml3:=hS3.size
 replace hml:=Nat.lt_of_lt_of_le (Nat.lt_of_lt_of_le hml hml2) hml3
 replace hS:=(hS.trans hS2).own hS3 (fun b hb=>.inr (by simp at hb;omega))
 clear hS2 hS3 hbv hml2 hml3
 refine WL_eff (OE_buildSlice (vs:=[(0,.int .i64 9)]) rfl (buildSI1 _)) rfl ?_
 rintro bv w2 hN
 have hbv:SlV (m :: X) w2 bv [(9:Int)]:=hN.slv (fun b hb=>by have:=hXw b hb;omega) rfl rfl (by simp [maxLen])
 have hS2:=NewSl.stp hN
 clear hN
 replace hmp:=hmp.up hS2
 have hml2:=hS2.size
 refine WL_eff0 (OE_insertS (a:=[60]) rfl rfl rfl hmp hbv (by decide)) ?_
 clear hmp
 rintro _ w3 ⟨hmp,hS3⟩
 have hml3:=hS3.size
 replace hml:=Nat.lt_of_lt_of_le (Nat.lt_of_lt_of_le hml hml2) hml3
 replace hS:=(hS.trans hS2).own hS3 (fun b hb=>.inr (by simp at hb;omega))
 clear hS2 hS3 hbv hml2 hml3
 refine WL_eff (OE_buildSlice (vs:=[(0,.int .i64 10)]) rfl (buildSI1 _)) rfl ?_
 rintro bv w2 hN
 have hbv:SlV (m :: X) w2 bv [(10:Int)]:=hN.slv (fun b hb=>by have:=hXw b hb;omega) rfl rfl (by simp [maxLen])
 have hS2:=NewSl.stp hN
 clear hN
 replace hmp:=hmp.up hS2
 have hml2:=hS2.size
 refine WL_eff0 (OE_insertS (a:=[60,61]) rfl rfl rfl hmp hbv (by decide)) ?_
 clear hmp
 rintro _ w3 ⟨hmp,hS3⟩
 have hml3:=hS3.size
 replace hml:=Nat.lt_of_lt_of_le (Nat.lt_of_lt_of_le hml hml2) hml3
 replace hS:=(hS.trans hS2).own hS3 (fun b hb=>.inr (by simp at hb;omega))
 clear hS2 hS3 hbv hml2 hml3
 refine WL_eff (OE_buildSlice (vs:=[(0,.int .i64 11)]) rfl (buildSI1 _)) rfl ?_
 rintro bv w2 hN
 have hbv:SlV (m :: X) w2 bv [(11:Int)]:=hN.slv (fun b hb=>by have:=hXw b hb;omega) rfl rfl (by simp [maxLen])
 have hS2:=NewSl.stp hN
 clear hN
 replace hmp:=hmp.up hS2
 have hml2:=hS2.size
 refine WL_eff0 (OE_insertS (a:=[61]) rfl rfl rfl hmp hbv (by decide)) ?_
 clear hmp
 rintro _ w3 ⟨hmp,hS3⟩
 have hml3:=hS3.size
 replace hml:=Nat.lt_of_lt_of_le (Nat.lt_of_lt_of_le hml hml2) hml3
 replace hS:=(hS.trans hS2).own hS3 (fun b hb=>.inr (by simp at hb;omega))
 clear hS2 hS3 hbv hml2 hml3
 refine WL_eff (OE_buildSlice (vs:=[(0,.int .i64 10),(1,.int .i64 12)]) rfl (buildSI2 _ _)) rfl ?_
 rintro bv w2 hN
 have hbv:SlV (m :: X) w2 bv [(10:Int),(12:Int)]:=hN.slv (fun b hb=>by have:=hXw b hb;omega) rfl rfl (by simp [maxLen])
 have hS2:=NewSl.stp hN
 clear hN
 replace hmp:=hmp.up hS2
 have hml2:=hS2.size
 refine WL_eff0 (OE_insertS (a:=[62]) rfl rfl rfl hmp hbv (by decide)) ?_
 clear hmp
 rintro _ w3 ⟨hmp,hS3⟩
 have hml3:=hS3.size
 replace hml:=Nat.lt_of_lt_of_le (Nat.lt_of_lt_of_le hml hml2) hml3
 replace hS:=(hS.trans hS2).own hS3 (fun b hb=>.inr (by simp at hb;omega))
 clear hS2 hS3 hbv hml2 hml3
 refine WL_eff (OE_buildSlice (vs:=[(0,.int .i64 9),(1,.int .i64 12)]) rfl (buildSI2 _ _)) rfl ?_
 rintro bv w2 hN
 have hbv:SlV (m :: X) w2 bv [(9:Int),(12:Int)]:=hN.slv (fun b hb=>by have:=hXw b hb;omega) rfl rfl (by simp [maxLen])
 have hS2:=NewSl.stp hN
 clear hN
 replace hmp:=hmp.up hS2
 have hml2:=hS2.size
 refine WL_eff0 (OE_insertS (a:=[62,61]) rfl rfl rfl hmp hbv (by decide)) ?_
 clear hmp
 rintro _ w3 ⟨hmp,hS3⟩
 have hml3:=hS3.size
 replace hml:=Nat.lt_of_lt_of_le (Nat.lt_of_lt_of_le hml hml2) hml3
 replace hS:=(hS.trans hS2).own hS3 (fun b hb=>.inr (by simp at hb;omega))
 clear hS2 hS3 hbv hml2 hml3
 refine WL_eff (OE_buildSlice (vs:=[(0,.int .i64 11),(1,.int .i64 12)]) rfl (buildSI2 _ _)) rfl ?_
 rintro bv w2 hN
 have hbv:SlV (m :: X) w2 bv [(11:Int),(12:Int)]:=hN.slv (fun b hb=>by have:=hXw b hb;omega) rfl rfl (by simp [maxLen])
 have hS2:=NewSl.stp hN
 clear hN
 replace hmp:=hmp.up hS2
 have hml2:=hS2.size
 refine WL_eff0 (OE_insertS (a:=[33,61]) rfl rfl rfl hmp hbv (by decide)) ?_
 clear hmp
 rintro _ w3 ⟨hmp,hS3⟩
 have hml3:=hS3.size
 replace hml:=Nat.lt_of_lt_of_le (Nat.lt_of_lt_of_le hml hml2) hml3
 replace hS:=(hS.trans hS2).own hS3 (fun b hb=>.inr (by simp at hb;omega))
 clear hS2 hS3 hbv hml2 hml3
 refine WL_eff (OE_buildSlice (vs:=[(0,.int .i64 15)]) rfl (buildSI1 _)) rfl ?_
 rintro bv w2 hN
 have hbv:SlV (m :: X) w2 bv [(15:Int)]:=hN.slv (fun b hb=>by have:=hXw b hb;omega) rfl rfl (by simp [maxLen])
 have hS2:=NewSl.stp hN
 clear hN
 replace hmp:=hmp.up hS2
 have hml2:=hS2.size
 refine WL_eff0 (OE_insertS (a:=[100,97,121,115]) rfl rfl rfl hmp hbv (by decide)) ?_
 clear hmp
 rintro _ w3 ⟨hmp,hS3⟩
 have hml3:=hS3.size
 replace hml:=Nat.lt_of_lt_of_le (Nat.lt_of_lt_of_le hml hml2) hml3
 replace hS:=(hS.trans hS2).own hS3 (fun b hb=>.inr (by simp at hb;omega))
 clear hS2 hS3 hbv hml2 hml3
 refine WL_eff (OE_buildSlice (vs:=[(0,.int .i64 16)]) rfl (buildSI1 _)) rfl ?_
 rintro bv w2 hN
 have hbv:SlV (m :: X) w2 bv [(16:Int)]:=hN.slv (fun b hb=>by have:=hXw b hb;omega) rfl rfl (by simp [maxLen])
 have hS2:=NewSl.stp hN
 clear hN
 replace hmp:=hmp.up hS2
 have hml2:=hS2.size
 refine WL_eff0 (OE_insertS (a:=[119,101,101,107,115]) rfl rfl rfl hmp hbv (by decide)) ?_
 clear hmp
 rintro _ w3 ⟨hmp,hS3⟩
 have hml3:=hS3.size
 replace hml:=Nat.lt_of_lt_of_le (Nat.lt_of_lt_of_le hml hml2) hml3
 replace hS:=(hS.trans hS2).own hS3 (fun b hb=>.inr (by simp at hb;omega))
 clear hS2 hS3 hbv hml2 hml3
 refine WL_eff (OE_buildSlice (vs:=[(0,.int .i64 17)]) rfl (buildSI1 _)) rfl ?_
 rintro bv w2 hN
 have hbv:SlV (m :: X) w2 bv [(17:Int)]:=hN.slv (fun b hb=>by have:=hXw b hb;omega) rfl rfl (by simp [maxLen])
 have hS2:=NewSl.stp hN
 clear hN
 replace hmp:=hmp.up hS2
 have hml2:=hS2.size
 refine WL_eff0 (OE_insertS (a:=[109,111,110,116,104,115]) rfl rfl rfl hmp hbv (by decide)) ?_
 clear hmp
 rintro _ w3 ⟨hmp,hS3⟩
 have hml3:=hS3.size
 replace hml:=Nat.lt_of_lt_of_le (Nat.lt_of_lt_of_le hml hml2) hml3
 replace hS:=(hS.trans hS2).own hS3 (fun b hb=>.inr (by simp at hb;omega))
 clear hS2 hS3 hbv hml2 hml3
 refine WL_eff (OE_buildSlice (vs:=[(0,.int .i64 18)]) rfl (buildSI1 _)) rfl ?_
 rintro bv w2 hN
 have hbv:SlV (m :: X) w2 bv [(18:Int)]:=hN.slv (fun b hb=>by have:=hXw b hb;omega) rfl rfl (by simp [maxLen])
 have hS2:=NewSl.stp hN
 clear hN
 replace hmp:=hmp.up hS2
 have hml2:=hS2.size
 refine WL_eff0 (OE_insertS (a:=[99,111,117,114,116,100,97,121,115]) rfl rfl rfl hmp hbv (by decide)) ?_
 clear hmp
 rintro _ w3 ⟨hmp,hS3⟩
 have hml3:=hS3.size
 replace hml:=Nat.lt_of_lt_of_le (Nat.lt_of_lt_of_le hml hml2) hml3
 replace hS:=(hS.trans hS2).own hS3 (fun b hb=>.inr (by simp at hb;omega))
 clear hS2 hS3 hbv hml2 hml3
 refine WL_eff (OE_buildSlice (vs:=[(0,.int .i64 19)]) rfl (buildSI1 _)) rfl ?_
 rintro bv w2 hN
 have hbv:SlV (m :: X) w2 bv [(19:Int)]:=hN.slv (fun b hb=>by have:=hXw b hb;omega) rfl rfl (by simp [maxLen])
 have hS2:=NewSl.stp hN
 clear hN
 replace hmp:=hmp.up hS2
 have hml2:=hS2.size
 refine WL_eff0 (OE_insertS (a:=[110,101,120,116]) rfl rfl rfl hmp hbv (by decide)) ?_
 clear hmp
 rintro _ w3 ⟨hmp,hS3⟩
 have hml3:=hS3.size
 replace hml:=Nat.lt_of_lt_of_le (Nat.lt_of_lt_of_le hml hml2) hml3
 replace hS:=(hS.trans hS2).own hS3 (fun b hb=>.inr (by simp at hb;omega))
 clear hS2 hS3 hbv hml2 hml3
 refine WL_eff (OE_buildSlice (vs:=[(0,.int .i64 20)]) rfl (buildSI1 _)) rfl ?_
 rintro bv w2 hN
 have hbv:SlV (m :: X) w2 bv [(20:Int)]:=hN.slv (fun b hb=>by have:=hXw b hb;omega) rfl rfl (by simp [maxLen])
 have hS2:=NewSl.stp hN
 clear hN
 replace hmp:=hmp.up hS2
 have hml2:=hS2.size
 refine WL_eff0 (OE_insertS (a:=[112,114,101,118]) rfl rfl rfl hmp hbv (by decide)) ?_
 clear hmp
 rintro _ w3 ⟨hmp,hS3⟩
 have hml3:=hS3.size
 replace hml:=Nat.lt_of_lt_of_le (Nat.lt_of_lt_of_le hml hml2) hml3
 replace hS:=(hS.trans hS2).own hS3 (fun b hb=>.inr (by simp at hb;omega))
 clear hS2 hS3 hbv hml2 hml3
 refine WL_eff (OE_buildSlice (vs:=[(0,.int .i64 21)]) rfl (buildSI1 _)) rfl ?_
 rintro bv w2 hN
 have hbv:SlV (m :: X) w2 bv [(21:Int)]:=hN.slv (fun b hb=>by have:=hXw b hb;omega) rfl rfl (by simp [maxLen])
 have hS2:=NewSl.stp hN
 clear hN
 replace hmp:=hmp.up hS2
 have hml2:=hS2.size
 refine WL_eff0 (OE_insertS (a:=[108,97,116,101,114]) rfl rfl rfl hmp hbv (by decide)) ?_
 clear hmp
 rintro _ w3 ⟨hmp,hS3⟩
 have hml3:=hS3.size
 replace hml:=Nat.lt_of_lt_of_le (Nat.lt_of_lt_of_le hml hml2) hml3
 replace hS:=(hS.trans hS2).own hS3 (fun b hb=>.inr (by simp at hb;omega))
 clear hS2 hS3 hbv hml2 hml3
 refine WL_eff (OE_buildSlice (vs:=[(0,.int .i64 22)]) rfl (buildSI1 _)) rfl ?_
 rintro bv w2 hN
 have hbv:SlV (m :: X) w2 bv [(22:Int)]:=hN.slv (fun b hb=>by have:=hXw b hb;omega) rfl rfl (by simp [maxLen])
 have hS2:=NewSl.stp hN
 clear hN
 replace hmp:=hmp.up hS2
 have hml2:=hS2.size
 refine WL_eff0 (OE_insertS (a:=[101,97,114,108,105,101,114]) rfl rfl rfl hmp hbv (by decide)) ?_
 clear hmp
 rintro _ w3 ⟨hmp,hS3⟩
 have hml3:=hS3.size
 replace hml:=Nat.lt_of_lt_of_le (Nat.lt_of_lt_of_le hml hml2) hml3
 replace hS:=(hS.trans hS2).own hS3 (fun b hb=>.inr (by simp at hb;omega))
 clear hS2 hS3 hbv hml2 hml3
 refine WL_eff (OE_buildSlice (vs:=[(0,.int .i64 23)]) rfl (buildSI1 _)) rfl ?_
 rintro bv w2 hN
 have hbv:SlV (m :: X) w2 bv [(23:Int)]:=hN.slv (fun b hb=>by have:=hXw b hb;omega) rfl rfl (by simp [maxLen])
 have hS2:=NewSl.stp hN
 clear hN
 replace hmp:=hmp.up hS2
 have hml2:=hS2.size
 refine WL_eff0 (OE_insertS (a:=[98,101,116,119,101,101,110]) rfl rfl rfl hmp hbv (by decide)) ?_
 clear hmp
 rintro _ w3 ⟨hmp,hS3⟩
 have hml3:=hS3.size
 replace hml:=Nat.lt_of_lt_of_le (Nat.lt_of_lt_of_le hml hml2) hml3
 replace hS:=(hS.trans hS2).own hS3 (fun b hb=>.inr (by simp at hb;omega))
 clear hS2 hS3 hbv hml2 hml3
 refine W ?_
 refine WR ?_
 exact .mk ⟨m,rfl,hmp,hS⟩
def opF (s:Str):List Int:=match opEs.find? (fun p=>decide (p.1=s)) with|some p=>p.2|none=>[]
theorem opF_len (s:Str):(opF s).length≤2:=by
 unfold opF
 cases h:opEs.find? (fun p=>decide (p.1=s)) with
 | none=>simp
 | some p =>
   have hp:=List.mem_of_find?_eq_some h
   have:∀ p∈opEs,p.2.length≤2:=by decide
   exact this p hp
theorem MapS.get {X:List Nat} {w:World} {m:Nat} (h:MapS X w m opEs) (s:Str):∃ l:List (Str×Value),MapAt str w m l∧SlV X w (mget l s (.slice none 0 0)) (opF s):=by
 obtain ⟨l,h1,h2,h3⟩:=h
 refine ⟨l,h1,?_⟩
 unfold mget opF
 have hf:(l.find? (fun p=>decide (p.1=s))=none∧opEs.find? (fun p=>decide (p.1=s))=none)∨∃ i,∃ (h:i<l.length) (h':i<opEs.length),l.find? (fun p=>decide (p.1=s))=some l[i]∧opEs.find? (fun p=>decide (p.1=s))=some opEs[i]:=by
  cases hq:l.find? (fun p=>decide (p.1=s)) with
  | none =>
    left
    refine ⟨rfl,?_⟩
    rw [List.find?_eq_none]
    intro p hp
    obtain ⟨i,hi,rfl⟩:=List.getElem_of_mem hp
    have:=List.find?_eq_none.1 hq l[i] (List.getElem_mem (by omega))
    rwa [(h3 i (by omega) hi).1] at this
  | some p =>
    right
    obtain ⟨hp,i,hi,rfl,hb⟩:=List.find?_eq_some_iff_getElem.1 hq
    refine ⟨i,hi,by omega,rfl,?_⟩
    rw [List.find?_eq_some_iff_getElem]
    refine ⟨by rw [← (h3 i hi (by omega)).1];exact hp,i,by omega,rfl,fun j hj=>?_⟩
    rw [← (h3 j (by omega) (by omega)).1]
    exact hb j hj
 rcases hf with ⟨e1,e2⟩|⟨i,h,h',e1,e2⟩
 rw [e1,e2]
 exact ⟨none,0,rfl,Nat.le_refl _,by simp [maxLen],fun _=>rfl,fun i h=>absurd h (Nat.not_lt_zero _)⟩
 rw [e1,e2]
 exact (h3 i h h').2.ext (Stp.refl [] w) (by simp) (fun b hb=>.inl (List.mem_cons_of_mem _ hb))
def seqC:List Cf→Nat→List Ins
 | [],_=>[]
 | c :: r,p=>c p++seqC r (p+(c p).length)
theorem seqC_append (a b:List Cf) (p:Nat):seqC (a++b) p=seqC a p++seqC b (p+(seqC a p).length):=by
 induction a generalizing p with
 | nil=>simp [seqC]
 | cons c r ih =>
   simp only [List.cons_append,seqC,ih,List.length_append,List.append_assoc]
   rw [Nat.add_assoc]
theorem seqC_step (cs:List Cf) (p i:Nat) (h:i<cs.length):seqC (cs.take (i+1)) p=seqC (cs.take i) p++cs[i] (p+(seqC (cs.take i) p).length):=by
 rw [List.take_succ_eq_append_getElem h,seqC_append]
 simp [seqC]
theorem seqC_le (cs:List Cf) (p i:Nat):(seqC (cs.take i) p).length≤(seqC cs p).length:=by
 have:seqC cs p=seqC (cs.take i) p++seqC (cs.drop i) (p+(seqC (cs.take i) p).length):=by rw [← seqC_append,List.take_append_drop]
 rw [this,List.length_append]
 omega
def insO (l:List Int):List Ins:=l.map (fun o=>⟨o,0⟩)
def plainC (k:Int) (s:Str) (cs:List Cf) (p:Nat):List Ins:=seqC cs p++(if k=8∨k=5∧s=[45] then [⟨8,0⟩] else [])++insO (opF s)
theorem plain_any (x:Nd) (cs:List Cf) (hcl:cs.length=x.kids.length) (hcs:∀ i (h:i<x.kids.length) (h':i<cs.length),ExprOk x.kids[i] cs[i]) (w:World) (bc base:Nat) (v nv:Value) (xs:List Ins) (hc:Cod w bc base v xs)
 (hx:NdV (bc :: ob v) w nv x) (hF:SlV (bc :: ob v) w flds fieldNames) (hl:xs.length+(plainC x.kind x.word cs xs.length).length≤100000) :
 Calls Tryz.prog 138 #[.pointer (some ⟨bc,0,none⟩),nv] w (Ret fun r w'=>Cods w bc base v (xs++plainC x.kind x.word cs xs.length) w'):=by
 have hl':=hl
 unfold plainC at hl'
 simp only [List.length_append] at hl'
 obtain ⟨kv,rfl,hs⟩:=hx
 have hmax:=hs.max
 refine calls_of_WC2 (n:=47) Tryz.func138 rfl rfl rfl ?_
 refine W ?_
 refine WL_eff (OE_box rfl) rfl ?_
 rintro _ wA ⟨b,rfl,hb,hblk,hS⟩
 replace hblk:Blk wA b _ (ndC x kv):=hblk
 have hobv:∀ b∈bc :: ob v,b<w.heap.size:=fun b hb=>by
  rcases List.mem_cons.1 hb with rfl|h
  exact hc.blk.lt
  exact (hc.row.ob_le b h).2
 have nb:b∉bc :: ob v:=fun h=>by have:=hobv _ h;omega
 replace hc:=hc.up hS
 replace hs:=hs.up hS
 replace hF:=hF.up hS
 have main:∀ ys w',Cods wA bc base v ys w'→Cods w bc base v ys w':=fun ys w' h=>h.pre hS
 refine W ?_
 refine WC_cutB (σ:=Value) (fun u=>[(0,.pointer (some ⟨bc,0,none⟩)),(3,.pointer (some ⟨b,0,none⟩))]) (fun u w'=>Fr wA w' bc base v u (xs++seqC cs xs.length)) ?_ ?_
 refine WC_loop (σ:=Nat×Value) (fun q=>[(0,.pointer (some ⟨bc,0,none⟩)),(3,.pointer (some ⟨b,0,none⟩)),(9,kv),(10,.int .i64 (x.kids.length:Int)),(11,.int .i64 (q.1:Int))]) (fun q w'=>q.1≤x.kids.length∧Fr wA w' bc base v q.2 (xs++seqC (cs.take q.1) xs.length)) (fun q=>x.kids.length - q.1) (0,v) ⟨rfl,rfl,rfl,rfl,rfl,trivial⟩ ⟨Nat.zero_le _,by simpa [seqC] using Fr.start hc⟩ ?_
 rintro ⟨j,u⟩ w2 ⟨hj,fr⟩
 dsimp only at hj fr ⊢
 by_cases hlt:j<x.kids.length
 have hs2:=fr.sl hs
 obtain ⟨kv2,hk2,hc2⟩:=hs2.nd hlt
 have hst:=seqC_step cs xs.length j (by omega)
 have hle:=seqC_le cs xs.length (j+1)
 have hle0:=seqC_le cs xs.length j
 rw [hst,List.length_append] at hle
 focus repeat' (first|refine W1 ?_|omega|(refine VG ?_ ?_<;>intro hg)|(refine VC ?_ ?_<;>intro hc))
 apply WL_pure (PR_loadNd rfl rfl hs2 hlt hc2) rfl
 refine WL_eff OE_alloc rfl ?_
 rintro _ w3 ⟨b3,rfl,hb3,hblk3,hS3⟩
 refine WL_eff0 (OE_storeA (us:=ndC x.kids[j] kv2) rfl rfl rfl rfl (ndC_one hk2) hblk3 rfl) ?_
 rintro _ w4 ⟨hS4,hblk4⟩
 have hS34:=hS3.own hS4 (fun c hc=>.inr (by simp at hc;omega))
 replace fr:=fr.up hS34
 replace hk2:=hk2.up hS34
 refine W ?_
 have hlen:(xs++seqC (cs.take j) xs.length).length=xs.length+(seqC (cs.take j) xs.length).length:=List.length_append
 refine CL rfl (evs2 rfl rfl) rfl (hcs j hlt (by omega) _ bc base _ _ _ fr.cod ⟨kv2,rfl,hk2⟩ (fr.sl hF) (by rw [hlen];omega)) ?_
 rintro _ w5 hq
 obtain ⟨u5,fr⟩:=fr.step hq
 rw [hlen,List.append_assoc,← hst] at fr
 refine W ?_
 exact WQ_loop (j+1,u5) ⟨rfl,rfl,rfl,rfl,rfl,trivial⟩ ⟨by dsimp only;omega,fr⟩ (by dsimp only;omega)
 have hje:j=x.kids.length:=by omega
 subst hje
 rw [← hcl,List.take_length] at fr
 focus repeat' (first|refine W1 ?_|omega|(refine VG ?_ ?_<;>intro hg)|(refine VC ?_ ?_<;>intro hc))
 exact WQ_cut u ⟨rfl,rfl,trivial⟩ fr
 rintro u w2 fr
 have hbk:=fr.bk hblk nb
 unfold plainC
 generalize seqC cs xs.length=A at *
 rw [← List.append_assoc,← List.append_assoc]
 refine WC_cut (σ:=Value) (fun u=>[(0,.pointer (some ⟨bc,0,none⟩)),(3,.pointer (some ⟨b,0,none⟩))]) (fun u w'=>Fr wA w' bc base v u (xs++A++if x.kind=8∨x.kind=5∧x.word=[45] then [⟨8,0⟩] else [])) ?_ ?_
 by_cases hneg:x.kind=8∨x.kind=5∧x.word=[45]
 · have hln:(xs++A).length≤1000000:=by simp only [List.length_append];omega
   rw [if_pos hneg]
   repeat' (first|refine W1 ?_|omega|(refine VG ?_ ?_<;>intro hg)|(refine VC ?_ ?_<;>intro hc))
   all_goals first
    | (refine CL rfl (evs3 rfl rfl rfl) rfl (put_any bc base _ _ 8 0 _ fr.cod hln) ?_
       rintro _ w3 ⟨rfl,hq⟩
       obtain ⟨u3,fr⟩:=fr.step hq
       refine W ?_
       exact WQ_cut u3 ⟨rfl,rfl,trivial⟩ fr)
    | (exfalso;rcases hneg with h|⟨h1,h2⟩<;>first|omega|contradiction)
 · rw [if_neg hneg,List.append_nil]
   have hn8:¬ x.kind=8:=fun h=>hneg (.inl h)
   repeat' (first|refine W1 ?_|omega|(refine VG ?_ ?_<;>intro hg)|(refine VC ?_ ?_<;>intro hc))
   all_goals first
    | exact WQ_cut u ⟨rfl,rfl,trivial⟩ fr
    | (exfalso;exact hneg (.inr ⟨by assumption,by assumption⟩))
 rintro u3 w3 fr
 have hbk:=fr.bk hblk nb
 have hol:=opF_len x.word
 generalize hB:xs++A++(if x.kind=8∨x.kind=5∧x.word=[45] then [(⟨8,0⟩:Ins)] else [])=B at *
 have hBl:B.length≤200000:=by
  rw [← hB]
  simp only [List.length_append]
  have:(if x.kind=8∨x.kind=5∧x.word=[45] then [(⟨8,0⟩:Ins)] else []).length≤1:=by split<;>simp
  omega
 refine W ?_
 refine WC_drawn 6 [] [] [(1,0),(2,1),(5,0),(0,2),(3,2),(4,0)] rfl mixed (by kernel_rfl) (by kernel_rfl) (by kernel_rfl) (fun w1 hS1=>?_)
 replace fr:=fr.up hS1
 replace hbk:=hbk.up hS1
 have hou:∀ b∈bc :: ob u3,b<w1.heap.size:=fun b hb=>(List.mem_cons.1 hb).elim (fun h=>h ▸ fr.cod.blk.lt) (fun h=>(fr.cod.row.ob_le b h).2)
 refine D ?_
 refine WD_eff rfl trivial (OE_call rfl evs0 (operators_any (bc :: ob u3) _ hou)) (fun _ _ h=>h.choose_spec.2.2) rfl ?_
 rintro _ w5 ⟨m,rfl,hm,hS5⟩
 replace fr:=fr.up hS5
 obtain ⟨l,hml,hsl⟩:=hm.get x.word
 refine WD_eff rfl trivial (OE_pr (PR_lookup (K:=inferInstance) (a:=x.word) rfl rfl hml)) (fun _ _ h=>h.2 ▸ Stp.refl _ _) rfl ?_
 rintro _ _ ⟨rfl,rfl⟩
 generalize mget l x.word (.slice none 0 0)=ov at *
 generalize opF x.word=O at *
 refine D ?_
 refine W ?_
 refine WC_loop (σ:=Nat×Value) (fun q=>[(0,.pointer (some ⟨bc,0,none⟩)),(37,ov),(38,.int .i64 (O.length:Int)),(39,.int .i64 (q.1:Int))]) (fun q w'=>q.1≤O.length∧SlV (bc :: ob q.2) w' ov O∧Fr wA w' bc base v q.2 (B++insO (O.take q.1))) (fun q=>O.length - q.1) (0,u3) ⟨rfl,rfl,rfl,rfl,trivial⟩ ⟨Nat.zero_le _,hsl,by simpa [insO] using fr⟩ ?_
 clear fr hsl hou
 rintro ⟨j,u⟩ w6 ⟨hj,hsl,fr⟩
 dsimp only at hj fr ⊢
 by_cases hlt:j<O.length
 have hln:(B++insO (O.take j)).length≤1000000:=by simp only [List.length_append,insO,List.length_map,List.length_take];omega
 focus repeat' (first|refine W1 ?_|omega|(refine VG ?_ ?_<;>intro hg)|(refine VC ?_ ?_<;>intro hc))
 refine CL rfl (evs3 rfl rfl rfl) rfl (put_any bc base _ _ O[j] 0 _ fr.cod hln) ?_
 rintro _ w7 ⟨rfl,hq⟩
 obtain ⟨u7,hc7,hS7,hb7⟩:=id hq
 have hsl7:SlV (bc :: ob u7) w7 ov O:=keepX hsl hS7 hb7
 have fr7:Fr wA w7 bc base v u7 (B++insO (O.take j)++[⟨O[j],0⟩]):=by
  refine ⟨hc7,?_,fun b hb=>?_⟩
  exact fr.stp.own hS7 (fun b hb=>by
   rcases List.mem_cons.1 hb with rfl|h
   exact .inl (by simp)
   exact (fr.sub b h).imp (fun h=>List.mem_cons_of_mem _ h) id)
  rcases hb7 b hb with h|h
  exact fr.sub b h
  exact .inr (Nat.le_trans fr.stp.size h)
 refine W ?_
 refine WQ_loop (j+1,u7) ⟨rfl,rfl,rfl,rfl,trivial⟩ ⟨by dsimp only;omega,hsl7,?_⟩ (by dsimp only;omega)
 dsimp only
 rw [List.take_succ_eq_append_getElem hlt]
 unfold insO at fr7 ⊢
 rw [List.map_append,← List.append_assoc]
 exact fr7
 have hje:j=O.length:=by omega
 subst hje
 rw [List.take_length] at fr
 focus repeat' (first|refine W1 ?_|omega|(refine VG ?_ ?_<;>intro hg)|(refine VC ?_ ?_<;>intro hc))
 refine WR ?_
 exact .mk (main _ _ fr.fin)
def leafI (k n:Int) (s:Str):Ins:=if k=1 then ⟨1,n⟩ else if k=2 then ⟨2,n⟩ else if k=3 then ⟨3,n⟩ else ⟨4,(fieldF s).1⟩
def nilC:Cf:=fun _=>[]
def combC (k n:Int) (s:Str) (cs:List Cf) (p:Nat):List Ins :=
 if cs.length=0 then [leafI k n s]
 else if k=9 then chC (cs.getD 0 nilC) (cs.getD 1 nilC) (cs.getD 2 nilC) p
 else if k=6∧s=[97,110,100] then chC (cs.getD 0 nilC) (cs.getD 1 nilC) (fun _=>[⟨2,0⟩]) p
 else if k=6∧s=[111,114] then chC (cs.getD 0 nilC) (fun _=>[⟨2,1⟩]) (cs.getD 1 nilC) p
 else if k=6∧s=[45] then plainC k s cs p++[⟨6,0⟩]
 else plainC k s cs p
def codeN:Nd→Nat→List Ins
 | .mk k n s l=>combC k n s (l.map codeN)
theorem codeN_eq (x:Nd):codeN x=combC x.kind x.num x.word (x.kids.map codeN):=by
 cases x
 rw [codeN]
 rfl
theorem buildNb0 (w:World):(Instr.build 27 #[(0,.int .i64 2)]).run Tryz.prog w=.ok (.agg #[.int .i64 2,.int .i64 0,str [],.slice none 0 0]) w:=by kernel_rfl
theorem buildNb1 (w:World):(Instr.build 27 #[(0,.int .i64 2),(1,.int .i64 1)]).run Tryz.prog w=.ok (.agg #[.int .i64 2,.int .i64 1,str [],.slice none 0 0]) w:=by kernel_rfl
theorem nilSlv {α:Type} [GoRep α] (X:List Nat) (w:World):SlV (α:=α) X w (.slice none 0 0) []:=⟨none,0,rfl,Nat.le_refl _,by simp [maxLen],fun _=>rfl,fun i h=>absurd h (Nat.not_lt_zero _)⟩
theorem exprBool (z:Int):ExprOk (.mk 2 z [] []) (fun _=>[⟨2,z⟩]):=by
 intro w bc base v nv xs hc hx hF hl
 obtain ⟨kv,rfl,hs⟩:=hx
 refine calls_of_WC2 (n:=63) Tryz.func76 rfl rfl rfl ?_
 refine W ?_
 refine WL_eff (OE_box rfl) rfl ?_
 rintro _ w1 ⟨b,rfl,hb,hblk,hS⟩
 replace hblk:Blk w1 b _ [.int .i64 2,.int .i64 z,str [],kv]:=hblk
 refine W ?_
 refine CL rfl (evs3 rfl rfl rfl) rfl (put_any bc base _ _ 2 z _ (hc.up hS) (by omega)) ?_
 rintro _ w2 ⟨rfl,hq⟩
 refine W ?_
 refine WR ?_
 exact .mk (hq.pre hS)
theorem minus_any (x:Nd) (cs:List Cf) (hcl:cs.length=x.kids.length) (hcs:∀ i (h:i<x.kids.length) (h':i<cs.length),ExprOk x.kids[i] cs[i]) (w:World) (bc base:Nat) (v nv:Value) (xs:List Ins) (hc:Cod w bc base v xs)
 (hx:NdV (bc :: ob v) w nv x) (hF:SlV (bc :: ob v) w flds fieldNames) (hl:xs.length+(plainC x.kind x.word cs xs.length).length≤100000) :
 Calls Tryz.prog 226 #[.pointer (some ⟨bc,0,none⟩),nv] w (Ret fun r w'=>Cods w bc base v (xs++(plainC x.kind x.word cs xs.length++[⟨6,0⟩])) w'):=by
 obtain ⟨kv,rfl,hs⟩:=hx
 refine calls_of_WC2 (n:=9) Tryz.func226 rfl rfl rfl ?_
 refine W ?_
 refine WL_eff (OE_box rfl) rfl ?_
 rintro _ w1 ⟨b,rfl,hb,hblk,hS⟩
 replace hblk:Blk w1 b _ (ndC x kv):=hblk
 have fr:=Fr.start (hc.up hS)
 refine W ?_
 refine CL rfl (evs2 rfl rfl) rfl (plain_any x cs hcl hcs _ bc base _ _ _ fr.cod ⟨kv,rfl,hs.up hS⟩ (hF.up hS) hl) ?_
 rintro _ w2 hq
 obtain ⟨v2,fr⟩:=fr.step hq
 refine W ?_
 refine CL rfl (evs3 rfl rfl rfl) rfl (put_any bc base _ _ 6 0 _ fr.cod (by simp only [List.length_append];omega)) ?_
 rintro _ w3 ⟨rfl,hq⟩
 obtain ⟨v3,fr⟩:=fr.step hq
 rw [List.append_assoc] at fr
 refine W ?_
 refine WR ?_
 exact .mk (fr.fin.pre hS)
theorem cell_on {α:Type} [GoRep α] {X:List Nat} {w w':World} {v u:Value} {l:List α} {i k j:Nat} (hs:SlV X w v l) (hi:i<l.length) (hS:Stp X w w') (h:w.cell? (elAddr v i k j)=some u):w'.cell? (elAddr v i k j)=some u:=by
 obtain ⟨p,c,rfl,_,_,_,hc⟩:=hs
 obtain ⟨b,o,cs,rfl,_,hx,_⟩:=hc i hi
 exact hS.cell hx h
theorem and_any (x:Nd) (cs:List Cf) (hk2:x.kids.length=2) (hcl:cs.length=x.kids.length) (hcs:∀ i (h:i<x.kids.length) (h':i<cs.length),ExprOk x.kids[i] cs[i]) (w:World) (bc base:Nat) (v nv:Value) (xs:List Ins) (hc:Cod w bc base v xs)
 (hx:NdV (bc :: ob v) w nv x) (hF:SlV (bc :: ob v) w flds fieldNames) (hl:xs.length+(chC (cs.getD 0 nilC) (cs.getD 1 nilC) (fun _=>[⟨2,0⟩]) xs.length).length≤100000) :
 Calls Tryz.prog 224 #[.pointer (some ⟨bc,0,none⟩),nv] w (Ret fun r w'=>Cods w bc base v (xs++chC (cs.getD 0 nilC) (cs.getD 1 nilC) (fun _=>[⟨2,0⟩]) xs.length) w'):=by
 obtain ⟨kv,rfl,hs⟩:=hx
 have h0:0<x.kids.length:=by omega
 have h1:1<x.kids.length:=by omega
 have g0:cs.getD 0 nilC=cs[0]'(by omega):=by simp [List.getD,hcl,h0]
 have g1:cs.getD 1 nilC=cs[1]'(by omega):=by simp [List.getD,hcl,h1]
 rw [g0,g1] at hl ⊢
 refine calls_of_WC2 (n:=15) Tryz.func224 rfl rfl rfl ?_
 refine W ?_
 refine WL_eff (OE_box rfl) rfl ?_
 rintro _ wA ⟨b,rfl,hb,hblk,hS⟩
 replace hblk:Blk wA b _ (ndC x kv):=hblk
 replace hs:=hs.up hS
 have nb:b∉bc :: ob v:=fun h=>by
  rcases List.mem_cons.1 h with rfl|h
  have:=hc.blk.lt;omega
  have:=(hc.row.ob_le b h).2;omega
 refine W ?_
 refine WC_drawn 11 (bc :: ob v) [] [(0,0),(1,0),(2,1),(3,0),(4,1),(5,0),(6,1),(7,0),(8,1),(9,0),(10,2)] rfl mixed (by kernel_rfl) (by kernel_rfl) (by kernel_rfl) (fun w1 hS1=>?_)
 replace hs:=hs.up hS1
 replace hblk:=hblk.up hS1
 replace hS:=hS.trans hS1
 obtain ⟨u0,s0,c0⟩:=hs.nd h0
 obtain ⟨u1,s1,c1⟩:=hs.nd h1
 refine D ?_
 try (refine WD_read rfl trivial (fun w' hS'=>PR_load_blk rfl rfl (hblk.ext hS' nb) rfl) rfl ?_)
 refine D ?_
 refine WD_read rfl trivial (fun w' hS'=>PR_loadNd rfl rfl (hs.on hS' (fun _ h=>h)) h0 (fun j u hj=>cell_on hs h0 hS' (c0 j u hj))) rfl ?_
 refine D ?_
 try (refine WD_read rfl trivial (fun w' hS'=>PR_load_blk rfl rfl (hblk.ext hS' nb) rfl) rfl ?_)
 refine D ?_
 refine WD_read rfl trivial (fun w' hS'=>PR_loadNd rfl rfl (hs.on hS' (fun _ h=>h)) h1 (fun j u hj=>cell_on hs h1 hS' (c1 j u hj))) rfl ?_
 refine D ?_
 apply WD_op
 exact rfl
 apply WO_build (vs:=[(0,.int .i64 2)])
 exact trivial
 exact rfl
 exact buildNb0
 exact rfl
 refine WD_eff rfl trivial (OE_call rfl (evs4 rfl rfl rfl rfl) (choice_any (x:=x.kids[0]) (y:=x.kids[1]) (n:=.mk 2 0 [] []) (hcs 0 h0 (by omega)) (hcs 1 h1 (by omega)) (exprBool 0) _ bc base v _ _ _ xs (hc.up hS) ⟨u0,rfl,s0⟩ ⟨u1,rfl,s1⟩ ⟨_,rfl,nilSlv _ _⟩ (hF.up hS) hl)) (fun _ _ h=>by obtain ⟨_,_,h2,_⟩:=h;exact h2) rfl ?_
 rintro _ w5 hq
 refine D ?_
 refine W ?_
 refine WR ?_
 exact .mk (hq.pre hS)
theorem or_any (x:Nd) (cs:List Cf) (hk2:x.kids.length=2) (hcl:cs.length=x.kids.length) (hcs:∀ i (h:i<x.kids.length) (h':i<cs.length),ExprOk x.kids[i] cs[i]) (w:World) (bc base:Nat) (v nv:Value) (xs:List Ins) (hc:Cod w bc base v xs)
 (hx:NdV (bc :: ob v) w nv x) (hF:SlV (bc :: ob v) w flds fieldNames) (hl:xs.length+(chC (cs.getD 0 nilC) (fun _=>[⟨2,1⟩]) (cs.getD 1 nilC) xs.length).length≤100000) :
 Calls Tryz.prog 225 #[.pointer (some ⟨bc,0,none⟩),nv] w (Ret fun r w'=>Cods w bc base v (xs++chC (cs.getD 0 nilC) (fun _=>[⟨2,1⟩]) (cs.getD 1 nilC) xs.length) w'):=by
 obtain ⟨kv,rfl,hs⟩:=hx
 have h0:0<x.kids.length:=by omega
 have h1:1<x.kids.length:=by omega
 have g0:cs.getD 0 nilC=cs[0]'(by omega):=by simp [List.getD,hcl,h0]
 have g1:cs.getD 1 nilC=cs[1]'(by omega):=by simp [List.getD,hcl,h1]
 rw [g0,g1] at hl ⊢
 refine calls_of_WC2 (n:=15) Tryz.func225 rfl rfl rfl ?_
 refine W ?_
 refine WL_eff (OE_box rfl) rfl ?_
 rintro _ wA ⟨b,rfl,hb,hblk,hS⟩
 replace hblk:Blk wA b _ (ndC x kv):=hblk
 replace hs:=hs.up hS
 have nb:b∉bc :: ob v:=fun h=>by
  rcases List.mem_cons.1 h with rfl|h
  have:=hc.blk.lt;omega
  have:=(hc.row.ob_le b h).2;omega
 refine W ?_
 refine WC_drawn 11 (bc :: ob v) [] [(0,0),(1,0),(2,1),(3,0),(4,1),(5,0),(6,0),(7,1),(8,0),(9,1),(10,2)] rfl mixed (by kernel_rfl) (by kernel_rfl) (by kernel_rfl) (fun w1 hS1=>?_)
 replace hs:=hs.up hS1
 replace hblk:=hblk.up hS1
 replace hS:=hS.trans hS1
 obtain ⟨u0,s0,c0⟩:=hs.nd h0
 obtain ⟨u1,s1,c1⟩:=hs.nd h1
 refine D ?_
 try (refine WD_read rfl trivial (fun w' hS'=>PR_load_blk rfl rfl (hblk.ext hS' nb) rfl) rfl ?_)
 refine D ?_
 refine WD_read rfl trivial (fun w' hS'=>PR_loadNd rfl rfl (hs.on hS' (fun _ h=>h)) h0 (fun j u hj=>cell_on hs h0 hS' (c0 j u hj))) rfl ?_
 refine D ?_
 apply WD_op
 exact rfl
 apply WO_build (vs:=[(0,.int .i64 2),(1,.int .i64 1)])
 exact trivial
 exact rfl
 exact buildNb1
 exact rfl
 refine D ?_
 try (refine WD_read rfl trivial (fun w' hS'=>PR_load_blk rfl rfl (hblk.ext hS' nb) rfl) rfl ?_)
 refine D ?_
 refine WD_read rfl trivial (fun w' hS'=>PR_loadNd rfl rfl (hs.on hS' (fun _ h=>h)) h1 (fun j u hj=>cell_on hs h1 hS' (c1 j u hj))) rfl ?_
 refine WD_eff rfl trivial (OE_call rfl (evs4 rfl rfl rfl rfl) (choice_any (x:=x.kids[0]) (y:=.mk 2 1 [] []) (n:=x.kids[1]) (hcs 0 h0 (by omega)) (exprBool 1) (hcs 1 h1 (by omega)) _ bc base v _ _ _ xs (hc.up hS) ⟨u0,rfl,s0⟩ ⟨_,rfl,nilSlv _ _⟩ ⟨u1,rfl,s1⟩ (hF.up hS) hl)) (fun _ _ h=>by obtain ⟨_,_,h2,_⟩:=h;exact h2) rfl ?_
 rintro _ w5 hq
 refine D ?_
 refine W ?_
 refine WR ?_
 exact .mk (hq.pre hS)
theorem SlV.nil {α:Type} [GoRep α] {X:List Nat} {w:World} {v:Value} {l:List α} (h:SlV X w v l):SlV [] w v l:=h.ext (Stp.refl [] w) (by simp) (by simp)
theorem binaryC_any (x:Nd) (hk6:x.kind=6) (cs:List Cf) (hk2:x.kids.length=2) (hcl:cs.length=x.kids.length) (hcs:∀ i (h:i<x.kids.length) (h':i<cs.length),ExprOk x.kids[i] cs[i]) (w:World) (bc base:Nat) (v nv:Value) (xs:List Ins) (hcd:Cod w bc base v xs)
 (hx:NdV (bc :: ob v) w nv x) (hF:SlV (bc :: ob v) w flds fieldNames) (hl:xs.length+(combC x.kind x.num x.word cs xs.length).length≤100000) :
 Calls Tryz.prog 136 #[.pointer (some ⟨bc,0,none⟩),nv] w (Ret fun r w'=>Cods w bc base v (xs++combC x.kind x.num x.word cs xs.length) w'):=by
 have hne:¬ cs.length=0:=by omega
 have hn9:¬ x.kind=9:=by omega
 unfold combC at hl ⊢
 rw [if_neg hne,if_neg hn9] at hl ⊢
 obtain ⟨kv,rfl,hs⟩:=hx
 refine calls_of_WC2 (n:=17) Tryz.func136 rfl rfl rfl ?_
 refine W ?_
 refine WL_eff (OE_box rfl) rfl ?_
 rintro _ wA ⟨b,rfl,hb,hblk,hS⟩
 replace hblk:Blk wA b _ (ndC x kv):=hblk
 have main:∀ ys w',Cods wA bc base v ys w'→Cods w bc base v ys w':=fun ys w' h=>h.pre hS
 replace hcd:=hcd.up hS
 replace hs:=hs.up hS
 replace hF:=hF.up hS
 repeat' (first|refine W1 ?_|omega|(refine VG ?_ ?_<;>intro hg)|(refine VC ?_ ?_<;>intro hc))
 rw [if_pos ⟨hk6,by assumption⟩] at hl ⊢
 refine CL rfl (evs2 rfl rfl) rfl (and_any x cs hk2 hcl hcs _ bc base _ _ _ hcd ⟨kv,rfl,hs⟩ hF hl) ?_
 rintro _ w2 hq
 refine W ?_
 refine WR ?_
 exact .mk (main _ _ hq)
 rw [if_neg (fun h=>absurd h.2 (by assumption)),if_pos ⟨hk6,by assumption⟩] at hl ⊢
 refine CL rfl (evs2 rfl rfl) rfl (or_any x cs hk2 hcl hcs _ bc base _ _ _ hcd ⟨kv,rfl,hs⟩ hF hl) ?_
 rintro _ w2 hq
 refine W ?_
 refine WR ?_
 exact .mk (main _ _ hq)
 rw [if_neg (fun h=>absurd h.2 (by assumption)),if_neg (fun h=>absurd h.2 (by assumption)),if_pos ⟨hk6,by assumption⟩] at hl ⊢
 rw [List.length_append] at hl
 refine CL rfl (evs2 rfl rfl) rfl (minus_any x cs hcl hcs _ bc base _ _ _ hcd ⟨kv,rfl,hs⟩ hF (by omega)) ?_
 rintro _ w2 hq
 refine W ?_
 refine WR ?_
 exact .mk (main _ _ hq)
 rw [if_neg (fun h=>absurd h.2 (by assumption)),if_neg (fun h=>absurd h.2 (by assumption)),if_neg (fun h=>absurd h.2 (by assumption))] at hl ⊢
 refine CL rfl (evs2 rfl rfl) rfl (plain_any x cs hcl hcs _ bc base _ _ _ hcd ⟨kv,rfl,hs⟩ hF hl) ?_
 rintro _ w2 hq
 refine W ?_
 refine WR ?_
 exact .mk (main _ _ hq)
theorem codeN_leaf {x:Nd} (h:x.kids=[]) (p:Nat):codeN x p=[leafI x.kind x.num x.word]:=by
 rw [codeN_eq,h]
 simp [combC]
theorem codeN_kids {x:Nd} (h:x.kids≠[]):(x.kids.map codeN).length≠0:=by simpa using h
theorem codeN_getD {x:Nd} {i:Nat} (h:i<x.kids.length):(x.kids.map codeN).getD i nilC=codeN x.kids[i]:=by simp [List.getD,h]
theorem expr_ok (x:Nd):typeT x≠0→ExprOk x (codeN x):=by
 induction x using Nd.ind with
 | h k n s l ih =>
 intro hty
 have hkt:=(typed_kids hty).2
 have hcs:∀ i (h:i<(Nd.mk k n s l).kids.length) (h':i<((Nd.mk k n s l).kids.map codeN).length),ExprOk (Nd.mk k n s l).kids[i] ((Nd.mk k n s l).kids.map codeN)[i]:=by
  intro i h h'
  rw [List.getElem_map]
  exact ih _ (List.getElem_mem h) (hkt _ (List.getElem_mem h))
 have hcl:((Nd.mk k n s l).kids.map codeN).length=(Nd.mk k n s l).kids.length:=by simp
 have hsh:=typed_shape hty
 have hlf:=typed_leaf hty
 have hcN:=codeN_eq (.mk k n s l)
 have hcL:=codeN_leaf (x:=.mk k n s l)
 have hkl:(Nd.mk k n s l).kids≠[]→5≤(Nd.mk k n s l).kind:=by
  intro h
  rcases (hsh h).2 with ⟨h,_,_⟩|⟨h,_,_⟩|⟨h,_,_⟩|⟨h,_⟩|⟨h,_,_⟩<;>omega
 have hk6:(Nd.mk k n s l).kind=6→(Nd.mk k n s l).kids.length=2:=by
  intro h6
  by_cases h0:(Nd.mk k n s l).kids=[]
  have:=hlf h0;omega
  rcases (hsh h0).2 with ⟨h,_,_⟩|⟨h,_,hm⟩|⟨h,_,_⟩|⟨h,_⟩|⟨h,_,_⟩<;>omega
 have hk9:(Nd.mk k n s l).kind=9→(Nd.mk k n s l).kids.length=3:=by
  intro h6
  by_cases h0:(Nd.mk k n s l).kids=[]
  have:=hlf h0;omega
  rcases (hsh h0).2 with ⟨h,_,_⟩|⟨h,_,hm⟩|⟨h,_,_⟩|⟨h,hm⟩|⟨h,_,_⟩<;>omega
 have hgD:=fun i=>codeN_getD (x:=.mk k n s l) (i:=i)
 generalize (Nd.mk k n s l)=x at *
 clear ih
 intro w bc base v nv xs hcd hx hF hl
 obtain ⟨kv,rfl,hs⟩:=hx
 refine calls_of_WC2 (n:=63) Tryz.func76 rfl rfl rfl ?_
 refine W ?_
 refine WL_eff (OE_box rfl) rfl ?_
 rintro _ wA ⟨b,rfl,hb,hblk,hS⟩
 replace hblk:Blk wA b _ (ndC x kv):=hblk
 have main:∀ ys w',Cods wA bc base v ys w'→Cods w bc base v ys w':=fun ys w' h=>h.pre hS
 have hobv:∀ b∈bc :: ob v,b<w.heap.size:=fun b hb=>by
  rcases List.mem_cons.1 hb with rfl|h
  exact hcd.blk.lt
  exact (hcd.row.ob_le b h).2
 have nb:b∉bc :: ob v:=fun h=>by have:=hobv _ h;omega
 replace hcd:=hcd.up hS
 replace hs:=hs.up hS
 replace hF:=hF.up hS
 have leaf:∀ op n,[(⟨op,n⟩:Ins)]=codeN x xs.length→∀ w',Cods wA bc base v (xs++[⟨op,n⟩]) w'→Cods w bc base v (xs++codeN x xs.length) w':=fun op n h w' h'=>h ▸ main _ _ h'
 repeat' (first|refine W1 ?_|omega|(refine VG ?_ ?_<;>intro hg)|(refine VC ?_ ?_<;>intro hc))
 have h0:x.kids=[]:=Decidable.byContradiction (fun h=>by have:=hkl h;omega)
 refine CL rfl (evs3 rfl rfl rfl) rfl (put_any bc base _ _ 1 x.num _ hcd (by omega)) ?_
 rintro _ w2 ⟨rfl,hq⟩
 refine W ?_
 refine WR ?_
 exact .mk (leaf _ _ (by rw [hcL h0,leafI,if_pos (by assumption)]) _ hq)
 have h0:x.kids=[]:=Decidable.byContradiction (fun h=>by have:=hkl h;omega)
 refine CL rfl (evs3 rfl rfl rfl) rfl (put_any bc base _ _ 2 x.num _ hcd (by omega)) ?_
 rintro _ w2 ⟨rfl,hq⟩
 refine W ?_
 refine WR ?_
 exact .mk (leaf _ _ (by rw [hcL h0,leafI,if_neg (by assumption),if_pos (by assumption)]) _ hq)
 have h0:x.kids=[]:=Decidable.byContradiction (fun h=>by have:=hkl h;omega)
 refine CL rfl (evs3 rfl rfl rfl) rfl (put_any bc base _ _ 3 x.num _ hcd (by omega)) ?_
 rintro _ w2 ⟨rfl,hq⟩
 refine W ?_
 refine WR ?_
 exact .mk (leaf _ _ (by rw [hcL h0,leafI,if_neg (by assumption),if_neg (by assumption),if_pos (by assumption)]) _ hq)
 have h0:x.kids=[]:=Decidable.byContradiction (fun h=>by have:=hkl h;omega)
 refine CL rfl (evs1 rfl) rfl (Field_any x.word _ (SlV.nil hF)) ?_
 rintro _ w2 ⟨rfl,hS2⟩
 refine W ?_
 refine CL rfl (evs3 rfl rfl rfl) rfl (put_any bc base _ _ 4 (fieldF x.word).1 _ (hcd.up hS2) (by omega)) ?_
 rintro _ w3 ⟨rfl,hq⟩
 refine W ?_
 refine WR ?_
 exact .mk (leaf _ _ (by rw [hcL h0,leafI,if_neg (by assumption),if_neg (by assumption),if_neg (by assumption)]) _ (hq.pre hS2))
 have h6:x.kind=6:=by assumption
 rw [hcN] at hl ⊢
 refine CL rfl (evs2 rfl rfl) rfl (binaryC_any x h6 _ (hk6 h6) hcl hcs _ bc base _ _ _ hcd ⟨kv,rfl,hs⟩ hF hl) ?_
 rintro _ w2 hq
 refine W ?_
 refine WR ?_
 exact .mk (main _ _ hq)
 have h9:x.kind=9:=by assumption
 have h3:=hk9 h9
 have e9:codeN x=chC (codeN (x.kids[0]'(by omega))) (codeN (x.kids[1]'(by omega))) (codeN (x.kids[2]'(by omega))):=by
  funext p
  rw [hcN,combC,if_neg (by omega),if_pos h9,hgD 0 (by omega),hgD 1 (by omega),hgD 2 (by omega)]
 have c0:=hcs 0 (by omega) (by omega)
 have c1:=hcs 1 (by omega) (by omega)
 have c2:=hcs 2 (by omega) (by omega)
 rw [List.getElem_map] at c0 c1 c2
 rw [e9] at hl ⊢
 have h0:0<x.kids.length:=by omega
 have h1:1<x.kids.length:=by omega
 have h2:2<x.kids.length:=by omega
 refine WC_drawn 14 (bc :: ob v) [] [(0,0),(1,0),(2,1),(3,0),(4,1),(5,0),(6,1),(7,0),(8,1),(9,0),(10,1),(11,0),(12,1),(13,2)] rfl mixed (by kernel_rfl) (by kernel_rfl) (by kernel_rfl) (fun w1 hS1=>?_)
 replace hs:=hs.up hS1
 replace hblk:=hblk.up hS1
 replace hS:=hS.trans hS1
 obtain ⟨u0,s0,d0⟩:=hs.nd h0
 obtain ⟨u1,s1,d1⟩:=hs.nd h1
 obtain ⟨u2,s2,d2⟩:=hs.nd h2
 refine D ?_
 try (refine WD_read rfl trivial (fun w' hS'=>PR_load_blk rfl rfl (hblk.ext hS' nb) rfl) rfl ?_)
 refine D ?_
 refine WD_read rfl trivial (fun w' hS'=>PR_loadNd rfl rfl (hs.on hS' (fun _ h=>h)) h0 (fun j u hj=>cell_on hs h0 hS' (d0 j u hj))) rfl ?_
 refine D ?_
 try (refine WD_read rfl trivial (fun w' hS'=>PR_load_blk rfl rfl (hblk.ext hS' nb) rfl) rfl ?_)
 refine D ?_
 refine WD_read rfl trivial (fun w' hS'=>PR_loadNd rfl rfl (hs.on hS' (fun _ h=>h)) h1 (fun j u hj=>cell_on hs h1 hS' (d1 j u hj))) rfl ?_
 refine D ?_
 try (refine WD_read rfl trivial (fun w' hS'=>PR_load_blk rfl rfl (hblk.ext hS' nb) rfl) rfl ?_)
 refine D ?_
 refine WD_read rfl trivial (fun w' hS'=>PR_loadNd rfl rfl (hs.on hS' (fun _ h=>h)) h2 (fun j u hj=>cell_on hs h2 hS' (d2 j u hj))) rfl ?_
 refine D ?_
 refine WD_eff rfl trivial (OE_call rfl (evs4 rfl rfl rfl rfl) (choice_any c0 c1 c2 _ bc base v _ _ _ xs (hcd.up hS1) ⟨u0,rfl,s0⟩ ⟨u1,rfl,s1⟩ ⟨u2,rfl,s2⟩ (hF.up hS1) hl)) (fun _ _ h=>by obtain ⟨_,_,h2,_⟩:=h;exact h2) rfl ?_
 rintro _ w5 hq
 refine D ?_
 refine W ?_
 refine WR ?_
 exact .mk (hq.pre hS)
 have h0:x.kids≠[]:=fun h=>by have:=hlf h;omega
 have e0:combC x.kind x.num x.word (x.kids.map codeN) xs.length=plainC x.kind x.word (x.kids.map codeN) xs.length:=by
  rw [combC,if_neg (codeN_kids h0),if_neg (by assumption),if_neg (fun h=>absurd h.1 (by assumption)),if_neg (fun h=>absurd h.1 (by assumption)),if_neg (fun h=>absurd h.1 (by assumption))]
 rw [hcN,e0] at hl ⊢
 refine CL rfl (evs2 rfl rfl) rfl (plain_any x _ hcl hcs _ bc base _ _ _ hcd ⟨kv,rfl,hs⟩ hF hl) ?_
 rintro _ w2 hq
 refine W ?_
 refine WR ?_
 exact .mk (main _ _ hq)
theorem seqC_len (l:List Nd) (h:∀ y∈l,∀ p,(codeN y p).length≤8 * sizeN y) (p:Nat):(seqC (l.map codeN) p).length≤8 * (l.map sizeN).sum:=by
 induction l generalizing p with
 | nil=>simp [seqC]
 | cons x r ih =>
   simp only [List.map_cons,seqC,List.length_append,List.sum_cons]
   have h1:=h x (by simp) p
   have h2:=ih (fun y hy=>h y (by simp [hy])) (p+(codeN x p).length)
   omega
theorem insO_len (l:List Int):(insO l).length=l.length:=by simp [insO]
theorem getD_len {l:List Nd} (h:∀ y∈l,∀ p,(codeN y p).length≤8 * sizeN y) (i p:Nat):((l.map codeN).getD i nilC p).length≤8 * (l.map sizeN).getD i 0:=by
 by_cases hi:i<l.length
 simp [List.getD,hi]
 exact h _ (List.getElem_mem hi) p
 simp [List.getD,hi,nilC]
theorem getD_sum (l:List Nat):l.getD 0 0+l.getD 1 0+l.getD 2 0≤l.sum:=by
 rcases l with _|⟨a,_|⟨b,_|⟨c,r⟩⟩⟩<;>simp<;>omega
theorem chC_len (c y n:Cf) (A B C:Nat) (hc:∀ p,(c p).length≤A) (hy:∀ p,(y p).length≤B) (hn:∀ p,(n p).length≤C) (p:Nat):(chC c y n p).length≤A+B+C+2:=by
 unfold chC
 simp only [List.length_append,List.length_cons,List.length_nil]
 have h1:=hc p
 have h2:=hy (p+(c p).length+1)
 have h3:=hn (p+(c p).length+1+(y (p+(c p).length+1)).length+1)
 omega
theorem codeN_len (x:Nd):∀ p,(codeN x p).length≤8 * sizeN x:=by
 induction x using Nd.ind with
 | h k n s l ih =>
 intro p
 rw [codeN_eq,sizeN_eq]
 show (combC k n s (l.map codeN) p).length≤8 * (1+(l.map sizeN).sum)
 have hs:=getD_sum (l.map sizeN)
 have g:=getD_len ih
 have hp:(plainC k s (l.map codeN) p).length≤8 * (l.map sizeN).sum+3:=by
  unfold plainC
  simp only [List.length_append,insO_len]
  have h1:=seqC_len l ih p
  have h2:=opF_len s
  have h3:(if k=8∨k=5∧s=[45] then [(⟨8,0⟩:Ins)] else []).length≤1:=by split<;>simp
  omega
 unfold combC
 split
 simp;omega
 split
 refine Nat.le_trans (chC_len _ _ _ _ _ _ (g 0) (g 1) (g 2) p) (by omega)
 split
 refine Nat.le_trans (chC_len _ _ _ _ _ 1 (g 0) (g 1) (fun _=>by simp) p) (by omega)
 split
 refine Nat.le_trans (chC_len _ _ _ _ 1 _ (g 0) (fun _=>by simp) (g 1) p) (by omega)
 split
 simp only [List.length_append,List.length_cons,List.length_nil];omega
 omega
def exprF (x:Nd):List Ins:=codeN x 0++[⟨24,0⟩]
def errX (x:Nd):Int:=if nestN x≤12 then (if typeT x=0 then 21 else if (exprF x).length > 200 then 2 else 0) else 2
def ExprR (w:World) (x:Nd) (r:Value) (w':World):Prop:=∃ cv,r=.tuple #[cv,.int .i64 (errX x)]∧(∀ X:List Nat,(∀ b∈X,b<w.heap.size)→SlV X w' cv (if errX x=0 then exprF x else []))∧Stp [] w w'
theorem Expression_any (v:Value) (x:Nd) (w:World) (hsz:sizeN x≤1000) (hx:NdV [] w v x) (hF:SlV [] w flds fieldNames) :
 Calls Tryz.prog 27 #[v] w (Ret (ExprR w x)):=by
 have hN:=hx
 obtain ⟨kv,rfl,hs⟩:=hx
 refine calls_of_WC1 (n:=24) Tryz.func27 rfl rfl rfl ?_
 refine W ?_
 refine WL_eff (OE_box rfl) rfl ?_
 rintro _ w1 ⟨b,rfl,hb,hblk,hS⟩
 replace hblk:Blk w1 b _ (ndC x kv):=hblk
 replace hs:=hs.up hS;replace hN:=hN.up hS;replace hF:=hF.up hS
 refine W ?_
 refine CL rfl (evs1 rfl) rfl (Of_any [] [] _ x _ hN hF) ?_
 rintro _ w2 ⟨rfl,hS2⟩
 replace hs:=hs.up hS2;replace hN:=hN.up hS2;replace hF:=hF.up hS2;replace hblk:=hblk.up hS2
 replace hS:=hS.trans hS2
 by_cases hn:nestN x≤12
 case neg =>
  rw [if_neg hn,if_neg hn]
  have he:errX x=2:=by rw [errX,if_neg hn]
  repeat' (first|refine W1 ?_|omega|(refine VG ?_ ?_<;>intro hg)|(refine VC ?_ ?_<;>intro hc))
  refine WR ?_
  refine .mk ⟨_,by rw [he];rfl,fun X hX=>?_,hS⟩
  rw [he,if_neg (by decide)]
  exact nilSlv _ _
 by_cases ht:typeT x=0
 rw [if_pos hn,if_pos hn,if_pos ht]
 have he:errX x=21:=by rw [errX,if_pos hn,if_pos ht]
 focus repeat' (first|refine W1 ?_|omega|(refine VG ?_ ?_<;>intro hg)|(refine VC ?_ ?_<;>intro hc))
 refine WR ?_
 refine .mk ⟨_,by rw [he];rfl,fun X hX=>?_,hS⟩
 rw [he,if_neg (by decide)]
 exact nilSlv _ _
 rw [if_pos hn,if_pos hn,if_neg ht]
 repeat' (first|refine W1 ?_|omega|(refine VG ?_ ?_<;>intro hg)|(refine VC ?_ ?_<;>intro hc))
 refine WL_eff OE_alloc rfl ?_
 rintro _ w3 ⟨bc,rfl,hbc,hblkc,hS3⟩
 replace hblk:=hblk.up hS3
 replace hblkc:Blk w3 bc 156 [.slice none 0 0]:=hblkc
 refine W ?_
 have hcod:Cod w3 bc w3.heap.size (.slice none 0 0) []:=⟨hblkc,Row.nil,by simp [ob],hblkc.lt,Nat.le_refl _⟩
 have fr:=Fr.start hcod
 have hlen:=codeN_len x 0
 refine CL rfl (evs2 rfl rfl) rfl (expr_ok x ht _ bc _ _ _ [] hcod ⟨kv,rfl,?_⟩ ?_ ?_) ?_
 refine hs.ext hS3 (by simp) (fun c hc=>.inr ?_)
 simp [ob] at hc;omega
 refine hF.ext hS3 (by simp) (fun c hc=>.inr ?_)
 simp [ob] at hc;omega
 simp only [List.length_nil];omega
 rintro _ w4 hq
 obtain ⟨v4,fr⟩:=fr.step hq
 rw [List.nil_append,List.length_nil] at fr
 refine W ?_
 refine CL rfl (evs3 rfl rfl rfl) rfl (put_any bc _ _ _ 24 0 _ fr.cod (by omega)) ?_
 rintro _ w5 ⟨rfl,hq⟩
 obtain ⟨v5,fr⟩:=fr.step hq
 have hfin:Stp [] w w5:=hS.trans (hS3.own fr.stp (fun c hc=>.inr (by simp [ob] at hc;omega)))
 have hrow:=fr.cod.row
 have hblk5:=fr.cod.blk
 have hslv:=hrow.slv0
 have hel:((codeN x 0++[(⟨24,0⟩:Ins)]).length:Int)=(exprF x).length:=rfl
 by_cases hg:(exprF x).length > 200
 have he:errX x=2:=by rw [errX,if_pos hn,if_neg ht,if_pos hg]
 focus repeat' (first|refine W1 ?_|omega|(refine VG ?_ ?_<;>intro hg)|(refine VC ?_ ?_<;>intro hc))
 refine WR ?_
 refine .mk ⟨_,by rw [he],fun X hX=>?_,hfin⟩
 rw [he,if_neg (by decide)]
 exact nilSlv _ _
 have he:errX x=0:=by rw [errX,if_pos hn,if_neg ht,if_neg hg]
 focus repeat' (first|refine W1 ?_|omega|(refine VG ?_ ?_<;>intro hg)|(refine VC ?_ ?_<;>intro hc))
 refine WR ?_
 refine .mk ⟨_,by rw [he],fun X hX=>?_,hfin⟩
 rw [he,if_pos rfl]
 exact Row.slv (X:=X) hrow (fun b hb=>by have:=hX b hb;have:=hS.size;have:=hS3.size;omega)
end Go.Proofs.YtjdjdoefppebkaaGreatDoor
namespace Go.Eng
open Go Go.RowKit Go.Proofs
theorem NewSl.slvG {α:Type} [GoRep α] {w w':World} {X:List Nat} {T len:Nat} {cs:List Value} {v:Value} {ys:List α} {css:List (List Value)} (h:NewSl w T len cs v w') (hX:∀ b∈X,b<w.heap.size) (hl:len=ys.length) (hcl:css.length=ys.length)
 (hc:cs=css.flatten) (hr:∀ i (hi:i<ys.length) (hi':i<css.length),GoRep.rep X w ys[i] css[i]) (hm:ys.length≤maxLen):SlV X w' v ys:=by
 obtain ⟨b,rfl,hb,hblk,hS⟩:=h
 subst hl
 subst hc
 have hk:∀ c∈css,c.length=GoRep.k α:=by
  intro c hc
  obtain ⟨i,hi,rfl⟩:=List.getElem_of_mem hc
  exact GoRep.len (hr i (by omega) hi)
 refine ⟨some ⟨b,0,none⟩,ys.length,rfl,Nat.le_refl _,hm,fun h=>by simp at h,fun i hi=>⟨b,0,css[i]'(by omega),rfl,hblk.lt,fun hx=>by have:=hX b hx;omega,GoRep.ext (hr i hi (by omega)) hS (by simp) (fun b hb=>.inl hb),fun j u hu=>?_⟩⟩
 refine hblk.cell ?_
 have:=flatten_at css hk i (by omega) j u hu
 rw [Nat.zero_add]
 exact this
theorem SlV.wk {α:Type} [GoRep α] {X X':List Nat} {w:World} {v:Value} {l:List α} (h:SlV X w v l) (hs:∀ b∈X',b∈X):SlV X' w v l:=h.ext (Stp.refl [] w) (by simp) (fun b hb=>.inl (hs b hb))
end Go.Eng
namespace Go.Proofs.YtjdjdoefppebkaaGreatDoor
open Go Go.Eng Go.RowKit
theorem buildSN1 (k n:Int) (s:Str) (p:Option Addr) (l c:Nat) (w:World):(Instr.buildSlice 25 1 #[(0,.agg #[.int .i64 k,.int .i64 n,str s,.slice p l c])]).run Tryz.prog w=.ok (.slice (some ⟨w.heap.size,0,none⟩) 1 1) (w.alloc (.cells #[.int .i64 k,.int .i64 n,str s,.slice p l c] 27)):=by kernel_rfl
theorem index_iff:∀ (s sub:List UInt8),0≤Lib.index s sub↔∃ i,i≤s.length∧sub.isPrefixOf (s.drop i)=true
 | [], sub => by
   unfold Lib.index
   cases sub with
   | nil=>simp
   | cons a l=>simp
 | b :: l, sub => by
   have ih:=index_iff l sub
   have hge:=Lib.index_ge l sub
   unfold Lib.index
   by_cases hp:sub.isPrefixOf (b :: l)=true
   rw [if_pos hp]
   exact ⟨fun _=>⟨0,by omega,hp⟩,fun _=>by omega⟩
   rw [if_neg hp]
   have e:(0:Int)≤(if (Lib.index l sub == -1)=true then -1 else Lib.index l sub+1)↔0≤Lib.index l sub:=by
    by_cases h1:Lib.index l sub=-1
    rw [if_pos (by simpa using h1)];omega
    rw [if_neg (by simpa using h1)];omega
   rw [e,ih]
   constructor
   rintro ⟨i,hi,h⟩
   exact ⟨i+1,by simpa using hi,h⟩
   · rintro ⟨i,hi,h⟩
     cases i with
     | zero=>exact absurd h hp
     | succ i=>exact ⟨i,by simpa using hi,h⟩
theorem take_word:∀ (t r:List UInt8),(∀ c∈t,c≠32)→(t++[32]).isPrefixOf r=true→r.takeWhile (fun c=>decide (c≠32))=t
 | [], r, _, h => by
   cases r with
   | nil=>simp at h
   | cons a l =>
     simp [List.isPrefixOf] at h
     subst h
     rfl
 | c :: t, r, hc, h => by
   cases r with
   | nil=>simp at h
   | cons a l =>
     simp only [List.cons_append,List.isPrefixOf,Bool.and_eq_true,beq_iff_eq] at h
     obtain ⟨rfl,h⟩:=h
     have h1:=hc c (by simp)
     rw [List.takeWhile_cons_of_pos (by simpa using h1),take_word t l (fun x hx=>hc x (by simp [hx])) h]
theorem contains_any (a b:Str) (m:Int) (w:World) (ha:a.length<4294967281) (hm:w.cell? ⟨2,0,none⟩=some (.int .i64 m)) :
 Calls Tryz.prog 176 #[str a,str b] w (Ret fun r w'=>r=.bool (Lib.contains a b)∧Stp [] w w'):=by
 refine (Tryz.strings_Contains ⟨a.toArray⟩ ⟨b.toArray⟩ m w (by rw [str_size];exact ha) hm).mono ?_
 rintro e w' ⟨rfl,rfl⟩
 exact .mk ⟨rfl,Stp.refl _ _⟩
theorem Around01_any (z:Int) (m:Int) (w:World) (hm:0<m) (hz:I64 z):Calls Tryz.prog 18 #[.int .i64 z,.int .i64 m] w (Ret fun r w'=>r=.int .i64 ((if z<0 then -(z+1) else z) % m)∧Stp [] w w'):=by
 unfold I64 at hz
 refine calls_of_WC2 (n:=13) Tryz.func18 rfl rfl rfl ?_
 by_cases h:z<0
 focus repeat' (first|refine W1 ?_|omega|(refine VG ?_ ?_<;>intro hg)|(refine VC ?_ ?_<;>intro hc))
 refine WR ?_
 exact .mk ⟨by rw [if_pos h],Stp.refl _ _⟩
 focus repeat' (first|refine W1 ?_|omega|(refine VG ?_ ?_<;>intro hg)|(refine VC ?_ ?_<;>intro hc))
 refine WR ?_
 exact .mk ⟨by rw [if_neg h],Stp.refl _ _⟩
theorem around_range (z m:Int) (hm:0<m):0≤z % m∧z % m<m:=⟨Int.emod_nonneg _ (by omega),Int.emod_lt_of_pos _ hm⟩
theorem Pick01_any (X:List Nat) (v:Value) (l:List Int) (i m:Int) (w:World) (hm:0<m) (hi:I64 i) (hs:SlV X w v l) (hl:∀ a∈l,I64 a):Calls Tryz.prog 94 #[v,.int .i64 i,.int .i64 m] w (Ret fun r w'=>∃ q:Nat,r=.int .i64 (q:Int)∧(q:Int)<m∧Stp [] w w'):=by
 unfold I64 at hi
 have hmax:=hs.max
 refine calls_of_WC3 (n:=21) Tryz.func94 rfl rfl rfl ?_
 refine W ?_
 by_cases hgo:0≤i∧i<l.length
 obtain ⟨h0,h1⟩:=hgo
 obtain ⟨k,rfl⟩:∃ k:Nat,i=(k:Int):=⟨i.toNat,by omega⟩
 have hk:k<l.length:=by omega
 focus repeat' (first|refine W1 ?_|omega|(refine VG ?_ ?_<;>intro hg)|(refine VC ?_ ?_<;>intro hc))
 refine CL rfl (evs2 rfl rfl) rfl (Around01_any _ m _ hm (hl _ (List.getElem_mem hk))) ?_
 rintro _ w2 ⟨rfl,hS⟩
 refine W ?_
 refine WR ?_
 have:=around_range (if l[k]<0 then -(l[k]+1) else l[k]) m hm
 exact .mk ⟨_,by rw [Int.toNat_of_nonneg this.1],by rw [Int.toNat_of_nonneg this.1];exact this.2,hS⟩
 · repeat' (first|refine W1 ?_|omega|(refine VG ?_ ?_<;>intro hg)|(refine VC ?_ ?_<;>intro hc))
   all_goals first
    | (refine WR ?_
       exact .mk ⟨0,rfl,by simpa using hm,Stp.refl _ _⟩)
theorem buildN023 (k:Int) (s:Str) (p:Option Addr) (l c:Nat) (w:World):(Instr.build 27 #[(0,.int .i64 k),(2,str s),(3,.slice p l c)]).run Tryz.prog w=.ok (.agg #[.int .i64 k,.int .i64 0,str s,.slice p l c]) w:=by kernel_rfl
def szD:Nat→Nat
 | 0=>0
 | d+1=>1+3 * szD d
theorem szD_eq {d:Nat} (h:1≤d):szD d=1+3 * szD (d - 1):=by
 cases d with
 | zero=>omega
 | succ d=>rfl
theorem reps1 {X:List Nat} {w:World} {y0:Nd} {k0:Value} (s0:SlV X w k0 y0.kids):∀ i (hi:i < [y0].length) (hi':i < [ndC y0 k0].length),GoRep.rep X w [y0][i] [ndC y0 k0][i]
 | 0,_,_=>(show NRep X w y0 (ndC y0 k0) by rw [y0.eta];exact slv_nrep s0)
theorem reps2 {X:List Nat} {w:World} {y0 y1:Nd} {k0 k1:Value} (s0:SlV X w k0 y0.kids) (s1:SlV X w k1 y1.kids):∀ i (hi:i < [y0,y1].length) (hi':i < [ndC y0 k0,ndC y1 k1].length),GoRep.rep X w [y0,y1][i] [ndC y0 k0,ndC y1 k1][i]
 | 0,_,_=>(show NRep X w y0 (ndC y0 k0) by rw [y0.eta];exact slv_nrep s0)
 | 1,_,_=>(show NRep X w y1 (ndC y1 k1) by rw [y1.eta];exact slv_nrep s1)
theorem reps3 {X:List Nat} {w:World} {y0 y1 y2:Nd} {k0 k1 k2:Value} (s0:SlV X w k0 y0.kids) (s1:SlV X w k1 y1.kids) (s2:SlV X w k2 y2.kids):∀ i (hi:i < [y0,y1,y2].length) (hi':i < [ndC y0 k0,ndC y1 k1,ndC y2 k2].length),GoRep.rep X w [y0,y1,y2][i] [ndC y0 k0,ndC y1 k1,ndC y2 k2][i]
 | 0,_,_=>(show NRep X w y0 (ndC y0 k0) by rw [y0.eta];exact slv_nrep s0)
 | 1,_,_=>(show NRep X w y1 (ndC y1 k1) by rw [y1.eta];exact slv_nrep s1)
 | 2,_,_=>(show NRep X w y2 (ndC y2 k2) by rw [y2.eta];exact slv_nrep s2)
theorem buildN01 (k n:Int) (w:World):(Instr.build 27 #[(0,.int .i64 k),(1,.int .i64 n)]).run Tryz.prog w=.ok (.agg #[.int .i64 k,.int .i64 n,str [],.slice none 0 0]) w:=by kernel_rfl
theorem buildSN2 (k n:Int) (s:Str) (p:Option Addr) (l c:Nat) (k' n':Int) (s':Str) (p':Option Addr) (l' c':Nat) (w:World):(Instr.buildSlice 25 2 #[(0,.agg #[.int .i64 k,.int .i64 n,str s,.slice p l c]),(1,.agg #[.int .i64 k',.int .i64 n',str s',.slice p' l' c'])]).run Tryz.prog w=.ok (.slice (some ⟨w.heap.size,0,none⟩) 2 2) (w.alloc (.cells #[.int .i64 k,.int .i64 n,str s,.slice p l c,.int .i64 k',.int .i64 n',str s',.slice p' l' c'] 27)):=by kernel_rfl
theorem buildSN3 (k n:Int) (s:Str) (p:Option Addr) (l c:Nat) (k' n':Int) (s':Str) (p':Option Addr) (l' c':Nat) (k'' n'':Int) (s'':Str) (p'':Option Addr) (l'' c'':Nat) (w:World):(Instr.buildSlice 25 3 #[(0,.agg #[.int .i64 k,.int .i64 n,str s,.slice p l c]),(1,.agg #[.int .i64 k',.int .i64 n',str s',.slice p' l' c']),(2,.agg #[.int .i64 k'',.int .i64 n'',str s'',.slice p'' l'' c''])]).run Tryz.prog w=.ok (.slice (some ⟨w.heap.size,0,none⟩) 3 3) (w.alloc (.cells #[.int .i64 k,.int .i64 n,str s,.slice p l c,.int .i64 k',.int .i64 n',str s',.slice p' l' c',.int .i64 k'',.int .i64 n'',str s'',.slice p'' l'' c''] 27)):=by kernel_rfl
theorem size1 (k n:Int) (s:Str) (y0:Nd):sizeN (.mk k n s [y0])=1+sizeN y0:=by rw [sizeN_eq];simp [Nd.kids]
theorem size2 (k n:Int) (s:Str) (y0 y1:Nd):sizeN (.mk k n s [y0,y1])=1+sizeN y0+sizeN y1:=by rw [sizeN_eq];simp [Nd.kids];omega
theorem size3 (k n:Int) (s:Str) (y0 y1 y2:Nd):sizeN (.mk k n s [y0,y1,y2])=1+sizeN y0+sizeN y1+sizeN y2:=by rw [sizeN_eq];simp [Nd.kids];omega
theorem size0 (k n:Int) (s:Str):sizeN (.mk k n s [])=1:=by rw [sizeN_eq];simp [Nd.kids]
theorem nest0 (k n:Int) (s:Str):nestN (.mk k n s [])=1:=by rw [nestN_eq];simp [Nd.kids]
theorem nest1 (k n:Int) (s:Str) (y0:Nd):nestN (.mk k n s [y0])=1+nestN y0:=by rw [nestN_eq];simp [Nd.kids]
theorem nest2 (k n:Int) (s:Str) (y0 y1:Nd):nestN (.mk k n s [y0,y1])=1+max (nestN y0) (nestN y1):=by rw [nestN_eq];simp [Nd.kids]
theorem nest3 (k n:Int) (s:Str) (y0 y1 y2:Nd):nestN (.mk k n s [y0,y1,y2])=1+max (max (nestN y0) (nestN y1)) (nestN y2):=by rw [nestN_eq];simp [Nd.kids]
theorem ty0 {k n τ:Int} {s:Str} (h:leafN k n s=τ):typeT (.mk k n s [])=τ:=by rw [typeT_eq];exact h
theorem ty1 {k τ a:Int} {s:Str} {y0:Nd} (h0:typeT y0=a) (h:combT k 0 s [a]=τ):typeT (.mk k 0 s [y0])=τ:=by rw [typeT_eq];simp only [Nd.kind,Nd.num,Nd.word,Nd.kids,List.map_cons,List.map_nil,h0];exact h
theorem ty2 {k τ a b:Int} {s:Str} {y0 y1:Nd} (h0:typeT y0=a) (h1:typeT y1=b) (h:combT k 0 s [a,b]=τ):typeT (.mk k 0 s [y0,y1])=τ:=by rw [typeT_eq];simp only [Nd.kind,Nd.num,Nd.word,Nd.kids,List.map_cons,List.map_nil,h0,h1];exact h
theorem ty3 {k τ a b c:Int} {s:Str} {y0 y1 y2:Nd} (h0:typeT y0=a) (h1:typeT y1=b) (h2:typeT y2=c) (h:combT k 0 s [a,b,c]=τ):typeT (.mk k 0 s [y0,y1,y2])=τ:=by rw [typeT_eq];simp only [Nd.kind,Nd.num,Nd.word,Nd.kids,List.map_cons,List.map_nil,h0,h1,h2];exact h
theorem EqualI_any (va vb:Value) (xs ys:List Int) (w:World) (ha:SlV [] w va xs) (hb:SlV [] w vb ys) :
 Calls Tryz.prog 182 #[va,vb] w (Ret fun r w'=>r=.bool (decide (xs=ys))∧Stp [] w w'):=by
 have hma:=ha.max
 have hmb:=hb.max
 refine calls_of_WC2 (n:=26) Tryz.func182 rfl rfl rfl ?_
 refine W ?_
 by_cases hl:xs.length=ys.length
 case neg =>
  repeat' (first|refine W1 ?_|omega|(refine VG ?_ ?_<;>intro hg)|(refine VC ?_ ?_<;>intro hc))
  refine WR ?_
  exact .mk ⟨by congr 1;rw [eq_comm,decide_eq_false_iff_not];exact fun h=>hl (by rw [h]),Stp.refl _ _⟩
 repeat' (first|refine W1 ?_|omega|(refine VG ?_ ?_<;>intro hg)|(refine VC ?_ ?_<;>intro hc))
 refine WC_loop (σ:=Nat) (fun j=>[(0,va),(1,vb),(4,.bool false),(12,.int .i64 (xs.length:Int)),(13,.int .i64 (j:Int))]) (fun j w'=>j≤xs.length∧Stp [] w w'∧∀ i (h:i<xs.length),i<j→xs[i]=ys[i]'(by omega)) (fun j=>xs.length - j) 0 ⟨rfl,rfl,rfl,rfl,rfl,trivial⟩ ⟨Nat.zero_le _,Stp.refl _ _,fun i _ h=>absurd h (Nat.not_lt_zero _)⟩ ?_
 rintro j w2 ⟨hj,hS,heq⟩
 try dsimp only at hj heq ⊢
 replace ha:=ha.up hS
 replace hb:=hb.up hS
 by_cases hlt:j<xs.length
 have hlt':j<ys.length:=by omega
 focus repeat' (first|refine W1 ?_|omega|(refine VG ?_ ?_<;>intro hg)|(refine VC ?_ ?_<;>intro hc))
 refine WC_drawn 9 [] [] [(0,0),(1,0),(2,0),(3,1),(4,0),(5,0),(6,0),(7,1),(8,0)] rfl mixed (by kernel_rfl) (by kernel_rfl) (by kernel_rfl) (fun w1 hS1=>?_)
 replace ha:=ha.up hS1
 replace hb:=hb.up hS1
 replace hS:=hS.trans hS1
 refine D ?_
 focus repeat' (first|refine W1 ?_|omega|(refine VG ?_ ?_<;>intro hg)|(refine VC ?_ ?_<;>intro hc))
 refine WR ?_
 exact .mk ⟨by congr 1;rw [eq_comm,decide_eq_false_iff_not];exact fun h=>hc (by simp [h]),hS⟩
 have he:xs[j]=ys[j]:=Decidable.byContradiction hc
 have hk:∀ i (h:i<xs.length),i<j+1→xs[i]=ys[i]'(by omega):=fun i h hi=>by
  by_cases hij:i=j
  subst hij;exact he
  exact heq i h (by omega)
 exact WQ_loop (j+1) ⟨rfl,rfl,rfl,rfl,rfl,trivial⟩ ⟨hlt,hS,hk⟩ (Nat.sub_lt_sub_left hlt (Nat.lt_succ_self j))
 have hje:j=xs.length:=by omega
 subst hje
 focus repeat' (first|refine W1 ?_|omega|(refine VG ?_ ?_<;>intro hg)|(refine VC ?_ ?_<;>intro hc))
 refine WR ?_
 exact .mk ⟨by congr 1;rw [eq_comm,decide_eq_true_eq];exact List.ext_getElem hl (fun i h h'=>heq i h h),hS⟩
abbrev RwZ (w w':World) (v:Value) (xs:List Int):Prop:=RowF 3 w w' v xs
theorem GrowI_any (k:Nat) (w:World) (hk:k≤1000000):Calls Tryz.prog 260 #[.slice none 0 0,.int .i64 (k:Int)] w (Ret fun r w'=>RwZ w w' r []):=by
 refine calls_of_WC2 (n:=27) Tryz.func260 rfl rfl rfl ?_
 refine W ?_
 have h0:SlV (α:=Int) [] w (.slice none 0 0) []:=nilSlv _ _
 have hl0:([]:List Int).length=0:=rfl
 repeat' (first|refine W1 ?_|omega|(refine VG ?_ ?_<;>intro hg)|(refine VC ?_ ?_<;>intro hc))
 apply WL_pure (PR_cap rfl) rfl
 by_cases hk0:k=0
 subst hk0
 focus repeat' (first|refine W1 ?_|omega|(refine VG ?_ ?_<;>intro hg)|(refine VC ?_ ?_<;>intro hc))
 refine WR ?_
 exact .mk RowF.nil
 repeat' (first|refine W1 ?_|omega|(refine VG ?_ ?_<;>intro hg)|(refine VC ?_ ?_<;>intro hc))
 apply WL_pure (PR_cap rfl) rfl
 apply WL_pure (PR_slice0n rfl rfl) rfl
 refine W ?_
 refine WL_eff (OE_appZ (k:=k) rfl rfl rfl (by omega) (by simp [maxLen];omega) (by omega)) rfl ?_
 rintro _ w1 ⟨c,rfl,hown,hS⟩
 replace h0:=h0.up hS
 have hr:RwZ w w1 (.slice (some ⟨w.heap.size,0,none⟩) 0 c) []:=⟨⟨[],rfl,fun i h=>absurd h (Nat.not_lt_zero _),hown⟩,hS⟩
 refine W ?_
 apply WL_pure (PR_slice0 rfl rfl) rfl
 refine W ?_
 refine WR ?_
 exact .mk hr
theorem ConcatI_any (v:Value) (xss:List (Sl Int)) (w:World) (hs:SlV [] w v xss) (hl:xss.length≤1000) (hlen:(xss.flatMap Sl.l).length≤100000):Calls Tryz.prog 183 #[v] w (Ret fun r w'=>RwZ w w' r (xss.flatMap Sl.l)):=by
 have hpre:∀ j,((xss.take j).flatMap Sl.l).length≤(xss.flatMap Sl.l).length:=fun j=>by
  rw [← List.take_append_drop j xss,List.flatMap_append,List.length_append]
  simp only [List.take_append_drop]
  have:(xss.take j).flatMap Sl.l=((xss.take j++xss.drop j).take j).flatMap Sl.l:=by rw [List.take_append_drop]
  omega
 have hstep:∀ j (h:j<xss.length),(xss.take (j+1)).flatMap Sl.l=(xss.take j).flatMap Sl.l++xss[j].l:=fun j h=>by
  rw [List.take_succ_eq_append_getElem h,List.flatMap_append]
  simp
 refine calls_of_WC1 (n:=36) Tryz.func183 rfl rfl rfl ?_
 refine W ?_
 refine WC_cutB (σ:=Unit) (fun _=>[(0,v),(3,.int .i64 ((xss.flatMap Sl.l).length:Int))]) (fun _ w'=>w'=w) ?_ ?_
 refine WC_loop (σ:=Nat) (fun j=>[(0,v),(9,v),(10,.int .i64 (xss.length:Int)),(3,.int .i64 (((xss.take j).flatMap Sl.l).length:Int)),(11,.int .i64 (j:Int))]) (fun j w'=>j≤xss.length∧w'=w) (fun j=>xss.length - j) 0 ⟨rfl,rfl,rfl,rfl,rfl,trivial⟩ ⟨Nat.zero_le _,rfl⟩ ?_
 rintro j w2 ⟨hj,rfl⟩
 by_cases hlt:j<xss.length
 obtain ⟨u,hcell,hsu⟩:=hs.sub hlt
 have hum:=hsu.max
 have h1:=hpre j
 have h2:=hpre (j+1)
 have h3:=hstep j hlt
 have h4:((xss.take (j+1)).flatMap Sl.l).length=((xss.take j).flatMap Sl.l).length+xss[j].l.length:=by rw [h3,List.length_append]
 focus repeat' (first|refine W1 ?_|omega|(refine VG ?_ ?_<;>intro hg)|(refine VC ?_ ?_<;>intro hc))
 apply WL_pure (PR_load1 rfl rfl hcell) rfl
 focus repeat' (first|refine W1 ?_|omega|(refine VG ?_ ?_<;>intro hg)|(refine VC ?_ ?_<;>intro hc))
 refine WQ_loop (j+1) ⟨rfl,rfl,rfl,by rw [h4,Int.natCast_add];rfl,rfl,trivial⟩ ⟨hlt,rfl⟩ (by omega)
 have hje:j=xss.length:=by omega
 subst hje
 rw [List.take_length]
 focus repeat' (first|refine W1 ?_|omega|(refine VG ?_ ?_<;>intro hg)|(refine VC ?_ ?_<;>intro hc))
 exact WQ_cut () ⟨rfl,rfl,trivial⟩ rfl
 rintro _ w2 rfl
 refine W ?_
 refine CL rfl (evs2 rfl rfl) rfl (GrowI_any _ _ (by omega)) ?_
 rintro g w3 hr
 refine W ?_
 have hs3:=hs.up hr.2
 refine W ?_
 refine WC_loop (σ:=Nat×Value) (fun q=>[(6,q.2),(25,v),(26,.int .i64 (xss.length:Int)),(27,.int .i64 (q.1:Int))]) (fun q w'=>q.1≤xss.length∧RwZ w2 w' q.2 ((xss.take q.1).flatMap Sl.l)) (fun q=>xss.length - q.1) (0,g) ⟨rfl,rfl,rfl,rfl,trivial⟩ ⟨Nat.zero_le _,by simpa using hr⟩ ?_
 clear hr hs3
 rintro ⟨j,g⟩ w4 ⟨hj,hr⟩
 dsimp only at hj hr ⊢
 by_cases hlt:j<xss.length
 have hs4:SlV (ob g) w4 v xss:=hs.ext hr.2 (by simp) (fun b hb=>.inr (hr.ob_le b hb).1)
 obtain ⟨u,hcell,hsu⟩:=hs4.sub hlt
 have h1:=hpre j
 have h2:=hpre (j+1)
 have h3:=hstep j hlt
 have h4:((xss.take (j+1)).flatMap Sl.l).length=((xss.take j).flatMap Sl.l).length+xss[j].l.length:=by rw [h3,List.length_append]
 focus repeat' (first|refine W1 ?_|omega|(refine VG ?_ ?_<;>intro hg)|(refine VC ?_ ?_<;>intro hc))
 apply WL_pure (PR_load1 rfl rfl hcell) rfl
 focus repeat' (first|refine W1 ?_|omega|(refine VG ?_ ?_<;>intro hg)|(refine VC ?_ ?_<;>intro hc))
 refine WL_eff (OE_appF rfl (by decide) rfl rfl hr hsu (by omega) (by simp only [maxLen];omega)) rfl ?_
 rintro g' w5 ⟨hr',-,-⟩
 refine W ?_
 exact WQ_loop (j+1,g') ⟨rfl,rfl,rfl,rfl,trivial⟩ ⟨hlt,by dsimp only;rw [h3];exact hr'⟩ (by dsimp only;omega)
 have hje:j=xss.length:=by omega
 subst hje
 rw [List.take_length] at hr
 focus repeat' (first|refine W1 ?_|omega|(refine VG ?_ ?_<;>intro hg)|(refine VC ?_ ?_<;>intro hc))
 refine WR ?_
 exact .mk hr
end Go.Proofs.YtjdjdoefppebkaaGreatDoor
namespace Go.Eng
open Go
theorem WQ_ret4 {P:Program} {n:Nat} {fn:Func} {R:Ending→World→Prop} {e:Env} {w:World} {t u s q:Nat} {v x y z:Value} (hr:fn.results=#[.tmp t,.tmp u,.tmp s,.tmp q]) (ht:look e t=some v) (hu:look e u=some x) (hs:look e s=some y) (hq:look e q=some z) (h:R (.returned (.tuple #[v,x,y,z])) w):WQ n (bodyPost P fn R) .ret e w :=
 ⟨fun a ha=>⟨ha.defers,.tuple #[v,x,y,z],by simp [results,hr];simpa [Array.getD_eq_getD_getElem?] using And.intro (ha.vals t v ht) (And.intro (ha.vals u x hu) (And.intro (ha.vals s y hs) (ha.vals q z hq))),h⟩⟩
end Go.Eng
namespace Go.Proofs.YtjdjdoefppebkaaGreatDoor
open Go Go.Eng Go.RowKit
def effF (x:Ins):List Int×List Int×List Int×Bool :=
 if x.op=1 then ([],[],[1],decide (-2147483647≤x.n∧x.n≤2147483647))
 else if x.op=2 then ([],[],[2],decide (x.n=0∨x.n=1))
 else if x.op=3 then ([],[],[3],decide (0≤x.n∧x.n≤3652058))
 else if x.op=4 then ([],[],[if x.n=0∨x.n=1 then 3 else 1],decide (0≤x.n∧x.n<7))
 else if x.op=13 then ([],[],[],true)
 else if x.op=14 then ([2],[],[],true)
 else if x.op=5∨x.op=6∨x.op=7 then ([1,1],[],[1],decide (x.n=0))
 else if x.op=8 then ([1],[],[1],decide (x.n=0))
 else if x.op=9∨x.op=10∨x.op=11 then ([1,1],[3,3],[2],decide (x.n=0))
 else if x.op=12 then ([2],[],[2],decide (x.n=0))
 else if x.op=15∨x.op=16∨x.op=17∨x.op=18 then ([3,1],[],[3],decide (x.n=0))
 else if x.op=19∨x.op=20 then ([3],[],[3],decide (x.n=0))
 else if x.op=21∨x.op=22 then ([3,3],[],[3],decide (x.n=0))
 else if x.op=23 then ([3,3],[],[1],decide (x.n=0))
 else if x.op=24 then ([],[],[],decide (x.n=0))
 else ([],[],[],false)
def EffR (X:List Nat) (w:World) (x:Ins) (r:Value) (w':World):Prop:=∃ a b c,r=.tuple #[a,b,c,.bool (effF x).2.2.2]∧SlV X w' a (effF x).1∧SlV X w' b (effF x).2.1∧SlV X w' c (effF x).2.2.1∧Stp [] w w'
theorem effPost {X:List Nat} {w w':World} {x:Ins} {a b c:Value} {p ok:Bool} {ta al gi:List Int} (heq:effF x=(ta,al,gi,ok)) (hp:p=ok) (ha:SlV X w' a ta) (hb:SlV X w' b al) (hc:SlV X w' c gi) (hS:Stp [] w w'):Ret (EffR X w x) (.returned (.tuple #[a,b,c,.bool p])) w':=by
 refine .mk ⟨a,b,c,?_,?_,?_,?_,hS⟩<;>rw [heq]
 rw [hp]
 exact ha
 exact hb
 exact hc
set_option maxHeartbeats 2000000 in
theorem effect_any (X:List Nat) (x:Ins) (w:World) (hX0:∀ b∈X,b<w.heap.size) :
 Calls Tryz.prog 181 #[agg x] w (Ret (EffR X w x)):=by
 refine calls_of_WC1 (n:=117) Tryz.func181 rfl rfl rfl ?_
 refine W ?_
 refine WL_eff (OE_box rfl) rfl ?_
 rintro _ w0 ⟨b,rfl,hb,hblk,hS⟩
 replace hblk:Blk w0 b _ [.int .i64 x.op,.int .i64 x.n]:=hblk
 have hX:∀ b∈X,b<w0.heap.size:=fun b hb=>Nat.lt_of_lt_of_le (hX0 b hb) hS.size
 refine W ?_
 by_cases h1:x.op=1
 · have heq:effF x=([],[],[1],decide (-2147483647≤x.n∧x.n≤2147483647)):=by simp [effF,h1]
   repeat' (first|refine W1 ?_|omega|(refine VG ?_ ?_<;>intro hg)|(refine VC ?_ ?_<;>intro hc))
   refine WC_drawn 13 [] [] [(1,0),(2,1),(3,0),(4,0),(5,0),(6,1),(7,0),(8,0),(9,0),(10,0),(0,2),(11,0),(12,0)] rfl mixed (by kernel_rfl) (by kernel_rfl) (by kernel_rfl) (fun w1 hS1=>?_)
   replace hblk:=hblk.up hS1
   replace hS:=hS.trans hS1
   replace hX:=fun b hb=>Nat.lt_of_lt_of_le (hX b hb) hS1.size
   repeat' (first|refine D1 ?_|omega|refine WD_splitN rfl rfl rfl rfl (fun hg=>?_) (fun hg=>?_)|(refine WD_splitBN rfl rfl rfl rfl (fun hg=>?_) (fun hg=>?_)<;>refine D1 ?_)|fail)
   all_goals
    refine WD_eff rfl trivial (OE_buildSlice (vs:=[(0,.int .i64 1)]) rfl (buildSI1 _)) (fun _ _ h=>NewSl.stp h) rfl ?_
    rintro g wq hN
    have s_g:SlV X wq g [(1:Int)]:=hN.slv hX rfl rfl (by simp [maxLen])
    have hT:=NewSl.stp hN
    clear hN
    replace hblk:=hblk.up hT
    replace hS:=hS.trans hT
    clear hT
    refine D ?_
    refine W ?_
    refine WQ_ret4 rfl rfl rfl rfl rfl ?_
    refine effPost heq ?_ (nilSlv _ _) (nilSlv _ _) (s_g) hS
    first|rfl|(simp only [decide_eq_decide];omega)|(symm;simp only [decide_eq_false_iff_not];omega)|(simp only [decide_eq_false_iff_not];omega)
 by_cases h2:x.op=2
 · have heq:effF x=([],[],[2],decide (x.n=0∨x.n=1)):=by simp [effF,h2]
   repeat' (first|refine W1 ?_|omega|(refine VG ?_ ?_<;>intro hg)|(refine VC ?_ ?_<;>intro hc))
   refine WC_drawn 13 [] [] [(1,0),(2,1),(3,0),(4,0),(5,0),(6,1),(7,0),(8,0),(9,0),(10,0),(0,2),(11,0),(12,0)] rfl mixed (by kernel_rfl) (by kernel_rfl) (by kernel_rfl) (fun w1 hS1=>?_)
   replace hblk:=hblk.up hS1
   replace hS:=hS.trans hS1
   replace hX:=fun b hb=>Nat.lt_of_lt_of_le (hX b hb) hS1.size
   repeat' (first|refine D1 ?_|omega|refine WD_splitN rfl rfl rfl rfl (fun hg=>?_) (fun hg=>?_)|(refine WD_splitBN rfl rfl rfl rfl (fun hg=>?_) (fun hg=>?_)<;>refine D1 ?_)|fail)
   all_goals
    refine WD_eff rfl trivial (OE_buildSlice (vs:=[(0,.int .i64 2)]) rfl (buildSI1 _)) (fun _ _ h=>NewSl.stp h) rfl ?_
    rintro g wq hN
    have s_g:SlV X wq g [(2:Int)]:=hN.slv hX rfl rfl (by simp [maxLen])
    have hT:=NewSl.stp hN
    clear hN
    replace hblk:=hblk.up hT
    replace hS:=hS.trans hT
    clear hT
    refine D ?_
    refine W ?_
    refine WQ_ret4 rfl rfl rfl rfl rfl ?_
    refine effPost heq ?_ (nilSlv _ _) (nilSlv _ _) (s_g) hS
    first|rfl|(simp only [decide_eq_decide];omega)|(symm;simp only [decide_eq_true_eq];omega)|(simp only [decide_eq_true_eq];omega)
 by_cases h3:x.op=3
 · have heq:effF x=([],[],[3],decide (0≤x.n∧x.n≤3652058)):=by simp [effF,h3]
   repeat' (first|refine W1 ?_|omega|(refine VG ?_ ?_<;>intro hg)|(refine VC ?_ ?_<;>intro hc))
   refine WC_drawn 13 [] [] [(1,0),(2,1),(3,0),(4,0),(5,0),(6,1),(7,0),(8,0),(9,0),(10,0),(0,2),(11,0),(12,0)] rfl mixed (by kernel_rfl) (by kernel_rfl) (by kernel_rfl) (fun w1 hS1=>?_)
   replace hblk:=hblk.up hS1
   replace hS:=hS.trans hS1
   replace hX:=fun b hb=>Nat.lt_of_lt_of_le (hX b hb) hS1.size
   repeat' (first|refine D1 ?_|omega|refine WD_splitN rfl rfl rfl rfl (fun hg=>?_) (fun hg=>?_)|(refine WD_splitBN rfl rfl rfl rfl (fun hg=>?_) (fun hg=>?_)<;>refine D1 ?_)|fail)
   all_goals
    refine WD_eff rfl trivial (OE_buildSlice (vs:=[(0,.int .i64 3)]) rfl (buildSI1 _)) (fun _ _ h=>NewSl.stp h) rfl ?_
    rintro g wq hN
    have s_g:SlV X wq g [(3:Int)]:=hN.slv hX rfl rfl (by simp [maxLen])
    have hT:=NewSl.stp hN
    clear hN
    replace hblk:=hblk.up hT
    replace hS:=hS.trans hT
    clear hT
    refine D ?_
    refine W ?_
    refine WQ_ret4 rfl rfl rfl rfl rfl ?_
    refine effPost heq ?_ (nilSlv _ _) (nilSlv _ _) (s_g) hS
    first|rfl|(simp only [decide_eq_decide];omega)|(symm;simp only [decide_eq_false_iff_not];omega)|(simp only [decide_eq_false_iff_not];omega)
 by_cases h4:x.op=4
 by_cases h01:x.n=0∨x.n=1
 · have heq:effF x=([],[],[3],decide (0≤x.n∧x.n<7)):=by simp [effF,h4,h01]
   repeat' (first|refine W1 ?_|omega|(refine VG ?_ ?_<;>intro hg)|(refine VC ?_ ?_<;>intro hc))
   all_goals
    refine WC_drawn 14 [] [] [(0,0),(2,0),(3,1),(4,0),(5,0),(6,0),(7,1),(8,0),(9,0),(10,0),(11,0),(1,2),(12,0),(13,0)] rfl mixed (by kernel_rfl) (by kernel_rfl) (by kernel_rfl) (fun w1 hS1=>?_)
    replace hblk:=hblk.up hS1
    replace hS:=hS.trans hS1
    replace hX:=fun b hb=>Nat.lt_of_lt_of_le (hX b hb) hS1.size
    repeat' (first|refine D1 ?_|omega|refine WD_splitN rfl rfl rfl rfl (fun hg=>?_) (fun hg=>?_)|(refine WD_splitBN rfl rfl rfl rfl (fun hg=>?_) (fun hg=>?_)<;>refine D1 ?_)|fail)
    all_goals
     refine WD_eff rfl trivial (OE_buildSlice (vs:=[(0,.int .i64 3)]) rfl (buildSI1 _)) (fun _ _ h=>NewSl.stp h) rfl ?_
     rintro g wq hN
     have s_g:SlV X wq g [(3:Int)]:=hN.slv hX rfl rfl (by simp [maxLen])
     have hT:=NewSl.stp hN
     clear hN
     replace hblk:=hblk.up hT
     replace hS:=hS.trans hT
     clear hT
     refine D ?_
     refine W ?_
     refine WQ_ret4 rfl rfl rfl rfl rfl ?_
     refine effPost heq ?_ (nilSlv _ _) (nilSlv _ _) (s_g) hS
     first|rfl|(simp only [decide_eq_decide];omega)|(symm;simp only [decide_eq_true_eq,decide_eq_false_iff_not];omega)|(simp only [decide_eq_true_eq,decide_eq_false_iff_not];omega)
 · have heq:effF x=([],[],[1],decide (0≤x.n∧x.n<7)):=by simp [effF,h4,h01]
   repeat' (first|refine W1 ?_|omega|(refine VG ?_ ?_<;>intro hg)|(refine VC ?_ ?_<;>intro hc))
   all_goals
    refine WC_drawn 14 [] [] [(0,0),(2,0),(3,1),(4,0),(5,0),(6,0),(7,1),(8,0),(9,0),(10,0),(11,0),(1,2),(12,0),(13,0)] rfl mixed (by kernel_rfl) (by kernel_rfl) (by kernel_rfl) (fun w1 hS1=>?_)
    replace hblk:=hblk.up hS1
    replace hS:=hS.trans hS1
    replace hX:=fun b hb=>Nat.lt_of_lt_of_le (hX b hb) hS1.size
    repeat' (first|refine D1 ?_|omega|refine WD_splitN rfl rfl rfl rfl (fun hg=>?_) (fun hg=>?_)|(refine WD_splitBN rfl rfl rfl rfl (fun hg=>?_) (fun hg=>?_)<;>refine D1 ?_)|fail)
    all_goals
     refine WD_eff rfl trivial (OE_buildSlice (vs:=[(0,.int .i64 1)]) rfl (buildSI1 _)) (fun _ _ h=>NewSl.stp h) rfl ?_
     rintro g wq hN
     have s_g:SlV X wq g [(1:Int)]:=hN.slv hX rfl rfl (by simp [maxLen])
     have hT:=NewSl.stp hN
     clear hN
     replace hblk:=hblk.up hT
     replace hS:=hS.trans hT
     clear hT
     refine D ?_
     refine W ?_
     refine WQ_ret4 rfl rfl rfl rfl rfl ?_
     refine effPost heq ?_ (nilSlv _ _) (nilSlv _ _) (s_g) hS
     first|rfl|(simp only [decide_eq_decide];omega)|(symm;simp only [decide_eq_false_iff_not];omega)|(simp only [decide_eq_false_iff_not];omega)
 by_cases h13:x.op=13
 have heq:effF x=([],[],[],true):=by simp [effF,h13]
 focus repeat' (first|refine W1 ?_|omega|(refine VG ?_ ?_<;>intro hg)|(refine VC ?_ ?_<;>intro hc))
 refine WQ_ret4 rfl rfl rfl rfl rfl ?_
 refine effPost heq ?_ (nilSlv _ _) (nilSlv _ _) (nilSlv _ _) hS
 first|rfl|(simp only [decide_eq_decide];omega)|(symm;simp only [decide_eq_true_eq,decide_eq_false_iff_not];omega)|(simp only [decide_eq_true_eq,decide_eq_false_iff_not];omega)
 by_cases h14:x.op=14
 have heq:effF x=([2],[],[],true):=by simp [effF,h14]
 focus repeat' (first|refine W1 ?_|omega|(refine VG ?_ ?_<;>intro hg)|(refine VC ?_ ?_<;>intro hc))
 refine WL_eff (OE_buildSlice (vs:=[(0,.int .i64 2)]) rfl (buildSI1 _)) rfl ?_
 rintro t wq hN
 have s_t:SlV X wq t [(2:Int)]:=hN.slv hX rfl rfl (by simp [maxLen])
 have hT:=NewSl.stp hN
 clear hN
 replace hblk:=hblk.up hT
 replace hS:=hS.trans hT
 replace hX:=fun b hb=>Nat.lt_of_lt_of_le (hX b hb) hT.size
 clear hT
 refine W ?_
 refine WQ_ret4 rfl rfl rfl rfl rfl ?_
 refine effPost heq ?_ (s_t) (nilSlv _ _) (nilSlv _ _) hS
 first|rfl|(simp only [decide_eq_decide];omega)|(symm;simp only [decide_eq_true_eq,decide_eq_false_iff_not];omega)|(simp only [decide_eq_true_eq,decide_eq_false_iff_not];omega)
 by_cases h5:x.op=5∨x.op=6∨x.op=7
 · have heq:effF x=([1,1],[],[1],decide (x.n=0)):=by rcases h5 with h|h|h<;>simp [effF,h]
   repeat' (first|refine W1 ?_|omega|(refine VG ?_ ?_<;>intro hg)|(refine VC ?_ ?_<;>intro hc))
   all_goals
    refine WL_eff (OE_buildSlice (vs:=[(0,.int .i64 1),(1,.int .i64 1)]) rfl (buildSI2 _ _)) rfl ?_
    rintro t wq hN
    have s_t:SlV X wq t [(1:Int),(1:Int)]:=hN.slv hX rfl rfl (by simp [maxLen])
    have hT:=NewSl.stp hN
    clear hN
    replace hblk:=hblk.up hT
    replace hS:=hS.trans hT
    replace hX:=fun b hb=>Nat.lt_of_lt_of_le (hX b hb) hT.size
    clear hT
    refine WL_eff (OE_buildSlice (vs:=[(0,.int .i64 1)]) rfl (buildSI1 _)) rfl ?_
    rintro g wq hN
    have s_g:SlV X wq g [(1:Int)]:=hN.slv hX rfl rfl (by simp [maxLen])
    have hT:=NewSl.stp hN
    clear hN
    replace hblk:=hblk.up hT
    replace hS:=hS.trans hT
    replace hX:=fun b hb=>Nat.lt_of_lt_of_le (hX b hb) hT.size
    replace s_t:=s_t.up hT
    clear hT
    refine W ?_
    refine WC_drawn 10 [] [] [(0,0),(1,0),(2,0),(3,0),(4,1),(5,0),(6,0),(7,0),(8,0),(9,0)] rfl mixed (by kernel_rfl) (by kernel_rfl) (by kernel_rfl) (fun w1 hS1=>?_)
    replace hblk:=hblk.up hS1
    replace hS:=hS.trans hS1
    replace s_t:=s_t.up hS1
    replace s_g:=s_g.up hS1
    refine D ?_
    refine W ?_
    refine WQ_ret4 rfl rfl rfl rfl rfl ?_
    refine effPost heq ?_ (s_t) (nilSlv _ _) (s_g) hS
    first|rfl|(simp only [decide_eq_decide];omega)|(symm;simp only [decide_eq_true_eq,decide_eq_false_iff_not];omega)|(simp only [decide_eq_true_eq,decide_eq_false_iff_not];omega)
 by_cases h8:x.op=8
 · have heq:effF x=([1],[],[1],decide (x.n=0)):=by simp [effF,h8]
   repeat' (first|refine W1 ?_|omega|(refine VG ?_ ?_<;>intro hg)|(refine VC ?_ ?_<;>intro hc))
   all_goals
    refine WL_eff (OE_buildSlice (vs:=[(0,.int .i64 1)]) rfl (buildSI1 _)) rfl ?_
    rintro t wq hN
    have s_t:SlV X wq t [(1:Int)]:=hN.slv hX rfl rfl (by simp [maxLen])
    have hT:=NewSl.stp hN
    clear hN
    replace hblk:=hblk.up hT
    replace hS:=hS.trans hT
    replace hX:=fun b hb=>Nat.lt_of_lt_of_le (hX b hb) hT.size
    clear hT
    refine WL_eff (OE_buildSlice (vs:=[(0,.int .i64 1)]) rfl (buildSI1 _)) rfl ?_
    rintro g wq hN
    have s_g:SlV X wq g [(1:Int)]:=hN.slv hX rfl rfl (by simp [maxLen])
    have hT:=NewSl.stp hN
    clear hN
    replace hblk:=hblk.up hT
    replace hS:=hS.trans hT
    replace hX:=fun b hb=>Nat.lt_of_lt_of_le (hX b hb) hT.size
    replace s_t:=s_t.up hT
    clear hT
    refine W ?_
    refine WC_drawn 10 [] [] [(0,0),(1,0),(2,0),(3,0),(4,1),(5,0),(6,0),(7,0),(8,0),(9,0)] rfl mixed (by kernel_rfl) (by kernel_rfl) (by kernel_rfl) (fun w1 hS1=>?_)
    replace hblk:=hblk.up hS1
    replace hS:=hS.trans hS1
    replace s_t:=s_t.up hS1
    replace s_g:=s_g.up hS1
    refine D ?_
    refine W ?_
    refine WQ_ret4 rfl rfl rfl rfl rfl ?_
    refine effPost heq ?_ (s_t) (nilSlv _ _) (s_g) hS
    first|rfl|(simp only [decide_eq_decide];omega)|(symm;simp only [decide_eq_true_eq,decide_eq_false_iff_not];omega)|(simp only [decide_eq_true_eq,decide_eq_false_iff_not];omega)
 by_cases h9:x.op=9∨x.op=10∨x.op=11
 · have heq:effF x=([1,1],[3,3],[2],decide (x.n=0)):=by rcases h9 with h|h|h<;>simp [effF,h]
   repeat' (first|refine W1 ?_|omega|(refine VG ?_ ?_<;>intro hg)|(refine VC ?_ ?_<;>intro hc))
   all_goals
    refine WL_eff (OE_buildSlice (vs:=[(0,.int .i64 1),(1,.int .i64 1)]) rfl (buildSI2 _ _)) rfl ?_
    rintro t wq hN
    have s_t:SlV X wq t [(1:Int),(1:Int)]:=hN.slv hX rfl rfl (by simp [maxLen])
    have hT:=NewSl.stp hN
    clear hN
    replace hblk:=hblk.up hT
    replace hS:=hS.trans hT
    replace hX:=fun b hb=>Nat.lt_of_lt_of_le (hX b hb) hT.size
    clear hT
    refine WL_eff (OE_buildSlice (vs:=[(0,.int .i64 3),(1,.int .i64 3)]) rfl (buildSI2 _ _)) rfl ?_
    rintro a wq hN
    have s_a:SlV X wq a [(3:Int),(3:Int)]:=hN.slv hX rfl rfl (by simp [maxLen])
    have hT:=NewSl.stp hN
    clear hN
    replace hblk:=hblk.up hT
    replace hS:=hS.trans hT
    replace hX:=fun b hb=>Nat.lt_of_lt_of_le (hX b hb) hT.size
    replace s_t:=s_t.up hT
    clear hT
    refine WL_eff (OE_buildSlice (vs:=[(0,.int .i64 2)]) rfl (buildSI1 _)) rfl ?_
    rintro g wq hN
    have s_g:SlV X wq g [(2:Int)]:=hN.slv hX rfl rfl (by simp [maxLen])
    have hT:=NewSl.stp hN
    clear hN
    replace hblk:=hblk.up hT
    replace hS:=hS.trans hT
    replace hX:=fun b hb=>Nat.lt_of_lt_of_le (hX b hb) hT.size
    replace s_t:=s_t.up hT
    replace s_a:=s_a.up hT
    clear hT
    refine W ?_
    refine WC_drawn 10 [] [] [(0,0),(1,0),(2,0),(3,0),(4,1),(5,0),(6,0),(7,0),(8,0),(9,0)] rfl mixed (by kernel_rfl) (by kernel_rfl) (by kernel_rfl) (fun w1 hS1=>?_)
    replace hblk:=hblk.up hS1
    replace hS:=hS.trans hS1
    replace s_t:=s_t.up hS1
    replace s_a:=s_a.up hS1
    replace s_g:=s_g.up hS1
    refine D ?_
    refine W ?_
    refine WQ_ret4 rfl rfl rfl rfl rfl ?_
    refine effPost heq ?_ (s_t) (s_a) (s_g) hS
    first|rfl|(simp only [decide_eq_decide];omega)|(symm;simp only [decide_eq_true_eq,decide_eq_false_iff_not];omega)|(simp only [decide_eq_true_eq,decide_eq_false_iff_not];omega)
 by_cases h12:x.op=12
 · have heq:effF x=([2],[],[2],decide (x.n=0)):=by simp [effF,h12]
   repeat' (first|refine W1 ?_|omega|(refine VG ?_ ?_<;>intro hg)|(refine VC ?_ ?_<;>intro hc))
   all_goals
    refine WL_eff (OE_buildSlice (vs:=[(0,.int .i64 2)]) rfl (buildSI1 _)) rfl ?_
    rintro t wq hN
    have s_t:SlV X wq t [(2:Int)]:=hN.slv hX rfl rfl (by simp [maxLen])
    have hT:=NewSl.stp hN
    clear hN
    replace hblk:=hblk.up hT
    replace hS:=hS.trans hT
    replace hX:=fun b hb=>Nat.lt_of_lt_of_le (hX b hb) hT.size
    clear hT
    refine WL_eff (OE_buildSlice (vs:=[(0,.int .i64 2)]) rfl (buildSI1 _)) rfl ?_
    rintro g wq hN
    have s_g:SlV X wq g [(2:Int)]:=hN.slv hX rfl rfl (by simp [maxLen])
    have hT:=NewSl.stp hN
    clear hN
    replace hblk:=hblk.up hT
    replace hS:=hS.trans hT
    replace hX:=fun b hb=>Nat.lt_of_lt_of_le (hX b hb) hT.size
    replace s_t:=s_t.up hT
    clear hT
    refine W ?_
    refine WC_drawn 10 [] [] [(0,0),(1,0),(2,0),(3,0),(4,1),(5,0),(6,0),(7,0),(8,0),(9,0)] rfl mixed (by kernel_rfl) (by kernel_rfl) (by kernel_rfl) (fun w1 hS1=>?_)
    replace hblk:=hblk.up hS1
    replace hS:=hS.trans hS1
    replace s_t:=s_t.up hS1
    replace s_g:=s_g.up hS1
    refine D ?_
    refine W ?_
    refine WQ_ret4 rfl rfl rfl rfl rfl ?_
    refine effPost heq ?_ (s_t) (nilSlv _ _) (s_g) hS
    first|rfl|(simp only [decide_eq_decide];omega)|(symm;simp only [decide_eq_true_eq,decide_eq_false_iff_not];omega)|(simp only [decide_eq_true_eq,decide_eq_false_iff_not];omega)
 by_cases h15:x.op=15∨x.op=16∨x.op=17∨x.op=18
 · have heq:effF x=([3,1],[],[3],decide (x.n=0)):=by rcases h15 with h|h|h|h<;>simp [effF,h]
   repeat' (first|refine W1 ?_|omega|(refine VG ?_ ?_<;>intro hg)|(refine VC ?_ ?_<;>intro hc))
   all_goals
    refine WL_eff (OE_buildSlice (vs:=[(0,.int .i64 3),(1,.int .i64 1)]) rfl (buildSI2 _ _)) rfl ?_
    rintro t wq hN
    have s_t:SlV X wq t [(3:Int),(1:Int)]:=hN.slv hX rfl rfl (by simp [maxLen])
    have hT:=NewSl.stp hN
    clear hN
    replace hblk:=hblk.up hT
    replace hS:=hS.trans hT
    replace hX:=fun b hb=>Nat.lt_of_lt_of_le (hX b hb) hT.size
    clear hT
    refine WL_eff (OE_buildSlice (vs:=[(0,.int .i64 3)]) rfl (buildSI1 _)) rfl ?_
    rintro g wq hN
    have s_g:SlV X wq g [(3:Int)]:=hN.slv hX rfl rfl (by simp [maxLen])
    have hT:=NewSl.stp hN
    clear hN
    replace hblk:=hblk.up hT
    replace hS:=hS.trans hT
    replace hX:=fun b hb=>Nat.lt_of_lt_of_le (hX b hb) hT.size
    replace s_t:=s_t.up hT
    clear hT
    refine W ?_
    refine WC_drawn 10 [] [] [(0,0),(1,0),(2,0),(3,0),(4,1),(5,0),(6,0),(7,0),(8,0),(9,0)] rfl mixed (by kernel_rfl) (by kernel_rfl) (by kernel_rfl) (fun w1 hS1=>?_)
    replace hblk:=hblk.up hS1
    replace hS:=hS.trans hS1
    replace s_t:=s_t.up hS1
    replace s_g:=s_g.up hS1
    refine D ?_
    refine W ?_
    refine WQ_ret4 rfl rfl rfl rfl rfl ?_
    refine effPost heq ?_ (s_t) (nilSlv _ _) (s_g) hS
    first|rfl|(simp only [decide_eq_decide];omega)|(symm;simp only [decide_eq_true_eq,decide_eq_false_iff_not];omega)|(simp only [decide_eq_true_eq,decide_eq_false_iff_not];omega)
 by_cases h19:x.op=19∨x.op=20
 · have heq:effF x=([3],[],[3],decide (x.n=0)):=by rcases h19 with h|h<;>simp [effF,h]
   repeat' (first|refine W1 ?_|omega|(refine VG ?_ ?_<;>intro hg)|(refine VC ?_ ?_<;>intro hc))
   all_goals
    refine WL_eff (OE_buildSlice (vs:=[(0,.int .i64 3)]) rfl (buildSI1 _)) rfl ?_
    rintro t wq hN
    have s_t:SlV X wq t [(3:Int)]:=hN.slv hX rfl rfl (by simp [maxLen])
    have hT:=NewSl.stp hN
    clear hN
    replace hblk:=hblk.up hT
    replace hS:=hS.trans hT
    replace hX:=fun b hb=>Nat.lt_of_lt_of_le (hX b hb) hT.size
    clear hT
    refine WL_eff (OE_buildSlice (vs:=[(0,.int .i64 3)]) rfl (buildSI1 _)) rfl ?_
    rintro g wq hN
    have s_g:SlV X wq g [(3:Int)]:=hN.slv hX rfl rfl (by simp [maxLen])
    have hT:=NewSl.stp hN
    clear hN
    replace hblk:=hblk.up hT
    replace hS:=hS.trans hT
    replace hX:=fun b hb=>Nat.lt_of_lt_of_le (hX b hb) hT.size
    replace s_t:=s_t.up hT
    clear hT
    refine W ?_
    refine WC_drawn 10 [] [] [(0,0),(1,0),(2,0),(3,0),(4,1),(5,0),(6,0),(7,0),(8,0),(9,0)] rfl mixed (by kernel_rfl) (by kernel_rfl) (by kernel_rfl) (fun w1 hS1=>?_)
    replace hblk:=hblk.up hS1
    replace hS:=hS.trans hS1
    replace s_t:=s_t.up hS1
    replace s_g:=s_g.up hS1
    refine D ?_
    refine W ?_
    refine WQ_ret4 rfl rfl rfl rfl rfl ?_
    refine effPost heq ?_ (s_t) (nilSlv _ _) (s_g) hS
    first|rfl|(simp only [decide_eq_decide];omega)|(symm;simp only [decide_eq_true_eq,decide_eq_false_iff_not];omega)|(simp only [decide_eq_true_eq,decide_eq_false_iff_not];omega)
 by_cases h21:x.op=21∨x.op=22
 · have heq:effF x=([3,3],[],[3],decide (x.n=0)):=by rcases h21 with h|h<;>simp [effF,h]
   repeat' (first|refine W1 ?_|omega|(refine VG ?_ ?_<;>intro hg)|(refine VC ?_ ?_<;>intro hc))
   all_goals
    refine WL_eff (OE_buildSlice (vs:=[(0,.int .i64 3),(1,.int .i64 3)]) rfl (buildSI2 _ _)) rfl ?_
    rintro t wq hN
    have s_t:SlV X wq t [(3:Int),(3:Int)]:=hN.slv hX rfl rfl (by simp [maxLen])
    have hT:=NewSl.stp hN
    clear hN
    replace hblk:=hblk.up hT
    replace hS:=hS.trans hT
    replace hX:=fun b hb=>Nat.lt_of_lt_of_le (hX b hb) hT.size
    clear hT
    refine WL_eff (OE_buildSlice (vs:=[(0,.int .i64 3)]) rfl (buildSI1 _)) rfl ?_
    rintro g wq hN
    have s_g:SlV X wq g [(3:Int)]:=hN.slv hX rfl rfl (by simp [maxLen])
    have hT:=NewSl.stp hN
    clear hN
    replace hblk:=hblk.up hT
    replace hS:=hS.trans hT
    replace hX:=fun b hb=>Nat.lt_of_lt_of_le (hX b hb) hT.size
    replace s_t:=s_t.up hT
    clear hT
    refine W ?_
    refine WC_drawn 10 [] [] [(0,0),(1,0),(2,0),(3,0),(4,1),(5,0),(6,0),(7,0),(8,0),(9,0)] rfl mixed (by kernel_rfl) (by kernel_rfl) (by kernel_rfl) (fun w1 hS1=>?_)
    replace hblk:=hblk.up hS1
    replace hS:=hS.trans hS1
    replace s_t:=s_t.up hS1
    replace s_g:=s_g.up hS1
    refine D ?_
    refine W ?_
    refine WQ_ret4 rfl rfl rfl rfl rfl ?_
    refine effPost heq ?_ (s_t) (nilSlv _ _) (s_g) hS
    first|rfl|(simp only [decide_eq_decide];omega)|(symm;simp only [decide_eq_true_eq,decide_eq_false_iff_not];omega)|(simp only [decide_eq_true_eq,decide_eq_false_iff_not];omega)
 by_cases h23:x.op=23
 · have heq:effF x=([3,3],[],[1],decide (x.n=0)):=by simp [effF,h23]
   repeat' (first|refine W1 ?_|omega|(refine VG ?_ ?_<;>intro hg)|(refine VC ?_ ?_<;>intro hc))
   all_goals
    refine WL_eff (OE_buildSlice (vs:=[(0,.int .i64 3),(1,.int .i64 3)]) rfl (buildSI2 _ _)) rfl ?_
    rintro t wq hN
    have s_t:SlV X wq t [(3:Int),(3:Int)]:=hN.slv hX rfl rfl (by simp [maxLen])
    have hT:=NewSl.stp hN
    clear hN
    replace hblk:=hblk.up hT
    replace hS:=hS.trans hT
    replace hX:=fun b hb=>Nat.lt_of_lt_of_le (hX b hb) hT.size
    clear hT
    refine WL_eff (OE_buildSlice (vs:=[(0,.int .i64 1)]) rfl (buildSI1 _)) rfl ?_
    rintro g wq hN
    have s_g:SlV X wq g [(1:Int)]:=hN.slv hX rfl rfl (by simp [maxLen])
    have hT:=NewSl.stp hN
    clear hN
    replace hblk:=hblk.up hT
    replace hS:=hS.trans hT
    replace hX:=fun b hb=>Nat.lt_of_lt_of_le (hX b hb) hT.size
    replace s_t:=s_t.up hT
    clear hT
    refine W ?_
    refine WC_drawn 10 [] [] [(0,0),(1,0),(2,0),(3,0),(4,1),(5,0),(6,0),(7,0),(8,0),(9,0)] rfl mixed (by kernel_rfl) (by kernel_rfl) (by kernel_rfl) (fun w1 hS1=>?_)
    replace hblk:=hblk.up hS1
    replace hS:=hS.trans hS1
    replace s_t:=s_t.up hS1
    replace s_g:=s_g.up hS1
    refine D ?_
    refine W ?_
    refine WQ_ret4 rfl rfl rfl rfl rfl ?_
    refine effPost heq ?_ (s_t) (nilSlv _ _) (s_g) hS
    first|rfl|(simp only [decide_eq_decide];omega)|(symm;simp only [decide_eq_true_eq,decide_eq_false_iff_not];omega)|(simp only [decide_eq_true_eq,decide_eq_false_iff_not];omega)
 by_cases h24:x.op=24
 have heq:effF x=([],[],[],decide (x.n=0)):=by simp [effF,h24]
 focus repeat' (first|refine W1 ?_|omega|(refine VG ?_ ?_<;>intro hg)|(refine VC ?_ ?_<;>intro hc))
 refine WC_drawn 10 [] [] [(0,0),(1,0),(2,0),(3,0),(4,1),(5,0),(6,0),(7,0),(8,0),(9,0)] rfl mixed (by kernel_rfl) (by kernel_rfl) (by kernel_rfl) (fun w1 hS1=>?_)
 replace hblk:=hblk.up hS1
 replace hS:=hS.trans hS1
 refine D ?_
 refine W ?_
 refine WQ_ret4 rfl rfl rfl rfl rfl ?_
 refine effPost heq ?_ (nilSlv _ _) (nilSlv _ _) (nilSlv _ _) hS
 first|rfl|(simp only [decide_eq_decide];omega)|(symm;simp only [decide_eq_true_eq,decide_eq_false_iff_not];omega)|(simp only [decide_eq_true_eq,decide_eq_false_iff_not];omega)
 have heq:effF x=([],[],[],false):=by simp [effF,h1,h2,h3,h4,h13,h14,h5,h8,h9,h12,h15,h19,h21,h23,h24]
 repeat' (first|refine W1 ?_|omega|(refine VG ?_ ?_<;>intro hg)|(refine VC ?_ ?_<;>intro hc))
 refine WQ_ret4 rfl rfl rfl rfl rfl ?_
 refine effPost heq ?_ (nilSlv _ _) (nilSlv _ _) (nilSlv _ _) hS
 first|rfl|(simp only [decide_eq_decide];omega)|(symm;simp only [decide_eq_true_eq,decide_eq_false_iff_not];omega)|(simp only [decide_eq_true_eq,decide_eq_false_iff_not];omega)
abbrev Shp:=List Int
def nextM (x:Ins) (s:Shp):Option Shp :=
 let e:=effF x
 let k:=s.length - e.1.length
 if e.2.2.2=true∧e.1.length≤s.length∧(s.drop k=e.1∨e.2.1≠[]∧s.drop k=e.2.1)∧(s.take k++e.2.2.1).length≤16 then some (s.take k++e.2.2.1) else none
def reachM (st:List (Option Shp)) (t:Int) (sh:Shp):Option (List (Option Shp)) :=
 if 0≤t∧t<st.length then
  match st.getD t.toNat none with
  | some s=>if s=sh then some st else none
  | none=>some (st.set t.toNat (some sh))
 else none
def stepM (st:List (Option Shp)) (i:Nat) (x:Ins):Option (List (Option Shp)) :=
 match st.getD i none with
 | none=>none
 | some s =>
   match nextM x s with
   | none=>none
   | some nx =>
     if x.op=24 then (if i+1=st.length∧s.length=1 then some st else none)
     else if x.op=13 then (if x.n > i then reachM st x.n nx else none)
     else if x.op=14 then (if x.n > i then (reachM st x.n nx).bind (fun st'=>reachM st' ((i:Int)+1) nx) else none)
     else reachM st ((i:Int)+1) nx
def runM (code:List Ins):Nat→List (Option Shp)→Option (List (Option Shp))
 | 0,st=>some st
 | k+1,st=>(runM code k st).bind (fun st'=>stepM st' k (code.getD k ⟨0,0⟩))
def verM (code:List Ins):Int×Int :=
 if code.length=0∨code.length > 200 then (0,22) else
  match runM code code.length ((some []) :: List.replicate (code.length - 1) none) with
  | none=>(0,22)
  | some st=>(((st.getD (code.length - 1) none).getD []).headD 0,0)
theorem reachM_len {st st':List (Option Shp)} {t:Int} {sh:Shp} (h:reachM st t sh=some st'):st'.length=st.length:=by
 unfold reachM at h
 split at h
 split at h
 split at h
 cases h;rfl
 cases h
 cases h;simp
 cases h
example:verM [⟨4,0⟩,⟨1,3⟩,⟨15,0⟩,⟨24,0⟩]=(3,0):=by decide
example:verM [⟨24,0⟩]=(0,22):=by decide
end Go.Proofs.YtjdjdoefppebkaaGreatDoor
namespace Go.Eng
open Go Go.RowKit Go.Proofs
theorem Row.slvX {α:Type} [GoRep α] {X:List Nat} {w:World} {base T:Nat} {v:Value} {xs:List α} (h:Row X w base T v xs) (hX:∀ b∈X,b∉ob v):SlV X w v xs:=by
 obtain ⟨css,hl,hr,ho⟩:=h
 have hk:∀ c∈css,c.length=GoRep.k α:=by
  intro c hc
  obtain ⟨i,hi,rfl⟩:=List.getElem_of_mem hc
  exact GoRep.len (hr i (by omega) hi)
 rcases ho.2 with ⟨rfl,hn⟩|⟨q,cap,cur,rfl,hb,hg,hnc,hcm,hcs,ht⟩
 exact ⟨none,0,by rw [hn],by omega,by simp [maxLen],fun _=>rfl,fun i hi=>by omega⟩
 refine ⟨some ⟨q,0,none⟩,cap,rfl,hnc,hcm,fun h=>by simp at h,fun i hi=>?_⟩
 refine ⟨q,0,css[i]'(by omega),rfl,(Array.getElem?_eq_some_iff.1 hg).1,fun hx=>hX q hx (by simp [ob]),?_,fun j u hu=>?_⟩
 exact GoRep.ext (hr i hi (by omega)) (Stp.refl [] w) (by simp) (fun b hb=>.inl (by simp [hb]))
 have h1:=flatten_at css hk i (by omega) j u hu
 rw [← ht,List.getElem?_take] at h1
 split at h1
 have h2:cur[i * GoRep.k α+j]?=some u:=by simpa using h1
 rw [Nat.zero_add,cell_of_row w q _ cur T (0,0) hg]
 exact h2
 cases h1
end Go.Eng
namespace Go.Proofs.YtjdjdoefppebkaaGreatDoor
open Go Go.Eng Go.RowKit
abbrev shpS (st:List (Option Shp)):List (Sl Int):=st.map (fun o=>⟨o.getD []⟩)
abbrev seenS (st:List (Option Shp)):List Bool:=st.map Option.isSome
structure Vf (w:World) (bv base:Nat) (cv hv sv:Value) (code:List Ins) (st:List (Option Shp)):Prop where
 blk:Blk w bv 183 [cv,hv,sv]
 cod:SlV (bv :: (ob hv++ob sv)) w cv code
 shp:Row (bv :: ob sv) w base 22 hv (shpS st)
 seen:Row [] w base 4 sv (seenS st)
 nh:bv∉ob hv
 ns:bv∉ob sv
 hi:base≤w.heap.size
 apart:∀ b∈ob hv,b∉ob sv
 len:st.length=code.length
theorem Vf.up {w w':World} {bv base:Nat} {cv hv sv:Value} {code:List Ins} {st:List (Option Shp)} (h:Vf w bv base cv hv sv code st) (hS:Stp [] w w'):Vf w' bv base cv hv sv code st :=
 ⟨h.blk.up hS,h.cod.up hS,h.shp.up hS,h.seen.up hS,h.nh,h.ns,Nat.le_trans h.hi hS.size,h.apart,h.len⟩
theorem reach_any (bv base:Nat) (cv hv sv uv:Value) (code:List Ins) (st:List (Option Shp)) (t:Int) (s:Shp) (w:World) (h:Vf w bv base cv hv sv code st) (ht:0≤t) (hs:SlV (bv :: (ob hv++ob sv)) w uv s) :
 Calls Tryz.prog 184 #[.pointer (some ⟨bv,0,none⟩),.int .i64 t,uv] w (Ret fun r w'=>Stp (bv :: (ob hv++ob sv)) w w'∧r=.bool (reachM st t s).isSome∧∀ st',reachM st t s=some st'→Vf w' bv base cv hv sv code st'):=by
 have hblk:=h.blk
 have hcode:=h.cod
 have hmax:=hcode.max
 have hlen:=h.len
 have hbh:=h.nh
 have hbs:=h.ns
 have hshp:=h.shp.slvX (fun b hb=>by
  rcases List.mem_cons.1 hb with rfl|hb
  exact hbh
  exact fun hb'=>h.apart b hb' hb)
 have hseen:=h.seen.slv0
 have hl1:(shpS st).length=st.length:=by simp [shpS]
 have hl2:(seenS st).length=st.length:=by simp [seenS]
 refine calls_of_WC3 (n:=45) Tryz.func184 rfl rfl rfl ?_
 refine W ?_
 by_cases hlt:t<code.length
 case neg =>
  have hr:reachM st t s=none:=by rw [reachM,if_neg (by omega)]
  repeat' (first|refine W1 ?_|omega|(refine VG ?_ ?_<;>intro hg)|(refine VC ?_ ?_<;>intro hc))
  refine WR ?_
  exact .mk ⟨Stp.refl _ _,by rw [hr];rfl,fun st' h=>by rw [hr] at h;cases h⟩
 obtain ⟨k,rfl⟩:∃ k:Nat,t=(k:Int):=⟨t.toNat,by omega⟩
 have hk:k<st.length:=by omega
 have hk1:k<(shpS st).length:=by omega
 have hk2:k<(seenS st).length:=by omega
 have hsk:(seenS st)[k]=(st[k]).isSome:=by simp [seenS]
 have hgd:st.getD ((k:Int)).toNat none=st[k]:=by simp [List.getD,hk]
 cases hst:st[k] with
 | some s0 =>
   have hb1:(seenS st)[k]=true:=by rw [hsk,hst];rfl
   have hrM:reachM st (k:Int) s=if s0=s then some st else none:=by
    rw [reachM,if_pos (by omega),hgd,hst]
   repeat' (first|refine W1 ?_|omega|(refine VG ?_ ?_<;>intro hg)|(refine VC ?_ ?_<;>intro hc))
   obtain ⟨u,hcell,hsu⟩:=hshp.sub hk1
   have hu0:(shpS st)[k].l=s0:=by simp [shpS,hst]
   apply WL_pure (PR_load1 rfl rfl hcell) rfl
   refine W ?_
   refine CL rfl (evs2 rfl rfl) rfl (EqualI_any _ _ _ _ _ (hsu.wk (by simp)) (hs.wk (by simp))) ?_
   rintro _ w2 ⟨rfl,hS⟩
   refine W ?_
   refine WR ?_
   rw [hu0]
   refine .mk ⟨hS.mono (by simp),?_,fun st' h'=>?_⟩
   rw [hrM]
   by_cases he:s0=s<;>simp [he]
   rw [hrM] at h'
   split at h'
   cases h';exact h.up hS
   cases h'
   rw [hb1] at hc;exact absurd hc (by simp)
 | none =>
   have hb1:(seenS st)[k]=false:=by rw [hsk,hst];rfl
   have hrM:reachM st (k:Int) s=some (st.set k (some s)):=by
    rw [reachM,if_pos (by omega),hgd,hst]
    simp
   repeat' (first|refine W1 ?_|omega|(refine VG ?_ ?_<;>intro hg)|(refine VC ?_ ?_<;>intro hc))
   rw [hb1] at hc;exact absurd hc (by simp)
   refine WC_drawn 15 (ob hv++ob sv) [] [(0,0),(1,0),(2,0),(3,1),(4,0),(5,0),(6,0),(7,0),(8,1),(9,0),(10,0),(11,0),(12,2),(13,0),(14,2)] rfl mixed (by kernel_rfl) (by kernel_rfl) (by kernel_rfl) (fun w1 hS1=>?_)
   have nb:bv∉ob hv++ob sv:=fun hb=>(List.mem_append.1 hb).elim hbh hbs
   replace hblk:=hblk.up hS1
   have hseen1:=hseen.up hS1
   have hshp1:=hshp.up hS1
   have rs:=h.seen.up hS1
   have rh:=h.shp.up hS1
   refine D ?_
   try (refine WD_read rfl trivial (fun w' hS'=>PR_load_blk rfl rfl (hblk.ext hS' nb) rfl) rfl ?_)
   refine D ?_
   try (refine WD_read rfl trivial (fun w' hS'=>PR_load_blk rfl rfl (hblk.ext hS' nb) rfl) rfl ?_)
   refine D ?_
   refine WD_eff0 rfl trivial (OE_storeElX (α:=Bool) (y':=true) (u:=.bool true) rfl rfl rfl rfl rs hk2) (fun _ _ h=>h.2.mono (by simp_all)) ?_
   rintro _ w3 ⟨rs3,hS3⟩
   replace rh:=rh.ext (X':=bv :: ob sv) hS3 (fun b hb=>⟨List.mem_cons_of_mem _ hb,fun hb'=>h.apart b hb' hb⟩) (fun _ h=>.inl h)
   have hshp3:=rh.slvX (fun b hb=>by
    rcases List.mem_cons.1 hb with rfl|hb
    exact hbh
    exact fun hb'=>h.apart b hb' hb)
   have hS13:Stp (bv :: (ob hv++ob sv)) w w3:=(hS1.mono (by simp)).trans (hS3.mono (fun b hb=>by simp [hb]))
   have hs3:=hs.ext hS13 (fun _ h=>h) (fun _ h=>.inl h)
   refine D ?_
   refine WD_eff0 rfl trivial (OE_storeElX (α:=Sl Int) (y':=⟨s⟩) (u:=uv) rfl rfl rfl ⟨uv,hs3.cells,hs3.wk (fun b hb=>by simp at hb;rcases hb with h|h|h<;>simp [h])⟩ rh hk1) (fun _ _ h=>h.2.mono (by simp_all)) ?_
   rintro _ w4 ⟨rh4,hS4⟩
   refine D ?_
   refine W ?_
   refine WR ?_
   have hS14:Stp (bv :: (ob hv++ob sv)) w w4:=hS13.trans (hS4.mono (fun b hb=>by simp [hb]))
   refine .mk ⟨hS14,by rw [hrM];rfl,fun st' h'=>?_⟩
   rw [hrM] at h'
   cases h'
   have rs4:=rs3.keep hS4 (fun b hb=>h.apart b hb)
   refine ⟨(hblk.ext hS3 hbs).ext hS4 hbh,h.cod.ext hS14 (fun _ h=>h) (fun _ h=>.inl h),?_,?_,hbh,hbs,Nat.le_trans h.hi hS14.size,h.apart,by simpa using h.len⟩
   have e:shpS (st.set k (some s))=(shpS st).set k ⟨s⟩:=by simp [shpS,List.map_set]
   rw [e];exact rh4
   have e:seenS (st.set k (some s))=(seenS st).set k true:=by simp [seenS,List.map_set]
   rw [e];exact rs4
def okS (s:Shp):Prop:=∀ k∈s,k=1∨k=2∨k=3
theorem okS_take {s:Shp} (h:okS s) (k:Nat):okS (s.take k):=fun a ha=>h a (List.mem_of_mem_take ha)
theorem okS_app {s t:Shp} (h:okS s) (h':okS t):okS (s++t):=fun a ha=>(List.mem_append.1 ha).elim (h a) (h' a)
theorem eff_no {op n:Int} (h:¬ (1≤op∧op≤24)):effF ⟨op,n⟩=([],[],[],false):=by
 have h1:∀ k:Int,1≤k→k≤24→¬ op=k:=fun k h1 h2 e=>h (by omega)
 simp only [effF]
 rw [if_neg (h1 1 (by decide) (by decide))]
 rw [if_neg (h1 2 (by decide) (by decide))]
 rw [if_neg (h1 3 (by decide) (by decide))]
 rw [if_neg (h1 4 (by decide) (by decide))]
 rw [if_neg (h1 13 (by decide) (by decide))]
 rw [if_neg (h1 14 (by decide) (by decide))]
 rw [if_neg (not_or.2 ⟨h1 5 (by decide) (by decide),(not_or.2 ⟨h1 6 (by decide) (by decide),(h1 7 (by decide) (by decide))⟩)⟩)]
 rw [if_neg (h1 8 (by decide) (by decide))]
 rw [if_neg (not_or.2 ⟨h1 9 (by decide) (by decide),(not_or.2 ⟨h1 10 (by decide) (by decide),(h1 11 (by decide) (by decide))⟩)⟩)]
 rw [if_neg (h1 12 (by decide) (by decide))]
 rw [if_neg (not_or.2 ⟨h1 15 (by decide) (by decide),(not_or.2 ⟨h1 16 (by decide) (by decide),(not_or.2 ⟨h1 17 (by decide) (by decide),(h1 18 (by decide) (by decide))⟩)⟩)⟩)]
 rw [if_neg (not_or.2 ⟨h1 19 (by decide) (by decide),(h1 20 (by decide) (by decide))⟩)]
 rw [if_neg (not_or.2 ⟨h1 21 (by decide) (by decide),(h1 22 (by decide) (by decide))⟩)]
 rw [if_neg (h1 23 (by decide) (by decide))]
 rw [if_neg (h1 24 (by decide) (by decide))]
def OkSt (st:List (Option Shp)):Prop:=∀ s,some s∈st→okS s
theorem eff_gives (x:Ins):okS (effF x).2.2.1:=by
 obtain ⟨op,n⟩:=x
 by_cases hr:1≤op∧op≤24
 have hn:op=1∨op=2∨op=3∨op=4∨op=5∨op=6∨op=7∨op=8∨op=9∨op=10∨op=11∨op=12∨op=13∨op=14∨op=15∨op=16∨op=17∨op=18∨op=19∨op=20∨op=21∨op=22∨op=23∨op=24:=by omega
 rcases hn with rfl|rfl|rfl|rfl|rfl|rfl|rfl|rfl|rfl|rfl|rfl|rfl|rfl|rfl|rfl|rfl|rfl|rfl|rfl|rfl|rfl|rfl|rfl|rfl
 intro k hk;simp [effF] at hk;omega
 intro k hk;simp [effF] at hk;omega
 intro k hk;simp [effF] at hk;omega
 show okS [if n=0∨n=1 then 3 else 1]
 intro k hk;simp at hk;subst hk;split<;>simp
 intro k hk;simp [effF] at hk;omega
 intro k hk;simp [effF] at hk;omega
 intro k hk;simp [effF] at hk;omega
 intro k hk;simp [effF] at hk;omega
 intro k hk;simp [effF] at hk;omega
 intro k hk;simp [effF] at hk;omega
 intro k hk;simp [effF] at hk;omega
 intro k hk;simp [effF] at hk;omega
 intro k hk;simp [effF] at hk
 intro k hk;simp [effF] at hk
 intro k hk;simp [effF] at hk;omega
 intro k hk;simp [effF] at hk;omega
 intro k hk;simp [effF] at hk;omega
 intro k hk;simp [effF] at hk;omega
 intro k hk;simp [effF] at hk;omega
 intro k hk;simp [effF] at hk;omega
 intro k hk;simp [effF] at hk;omega
 intro k hk;simp [effF] at hk;omega
 intro k hk;simp [effF] at hk;omega
 intro k hk;simp [effF] at hk
 rw [eff_no hr];intro k hk;simp at hk
theorem next_ok {x:Ins} {s nx:Shp} (hs:okS s) (h:nextM x s=some nx):okS nx:=by
 unfold nextM at h
 dsimp only at h
 split at h
 cases h;exact okS_app (okS_take hs _) (eff_gives x)
 cases h
theorem reach_ok {st st':List (Option Shp)} {t:Int} {nx:Shp} (hst:OkSt st) (hn:okS nx) (h:reachM st t nx=some st'):OkSt st':=by
 unfold reachM at h
 split at h
 split at h
 split at h
 cases h;exact hst
 cases h
 cases h
 intro s hs
 rcases List.mem_or_eq_of_mem_set hs with h|h
 exact hst s h
 cases h;exact hn
 cases h
theorem step_ok {st st':List (Option Shp)} {i:Nat} {x:Ins} (hst:OkSt st) (h:stepM st i x=some st'):OkSt st'∧st'.length=st.length:=by
 unfold stepM at h
 split at h
 cases h
 rename_i s hs
 have hs0:okS s:=by
  refine hst s ?_
  have hi:i<st.length:=Nat.lt_of_not_le fun hle=>by simp [List.getD,Nat.not_lt.2 hle] at hs
  have:st.getD i none=st[i]:=by simp [List.getD,hi]
  rw [← hs,this];exact List.getElem_mem hi
 split at h
 cases h
 rename_i nx hn
 have hnx:=next_ok hs0 hn
 split at h
 split at h
 cases h;exact ⟨hst,rfl⟩
 cases h
 split at h
 split at h
 exact ⟨reach_ok hst hnx h,reachM_len h⟩
 cases h
 split at h
 split at h
 obtain ⟨s1,h1,h2⟩:=Option.bind_eq_some_iff.1 h
 exact ⟨reach_ok (reach_ok hst hnx h1) hnx h2,by rw [reachM_len h2,reachM_len h1]⟩
 cases h
 exact ⟨reach_ok hst hnx h,reachM_len h⟩
theorem reach_none {st:List (Option Shp)} {t:Int} {nx:Shp} (h:¬ t<st.length):reachM st t nx=none:=if_neg (fun h'=>h h'.2)
theorem run_ok {code:List Ins} {st0:List (Option Shp)} (h0:OkSt st0):∀ k st,runM code k st0=some st→OkSt st∧st.length=st0.length
 | 0,st,h=>by cases h;exact ⟨h0,rfl⟩
 | k + 1, st, h => by
   obtain ⟨s1,h1,h2⟩:=Option.bind_eq_some_iff.1 h
   obtain ⟨a,b⟩:=run_ok h0 k s1 h1
   obtain ⟨c,d⟩:=step_ok a h2
   exact ⟨c,by omega⟩
theorem buildSL2 (p q:Option Addr) (l m c d:Nat) (w:World):(Instr.buildSlice 180 2 #[(0,.slice p l c),(1,.slice q m d)]).run Tryz.prog w=.ok (.slice (some ⟨w.heap.size,0,none⟩) 2 2) (w.alloc (.cells #[.slice p l c,.slice q m d] 22)):=by kernel_rfl
theorem Vf.shps {w:World} {bv base:Nat} {cv hv sv:Value} {code:List Ins} {st:List (Option Shp)} (h:Vf w bv base cv hv sv code st):SlV (bv :: ob sv) w hv (shpS st) :=
 h.shp.slvX (fun b hb=>by
  rcases List.mem_cons.1 hb with rfl|hb
  exact h.nh
  exact fun hb'=>h.apart b hb' hb)
theorem Vf.bounds {w:World} {bv base:Nat} {cv hv sv:Value} {code:List Ins} {st:List (Option Shp)} (h:Vf w bv base cv hv sv code st):∀ b∈bv :: (ob hv++ob sv),b<w.heap.size:=fun b hb=>by
 have:=h.blk.lt
 simp only [List.mem_cons,List.mem_append] at hb
 rcases hb with rfl|hb|hb
 omega
 exact (h.shp.ob_le b hb).2
 exact (h.seen.ob_le b hb).2
theorem eff_len (x:Ins):(effF x).1.length≤2∧(effF x).2.1.length≤2∧(effF x).2.2.1.length≤1:=by
 obtain ⟨op,n⟩:=x
 by_cases hr:1≤op∧op≤24
 have hn:op=1∨op=2∨op=3∨op=4∨op=5∨op=6∨op=7∨op=8∨op=9∨op=10∨op=11∨op=12∨op=13∨op=14∨op=15∨op=16∨op=17∨op=18∨op=19∨op=20∨op=21∨op=22∨op=23∨op=24:=by omega
 rcases hn with rfl|rfl|rfl|rfl|rfl|rfl|rfl|rfl|rfl|rfl|rfl|rfl|rfl|rfl|rfl|rfl|rfl|rfl|rfl|rfl|rfl|rfl|rfl|rfl<;>simp [effF]
 rw [eff_no hr];simp
theorem step_any (bv base:Nat) (cv hv sv:Value) (code:List Ins) (st:List (Option Shp)) (i:Nat) (w:World) (h:Vf w bv base cv hv sv code st) (hi:i<code.length) (hn:code.length≤1000) (h16:∀ s,some s∈st→s.length≤16) :
 Calls Tryz.prog 93 #[.pointer (some ⟨bv,0,none⟩),.int .i64 (i:Int)] w (Ret fun r w'=>Stp (bv :: (ob hv++ob sv)) w w'∧r=.bool (stepM st i code[i]).isSome∧∀ st',stepM st i code[i]=some st'→Vf w' bv base cv hv sv code st'):=by
 have hlen:=h.len
 have hk1:i<(shpS st).length:=by simp [shpS];omega
 have hk2:i<(seenS st).length:=by simp [seenS];omega
 have hist:i<st.length:=by omega
 refine calls_of_WC2 (n:=140) Tryz.func93 rfl rfl rfl ?_
 refine W ?_
 refine WC_drawnE 17 ([w.heap.size]) [] [(0,0),(1,0),(2,0),(3,1),(4,0),(5,0),(6,1),(7,0),(8,0),(9,0),(10,1),(11,0),(12,0),(13,1),(14,2),(15,2),(16,0)] rfl mixed (by kernel_rfl) (by kernel_rfl) (by kernel_rfl) (fun w1 hS1 hz1=>?_)
 replace h:=h.up hS1
 have hbd:=h.bounds
 have hX:∀ b∈bv :: (ob hv++ob sv),b∉[w.heap.size]:=fun b hb hb'=>by
  have:=hbd b hb
  simp at hb';omega
 obtain ⟨cbl,hcd,hsp⟩:Blk w1 bv 183 [cv,hv,sv]∧SlV [w.heap.size] w1 cv code∧SlV [w.heap.size] w1 hv (shpS st):=⟨h.blk,h.cod.ext (Stp.refl [] _) (by simp) (fun b hb=>.inr (by simp at hb;omega)),h.shps.ext (Stp.refl [] _) (by simp) (fun b hb=>.inr (by simp at hb;omega))⟩
 have nb:bv∉[w.heap.size]:=hX bv (by simp)
 obtain ⟨u,hcell,hsu⟩:=hsp.sub hk1
 refine D ?_
 refine WD_read rfl trivial (fun w' hS'=>PR_load1 rfl rfl (cell_on hsp hk1 hS' hcell)) rfl ?_
 refine D ?_
 refine WD_eff rfl trivial OE_allocE (fun _ _ h=>h.2.2.mono (by simp)) rfl ?_
 rintro _ w2 ⟨rfl,hblk,hS2⟩
 rw [hz1] at hblk ⊢
 refine WD_eff0 rfl trivial (OE_storeA (us:=Flat.enc code[i]) rfl rfl rfl rfl (Flat.one _) hblk rfl) (fun _ _ h=>h.1) ?_
 rintro _ w3 ⟨hS3,hblk3⟩
 have hS13:Stp [] w1 w3:=hS2.own hS3 (fun b hb=>.inr (by simp at hb;omega))
 replace h:=h.up hS13
 replace hS:=hS1.trans hS13
 replace hcd:=h.cod
 replace cbl:=h.blk
 replace hsp:=h.shps
 have hsn:=h.seen.slv0
 replace hbd:=h.bounds
 have hsu3:SlV [w.heap.size] w3 u (shpS st)[i].l:=hsu.ext ((hS2.mono (by simp)).trans hS3) (by simp) (fun _ h=>.inl h)
 clear hblk hS1 hS13 hS2 hS3 hsu hcell
 refine D ?_
 refine W ?_
 refine CL rfl (evs1 rfl) rfl (effect_any (w.heap.size :: bv :: (ob hv++ob sv)) code[i] _ (fun b hb=>by rcases List.mem_cons.1 hb with rfl|hb;exact hblk3.lt;exact hbd b hb)) ?_
 rintro _ w4 ⟨va,vb,vc,rfl,sa,sb,sc,hS4⟩
 have hs4:=hsu3.up hS4
 replace hblk3:=hblk3.up hS4
 replace h:=h.up hS4
 replace hsn:=hsn.up hS4
 replace hS:=hS.trans hS4
 replace cbl:=cbl.up hS4
 clear hS4 hsu3
 have hM:stepM st i code[i]=stepM st i code[i]:=rfl
 conv at hM=>rhs;unfold stepM nextM
 have hgd:st.getD i none=st[i]:=by simp [List.getD,hist]
 have hsh:(shpS st)[i].l=(st[i]).getD []:=by simp [shpS]
 have hsk:(seenS st)[i]=(st[i]).isSome:=by simp [seenS]
 rw [hgd] at hM
 have hlen16:(shpS st)[i].l.length≤16:=by
  rw [hsh]
  cases hst:st[i] with
  | none=>simp
  | some s=>exact h16 s (by rw [← hst];exact List.getElem_mem hist)
 obtain ⟨el1,el2,el3⟩:=eff_len code[i]
 generalize effF code[i]=E at *
 obtain ⟨ta,al,gi,ok⟩:=E
 dsimp only at sa sb sc el1 el2 el3 hM
 generalize hsv:(shpS st)[i].l=s at *
 refine W ?_
 refine WL_cutQ (σ:=Bool) (fun q=>[(0,.pointer (some ⟨bv,0,none⟩)),(1,.int .i64 (i:Int)),(4,.bool false),(5,.pointer (some ⟨w.heap.size,0,none⟩)),(6,u),(9,vc),(11,.int .i64 ((s.length:Int) - (ta.length:Int))),(75,.bool q)])
  (fun q w'=>Stp [] w4 w'∧q=! (decide (st[i].isSome=true∧ok=true∧ta.length≤s.length∧(s.drop (s.length - ta.length)=ta∨al≠[]∧s.drop (s.length - ta.length)=al)))) ?_ ?_
 · cases ok with
   | false =>
     repeat' (first|refine W1 ?_|omega|(refine VG ?_ ?_<;>intro hg)|(refine VC ?_ ?_<;>intro hc))
     exact WQ_cut true ⟨rfl,rfl,rfl,rfl,rfl,rfl,rfl,rfl,trivial⟩ ⟨Stp.refl _ _,by simp⟩
   | true =>
     cases hst:st[i].isSome with
     | false =>
       rw [hst] at hsk
       repeat' (first|refine W1 ?_|omega|(refine VG ?_ ?_<;>intro hg)|(refine VC ?_ ?_<;>intro hc))
       exact WQ_cut true ⟨rfl,rfl,rfl,rfl,rfl,rfl,rfl,rfl,trivial⟩ ⟨Stp.refl _ _,by simp⟩
       exact WQ_cut true ⟨rfl,rfl,rfl,rfl,rfl,rfl,rfl,rfl,trivial⟩ ⟨Stp.refl _ _,by simp⟩
       exact absurd (show (!(seenS st)[i])=false by assumption) (by rw [hsk];decide)
     | true =>
       rw [hst] at hsk
       by_cases hk:ta.length≤s.length
       case neg =>
        repeat' (first|refine W1 ?_|omega|(refine VG ?_ ?_<;>intro hg)|(refine VC ?_ ?_<;>intro hc))
        exact absurd (show (!(seenS st)[i])=true by assumption) (by rw [hsk];decide)
        exact WQ_cut true ⟨rfl,rfl,rfl,rfl,rfl,rfl,rfl,rfl,trivial⟩ ⟨Stp.refl _ _,by simp [hk]⟩
       have hkk:(s.length:Int) - (ta.length:Int)=((s.length - ta.length:Nat):Int):=by omega
       have sd:SlV [w.heap.size] w4 (slc u (s.length - ta.length) s.length 1) (s.drop (s.length - ta.length)):=by
        have:=hs4.slc (l:=s.length - ta.length) (r:=s.length) (by omega) (by omega)
        rw [List.take_length] at this
        exact this
       repeat' (first|refine W1 ?_|omega|(refine VG ?_ ?_<;>intro hg)|(refine VC ?_ ?_<;>intro hc))
       exact absurd (show (!(seenS st)[i])=true by assumption) (by rw [hsk];decide)
       refine WL_slice_l rfl hs4 rfl hkk (by omega) rfl ?_
       refine W ?_
       refine CL rfl (evs2 rfl rfl) rfl (EqualI_any _ _ _ _ _ (sd.wk (by simp)) (sa.wk (by simp))) ?_
       rintro _ w5 ⟨rfl,hS5⟩
       replace sb:=sb.up hS5
       replace hs4:=hs4.up hS5
       replace sd:=sd.up hS5
       repeat' (first|refine W1 ?_|omega|(refine VG ?_ ?_<;>intro hg)|(refine VC ?_ ?_<;>intro hc))
       have h1:¬ s.drop (s.length - ta.length)=ta:=by assumption
       have h2:(al.length:Int)=0:=by assumption
       have h3:al=[]:=List.length_eq_zero_iff.1 (by omega)
       exact WQ_cut true ⟨rfl,rfl,rfl,rfl,rfl,rfl,rfl,rfl,trivial⟩ ⟨hS5,by simp [h1,h3]⟩
       have h1:¬ s.drop (s.length - ta.length)=ta:=by assumption
       have h2:¬ (al.length:Int)=0:=by assumption
       have h3:al≠[]:=fun h=>h2 (by simp [h])
       refine WL_slice_l rfl hs4 rfl hkk (by omega) rfl ?_
       refine W ?_
       refine CL rfl (evs2 rfl rfl) rfl (EqualI_any _ _ _ _ _ (sd.wk (by simp)) (sb.wk (by simp))) ?_
       rintro _ w6 ⟨rfl,hS6⟩
       refine W ?_
       refine WQ_cut _ ⟨rfl,rfl,rfl,rfl,rfl,rfl,rfl,rfl,trivial⟩ ⟨hS5.trans hS6,?_⟩
       by_cases h4:s.drop (s.length - ta.length)=al<;>simp [h1,h3,h4,hk]
       have h1:s.drop (s.length - ta.length)=ta:=Classical.not_not.1 (by assumption)
       exact WQ_cut false ⟨rfl,rfl,rfl,rfl,rfl,rfl,rfl,rfl,trivial⟩ ⟨hS5,by simp [h1,hk]⟩
 rintro q w5 ⟨hS5,hq⟩
 try dsimp only at hq ⊢
 replace hs4:=hs4.up hS5
 replace sc:=sc.up hS5
 replace hblk3:=hblk3.up hS5
 replace h:=h.up hS5
 replace cbl:=cbl.up hS5
 replace hS:=hS.trans hS5
 clear hS5
 by_cases hC:st[i].isSome=true∧ok=true∧ta.length≤s.length∧(s.drop (s.length - ta.length)=ta∨al≠[]∧s.drop (s.length - ta.length)=al)
 case neg =>
  obtain rfl:q=true:=by rw [hq,decide_eq_false hC];rfl
  have hnone:stepM st i code[i]=none:=by
   rw [hM]
   cases hst:st[i] with
   | none=>rfl
   | some s0 =>
     obtain rfl:s=s0:=by rw [hsh,hst];rfl
     dsimp only
     rw [if_neg (fun h=>hC ⟨by rw [hst];rfl,h.1,h.2.1,h.2.2.1⟩)]
  refine W ?_
  refine WR ?_
  exact .mk ⟨hS.mono (by simp),by rw [hnone];rfl,fun st' h=>by rw [hnone] at h;cases h⟩
 obtain rfl:q=false:=by rw [hq,decide_eq_true hC];rfl
 obtain ⟨hst',hok,hk,hC4⟩:=hC
 have hst:st[i]=some s:=by
  cases hst:st[i] with
  | none=>rw [hst] at hst';cases hst'
  | some s0=>rw [hsh,hst];rfl
 rw [hst] at hM
 dsimp only at hM
 have hkk:(s.length:Int) - (ta.length:Int)=((s.length - ta.length:Nat):Int):=by omega
 have sk:SlV [w.heap.size] w5 (slc u 0 (s.length - ta.length) 1) (s.take (s.length - ta.length)):=by
  have:=hs4.slc (l:=0) (r:=s.length - ta.length) (by omega) (by omega)
  rw [List.drop_zero] at this
  exact this
 obtain ⟨p2,c2,hp2⟩:=sk.len
 obtain ⟨p3,c3,rfl⟩:=sc.len
 refine W ?_
 refine WL_slice_h rfl hs4 rfl hkk (by omega) rfl ?_
 rw [hp2] at sk ⊢
 refine W ?_
 refine WL_eff (OE_buildSlice (vs:=[(0,.slice p2 (s.take (s.length - ta.length)).length c2),(1,.slice p3 gi.length c3)]) rfl (buildSL2 _ _ _ _ _ _)) rfl ?_
 rintro bl w6 hN
 have sbl:SlV [] w6 bl [(⟨s.take (s.length - ta.length)⟩:Sl Int),⟨gi⟩]:=hN.slvS (X:=[]) (by simp) rfl rfl (fun i hi hi'=>match i,hi with|0,_=>sk.wk (by simp)|1,_=>sc.wk (by simp)) (by simp [maxLen])
 have hT:=NewSl.stp hN
 clear hN
 replace hs4:=hs4.up hT
 replace hblk3:=hblk3.up hT
 replace h:=h.up hT
 replace cbl:=cbl.up hT
 replace hS:=hS.trans hT
 clear hT
 refine CL rfl (evs1 rfl) rfl (ConcatI_any _ _ _ sbl (by simp) (by simp;omega)) ?_
 rintro rv w7 hrow
 have hcat:[(⟨s.take (s.length - ta.length)⟩:Sl Int),⟨gi⟩].flatMap Sl.l=s.take (s.length - ta.length)++gi:=by simp
 rw [hcat] at hrow
 have hS7:=hrow.2
 have sr:=hrow.slv h.bounds
 replace hs4:=hs4.up hS7
 replace hblk3:=hblk3.up hS7
 replace h:=h.up hS7
 replace cbl:=cbl.up hS7
 replace hS:=hS.trans hS7
 clear hS7 hrow
 by_cases h16n:(s.take (s.length - ta.length)++gi).length≤16
 case neg =>
  have hnone:stepM st i code[i]=none:=by
   rw [hM,if_neg (fun h=>h16n h.2.2.2)]
  repeat' (first|refine W1 ?_|omega|(refine VG ?_ ?_<;>intro hg)|(refine VC ?_ ?_<;>intro hc))
  refine WR ?_
  exact .mk ⟨hS.mono (by simp),by rw [hnone];rfl,fun st' h=>by rw [hnone] at h;cases h⟩
 rw [if_pos ⟨hok,hk,hC4,h16n⟩] at hM
 dsimp only at hM
 generalize s.take (s.length - ta.length)++gi=nx at *
 have hcod:=h.cod
 by_cases h24:code[i].op=24
 rw [if_pos h24] at hM
 focus repeat' (first|refine W1 ?_|omega|(refine VG ?_ ?_<;>intro hg)|(refine VC ?_ ?_<;>intro hc))
 refine WR ?_
 by_cases hl1:s.length=1
 have hn:stepM st i code[i]=some st:=by rw [hM,if_pos ⟨by omega,hl1⟩]
 exact .mk ⟨hS.mono (by simp),by rw [hn];congr 1;exact decide_eq_true (by omega),fun st' h'=>by rw [hn] at h';cases h';exact h⟩
 have hn:stepM st i code[i]=none:=by rw [hM,if_neg (fun h=>hl1 h.2)]
 exact .mk ⟨hS.mono (by simp),by rw [hn];congr 1;exact decide_eq_false (by omega),fun st' h'=>by rw [hn] at h';cases h'⟩
 refine WR ?_
 have hn:stepM st i code[i]=none:=by rw [hM,if_neg (fun h=>by omega)]
 exact .mk ⟨hS.mono (by simp),by rw [hn];rfl,fun st' h=>by rw [hn] at h;cases h⟩
 rw [if_neg h24] at hM
 by_cases h13:code[i].op=13
 rw [if_pos h13] at hM
 by_cases hgt:code[i].n > (i:Int)
 rw [if_pos hgt] at hM
 focus repeat' (first|refine W1 ?_|omega|(refine VG ?_ ?_<;>intro hg)|(refine VC ?_ ?_<;>intro hc))
 refine CL rfl (evs3 rfl rfl rfl) rfl (reach_any bv base cv hv sv _ code st code[i].n nx _ h (by omega) sr) ?_
 rintro _ w8 ⟨hS8,rfl,hV⟩
 refine W ?_
 refine WR ?_
 rw [← hM] at hV
 exact .mk ⟨(hS.mono (by simp)).trans hS8,by rw [hM],hV⟩
 rw [if_neg hgt] at hM
 focus repeat' (first|refine W1 ?_|omega|(refine VG ?_ ?_<;>intro hg)|(refine VC ?_ ?_<;>intro hc))
 refine WR ?_
 exact .mk ⟨hS.mono (by simp),by rw [hM];rfl,fun st' h=>by rw [hM] at h;cases h⟩
 rw [if_neg h13] at hM
 by_cases h14:code[i].op=14
 rw [if_pos h14] at hM
 by_cases hgt:code[i].n > (i:Int)
 · rw [if_pos hgt] at hM
   repeat' (first|refine W1 ?_|omega|(refine VG ?_ ?_<;>intro hg)|(refine VC ?_ ?_<;>intro hc))
   refine CL rfl (evs3 rfl rfl rfl) rfl (reach_any bv base cv hv sv _ code st code[i].n nx _ h (by omega) sr) ?_
   rintro _ w8 ⟨hS8,rfl,hV⟩
   have sr8:=sr.ext (X':=bv :: (ob hv++ob sv)) hS8 (fun _ h=>h) (fun _ h=>.inl h)
   cases hr:reachM st code[i].n nx with
   | none =>
     rw [hr] at hM
     refine W ?_
     refine WR ?_
     exact .mk ⟨(hS.mono (by simp)).trans hS8,by rw [hM];rfl,fun st' h=>by rw [hM] at h;cases h⟩
   | some st1 =>
     rw [hr] at hM
     have h8:=hV st1 hr
     refine W ?_
     refine CL rfl (evs3 rfl rfl rfl) rfl (reach_any bv base cv hv sv _ code st1 ((i:Int)+1) nx _ h8 (by omega) sr8) ?_
     rintro _ w9 ⟨hS9,rfl,hV9⟩
     refine W ?_
     refine WR ?_
     exact .mk ⟨((hS.mono (by simp)).trans hS8).trans hS9,by rw [hM];rfl,fun st' h=>hV9 st' (by rw [hM] at h;exact h)⟩
 rw [if_neg hgt] at hM
 focus repeat' (first|refine W1 ?_|omega|(refine VG ?_ ?_<;>intro hg)|(refine VC ?_ ?_<;>intro hc))
 refine WR ?_
 exact .mk ⟨hS.mono (by simp),by rw [hM];rfl,fun st' h=>by rw [hM] at h;cases h⟩
 rw [if_neg h14] at hM
 repeat' (first|refine W1 ?_|omega|(refine VG ?_ ?_<;>intro hg)|(refine VC ?_ ?_<;>intro hc))
 refine CL rfl (evs3 rfl rfl rfl) rfl (reach_any bv base cv hv sv _ code st ((i:Int)+1) nx _ h (by omega) sr) ?_
 rintro _ w8 ⟨hS8,rfl,hV⟩
 refine W ?_
 refine WR ?_
 rw [← hM] at hV
 exact .mk ⟨(hS.mono (by simp)).trans hS8,by rw [hM],hV⟩
end Go.Proofs.YtjdjdoefppebkaaGreatDoor
