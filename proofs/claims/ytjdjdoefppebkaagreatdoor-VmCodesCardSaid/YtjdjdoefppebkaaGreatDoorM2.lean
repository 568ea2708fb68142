/-
Merged by program out of own texts: Eng17, Ty, Nd0, Typ1, Eng10, Typ2, Typ3, Typ4, Typ5, Typ6, Typ7, Typ8, Typ9, Typ10, Typ11, Typ12, Typ13, Cmp1, Cmp2, Cmp3, Cmp4, Cmp5, Cmp6, Cmp7, Cmp8, Cmp10, Cmp11, Cmp12, Cmp13, Prn1, Nam1, Nam2, Gen1, Gen3, Ver2, Ver3, Ver4, Ver5, Ver7a, Ver7b, Ver7c, Ver9, Ver10, Ver11.
-/
import Derived.Test.YtjdjdoefppebkaaGreatDoorM1
import Derived.Lib.ConvBytes
import Derived.Laws.AppendOwn
import Derived.Test.YtjdjdoefppebkaaGreatDoorRows
import Derived.MapKept
import Derived.Laws.StructEq
import Derived.ChangeKeysEq
set_option linter.unusedVariables false
set_option linter.unusedSimpArgs false
namespace Go.Eng
open Go Go.RowKit Go.Proofs
instance:Z9 UInt8 where
 k:=1
 enc:=fun b=>[.int .u8 (b.toNat:Int)]
 len:=fun _=>rfl
 one:=by intro x u hu;simp at hu;subst hu;rfl
section
variable {P:Program} {n:Nat} {e:Env} {w:World} {d:Option Nat} {ty:TypeId} {pos:String} {af:Array Edge} {g:Option (Nat×Bool)}
theorem ZdJ {src dst el:TypeId} {x:Operand} {s:Str} [hs:Und P src .string] [hd:Und P dst (.slice el)] [he:Und P el (.int .u8)] (hx:ev e x=some (str s)) (hl:s.length≤1000000) :
 OE P n ⟨d,.convert src dst x,ty,pos,af,g⟩ e w (fun v w'=>(∀ X:List Nat,(∀ b∈X,b<w.heap.size)→SlV X w' v s)∧Stp [] w w'):=by
 refine Z07 (v:=.slice (some ⟨w.heap.size,0,none⟩) s.length (grownCap w s.length 0 el)) (w':=Go.Lib.bytesWorld w el ⟨s.toArray⟩) (fun a ha=>?_) ⟨fun X hX=>?_,?_⟩
 have h:=Go.Lib.run_convert_string_bytes (P:=P) w src dst el ⟨s.toArray⟩ hs.h hd.h he.h
 simp only [Z0a] at h
 simp [execOp,ha.ev hx,h]
 refine ⟨some ⟨w.heap.size,0,none⟩,_,rfl,grownCap_ge w _ _ _,grownCap_le_maxLen w _ _ _ (by simp [maxLen];omega),(fun h=>by cases h),fun i hi=>⟨w.heap.size,0,Z9.enc s[i],rfl,?_,fun h=>by have:=hX _ h;omega,rfl,fun j u hu=>?_⟩⟩
 rw [Go.Lib.bytesWorld_size];omega
 have hj:j=0:=by
  have:=(XF.1 hu).1
  simp [Z9.enc] at this
  exact this
 subst hj
 have hc:=Go.Lib.bytesWorld_cell w el ⟨s.toArray⟩ i (by rw [Z0a];exact hi)
 simp only [Z9.enc,List.getElem?_cons_zero,Xh] at hu
 subst hu
 have e1:(0+i * Z8.k UInt8+0)=i:=by show 0+i * 1+0=i;omega
 rw [e1,hc]
 simp [List.getD,hi]
 refine ⟨rfl,rfl,rfl,?_,fun b hb _=>Go.Lib.bytesWorld_at_old w el _ b hb⟩
 rw [Go.Lib.bytesWorld_size];omega
end
end Go.Eng
namespace Go.Proofs.YtjdjdoefppebkaaGreatDoor
open Go Go.Eng
theorem mixed:Tryz.prog.follows .mixedOrders=true:=by kernel_rfl
abbrev Zpb:=uM Tryz.underlying3
instance Zrn:Siz Tryz.prog 3 1:=⟨by kernel_rfl⟩
instance Zro:Byt Tryz.prog 3 8:=⟨by kernel_rfl⟩
instance Zrp:Zer Tryz.prog 3 (.int .i64 0):=⟨by kernel_rfl⟩
abbrev Zpc:=uM Tryz.underlying4
instance Zrq:Siz Tryz.prog 4 1:=⟨by kernel_rfl⟩
abbrev Zpd:=uM Tryz.underlying5
instance Zrr:Siz Tryz.prog 5 1:=⟨by kernel_rfl⟩
abbrev Zpe:=uM Tryz.underlying9
instance Zrs:Siz Tryz.prog 9 1:=⟨by kernel_rfl⟩
instance Zrt:Byt Tryz.prog 9 16:=⟨by kernel_rfl⟩
instance Zru:Zer Tryz.prog 9 (.string ByteArray.empty):=⟨by kernel_rfl⟩
abbrev Zlr:=uM Tryz.underlying20
abbrev Zls:=uM Tryz.underlying21
abbrev Zlt:=uM Tryz.underlying22
instance ZqV:Siz Tryz.prog 22 1:=⟨by kernel_rfl⟩
abbrev Zlu:=uM Tryz.underlying24
instance ZqW:Siz Tryz.prog 24 5:=⟨by kernel_rfl⟩
instance ZoG:Fld Tryz.prog 24 0 0:=⟨_,_,0,Tryz.underlying24,rfl,rfl,by kernel_rfl⟩
instance ZoH:Fld Tryz.prog 24 1 1:=⟨_,_,0,Tryz.underlying24,rfl,rfl,by kernel_rfl⟩
instance ZoI:Fld Tryz.prog 24 2 2:=⟨_,_,0,Tryz.underlying24,rfl,rfl,by kernel_rfl⟩
instance ZoJ:Fld Tryz.prog 24 3 3:=⟨_,_,0,Tryz.underlying24,rfl,rfl,by kernel_rfl⟩
instance ZoK:Fld Tryz.prog 24 4 4:=⟨_,_,0,Tryz.underlying24,rfl,rfl,by kernel_rfl⟩
abbrev Zlv:=uM Tryz.underlying25
instance ZqX:Siz Tryz.prog 25 1:=⟨by kernel_rfl⟩
abbrev Zlw:=uM Tryz.underlying27
instance ZqY:Siz Tryz.prog 27 4:=⟨by kernel_rfl⟩
instance ZqZ:Byt Tryz.prog 27 56:=⟨by kernel_rfl⟩
instance Zr0:Zer Tryz.prog 27 (.agg #[.int .i64 0,.int .i64 0,.string ByteArray.empty,.slice none 0 0]):=⟨by kernel_rfl⟩
instance ZoL:Fld Tryz.prog 27 0 0:=⟨_,_,0,Tryz.underlying27,rfl,rfl,by kernel_rfl⟩
instance ZoM:Fld Tryz.prog 27 1 1:=⟨_,_,0,Tryz.underlying27,rfl,rfl,by kernel_rfl⟩
instance ZoN:Fld Tryz.prog 27 2 2:=⟨_,_,0,Tryz.underlying27,rfl,rfl,by kernel_rfl⟩
instance ZoO:Fld Tryz.prog 27 3 3:=⟨_,_,0,Tryz.underlying27,rfl,rfl,by kernel_rfl⟩
abbrev Zlx:=uM Tryz.underlying29
instance Zr1:Siz Tryz.prog 29 7:=⟨by kernel_rfl⟩
instance Zr2:Zer Tryz.prog 29 (.agg #[.int .i64 0,.int .i64 0,.int .i64 0,.int .i64 0,.int .i64 0,.int .i64 0,.int .i64 0]):=⟨by kernel_rfl⟩
instance ZoP:Fld Tryz.prog 29 0 0:=⟨_,_,0,Tryz.underlying29,rfl,rfl,by kernel_rfl⟩
instance ZoQ:Fld Tryz.prog 29 1 1:=⟨_,_,0,Tryz.underlying29,rfl,rfl,by kernel_rfl⟩
instance ZoR:Fld Tryz.prog 29 2 2:=⟨_,_,0,Tryz.underlying29,rfl,rfl,by kernel_rfl⟩
instance ZoS:Fld Tryz.prog 29 3 3:=⟨_,_,0,Tryz.underlying29,rfl,rfl,by kernel_rfl⟩
instance ZoT:Fld Tryz.prog 29 4 4:=⟨_,_,0,Tryz.underlying29,rfl,rfl,by kernel_rfl⟩
instance ZoU:Fld Tryz.prog 29 5 5:=⟨_,_,0,Tryz.underlying29,rfl,rfl,by kernel_rfl⟩
instance ZoV:Fld Tryz.prog 29 6 6:=⟨_,_,0,Tryz.underlying29,rfl,rfl,by kernel_rfl⟩
abbrev Zly:=uM Tryz.underlying30
abbrev Zlz:=uM Tryz.underlying31
instance Zr3:Siz Tryz.prog 31 1:=⟨by kernel_rfl⟩
abbrev ZlA:=uM Tryz.underlying32
instance Zr4:Siz Tryz.prog 32 1:=⟨by kernel_rfl⟩
abbrev ZlB:=uM Tryz.underlying33
instance Zr5:Siz Tryz.prog 33 1:=⟨by kernel_rfl⟩
abbrev ZlC:=uM Tryz.underlying35
instance Zr6:Siz Tryz.prog 35 2:=⟨by kernel_rfl⟩
instance Zr7:Zer Tryz.prog 35 (.agg #[.int .i64 0,.slice none 0 0]):=⟨by kernel_rfl⟩
instance ZoW:Fld Tryz.prog 35 1 1:=⟨_,_,0,Tryz.underlying35,rfl,rfl,by kernel_rfl⟩
abbrev ZlD:=uM Tryz.underlying37
instance Zr8:Siz Tryz.prog 37 12:=⟨by kernel_rfl⟩
instance Zr9:Zer Tryz.prog 37 (.agg #[.bool false,.bool false,.bool false,.bool false,.bool false,.bool false,.bool false,.slice none 0 0,.slice none 0 0,.int .i64 0,.slice none 0 0,.int .i64 0]):=⟨by kernel_rfl⟩
instance ZoX:Fld Tryz.prog 37 0 0:=⟨_,_,6,Tryz.underlying37,rfl,rfl,by kernel_rfl⟩
instance ZoY:Fld Tryz.prog 37 1 7:=⟨_,_,0,Tryz.underlying37,rfl,rfl,by kernel_rfl⟩
instance ZoZ:Fld Tryz.prog 37 2 8:=⟨_,_,0,Tryz.underlying37,rfl,rfl,by kernel_rfl⟩
instance Zp0:Fld Tryz.prog 37 3 9:=⟨_,_,1,Tryz.underlying37,rfl,rfl,by kernel_rfl⟩
abbrev ZlE:=uM Tryz.underlying40
instance Zra:Siz Tryz.prog 40 1:=⟨by kernel_rfl⟩
abbrev ZlF:=uM Tryz.underlying41
instance Zrb:Siz Tryz.prog 41 1:=⟨by kernel_rfl⟩
instance Zrc:Zer Tryz.prog 41 (.int .i64 0):=⟨by kernel_rfl⟩
abbrev ZlG:=uM Tryz.underlying45
instance Zrd:Siz Tryz.prog 45 1:=⟨by kernel_rfl⟩
instance Zre:Zer Tryz.prog 45 (.slice none 0 0):=⟨by kernel_rfl⟩
abbrev ZlH:=uM Tryz.underlying51
instance Zrf:Siz Tryz.prog 51 2:=⟨by kernel_rfl⟩
instance Zrg:Byt Tryz.prog 51 16:=⟨by kernel_rfl⟩
instance Zrh:Zer Tryz.prog 51 (.agg #[.int .i64 0,.int .i64 0]):=⟨by kernel_rfl⟩
instance Zp1:Fld Tryz.prog 51 0 0:=⟨_,_,0,Tryz.underlying51,rfl,rfl,by kernel_rfl⟩
instance Zp2:Fld Tryz.prog 51 1 1:=⟨_,_,0,Tryz.underlying51,rfl,rfl,by kernel_rfl⟩
abbrev ZlI:=uM Tryz.underlying52
abbrev ZlJ:=uM Tryz.underlying54
abbrev ZlK:=uM Tryz.underlying77
instance Zri:Siz Tryz.prog 77 3:=⟨by kernel_rfl⟩
instance Zrj:Byt Tryz.prog 77 24:=⟨by kernel_rfl⟩
instance Zrk:Zer Tryz.prog 77 (.agg #[.int .i64 0,.int .i64 0,.int .i64 0]):=⟨by kernel_rfl⟩
instance Zp3:Fld Tryz.prog 77 0 0:=⟨_,_,0,Tryz.underlying77,rfl,rfl,by kernel_rfl⟩
instance Zp4:Fld Tryz.prog 77 1 1:=⟨_,_,0,Tryz.underlying77,rfl,rfl,by kernel_rfl⟩
instance Zp5:Fld Tryz.prog 77 2 2:=⟨_,_,0,Tryz.underlying77,rfl,rfl,by kernel_rfl⟩
abbrev ZlL:=uM Tryz.underlying83
instance Zrl:Siz Tryz.prog 83 7:=⟨by kernel_rfl⟩
instance Zrm:Zer Tryz.prog 83 (.agg #[.int .i64 0,.int .i64 0,.int .i64 0,.int .i64 0,.int .i64 0,.int .i64 0,.int .i64 0]):=⟨by kernel_rfl⟩
instance ZlM:Fld Tryz.prog 103 0 0:=⟨_,_,0,Tryz.underlying103,rfl,rfl,by kernel_rfl⟩
instance ZlN:Fld Tryz.prog 103 1 1:=⟨_,_,0,Tryz.underlying103,rfl,rfl,by kernel_rfl⟩
abbrev Zic:=uM Tryz.underlying111
instance Zpf:Siz Tryz.prog 111 2:=⟨by kernel_rfl⟩
instance Zpg:Byt Tryz.prog 111 16:=⟨by kernel_rfl⟩
instance Zph:Zer Tryz.prog 111 (.agg #[.int .i64 0,.int .i64 0]):=⟨by kernel_rfl⟩
abbrev Zid:=uM Tryz.underlying114
instance Zpi:Siz Tryz.prog 114 20:=⟨by kernel_rfl⟩
instance Zpj:Zer Tryz.prog 114 (.agg #[.int .i64 0,.int .i64 0,.int .i64 0,.int .i64 0,.int .i64 0,.int .i64 0,.int .i64 0,.bool false,.bool false,.bool false,.bool false,.bool false,.bool false,.bool false,.slice none 0 0,.slice none 0 0,.int .i64 0,.slice none 0 0,.int .i64 0,.int .i64 0]):=⟨by kernel_rfl⟩
instance ZlO:Fld Tryz.prog 114 0 0:=⟨_,_,6,Tryz.underlying114,rfl,rfl,by kernel_rfl⟩
instance ZlP:Fld Tryz.prog 114 1 7:=⟨_,_,11,Tryz.underlying114,rfl,rfl,by kernel_rfl⟩
instance ZlQ:Fld Tryz.prog 114 2 19:=⟨_,_,0,Tryz.underlying114,rfl,rfl,by kernel_rfl⟩
abbrev Zie:=uM Tryz.underlying119
abbrev Zif:=uM Tryz.underlying124
instance ZlR:Fld Tryz.prog 126 0 0:=⟨_,_,6,Tryz.underlying126,rfl,rfl,by kernel_rfl⟩
instance ZlS:Fld Tryz.prog 126 1 7:=⟨_,_,11,Tryz.underlying126,rfl,rfl,by kernel_rfl⟩
instance ZlT:Fld Tryz.prog 126 2 19:=⟨_,_,0,Tryz.underlying126,rfl,rfl,by kernel_rfl⟩
instance ZlU:Fld Tryz.prog 126 3 20:=⟨_,_,0,Tryz.underlying126,rfl,rfl,by kernel_rfl⟩
instance ZlV:Fld Tryz.prog 126 4 21:=⟨_,_,0,Tryz.underlying126,rfl,rfl,by kernel_rfl⟩
instance ZlW:Fld Tryz.prog 126 5 22:=⟨_,_,0,Tryz.underlying126,rfl,rfl,by kernel_rfl⟩
instance ZlX:Fld Tryz.prog 126 6 23:=⟨_,_,0,Tryz.underlying126,rfl,rfl,by kernel_rfl⟩
instance ZlY:Fld Tryz.prog 126 7 24:=⟨_,_,0,Tryz.underlying126,rfl,rfl,by kernel_rfl⟩
abbrev Zig:=uM Tryz.underlying157
abbrev Zih:=uM Tryz.underlying159
instance Zpk:Siz Tryz.prog 159 1:=⟨by kernel_rfl⟩
instance Zpl:Zer Tryz.prog 159 (.nilFunc):=⟨by kernel_rfl⟩
abbrev Zii:=uM Tryz.underlying167
instance Zpm:Siz Tryz.prog 167 4:=⟨by kernel_rfl⟩
instance Zpn:Byt Tryz.prog 167 40:=⟨by kernel_rfl⟩
instance Zpo:Zer Tryz.prog 167 (.agg #[.int .i64 0,.int .i64 0,.string ByteArray.empty,.int .i64 0]):=⟨by kernel_rfl⟩
instance ZlZ:Fld Tryz.prog 167 0 0:=⟨_,_,0,Tryz.underlying167,rfl,rfl,by kernel_rfl⟩
instance Zm0:Fld Tryz.prog 167 1 1:=⟨_,_,0,Tryz.underlying167,rfl,rfl,by kernel_rfl⟩
instance Zm1:Fld Tryz.prog 167 2 2:=⟨_,_,0,Tryz.underlying167,rfl,rfl,by kernel_rfl⟩
instance Zm2:Fld Tryz.prog 167 3 3:=⟨_,_,0,Tryz.underlying167,rfl,rfl,by kernel_rfl⟩
abbrev Zij:=uM Tryz.underlying168
instance Zm3:Fld Tryz.prog 170 0 0:=⟨_,_,0,Tryz.underlying170,rfl,rfl,by kernel_rfl⟩
instance Zm4:Fld Tryz.prog 170 1 1:=⟨_,_,0,Tryz.underlying170,rfl,rfl,by kernel_rfl⟩
instance Zm5:Fld Tryz.prog 170 2 2:=⟨_,_,0,Tryz.underlying170,rfl,rfl,by kernel_rfl⟩
abbrev Zik:=uM Tryz.underlying180
abbrev Zil:=uM Tryz.underlying187
instance Zpp:Siz Tryz.prog 187 9:=⟨by kernel_rfl⟩
instance Zpq:Byt Tryz.prog 187 72:=⟨by kernel_rfl⟩
instance Zpr:Zer Tryz.prog 187 (.agg #[.int .i64 0,.int .i64 0,.int .i64 0,.int .i64 0,.int .i64 0,.int .i64 0,.int .i64 0,.int .i64 0,.int .i64 0]):=⟨by kernel_rfl⟩
instance Zm6:Fld Tryz.prog 187 0 0:=⟨_,_,0,Tryz.underlying187,rfl,rfl,by kernel_rfl⟩
instance Zm7:Fld Tryz.prog 187 1 1:=⟨_,_,0,Tryz.underlying187,rfl,rfl,by kernel_rfl⟩
instance Zm8:Fld Tryz.prog 187 2 2:=⟨_,_,0,Tryz.underlying187,rfl,rfl,by kernel_rfl⟩
instance Zm9:Fld Tryz.prog 187 3 3:=⟨_,_,0,Tryz.underlying187,rfl,rfl,by kernel_rfl⟩
instance Zma:Fld Tryz.prog 187 4 4:=⟨_,_,0,Tryz.underlying187,rfl,rfl,by kernel_rfl⟩
instance Zmb:Fld Tryz.prog 187 5 5:=⟨_,_,0,Tryz.underlying187,rfl,rfl,by kernel_rfl⟩
instance Zmc:Fld Tryz.prog 187 6 6:=⟨_,_,0,Tryz.underlying187,rfl,rfl,by kernel_rfl⟩
instance Zmd:Fld Tryz.prog 187 7 7:=⟨_,_,0,Tryz.underlying187,rfl,rfl,by kernel_rfl⟩
instance Zme:Fld Tryz.prog 187 8 8:=⟨_,_,0,Tryz.underlying187,rfl,rfl,by kernel_rfl⟩
instance Zps:Siz Tryz.prog 190 2:=⟨by kernel_rfl⟩
instance Zpt:Byt Tryz.prog 190 16:=⟨by kernel_rfl⟩
instance Zpu:Zer Tryz.prog 190 (.agg #[.int .i64 0,.int .i64 0]):=⟨by kernel_rfl⟩
instance Zmf:Fld Tryz.prog 190 0 0:=⟨_,_,0,Tryz.underlying190,rfl,rfl,by kernel_rfl⟩
abbrev Zim:=uM Tryz.underlying198
instance Zpv:Siz Tryz.prog 201 4:=⟨by kernel_rfl⟩
instance Zmg:Fld Tryz.prog 201 0 0:=⟨_,_,0,Tryz.underlying201,rfl,rfl,by kernel_rfl⟩
instance Zmh:Fld Tryz.prog 201 1 1:=⟨_,_,0,Tryz.underlying201,rfl,rfl,by kernel_rfl⟩
instance Zmi:Fld Tryz.prog 201 2 2:=⟨_,_,0,Tryz.underlying201,rfl,rfl,by kernel_rfl⟩
instance Zmj:Fld Tryz.prog 201 3 3:=⟨_,_,0,Tryz.underlying201,rfl,rfl,by kernel_rfl⟩
abbrev Zin:=uM Tryz.underlying204
instance Zpw:Zer Tryz.prog 204 (.slice none 0 0):=⟨by kernel_rfl⟩
abbrev Zio:=uM Tryz.underlying210
instance Zpx:Siz Tryz.prog 210 2:=⟨by kernel_rfl⟩
instance Zpy:Zer Tryz.prog 210 (.agg #[.int .i64 0,.int .i64 0]):=⟨by kernel_rfl⟩
instance Zmk:Fld Tryz.prog 210 0 0:=⟨_,_,0,Tryz.underlying210,rfl,rfl,by kernel_rfl⟩
instance Zml:Fld Tryz.prog 210 1 1:=⟨_,_,0,Tryz.underlying210,rfl,rfl,by kernel_rfl⟩
abbrev Zip:=uM Tryz.underlying238
abbrev Ziq:=uM Tryz.underlying262
abbrev Zir:=uM Tryz.underlying263
abbrev Zis:=uM Tryz.underlying291
instance Zpz:Siz Tryz.prog 291 3:=⟨by kernel_rfl⟩
instance ZpA:Zer Tryz.prog 291 (.agg #[.int .i64 0,.int .i64 0,.int .i64 0]):=⟨by kernel_rfl⟩
instance Zmm:Fld Tryz.prog 291 0 0:=⟨_,_,0,Tryz.underlying291,rfl,rfl,by kernel_rfl⟩
instance Zmn:Fld Tryz.prog 291 1 1:=⟨_,_,0,Tryz.underlying291,rfl,rfl,by kernel_rfl⟩
instance Zmo:Fld Tryz.prog 291 2 2:=⟨_,_,0,Tryz.underlying291,rfl,rfl,by kernel_rfl⟩
abbrev Zit:=uM Tryz.underlying303
abbrev Ziu:=uM Tryz.underlying322
abbrev Ziv:=uM Tryz.underlying326
abbrev Ziw:=uM Tryz.underlying329
instance ZpB:Siz Tryz.prog 329 2:=⟨by kernel_rfl⟩
instance ZpC:Byt Tryz.prog 329 16:=⟨by kernel_rfl⟩
instance ZpD:Zer Tryz.prog 329 (.agg #[.int .i64 0,.int .i64 0]):=⟨by kernel_rfl⟩
instance Zmp:Fld Tryz.prog 329 0 0:=⟨_,_,0,Tryz.underlying329,rfl,rfl,by kernel_rfl⟩
abbrev Zix:=uM Tryz.underlying340
instance ZpE:Siz Tryz.prog 342 2:=⟨by kernel_rfl⟩
instance Zmq:Fld Tryz.prog 342 1 1:=⟨_,_,0,Tryz.underlying342,rfl,rfl,by kernel_rfl⟩
abbrev Ziy:=uM Tryz.underlying343
instance ZpF:Siz Tryz.prog 343 8:=⟨by kernel_rfl⟩
instance ZpG:Zer Tryz.prog 343 (.agg #[.nilFunc,.nilFunc,.nilFunc,.nilFunc,.nilFunc,.nilFunc,.nilFunc,.nilFunc]):=⟨by kernel_rfl⟩
abbrev Ziz:=uM Tryz.underlying345
abbrev Zmr:=mkF Tryz.func12
abbrev Zms:=mkF Tryz.func13
abbrev Zmt:=mkF Tryz.func14
abbrev Zmu:=mkF Tryz.func15
abbrev Zmv:=mkF Tryz.func16
abbrev Zmw:=mkF Tryz.func17
abbrev Zmx:=mkF Tryz.func18
abbrev Zmy:=mkF Tryz.func19
abbrev Zmz:=mkF Tryz.func20
abbrev ZmA:=mkF Tryz.func23
abbrev ZmB:=mkF Tryz.func28
abbrev ZmC:=mkF Tryz.func40
abbrev ZmD:=mkF Tryz.func41
abbrev ZmE:=mkF Tryz.func42
abbrev ZmF:=mkF Tryz.func43
abbrev ZmG:=mkF Tryz.func44
abbrev ZmH:=mkF Tryz.func45
abbrev ZmI:=mkF Tryz.func46
abbrev ZmJ:=mkF Tryz.func47
abbrev ZmK:=mkF Tryz.func48
abbrev ZmL:=mkF Tryz.func49
abbrev ZmM:=mkF Tryz.func50
abbrev ZmN:=mkF Tryz.func51
abbrev ZmO:=mkF Tryz.func52
abbrev ZmP:=mkF Tryz.func53
abbrev ZmQ:=mkF Tryz.func54
abbrev ZmR:=mkF Tryz.func55
abbrev ZmS:=mkF Tryz.func56
abbrev ZmT:=mkF Tryz.func57
abbrev ZmU:=mkF Tryz.func58
abbrev ZmV:=mkF Tryz.func59
abbrev ZmW:=mkF Tryz.func63
abbrev ZmX:=mkF Tryz.func64
abbrev ZmY:=mkF Tryz.func78
abbrev ZmZ:=mkF Tryz.func79
abbrev Zn0:=mkF Tryz.func82
abbrev Zn1:=mkF Tryz.func83
abbrev Zn2:=mkF Tryz.func94
abbrev Zn3:=mkF Tryz.func95
abbrev Zn4:=mkF Tryz.func96
abbrev Zn5:=mkF Tryz.func97
abbrev Zn6:=mkF Tryz.func98
abbrev Zn7:=mkF Tryz.func99
abbrev ZiA:=mkF Tryz.func100
abbrev ZiB:=mkF Tryz.func101
abbrev ZiC:=mkF Tryz.func102
abbrev ZiD:=mkF Tryz.func103
abbrev ZiE:=mkF Tryz.func104
abbrev ZiF:=mkF Tryz.func105
abbrev ZiG:=mkF Tryz.func106
abbrev ZiH:=mkF Tryz.func107
abbrev ZiI:=mkF Tryz.func108
abbrev ZiJ:=mkF Tryz.func109
abbrev ZiK:=mkF Tryz.func110
abbrev ZiL:=mkF Tryz.func111
abbrev ZiM:=mkF Tryz.func112
abbrev ZiN:=mkF Tryz.func117
abbrev ZiO:=mkF Tryz.func118
abbrev ZiP:=mkF Tryz.func119
abbrev ZiQ:=mkF Tryz.func120
abbrev ZiR:=mkF Tryz.func127
abbrev ZiS:=mkF Tryz.func139
abbrev ZiT:=mkF Tryz.func140
abbrev ZiU:=mkF Tryz.func141
abbrev ZiV:=mkF Tryz.func142
abbrev ZiW:=mkF Tryz.func143
abbrev ZiX:=mkF Tryz.func144
abbrev ZiY:=mkF Tryz.func145
abbrev ZiZ:=mkF Tryz.func146
abbrev Zj0:=mkF Tryz.func147
abbrev Zj1:=mkF Tryz.func148
abbrev Zj2:=mkF Tryz.func149
abbrev Zj3:=mkF Tryz.func150
abbrev Zj4:=mkF Tryz.func151
abbrev Zj5:=mkF Tryz.func152
abbrev Zj6:=mkF Tryz.func153
abbrev Zj7:=mkF Tryz.func154
abbrev Zj8:=mkF Tryz.func155
abbrev Zj9:=mkF Tryz.func156
abbrev Zja:=mkF Tryz.func157
abbrev Zjb:=mkF Tryz.func158
abbrev Zjc:=mkF Tryz.func159
abbrev Zjd:=mkF Tryz.func165
abbrev Zje:=mkF Tryz.func167
abbrev Zjf:=mkF Tryz.func168
abbrev Zjg:=mkF Tryz.func176
abbrev Zjh:=mkF Tryz.func185
abbrev Zji:=mkF Tryz.func186
abbrev Zjj:=mkF Tryz.func187
abbrev Zjk:=mkF Tryz.func188
abbrev Zjl:=mkF Tryz.func189
abbrev Zjm:=mkF Tryz.func190
abbrev Zjn:=mkF Tryz.func191
abbrev Zjo:=mkF Tryz.func192
abbrev Zjp:=mkF Tryz.func193
abbrev Zjq:=mkF Tryz.func194
abbrev Zjr:=mkF Tryz.func195
abbrev Zjs:=mkF Tryz.func196
abbrev Zjt:=mkF Tryz.func197
abbrev Zju:=mkF Tryz.func198
abbrev Zjv:=mkF Tryz.func199
abbrev Zjw:=mkF Tryz.func200
abbrev Zjx:=mkF Tryz.func201
abbrev Zjy:=mkF Tryz.func202
abbrev Zjz:=mkF Tryz.func203
abbrev ZjA:=mkF Tryz.func204
abbrev ZjB:=mkF Tryz.func205
abbrev ZjC:=mkF Tryz.func206
abbrev ZjD:=mkF Tryz.func207
abbrev ZjE:=mkF Tryz.func208
abbrev ZjF:=mkF Tryz.func209
abbrev ZjG:=mkF Tryz.func210
abbrev ZjH:=mkF Tryz.func211
abbrev ZjI:=mkF Tryz.func212
abbrev ZjJ:=mkF Tryz.func213
abbrev ZjK:=mkF Tryz.func214
abbrev ZjL:=mkF Tryz.func215
abbrev ZjM:=mkF Tryz.func217
abbrev ZjN:=mkF Tryz.func229
abbrev ZjO:=mkF Tryz.func230
abbrev ZjP:=mkF Tryz.func231
abbrev ZjQ:=mkF Tryz.func232
abbrev ZjR:=mkF Tryz.func233
abbrev ZjS:=mkF Tryz.func234
abbrev ZjT:=mkF Tryz.func235
abbrev ZjU:=mkF Tryz.func236
abbrev ZjV:=mkF Tryz.func238
abbrev ZjW:=mkF Tryz.func239
abbrev ZjX:=mkF Tryz.func251
abbrev ZjY:=mkF Tryz.func252
abbrev ZjZ:=mkF Tryz.func261
abbrev Zk0:=mkF Tryz.func262
abbrev Zk1:=mkF Tryz.func263
abbrev Zk2:=mkF Tryz.func264
abbrev Zk3:=mkF Tryz.func265
abbrev Zk4:=mkF Tryz.func266
abbrev Zk5:=mkF Tryz.func267
abbrev Zk6:=mkF Tryz.func268
abbrev Zk7:=mkF Tryz.func269
abbrev Zk8:=mkF Tryz.func270
abbrev Zk9:=mkF Tryz.func271
abbrev Zka:=mkF Tryz.func272
abbrev Zkb:=mkF Tryz.func273
abbrev Zkc:=mkF Tryz.func274
abbrev Zkd:=mkF Tryz.func275
abbrev Zke:=mkF Tryz.func280
abbrev Zkf:=mkF Tryz.func281
abbrev Zkg:=mkF Tryz.func282
abbrev Zkh:=mkF Tryz.func283
abbrev Zki:=mkF Tryz.func284
abbrev Zkj:=mkF Tryz.func285
abbrev Zkk:=mkF Tryz.func286
abbrev Zkl:=mkF Tryz.func292
abbrev Zkm:=mkF Tryz.func296
abbrev Zkn:=mkF Tryz.func297
abbrev Zko:=mkF Tryz.func300
abbrev Zkp:=mkF Tryz.func305
abbrev Zkq:=mkF Tryz.func306
abbrev Zkr:=mkF Tryz.func307
abbrev Zks:=mkF Tryz.func310
abbrev Zkt:=mkF Tryz.func312
abbrev Zku:=mkF Tryz.func316
abbrev Zkv:=mkF Tryz.func317
abbrev Zkw:=mkF Tryz.func318
abbrev Zkx:=mkF Tryz.func325
abbrev Zky:=mkF Tryz.func329
abbrev Zkz:=mkF Tryz.func330
abbrev ZkA:=mkF Tryz.func331
abbrev ZkB:=mkF Tryz.func333
abbrev ZkC:=mkF Tryz.func339
abbrev ZkD:=mkF Tryz.func341
abbrev ZkE:=mkF Tryz.func342
abbrev ZkF:=mkF Tryz.func344
abbrev ZkG:=mkF Tryz.func346
abbrev ZkH:=mkF Tryz.func347
abbrev ZkI:=mkF Tryz.func348
abbrev ZkJ:=mkF Tryz.func349
abbrev ZkK:=mkF Tryz.func350
abbrev ZkL:=mkF Tryz.func354
abbrev ZkM:=mkF Tryz.func356
abbrev ZkN:=mkF Tryz.func357
abbrev ZkO:=mkF Tryz.func360
abbrev CC (f:Nat) (a:Array Value) (w:World) (G:Value→World→Prop):=Calls Tryz.prog f a w (Ret G)
attribute [instance] Zpb Zpc Zpd Zpe Zlr Zls Zlt Zlu Zlv Zlw Zlx Zly Zlz ZlA ZlB ZlC ZlD ZlE ZlF ZlG ZlH ZlI ZlJ ZlK ZlL Zic Zid Zie Zif Zig Zih Zii Zij Zik Zil Zim Zin Zio Zip Ziq Zir Zis Zit Ziu Ziv Ziw Zix Ziy Ziz Zmr Zms Zmt Zmu Zmv Zmw Zmx Zmy Zmz ZmA ZmB ZmC ZmD ZmE ZmF ZmG ZmH ZmI ZmJ ZmK ZmL ZmM ZmN ZmO ZmP ZmQ ZmR ZmS ZmT ZmU ZmV ZmW ZmX ZmY ZmZ Zn0 Zn1 Zn2 Zn3 Zn4 Zn5 Zn6 Zn7 ZiA ZiB ZiC ZiD ZiE ZiF ZiG ZiH ZiI ZiJ ZiK ZiL ZiM ZiN ZiO ZiP ZiQ ZiR ZiS ZiT ZiU ZiV ZiW ZiX ZiY ZiZ Zj0 Zj1 Zj2 Zj3 Zj4 Zj5 Zj6 Zj7 Zj8 Zj9 Zja Zjb Zjc Zjd Zje Zjf Zjg Zjh Zji Zjj Zjk Zjl Zjm Zjn Zjo Zjp Zjq Zjr Zjs Zjt Zju Zjv Zjw Zjx Zjy Zjz ZjA ZjB ZjC ZjD ZjE ZjF ZjG ZjH ZjI ZjJ ZjK ZjL ZjM ZjN ZjO ZjP ZjQ ZjR ZjS ZjT ZjU ZjV ZjW ZjX ZjY ZjZ Zk0 Zk1 Zk2 Zk3 Zk4 Zk5 Zk6 Zk7 Zk8 Zk9 Zka Zkb Zkc Zkd Zke Zkf Zkg Zkh Zki Zkj Zkk Zkl Zkm Zkn Zko Zkp Zkq Zkr Zks Zkt Zku Zkv Zkw Zkx Zky Zkz ZkA ZkB ZkC ZkD ZkE ZkF ZkG ZkH ZkI ZkJ ZkK ZkL ZkM ZkN ZkO
end Go.Proofs.YtjdjdoefppebkaaGreatDoor
namespace Go.Eng
open Go Go.RowKit Go.Proofs
inductive Nd where
 | mk (kind n:Int) (s:Str) (kids:List Nd)
namespace Nd
def kind:Nd→Int|mk k _ _ _=>k
def num:Nd→Int|mk _ n _ _=>n
def word:Nd→Str|mk _ _ s _=>s
def kids:Nd→List Nd|mk _ _ _ l=>l
theorem eta (x:Nd):x=mk x.kind x.num x.word x.kids:=by cases x;rfl
theorem ind {P:Nd→Prop} (h:∀ k n s l,(∀ x∈l,P x)→P (mk k n s l)):∀ x,P x
 | mk k n s l=>h k n s l (fun x hx=>ind h x)
 decreasing_by
  have:=List.sizeOf_lt_of_mem hx
  simp only [mk.sizeOf_spec]
  omega
end Nd
inductive Z3u (X:List Nat) (w:World):Nd→List Value→Prop
 | mk (k n : Int) (s : Str) (l : List Nd) (p : Option Addr) (c : Nat) (b o : Nat) (css : Nat → List Value) (hl : l.length ≤ c) (hm : c ≤ maxLen) (hn : p = none → c = 0)
    (hp:0<l.length→p=some ⟨b,o,none⟩∧b<w.heap.size∧b∉X) (hr:∀ i (h:i<l.length),Z3u X w l[i] (css i))
    (hc:∀ i,i<l.length→∀ j u,(css i)[j]?=some u→w.cell? ⟨b,o+i * 4+j,none⟩=some u) :
    Z3u X w (.mk k n s l) [.int .i64 k,.int .i64 n,str s,.slice p l.length c]
theorem Z3u.ext {X S X':List Nat} {w w':World} {x:Nd} {cs:List Value} (h:Z3u X w x cs) (hS:Stp S w w') (h1:∀ b∈S,b∈X) (h2:∀ b∈X',b∈X∨w.heap.size≤b):Z3u X' w' x cs:=by
 induction h with
 | mk k n s l p c b o css hl hm hn hp hr hc ih=>
   refine .mk k n s l p c b o css hl hm hn (fun h0=>?_) ih (fun i hi j u hu=>?_)
   obtain ⟨e1,e2,e3⟩:=hp h0
   refine ⟨e1,Xb e2 hS.size,fun hb=>?_⟩
   rcases h2 b hb with h|h
   exact e3 h
   omega
   obtain ⟨_,_,e3⟩:=hp (by omega)
   exact hS.cell (fun hb=>e3 (h1 b hb)) (hc i hi j u hu)
instance:Z8 Nd where
 k:=4
 rep:=Z3u
 len:=by intro X w x cs h;cases h;rfl
 one:=by
  intro X w x cs h u hu
  cases h
  simp at hu
  rcases hu with rfl|rfl|rfl|rfl<;>rfl
 ext:=Z3u.ext
def NdV (X:List Nat) (w:World) (v:Value) (x:Nd):Prop:=∃ kv,v=.agg #[.int .i64 x.kind,.int .i64 x.num,str x.word,kv]∧SlV X w kv x.kids
theorem ZdK {X:List Nat} {w:World} {x:Nd} {cs:List Value} (h:Z3u X w x cs):∃ kv,cs=[.int .i64 x.kind,.int .i64 x.num,str x.word,kv]∧SlV X w kv x.kids:=by
 cases h with
 | mk k n s l p c b o css hl hm hn hp hr hc=>
   refine ⟨_,rfl,p,c,rfl,hl,hm,hn,fun i hi=>?_⟩
   obtain ⟨e1,e2,e3⟩:=hp (by show 0<l.length;have:i<l.length:=hi;omega)
   exact ⟨b,o,css i,e1,e2,e3,hr i hi,hc i hi⟩
theorem Z25 {X:List Nat} {w:World} {k n:Int} {s:Str} {l:List Nd} {kv:Value} (h:SlV X w kv l):Z3u X w (.mk k n s l) [.int .i64 k,.int .i64 n,str s,kv]:=by
 obtain ⟨p,c,rfl,hl,hm,hn,hc⟩:=h
 have hall:∀ i:Fin l.length,∃ cs:List Value,∃ b o,p=some ⟨b,o,none⟩∧b<w.heap.size∧b∉X∧Z3u X w l[i] cs∧∀ j u,cs[j]?=some u→w.cell? ⟨b,o+i * 4+j,none⟩=some u:=by
  intro i
  obtain ⟨b,o,cs,h1,h2,h3,h4,h5⟩:=hc i i.2
  exact ⟨cs,b,o,h1,h2,h3,h4,h5⟩
 obtain ⟨f,hf⟩:=Classical.axiomOfChoice hall
 by_cases h0:0<l.length
 obtain ⟨b,o,e1,e2,e3,_⟩:=hf ⟨0,h0⟩
 refine .mk k n s l p c b o (fun i=>if h:i<l.length then f ⟨i,h⟩ else []) hl hm hn (fun _=>⟨e1,e2,e3⟩) (fun i hi=>?_) (fun i hi j u hu=>?_)
 obtain ⟨_,_,_,_,_,g,_⟩:=hf ⟨i,hi⟩
 simpa [hi] using g
 obtain ⟨b',o',g1,_,_,_,g⟩:=hf ⟨i,hi⟩
 rw [e1] at g1
 simp only [Xh,Addr.mk.injEq] at g1
 obtain ⟨rfl,rfl,_⟩:=g1
 exact g j u (by simpa [hi] using hu)
 exact .mk k n s l p c 0 0 (fun _=>[]) hl hm hn (fun h=>absurd h h0) (fun i hi=>by omega) (fun i hi=>by omega)
theorem NdV.up {X:List Nat} {w w':World} {v:Value} {x:Nd} (h:NdV X w v x) (hS:Stp [] w w'):NdV X w' v x:=by
 obtain ⟨kv,rfl,hs⟩:=h
 exact ⟨kv,rfl,hs.up hS⟩
theorem SlV.nd {X:List Nat} {w:World} {v:Value} {l:List Nd} {i:Nat} (h:SlV X w v l) (hi:i<l.length):∃ kv,SlV X w kv l[i].kids∧∀ j u,[Value.int .i64 l[i].kind,.int .i64 l[i].num,str l[i].word,kv][j]?=some u→w.cell? (Zz v i 4 j)=some u:=by
 obtain ⟨cs,hr,hc⟩:=h.cell hi
 obtain ⟨kv,rfl,hs⟩:=ZdK hr
 exact ⟨kv,hs,hc⟩
section
variable {P:Program} {n:Nat} {e:Env} {w:World} {d:Option Nat} {ty:TypeId} {pos:String} {af:Array Edge} {g:Option (Nat×Bool)}
theorem ZU {X:List Nat} {v:Value} {l:List Nd} {i:Nat} {kv:Value} {x:Operand} {t:TypeId} {D:TypeDesc} [hu:Und P t D] (hA:Z06 D=true) [hsz:Siz P t 4] (hx:ev e x=some (.pointer (some (Zz v i 4 0)))) (hs:SlV X w v l) (hi:i<l.length)
 (hc:∀ j u,[Value.int .i64 l[i].kind,.int .i64 l[i].num,str l[i].word,kv][j]?=some u→w.cell? (Zz v i 4 j)=some u) :
 PR P n ⟨d,.load t x,ty,pos,af,g⟩ e w (.agg #[.int .i64 l[i].kind,.int .i64 l[i].num,str l[i].word,kv]):=by
 obtain ⟨p,l',c,rfl⟩:=hs.isSome hi
 refine Z5L (cs:=[.int .i64 l[i].kind,.int .i64 l[i].num,str l[i].word,kv]) hA hx rfl (fun j u hu=>?_)
 have:=hc j u hu
 simpa [Zz] using this
end
end Go.Eng
namespace Go.Proofs.YtjdjdoefppebkaaGreatDoor
open Go Go.Eng Go.RowKit
abbrev ndC (x:Nd) (kv:Value):List Value:=[.int .i64 x.kind,.int .i64 x.num,str x.word,kv]
theorem Zh {X:List Nat} {w:World} {x:Nd} {kv:Value} {l:List Nd} (h:SlV X w kv l):∀ c∈ndC x kv,c.oneCell'=true:=by
 intro c hc
 simp only [ndC,Xe,Xm,or_false] at hc
 rcases hc with rfl|rfl|rfl|rfl
 rfl
 rfl
 rfl
 exact h.one
end Go.Proofs.YtjdjdoefppebkaaGreatDoor
namespace Go.Eng
open Go Go.RowKit Go.Proofs
class ZdL (P:Program) (kt:Nat) (κ:outParam Type) [DecidableEq κ] where
 enc:κ→Value
 chk:∀ (em:Bool) (a:κ) (w:World),(Instr.checkKey em 10000 kt (enc a)).run P w=.ok () w
 find:∀ (a:κ) (es:List MapEntry) (l:List κ) (w:World),es.map (·.key)=l.map enc→
  (Instr.findKey kt (enc a) es).run P w=.ok ((l.findIdx? (fun b=>decide (b=a))).bind fun i=>(es[i]?).map fun e=>(i,e.val)) w
def Z0N {κ:Type} (enc:κ→Value) (w:World) (r:Nat) (l:List (κ×Value)):Prop:=
 ∃ (es:Array MapEntry) (clock:Nat),w.heap[r]?=some (.map es clock)∧es.toList.map (·.key)=l.map (fun p=>enc p.1)∧es.toList.map (·.val)=l.map (·.2)
theorem Z0N.lt {κ:Type} {enc:κ→Value} {w:World} {r:Nat} {l:List (κ×Value)} (h:Z0N enc w r l):r<w.heap.size:=by
 obtain ⟨es,c,h1,_⟩:=h
 exact (Xk.1 h1).1
theorem Z0N.ext {κ:Type} {enc:κ→Value} {S:List Nat} {w w':World} {r:Nat} {l:List (κ×Value)} (h:Z0N enc w r l) (hS:Stp S w w') (hr:r∉S):Z0N enc w' r l:=by
 have hlt:=h.lt
 obtain ⟨es,c,h1,h2⟩:=h
 exact ⟨es,c,by rw [hS.block r hlt hr];exact h1,h2⟩
theorem Z0N.up {κ:Type} {enc:κ→Value} {w w':World} {r:Nat} {l:List (κ×Value)} (h:Z0N enc w r l) (hS:Stp [] w w'):Z0N enc w' r l:=h.ext hS (by simp)
def Z4H {κ:Type} [DecidableEq κ] (l:List (κ×Value)) (a:κ) (z:Value):Value:=match l.find? (fun p=>decide (p.1=a)) with|some p=>p.2|none=>z
theorem Z3K {d:TypeDesc} {κ:Type} [DecidableEq κ] (enc:κ→Value) (h:∀ a b:κ,Instr.sameNow d (enc a) (enc b)=some (decide (a=b))) (a:κ):∀ (es:List MapEntry) (l:List κ) (i:Nat),es.map (·.key)=l.map enc→
 Instr.findNow d (enc a) es i=some ((l.findIdx? (fun b=>decide (b=a))).bind fun j=>(es[j]?).map fun e=>(i+j,e.val))
 | [],[],i,_=>by simp [Instr.findNow]
 | [],_ :: _,i,h=>by simp at h
 | _ :: _,[],i,h=>by simp at h
 | e :: es, b :: l, i, hk => by
   simp only [Xn,Yaw] at hk
   obtain ⟨h1,h2⟩:=hk
   have ih:=Z3K enc h a es l (i+1) h2
   simp only [Instr.findNow,h1,h]
   by_cases hab:a=b
   subst hab
   simp [Yau]
   · have hba:¬ b=a:=fun h=>hab h.symm
     simp only [decide_eq_false hab,ih,Yau,decide_eq_false hba,XE,if_false]
     cases l.findIdx? (fun b=>decide (b=a)) with
     | none=>rfl
     | some j=>
       simp only [Option.bind_some,Option.map_some,Yaq]
       rw [show i+1+j=i+(j+1) by omega]
theorem Z6F {P:Program} {kt:Nat} {κ:Type} [DecidableEq κ] (enc:κ→Value) (h:∀ (a b:κ) (w:World),(Op.equal kt (enc a) (enc b)).run P w=.ok (decide (a=b)) w) (a:κ) (w:World):∀ (es:List MapEntry) (l:List κ) (i:Nat),es.map (·.key)=l.map enc→
 (Instr.findAsking kt (enc a) es i).run P w=.ok ((l.findIdx? (fun b=>decide (b=a))).bind fun j=>(es[j]?).map fun e=>(i+j,e.val)) w
 | [],[],i,_=>by simp [Instr.findAsking]
 | [],_ :: _,i,h=>by simp at h
 | _ :: _,[],i,h=>by simp at h
 | e :: es, b :: l, i, hk => by
   simp only [Xn,Yaw] at hk
   obtain ⟨h1,h2⟩:=hk
   have ih:=Z6F enc h a w es l (i+1) h2
   simp only [Instr.findAsking,h1]
   by_cases hab:a=b
   subst hab
   simp [Yau,h]
   · have hba:¬ b=a:=fun h=>hab h.symm
     simp only [Sem.run_bind,h,decide_eq_false hab,Result.andThen,Yau,decide_eq_false hba,XE,if_false,ih]
     cases l.findIdx? (fun b=>decide (b=a)) with
     | none=>rfl
     | some j=>
       simp only [Option.bind_some,Option.map_some,Yaq]
       rw [show i+1+j=i+(j+1) by omega]
instance {P:Program} {kt:Nat} [hu:Und P kt (.int .i64)]:ZdL P kt Int where
 enc:=fun z=>.int .i64 z
 chk:=fun em a w=>MapKept.run_checkKey (k:=.int .i64 a) hu.h (by simp [MapKept.IsKey]) em 9999
 find:=fun a es l w hk=>by
  have:=Z3K (d:=.int .i64) (fun z:Int=>Value.int .i64 z) (fun a b=>by simp [Instr.sameNow,Yai]) a es l 0 hk
  simpa using MapKept.run_findKey (w:=w) hu.h this
instance Zhf {P:Program} {kt:Nat} [hu:Und P kt .string]:ZdL P kt Str where
 enc:=str
 chk:=fun em a w=>MapKept.run_checkKey (k:=str a) hu.h (by simp [MapKept.IsKey]) em 9999
 find:=fun a es l w hk=>by
  have:=Z3K (d:=.string) str (fun a b=>by
   simp only [Instr.sameNow,Xh]
   rw [beq_toListBytes,ZfL]) a es l 0 hk
  simpa using MapKept.run_findKey (w:=w) hu.h this
section
variable {P:Program} {n:Nat} {e:Env} {w:World} {d:Option Nat} {ty:TypeId} {pos:String} {af:Array Edge} {g:Option (Nat×Bool)}
theorem Z2r {t:TypeId} {κ:Type} (enc:κ→Value):OE P n ⟨d,.makeMap t none,ty,pos,af,g⟩ e w (fun v w'=>∃ r,v=.map (some r)∧w.heap.size≤r∧Z0N enc w' r []∧Stp [] w w'):=
 Z07 (v:=.map (some w.heap.size)) (w':=w.alloc (.map #[] 0)) (fun a ha=>by
  simp [execOp,run_makeMap]) ⟨_,rfl,Xl _,⟨#[],0,heap_alloc_new w _,rfl,rfl⟩,Stp.alloc _ _ _⟩
theorem Za9 {κ:Type} [DecidableEq κ] {l:List κ} {a:κ} (h:∀ b∈l,¬ b=a):l.findIdx? (fun b=>decide (b=a))=none:=by
 rw [X4]
 intro b hb
 simp [h b hb]
theorem Zaa {mt kt et r:Nat} {κ:Type} [DecidableEq κ] [hm:Und P mt (.map kt et)] [K:ZdL P kt κ] {l:List (κ×Value)} {a:κ} {v:Value} (hr:Z0N K.enc w r l) (hn:∀ p∈l,¬ p.1=a) :
 ∃ w',(Instr.mapUpdate mt (.map (some r)) (K.enc a) v).run P w=.ok () w'∧Z0N K.enc w' r (l++[(a,v)])∧Stp [r] w w':=by
 obtain ⟨es,clock,h1,h2,h3⟩:=hr
 have hf:(Instr.findKey kt (K.enc a) es.toList).run P w=.ok none w:=by
  have hk:es.toList.map (·.key)=(l.map (·.1)).map K.enc:=by rw [h2,Ya5];rfl
  rw [K.find a es.toList (l.map (·.1)) w hk,Za9 (by simpa using hn)]
  rfl
 have hlt:r<w.heap.size:=(Xk.1 h1).1
 refine ⟨{ w with heap:=w.heap.setIfInBounds r (.map (es.push { key:=K.enc a,val:=v,born:=clock }) (clock+1)) },?_,?_,?_⟩
 simp [Instr.mapUpdate,run_underlying hm.h,MapKept.run_getObj_map h1,K.chk,hf,MapKept.run_setObj_map _ h1,Result.andThen]
 refine ⟨es.push { key:=K.enc a,val:=v,born:=clock },clock+1,by simp [hlt],?_,?_⟩
 simp [h2]
 simp [h3]
 refine ⟨rfl,rfl,rfl,by simp,fun b hb hn=>?_⟩
 simp only [Xp] at hn
 simp [Yam (fun h=>hn h.symm)]
theorem Zu {mt kt et r:Nat} {κ:Type} [DecidableEq κ] {x y z:Operand} [hm:Und P mt (.map kt et)] [K:ZdL P kt κ] {l:List (κ×Value)} {a:κ} {v:Value} (hx:ev e x=some (.map (some r))) (hy:ev e y=some (K.enc a)) (hz:ev e z=some v) (hr:Z0N K.enc w r l) (hn:∀ p∈l,¬ p.1=a) :
 OE P n ⟨d,.insert mt x y z,ty,pos,af,g⟩ e w (fun _ w'=>Z0N K.enc w' r (l++[(a,v)])∧Stp [r] w w'):=by
 obtain ⟨w',h1,h2,h3⟩:=Zaa (mt:=mt) (v:=v) hr hn
 exact Z43 (w':=w') (fun c hc=>by simp [execOp,hc.ev hx,hc.ev hy,hc.ev hz,h1]) ⟨h2,h3⟩
theorem Z3h {mt kt et r:Nat} {κ:Type} [DecidableEq κ] {x y:Operand} {z:Value} [hm:Und P mt (.map kt et)] [K:ZdL P kt κ] [hz:Zer P et z] {l:List (κ×Value)} {a:κ} (hx:ev e x=some (.map (some r))) (hy:ev e y=some (K.enc a)) (hr:Z0N K.enc w r l) :
 PR P n ⟨d,.lookup mt x y false,ty,pos,af,g⟩ e w (Z4H l a z):=by
 refine ⟨fun c hc=>?_⟩
 obtain ⟨es,clock,h1,h2,h3⟩:=hr
 have hk:es.toList.map (·.key)=(l.map (·.1)).map K.enc:=by rw [h2,Ya5];rfl
 have hf:=K.find a es.toList (l.map (·.1)) w hk
 have hlen:es.toList.length=l.length:=by have:=congrArg List.length h3;simpa using this
 have hv:∀ i:Nat,(es.toList[i]?).map (fun x:MapEntry=>x.val)=(l[i]?).map (fun x:κ×Value=>x.2):=fun i=>by
  have:=congrArg (fun x=>x[i]?) h3
  simpa using this
 have hfind:Z4H l a z=match (l.map (·.1)).findIdx? (fun b=>decide (b=a)) with|some i=>((es.toList[i]?).map (fun x:MapEntry=>x.val)).getD z|none=>z:=by
  unfold Z4H
  rw [List.findIdx?_map]
  cases hi:l.findIdx? ((fun b=>decide (b=a)) ∘ fun x=>x.1) with
  | none=>
    have:l.find? (fun p=>decide (p.1=a))=none:=by
     rw [YaK]
     intro p hp
     have:=(X4.1 hi) p hp
     simpa using this
    rw [this]
  | some i=>
    obtain ⟨hlt,hp,hb⟩:=XY.1 hi
    have:l.find? (fun p=>decide (p.1=a))=some l[i]:=by
     rw [Yar]
     exact ⟨by simpa using hp,i,hlt,rfl,fun j hj=>by simpa using hb j hj⟩
    rw [this]
    simp only [hv,XA hlt,Option.map_some,X9]
 rw [hfind]
 simp only [execOp,hc.ev hx,hc.ev hy]
 cases hi:(l.map (·.1)).findIdx? (fun b=>decide (b=a)) with
 | none=>
   rw [hi] at hf
   simp [Instr.lookup,run_underlying hm.h,MapKept.run_getObj_map h1,K.chk,hf,Result.andThen,Zer.run]
 | some i=>
   obtain ⟨hlt,_⟩:=XY.1 hi
   have hlt':i<es.toList.length:=by rw [hlen];simpa using hlt
   rw [hi] at hf
   simp only [Option.bind_some,XA hlt',Option.map_some] at hf
   simp [Instr.lookup,run_underlying hm.h,MapKept.run_getObj_map h1,K.chk,hf,Result.andThen,XA hlt']
end
end Go.Eng
namespace Go.Proofs.YtjdjdoefppebkaaGreatDoor
open Go Go.Eng Go.RowKit
def idx {α:Type} (p:α→Bool) (xs:List α):Int:=match xs.findIdx? p with|some i=>(i:Int)|none=>-1
theorem Z4I {α:Type} {p:α→Bool} {xs:List α} {k:Nat} (hk:k<xs.length) (hp:p xs[k]=true) (hb:∀ j (h:j<xs.length),j<k→p xs[j]=false):idx p xs=k:=by
 have:xs.findIdx? p=some k:=XY.2 ⟨hk,hp,fun j hj=>by simp [hb j (by omega) hj]⟩
 simp [idx,this]
theorem Z2T {α:Type} {p:α→Bool} {xs:List α} (hb:∀ j (h:j<xs.length),p xs[j]=false):idx p xs=-1:=by
 have:xs.findIdx? p=none:=by
  rw [X4]
  intro x hx
  obtain ⟨j,hj,rfl⟩:=Xr hx
  simp [hb j hj]
 simp [idx,this]
abbrev isS (a:Str):Str→Bool:=fun x=>decide (x=a)
theorem Zll (X:List Nat) (v:Value) (l:List Str) (a:Str) (w:World) (hs:SlV X w v l):CC 161 #[v,str a] w fun r w'=>r=.int .i64 (idx (isS a) l)∧Stp [] w w':=by
 have hmax:=hs.max
 refine cW2 19 Tryz.func161 ?_
 refine W ?_
 refine Zr (σ:=Nat) (fun k=>[(0,v),(1,str a),(8,.int .i64 k),(7,.int .i64 (l.length:Int))]) (fun k w'=>k≤l.length∧Stp [] w w'∧∀ j (h:j<l.length),j<k→isS a l[j]=false) (fun k=>l.length - k) 0 ⟨rfl,rfl,rfl,rfl,trivial⟩ ⟨Xo _,Stp.refl _ _,fun j _ h=>absurd h (Xy _)⟩ ?_
 have hs0:=hs
 clear hs
 rintro k w1 ⟨hk,hS,hno⟩
 have hs:=hs0.up hS
 by_cases hlt:k<l.length
 focus repeat'(first|refine W1 ?_|omega|refine VG ?_ ?_<;>intro hg|refine VC ?_ ?_<;>intro hc)
 refine WR ?_
 have he':isS a l[k]=true:=by simpa [isS,eq_comm] using hc
 exact .mk ⟨by rw [Z4I hlt he' hno],hS⟩
 refine Zg (k+1) ⟨rfl,rfl,rfl,rfl,trivial⟩ ⟨hlt,hS,fun j h hj=>?_⟩ (by omega)
 by_cases e:j=k
 subst e;simpa [isS,eq_comm] using hc
 exact hno j h (by omega)
 have hke:k=l.length:=by omega
 subst hke
 focus repeat'(first|refine W1 ?_|omega|refine VG ?_ ?_<;>intro hg|refine VC ?_ ?_<;>intro hc)
 refine WR ?_
 exact .mk ⟨by rw [Z2T (fun j h=>hno j h h)],hS⟩
theorem Z0c (X:List Nat) (v:Value) (l:List Str) (a:Str) (w:World) (hs:SlV X w v l):CC 191 #[v,str a] w fun r w'=>r=.int .i64 (idx (isS a) l)∧Stp [] w w':=by
 have hmax:=hs.max
 refine cW2 19 Tryz.func191 ?_
 refine W ?_
 refine Zr (σ:=Nat) (fun k=>[(0,v),(1,str a),(5,.int .i64 k)]) (fun k w'=>k≤l.length∧Stp [] w w'∧∀ j (h:j<l.length),j<k→isS a l[j]=false) (fun k=>l.length - k) 0 ⟨rfl,rfl,rfl,trivial⟩ ⟨Xo _,Stp.refl _ _,fun j _ h=>absurd h (Xy _)⟩ ?_
 have hs0:=hs
 clear hs
 rintro k w1 ⟨hk,hS,hno⟩
 have hs:=hs0.up hS
 by_cases hlt:k<l.length
 focus repeat'(first|refine W1 ?_|omega|refine VG ?_ ?_<;>intro hg|refine VC ?_ ?_<;>intro hc)
 refine WR ?_
 have he':isS a l[k]=true:=by simpa [isS,eq_comm] using hc
 exact .mk ⟨by rw [Z4I hlt he' hno],hS⟩
 refine Zg (k+1) ⟨rfl,rfl,rfl,trivial⟩ ⟨hlt,hS,fun j h hj=>?_⟩ (by omega)
 by_cases e:j=k
 subst e;simpa [isS,eq_comm] using hc
 exact hno j h (by omega)
 have hke:k=l.length:=by omega
 subst hke
 focus repeat'(first|refine W1 ?_|omega|refine VG ?_ ?_<;>intro hg|refine VC ?_ ?_<;>intro hc)
 refine WR ?_
 exact .mk ⟨by rw [Z2T (fun j h=>hno j h h)],hS⟩
theorem Z1N (X:List Nat) (v:Value) (l:List Str) (a:Str) (w:World) (hs:SlV X w v l):CC 56 #[v,str a] w fun r w'=>r=.int .i64 (idx (isS a) l)∧Stp [] w w':=by
 have hmax:=hs.max
 refine cW2 19 Tryz.func56 ?_
 refine W ?_
 refine Zr (σ:=Nat) (fun k=>[(0,v),(1,str a),(5,.int .i64 k)]) (fun k w'=>k≤l.length∧Stp [] w w'∧∀ j (h:j<l.length),j<k→isS a l[j]=false) (fun k=>l.length - k) 0 ⟨rfl,rfl,rfl,trivial⟩ ⟨Xo _,Stp.refl _ _,fun j _ h=>absurd h (Xy _)⟩ ?_
 have hs0:=hs
 clear hs
 rintro k w1 ⟨hk,hS,hno⟩
 have hs:=hs0.up hS
 by_cases hlt:k<l.length
 focus repeat'(first|refine W1 ?_|omega|refine VG ?_ ?_<;>intro hg|refine VC ?_ ?_<;>intro hc)
 refine WR ?_
 have he':isS a l[k]=true:=by simpa [isS,eq_comm] using hc
 exact .mk ⟨by rw [Z4I hlt he' hno],hS⟩
 refine Zg (k+1) ⟨rfl,rfl,rfl,trivial⟩ ⟨hlt,hS,fun j h hj=>?_⟩ (by omega)
 by_cases e:j=k
 subst e;simpa [isS,eq_comm] using hc
 exact hno j h (by omega)
 have hke:k=l.length:=by omega
 subst hke
 focus repeat'(first|refine W1 ?_|omega|refine VG ?_ ?_<;>intro hg|refine VC ?_ ?_<;>intro hc)
 refine WR ?_
 exact .mk ⟨by rw [Z2T (fun j h=>hno j h h)],hS⟩
def Zt:List Str:=[[100,97,121],[115,101,114,118,101,100],[101,120,116,114,97],[98,121],[116,111],[99,111,117,114,116],[97,109,111,117,110,116]]
def ZS (a:Str):Int×Int×Bool:=
 let i:=idx (isS a) Zt
 if i<0 then (0,0,false) else if i≤1 then (i,3,true) else (i,1,true)
abbrev ZpH (x:Int×Int×Bool):Value:=.tuple #[.int .i64 x.1,.int .i64 x.2.1,.bool x.2.2]
def wst (s:Str):Nat→List Str×Nat
 | 0=>([],0)
 | k+1=>if k=s.length∨Z0o s k=32 then ((wst s k).1++[(s.take k).drop (wst s k).2],k+1) else wst s k
def Z1O (s:Str):List Str:=(wst s (s.length+1)).1
theorem ZdM (s:Str):∀ k,(wst s k).2≤k∧(wst s k).1.length≤k
 | 0=>by simp [wst]
 | k + 1 => by
   have:=ZdM s k
   simp only [wst]
   split
   simp;omega
   omega
theorem Z5R (a:Str) (w:World):(Instr.buildSlice 119 1 #[(0,str a)]).run Tryz.prog w=.ok (.slice (some ⟨w.heap.size,0,none⟩) 1 1) (w.alloc (.cells #[str a] 9)):=by kernel_rfl
theorem Z0Z (X:List Nat) (s:Str) (w:World) (hX:∀ b∈X,b<w.heap.size) (hl:s.length≤1000) :
 CC 192 #[str s] w fun r w'=>Row X w' w.heap.size 9 r (Z1O s)∧Stp [] w w':=by
 refine cW1 32 Tryz.func192 ?_
 refine W ?_
 refine Zr (σ:=Nat×Value) (fun q=>[(0,str s),(3,q.2),(4,.int .i64 ((wst s q.1).2:Int)),(5,.int .i64 (q.1:Int))]) (fun q w'=>q.1≤s.length+1∧Row X w' w.heap.size 9 q.2 (wst s q.1).1∧Stp [] w w') (fun q=>s.length+1 - q.1) (0,.slice none 0 0) ⟨rfl,rfl,rfl,rfl,trivial⟩ ⟨by simp,Row.nil,Stp.refl _ _⟩ ?_
 rintro ⟨k,v⟩ w1 ⟨hk,hrow,hS⟩
 dsimp only at hk hrow ⊢
 obtain ⟨hw1,hw2⟩:=ZdM s k
 by_cases hlt:k≤s.length
 · have nxt:wst s (k+1)=if k=s.length∨Z0o s k=32 then ((wst s k).1++[(s.take k).drop (wst s k).2],k+1) else wst s k:=rfl
   have hbase:=hS.size
   repeat'(first|refine W1 ?_|omega|refine VG ?_ ?_<;>intro hg|refine VC ?_ ?_<;>intro hc)
   rotate_right
   have hno:¬ (k=s.length∨Z0o s k=32):=by rintro (h|h)<;>omega
   rw [if_neg hno] at nxt
   refine Zg (k+1,v) ⟨rfl,rfl,by rw [nxt];rfl,rfl,trivial⟩ ⟨by dsimp only;omega,by dsimp only;rw [nxt];exact hrow,hS⟩ (by dsimp only;omega)
   all_goals
    have hyes:k=s.length∨Z0o s k=32:=by omega
    rw [if_pos hyes] at nxt
    apply Zd (Z48 rfl rfl rfl rfl rfl (by omega) (by omega)) rfl
    refine Z1 (Z0 (vs:=[(0,str _)]) rfl (Z5R _)) rfl ?_
    rintro bv w2 hN
    have hSb:=hN.choose_spec.2.2.2
    have hbv:SlV (ob v++X) w2 bv [(s.take k).drop (wst s k).2]:=hN.slv (fun b hb=>(Xs.1 hb).elim (fun h=>(hrow.ob_le b h).2) (fun h=>Xb (hX b h) hbase)) rfl rfl (by simp [maxLen])
    clear hN
    replace hrow:=hrow.up hSb
    replace hS:=hS.trans hSb
    have hbase:=hS.size
    refine Z1 (Jw (X:=X) (base:=w.heap.size) rfl (by decide) rfl rfl hrow hbv (by simp only [Xc,Xd];omega) (by simp only [Xc,Xd,maxLen];omega) hbase) rfl ?_
    rintro v' w3 ⟨hrow',hS',_⟩
    refine W ?_
    refine Zg (k+1,v') ⟨rfl,rfl,by rw [nxt];rfl,rfl,trivial⟩ ⟨by dsimp only;omega,by dsimp only;rw [nxt];exact hrow',hS.own hS' (fun b hb=>.inr (hrow.ob_le b hb).1)⟩ (by dsimp only;omega)
 have hke:k=s.length+1:=by omega
 subst hke
 focus repeat'(first|refine W1 ?_|omega|refine VG ?_ ?_<;>intro hg|refine VC ?_ ?_<;>intro hc)
 refine WR ?_
 exact .mk ⟨hrow,hS⟩
theorem _root_.Go.Eng.Row.slv0 {α:Type} [Z8 α] {w:World} {base T:Nat} {v:Value} {xs:List α} (h:Row [] w base T v xs):SlV [] w v xs:=h.slv (by simp)
theorem Z7J:Z1O [100,97,121,32,115,101,114,118,101,100,32,101,120,116,114,97,32,98,121,32,116,111,32,99,111,117,114,116,32,97,109,111,117,110,116]=Zt:=by decide
theorem Zab (X:List Nat) (w:World) (hX:∀ b∈X,b<w.heap.size):CC 261 #[] w fun r w'=>Row X w' w.heap.size 9 r Zt∧Stp [] w w':=by
 refine cW0 2 Tryz.func261 ?_
 refine W ?_
 refine CL rfl (Zm rfl) rfl (Z0Z X [100,97,121,32,115,101,114,118,101,100,32,101,120,116,114,97,32,98,121,32,116,111,32,99,111,117,114,116,32,97,109,111,117,110,116] _ hX (by decide)) ?_
 rintro v w1 ⟨hr,hS⟩
 rw [Z7J] at hr
 refine W ?_
 refine WR ?_
 exact .mk ⟨hr,hS⟩
theorem Z5g (a:Str) (w:World):CC 194 #[str a] w fun r w'=>r=ZpH (ZS a)∧Stp [] w w':=by
 refine cW1 15 Tryz.func194 ?_
 refine W ?_
 refine CL rfl Z7u rfl (Zab [] _ (by simp)) ?_
 rintro v w1 ⟨hr,hS⟩
 refine W ?_
 refine CL rfl (Zb rfl rfl) rfl (Z0c [] _ _ a _ (hr.slv (by simp))) ?_
 rintro _ w2 ⟨rfl,hS2⟩
 replace hS:=hS.trans hS2
 unfold ZS
 generalize idx (isS a) Zt=i
 repeat'(first|refine W1 ?_|refine VG ?_ ?_<;>intro hg|refine VC ?_ ?_<;>intro hc)
 all_goals (refine WR ?_)
 exact .mk ⟨by simp only [if_pos hc],hS⟩
 rename_i h1
 exact .mk ⟨by simp only [if_neg h1,if_pos hc],hS⟩
 rename_i h1
 exact .mk ⟨by simp only [if_neg h1,if_neg hc],hS⟩
def Z0w (k n:Int) (s:Str):Int:=
 if k=4 then (if n=0 then (ZS s).2.1 else 0) else if ¬ s=[] then 0
 else if k=1 then (if 0≤n∧n≤2147483647 then 1 else 0) else if k=2 then (if 0≤n∧n≤1 then 2 else 0) else if k=3 then (if 0≤n∧n≤3652058 then 3 else 0) else 0
theorem Z4J {a:Str} (h:(ZS a).2.2=false):(ZS a).2.1=0:=by
 unfold ZS at h ⊢
 dsimp only at h ⊢
 split<;>rename_i h1
 rfl
 rw [if_neg h1] at h
 split at h<;>simp at h
theorem Zac (X:List Nat) (v:Value) (x:Nd) (w:World) (hx:NdV X w v x) :
 CC 188 #[v] w fun r w'=>r=.int .i64 (Z0w x.kind x.num x.word)∧Stp [] w w':=by
 obtain ⟨kv,rfl,hs⟩:=hx
 refine cW1 69 Tryz.func188 ?_
 refine W ?_
 refine Z1 (Zo rfl) rfl ?_
 rintro _ w1 ⟨b,rfl,hb,hblk,hS⟩
 replace hblk:Blk w1 b _ (ndC x kv):=hblk
 repeat'(first|refine W1 ?_|omega|refine VG ?_ ?_<;>intro hg|refine VC ?_ ?_<;>intro hc)
 · refine CL rfl (Zm rfl) rfl (Z5g x.word _) ?_
   rintro _ w2 ⟨rfl,hS2⟩
   have hno:=@Z4J x.word
   have hk:x.kind=4:=hc
   generalize hfd:ZS x.word=fd at *
   obtain ⟨f1,f2,f3⟩:=fd
   replace hblk:=hblk.up hS2
   replace hS:=hS.trans hS2
   cases f3 with
   | true=>
     repeat'(first|refine W1 ?_|omega|refine VG ?_ ?_<;>intro hg|refine VC ?_ ?_<;>intro hc)
     all_goals (refine WR ?_)
     refine .mk ⟨?_,hS⟩
     simp only [Z0w,if_pos hk]
     rw [if_neg (by assumption)]
     refine .mk ⟨?_,hS⟩
     simp only [Z0w,if_pos hk]
     rw [if_pos (by omega),hfd]
     rfl
   | false=>
     have h0:=hno rfl
     dsimp only at h0
     subst h0
     repeat'(first|refine W1 ?_|omega|refine VG ?_ ?_<;>intro hg|refine VC ?_ ?_<;>intro hc)
     all_goals (refine WR ?_)
     refine .mk ⟨?_,hS⟩
     simp only [Z0w,if_pos hk]
     split
     rw [hfd]
     rfl
 all_goals (refine WR ?_)
 all_goals
  refine .mk ⟨?_,hS⟩
  simp only [Z0w]
  repeat' split
  all_goals first|rfl|omega|(exfalso;simp_all;done)|(exfalso;simp_all;omega)
def JY (l want:List Int):Bool:=decide (l=want∧∀ x∈l,x≠0)
set_option maxHeartbeats 1000000 in
theorem Z1u (X Y:List Nat) (u v:Value) (l m:List Int) (w:World) (hl:SlV X w u l) (hm:SlV Y w v m) :
 CC 189 #[u,v] w fun r w'=>r=.bool (JY l m)∧Stp [] w w':=by
 have hmax:=hl.max
 have hmax2:=hm.max
 refine cW2 33 Tryz.func189 ?_
 repeat'(first|refine W1 ?_|omega|refine VG ?_ ?_<;>intro hg|refine VC ?_ ?_<;>intro hc)
 refine WR ?_
 refine .mk ⟨?_,Stp.refl _ _⟩
 congr 1
 symm
 refine decide_eq_false (fun h=>?_)
 have:=congrArg List.length h.1
 omega
 have hlen:l.length=m.length:=by omega
 have hl0:=hl
 have hm0:=hm
 refine Zr (σ:=Nat) (fun k=>[(0,u),(1,v),(5,.int .i64 k)]) (fun k w'=>k≤l.length∧Stp [] w w'∧∀ j (h:j<l.length) (h':j<m.length),j<k→l[j]=m[j]∧l[j]≠0) (fun k=>l.length - k) 0 ⟨rfl,rfl,rfl,trivial⟩ ⟨Xo _,Stp.refl _ _,fun j _ _ h=>absurd h (Xy _)⟩ ?_
 clear hl hm
 rintro k w1 ⟨hk,hS,hall⟩
 have hl:=hl0.up hS
 have hm:=hm0.up hS
 by_cases hlt:k<l.length
 · have hlt2:k<m.length:=by omega
   repeat'(first|refine W1 ?_|omega|refine VG ?_ ?_<;>intro hg|refine VC ?_ ?_<;>intro hc)
   refine ZDr 16 [] [] [(0,0),(1,0),(2,0),(3,1),(4,0),(5,0),(6,0),(7,1),(8,0),(9,0),(10,0),(11,0),(12,0),(13,1),(14,0),(15,0)] (fun w1 hS1=>?_)
   replace hl:=hl.up hS1;replace hm:=hm.up hS1
   replace hS:=hS.trans hS1
   repeat'(first|refine D1 ?_|omega|refine J6 rfl rfl rfl rfl (fun hg=>?_) (fun hg=>?_)|(refine ZX rfl rfl rfl rfl (fun hg=>?_) (fun hg=>?_)<;>refine D1 ?_)|fail)
   all_goals (repeat'(first|refine W1 ?_|omega|refine VG ?_ ?_<;>intro hg|refine VC ?_ ?_<;>intro hc))
   all_goals first
    | (refine Zg (k + 1) ⟨rfl, rfl, rfl, trivial⟩ ⟨hlt, hS, fun j h h' hj => ?_⟩ (by omega)
       by_cases e:j=k
       subst e;omega
       exact hall j h h' (by omega))
    | (refine WR ?_)
   all_goals
    refine .mk ⟨?_,hS⟩
    congr 1
    symm
    refine decide_eq_false (fun h=>?_)
    obtain ⟨rfl,h2⟩:=h
    have:=h2 _ (Xf hlt)
    omega
 focus repeat'(first|refine W1 ?_|omega|refine VG ?_ ?_<;>intro hg|refine VC ?_ ?_<;>intro hc)
 refine WR ?_
 refine .mk ⟨?_,hS⟩
 congr 1
 symm
 refine decide_eq_true ⟨YaD hlen (fun j h h'=>(hall j h h' (by omega)).1),fun x hx=>?_⟩
 obtain ⟨j,hj,rfl⟩:=Xr hx
 exact (hall j hj (by omega) (by omega)).2
theorem Jg (a:Int) (w:World):(Instr.buildSlice 22 1 #[(0,.int .i64 a)]).run Tryz.prog w=.ok (.slice (some ⟨w.heap.size,0,none⟩) 1 1) (w.alloc (.cells #[.int .i64 a] 3)):=by kernel_rfl
theorem Z0O (a b:Int) (w:World):(Instr.buildSlice 22 2 #[(0,.int .i64 a),(1,.int .i64 b)]).run Tryz.prog w=.ok (.slice (some ⟨w.heap.size,0,none⟩) 2 2) (w.alloc (.cells #[.int .i64 a,.int .i64 b] 3)):=by kernel_rfl
theorem ZdN (a b c:Int) (w:World):(Instr.buildSlice 22 3 #[(0,.int .i64 a),(1,.int .i64 b),(2,.int .i64 c)]).run Tryz.prog w=.ok (.slice (some ⟨w.heap.size,0,none⟩) 3 3) (w.alloc (.cells #[.int .i64 a,.int .i64 b,.int .i64 c] 3)):=by kernel_rfl
theorem Z5.stp {w w':World} {T len:Nat} {cs:List Value} {v:Value} (h:Z5 w T len cs v w'):Stp [] w w':=h.choose_spec.2.2.2
def JS:List Str:=[[43],[45],[42]]
def Z1C:List Str:=[[60],[60,61],[61],[33,61],[62],[62,61]]
def JT:List Str:=[[97,110,100],[111,114]]
theorem Zad:Z1O [43,32,45,32,42]=JS:=by decide
theorem Zae:Z1O [60,32,60,61,32,61,32,33,61,32,62,32,62,61]=Z1C:=by decide
theorem Zaf:Z1O [97,110,100,32,111,114]=JT:=by decide
def Z7K (s:Str) (l:List Int):Int:=
 if 0≤idx (isS s) JS∧JY l [1,1]=true then 1 else if 0≤idx (isS s) Z1C∧(JY l [1,1]=true∨JY l [3,3]=true) then 2 else if 0≤idx (isS s) JT∧JY l [2,2]=true then 2 else 0
theorem Z7L (X:List Nat) (s:Str) (u:Value) (l:List Int) (w:World) (hl:SlV X w u l) :
 CC 190 #[str s,u] w fun r w'=>r=.int .i64 (Z7K s l)∧Stp [] w w':=by
 refine cW2 42 Tryz.func190 ?_
 refine W ?_
 refine Z1 (Z0 (vs:=[(0,.int .i64 1),(1,.int .i64 1)]) rfl (Z0O _ _)) rfl ?_
 rintro a1 w1 hN
 have ha:=hN.slv (X:=[]) (ys:=[(1:Int),1]) (by simp) rfl rfl (by simp [maxLen])
 have hS:=Z5.stp hN
 clear hN
 replace hl:=hl.up hS
 refine CL rfl (Zb rfl rfl) rfl (Z1u _ _ _ _ _ _ _ hl ha) ?_
 rintro _ w2 ⟨rfl,hS2⟩
 replace hl:=hl.up hS2
 replace hS:=hS.trans hS2
 refine W ?_
 refine Z1 (Z0 (vs:=[(0,.int .i64 3),(1,.int .i64 3)]) rfl (Z0O _ _)) rfl ?_
 rintro a3 w3 hN
 have ha:=hN.slv (X:=[]) (ys:=[(3:Int),3]) (by simp) rfl rfl (by simp [maxLen])
 have hS3:=Z5.stp hN
 clear hN
 replace hl:=hl.up hS3
 replace hS:=hS.trans hS3
 refine CL rfl (Zb rfl rfl) rfl (Z1u _ _ _ _ _ _ _ hl ha) ?_
 rintro _ w4 ⟨rfl,hS4⟩
 replace hl:=hl.up hS4
 replace hS:=hS.trans hS4
 clear ha
 unfold Z7K
 generalize JY l [1,1]=p1
 generalize JY l [3,3]=p3
 refine W ?_
 refine CL rfl (Zm rfl) rfl (Z0Z [] [43,32,45,32,42] _ (by simp) (by decide)) ?_
 rintro _ w5 ⟨hr,hS5⟩
 rw [Zad] at hr
 replace hl:=hl.up hS5
 replace hS:=hS.trans hS5
 refine W ?_
 refine CL rfl (Zb rfl rfl) rfl (Z0c [] _ _ s _ hr.slv0) ?_
 rintro _ w6 ⟨rfl,hS6⟩
 replace hl:=hl.up hS6
 replace hS:=hS.trans hS6
 generalize idx (isS s) JS=i1
 clear hr
 cases p1<;>cases p3<;>by_cases hi:0≤i1
 all_goals (repeat'(first|refine W1 ?_|omega|refine VG ?_ ?_<;>intro hg|refine VC ?_ ?_<;>intro hc))
 all_goals first
  | (refine CL rfl (Zm rfl) rfl (Z0Z [] [60, 32, 60, 61, 32, 61, 32, 33, 61, 32, 62, 32, 62, 61] _ (by simp) (by decide)) ?_
     rintro _ w7 ⟨hr,hS7⟩
     rw [Zae] at hr
     replace hl:=hl.up hS7
     replace hS:=hS.trans hS7
     refine W ?_
     refine CL rfl (Zb rfl rfl) rfl (Z0c [] _ _ s _ hr.slv0) ?_
     rintro _ w8 ⟨rfl,hS8⟩
     replace hl:=hl.up hS8
     replace hS:=hS.trans hS8
     generalize idx (isS s) Z1C=i2
     clear hr
     by_cases hi2:0≤i2)
  | (refine WR ?_
     exact .mk ⟨by simp [hi],hS⟩)
 all_goals (repeat'(first|refine W1 ?_|omega|refine VG ?_ ?_<;>intro hg|refine VC ?_ ?_<;>intro hc))
 all_goals first
  | (refine CL rfl (Zm rfl) rfl (Z0Z [] [97, 110, 100, 32, 111, 114] _ (by simp) (by decide)) ?_
     rintro _ w9 ⟨hr,hS9⟩
     rw [Zaf] at hr
     replace hl:=hl.up hS9
     replace hS:=hS.trans hS9
     refine W ?_
     refine CL rfl (Zb rfl rfl) rfl (Z0c [] _ _ s _ hr.slv0) ?_
     rintro _ w10 ⟨rfl,hS10⟩
     replace hl:=hl.up hS10
     replace hS:=hS.trans hS10
     generalize idx (isS s) JT=i3
     clear hr
     by_cases hi3:0≤i3)
  | (refine WR ?_
     exact .mk ⟨by simp [hi,hi2],hS⟩)
 all_goals (repeat'(first|refine W1 ?_|omega|refine VG ?_ ?_<;>intro hg|refine VC ?_ ?_<;>intro hc))
 all_goals first
  | (refine Z1 (Z0 (vs := [(0, .int .i64 2), (1, .int .i64 2)]) rfl (Z0O _ _)) rfl ?_
     rintro a2 w11 hN
     have ha:=hN.slv (X:=[]) (ys:=[(2:Int),2]) (by simp) rfl rfl (by simp [maxLen])
     have hS11:=Z5.stp hN
     clear hN
     replace hl:=hl.up hS11
     replace hS:=hS.trans hS11
     refine W ?_
     refine CL rfl (Zb rfl rfl) rfl (Z1u _ _ _ _ _ _ _ hl ha) ?_
     rintro _ w12 ⟨rfl,hS12⟩
     replace hS:=hS.trans hS12
     generalize JY l [2,2]=p2
     cases p2)
  | (refine WR ?_
     exact .mk ⟨by simp [hi,hi2,hi3],hS⟩)
 all_goals (refine W ?_)
 all_goals (refine WR ?_)
 all_goals exact .mk ⟨by simp [hi,hi2,hi3],hS⟩
structure Sig where
 kind:Int
 s:Str
 a:Int
 b:Int
 c:Int
 deriving DecidableEq
theorem ZdO (a b c d:Str) (w:World):(Instr.buildSlice 119 4 #[(0,str a),(1,str b),(2,str c),(3,str d)]).run Tryz.prog w=.ok (.slice (some ⟨w.heap.size,0,none⟩) 4 4) (w.alloc (.cells #[str a,str b,str c,str d] 9)):=by kernel_rfl
abbrev Zg9:=Sig×Value
def ent:Nat→Zg9
 | 5=>(⟨5,[45],1,0,0⟩,.int .i64 1)
 | 10=>(⟨5,[110,111,116],2,0,0⟩,.int .i64 2)
 | 15=>(⟨10,[110,101,120,116],3,0,0⟩,.int .i64 3)
 | 20=>(⟨10,[112,114,101,118],3,0,0⟩,.int .i64 3)
 | 26=>(⟨10,[108,97,116,101,114],3,3,0⟩,.int .i64 3)
 | 32=>(⟨10,[101,97,114,108,105,101,114],3,3,0⟩,.int .i64 3)
 | _=>(⟨10,[98,101,116,119,101,101,110],3,3,0⟩,.int .i64 1)
def Zga:List Nat:=[5,10,15,20,26,32,38]
def JI:List Str:=[[100,97,121,115],[119,101,101,107,115],[109,111,110,116,104,115],[99,111,117,114,116,100,97,121,115]]
def Zba (u:Str):List Zg9:=[(⟨7,u,3,1,0⟩,.int .i64 3),(⟨8,u,3,1,0⟩,.int .i64 3)]
def Z3L:List Zg9:=Zga.map ent++JI.flatMap Zba
def ZdP (x:Sig):Value:=Z4H Z3L x (.int .i64 0)
def Z2U (s:Str) (a b:Int):Int:=
 if s∈JS then (if a=b∧a=1 then 1 else 0) else if s∈Z1C then (if a=b∧¬ a=2 then 2 else 0) else if s∈JT then (if a=b∧a=2 then 2 else 0) else 0
theorem _root_.Go.Eng.SlV.on {α:Type} [Z8 α] {X S:List Nat} {w w':World} {v:Value} {xs:List α} (h:SlV X w v xs) (hS:Stp S w w') (hs:∀ b∈S,b∈X):SlV X w' v xs:=h.ext hS hs (fun _ h=>.inl h)
def Z4K (x:Sig):Int:=match ZdP x with|.int _ z=>z|_=>0
theorem ZdQ (x:Sig):ZdP x=.int .i64 (Z4K x):=by
 have:∀ p∈Z3L,∃ z,p.2=Value.int .i64 z:=by
  intro p hp
  simp only [Z3L,Zga,JI,Xn,Xx,Ya0,Ya3,Zba,XN,XL,XI,Xe,Xm,or_false,ent] at hp
  rcases hp with rfl|rfl|rfl|rfl|rfl|rfl|rfl|rfl|rfl|rfl|rfl|rfl|rfl|rfl|rfl<;>exact ⟨_,rfl⟩
 unfold Z4K ZdP Z4H
 cases h:Z3L.find? (fun p=>decide (p.1=x)) with
 | none=>rfl
 | some p=>
   obtain ⟨z,hz⟩:=this p (YaE h)
   simp only [hz]
def Ja (k n:Int) (s:Str) (ts:List Int):Int:=
 if ts.length > 3 then 0 else if (0:Int)∈ts then 0 else if ts=[] then Z0w k n s else if ¬ n=0 then 0
 else if k=9∧s=[]∧ts.getD 0 0=2∧ts.getD 1 0=ts.getD 2 0 then ts.getD 1 0
 else if k=6∧ts.getD 2 0=0 then Z2U s (ts.getD 0 0) (ts.getD 1 0) else Z4K ⟨k,s,ts.getD 0 0,ts.getD 1 0,ts.getD 2 0⟩
def Zf:Nd→Int
 | .mk k n s l=>Ja k n s (l.map Zf)
theorem Z0x (x:Nd):Zf x=Ja x.kind x.num x.word (x.kids.map Zf):=by
 cases x
 rw [Zf]
 rfl
theorem Zn8:∀ p∈Z3L,∃ z,p.2=Value.int .i64 z:=by
 intro p hp
 simp only [Z3L,Zga,JI,Xn,Xx,Ya0,Ya3,Zba,XN,XL,XI,Xe,Xm,or_false,ent] at hp
 rcases hp with rfl|rfl|rfl|rfl|rfl|rfl|rfl|rfl|rfl|rfl|rfl|rfl|rfl|rfl|rfl<;>exact ⟨_,rfl⟩
theorem ZbY {x:Sig} (h:¬ ∃ p∈Z3L,p.1=x):Z4K x=0:=by
 unfold Z4K ZdP Z4H
 have:Z3L.find? (fun p=>decide (p.1=x))=none:=by
  rw [YaK]
  intro p hp
  simpa using fun e=>h ⟨p,hp,e⟩
 rw [this]
def Z0F:List Str:=[[110,101,120,116],[112,114,101,118]]
def Z0G:List Str:=[[108,97,116,101,114],[101,97,114,108,105,101,114]]
theorem Zag:Z1O [110,101,120,116,32,112,114,101,118]=Z0F:=by decide
theorem Zah:Z1O [108,97,116,101,114,32,101,97,114,108,105,101,114]=Z0G:=by decide
theorem Z8V:Z1O [100,97,121,115,32,119,101,101,107,115,32,109,111,110,116,104,115,32,99,111,117,114,116,100,97,121,115]=JI:=by decide
theorem Z2s {s:Str} {l:List Str}:0≤idx (isS s) l↔s∈l:=by
 unfold idx
 cases h:l.findIdx? (isS s) with
 | none=>
   rw [X4] at h
   constructor
   intro h0
   simp at h0
   intro hm
   have:=h s hm
   simp at this
 | some i=>
   obtain ⟨hi,hp,_⟩:=XY.1 h
   constructor
   intro _
   have:l[i]=s:=by simpa using hp
   rw [← this]
   exact Xf _
   intro _
   simp
def Z5h (s:Str) (l:List Int):Int:=
 if 0≤idx (isS s) Z0F∧JY l [3]=true then 3 else if 0≤idx (isS s) Z0G∧JY l [3,3]=true then 3 else if s=[98,101,116,119,101,101,110]∧JY l [3,3]=true then 1 else 0
def Z3A (k n:Int) (s:Str) (ts:List Int):Int:=
 if ts=[] then Z0w k n s else if ¬ n=0 then 0
 else if k=5 then (if s=[45]∧JY ts [1]=true∨s=[110,111,116]∧JY ts [2]=true then ts.getD 0 0 else 0)
 else if k=6 then Z7K s ts
 else if k=7∨k=8 then (if 0≤idx (isS s) JI∧JY ts [3,1]=true then 3 else 0)
 else if k=9 then (if s=[]∧ts.length=3∧JY ts [2,ts.getD 1 0,ts.getD 1 0]=true then ts.getD 1 0 else 0)
 else if k=10 then Z5h s ts else 0
theorem Z8W {l m:List Int}:JY l m=true↔l=m∧∀ x∈l,x≠0:=by simp [JY]
theorem Zbb {l m:List Int} (h:¬ (l=m∧∀ x∈l,x≠0)):JY l m=false:=by simp [JY];simpa using h
theorem ZbZ (k n:Int) (s:Str) (ts:List Int) (h0:¬ ts=[]) (hb:(0:Int)∈ts∨ts.length > 3):Z3A k n s ts=0:=by
 have hno:∀ m:List Int,m.length≤3→JY ts m=false:=fun m hm=>Zbb (fun ⟨h1,h2⟩=>by
  rcases hb with hb|hb
  exact h2 0 hb rfl
  rw [h1] at hb;omega)
 unfold Z3A Z7K Z5h
 simp only [hno _ (show [(1:Int)].length≤3 by decide),hno _ (show [(2:Int)].length≤3 by decide),hno _ (show [(3:Int)].length≤3 by decide),hno [1,1] (by decide),hno [3,3] (by decide),hno [2,2] (by decide),hno [3,1] (by decide),hno [2,ts.getD 1 0,ts.getD 1 0] (by simp),if_neg h0]
 simp
theorem Zgb (s:Str) (a b:Int) (ha:a≠0) (hb:b≠0) (hr:1≤a∧a≤3) (hr2:1≤b∧b≤3):Z7K s [a,b]=Z2U s a b:=by
 unfold Z7K Z2U
 simp only [Z2s,Z8W]
 have e:∀ c d:Int,([a,b]=[c,d]∧∀ x∈[a,b],x≠0)↔(a=c∧b=d):=fun c d=>by simp [ha,hb]
 simp only [e]
 by_cases hA:s∈JS
 have hC:¬ s∈Z1C:=by
  simp only [JS,Xe,Xm,or_false] at hA
  rcases hA with rfl|rfl|rfl<;>decide
 have hL:¬ s∈JT:=by
  simp only [JS,Xe,Xm,or_false] at hA
  rcases hA with rfl|rfl|rfl<;>decide
 simp only [hA,hC,hL,true_and,false_and,if_false,if_true]
 by_cases h1:a=1∧b=1
 rw [if_pos h1,if_pos ⟨by omega,by omega⟩]
 rw [if_neg h1,if_neg (fun h=>by omega)]
 simp only [hA,false_and,if_false]
 by_cases hC:s∈Z1C
 have hL:¬ s∈JT:=by
  simp only [Z1C,Xe,Xm,or_false] at hC
  rcases hC with rfl|rfl|rfl|rfl|rfl|rfl<;>decide
 simp only [hC,hL,true_and,false_and,if_false,if_true]
 by_cases h1:a=1∧b=1∨a=3∧b=3
 rw [if_pos h1,if_pos ⟨by omega,by omega⟩]
 rw [if_neg h1,if_neg (fun h=>by omega)]
 simp only [hC,false_and,if_false]
 by_cases hL:s∈JT
 simp only [hL,true_and,if_true]
 by_cases h1:a=2∧b=2
 rw [if_pos h1,if_pos ⟨by omega,by omega⟩]
 rw [if_neg h1,if_neg (fun h=>by omega)]
 simp only [hL,false_and,if_false]
def ZdR:List Sig:=Z3L.map (·.1)
def Zai (k:Int) (s:Str) (a b c:Int):Int:=
 if c=0 then
  if b=0 then (if k=5∧s=[45]∧a=1 then 1 else if k=5∧s=[110,111,116]∧a=2 then 2 else if k=10∧s∈Z0F∧a=3 then 3 else 0)
  else if a=3∧b=3∧k=10∧s∈Z0G then 3 else if a=3∧b=3∧k=10∧s=[98,101,116,119,101,101,110] then 1 else if a=3∧b=1∧(k=7∨k=8)∧s∈JI then 3 else 0
 else 0
theorem ZdS:∀ x∈ZdR,Z4K x=Zai x.kind x.s x.a x.b x.c:=by
 intro x hx
 simp only [ZdR,Z3L,Zga,JI,Xn,Xx,Ya0,Ya3,Zba,XN,XL,XI,Xe,Xm,or_false,ent] at hx
 rcases hx with rfl|rfl|rfl|rfl|rfl|rfl|rfl|rfl|rfl|rfl|rfl|rfl|rfl|rfl|rfl<;>decide
theorem Z5C (k:Int) (s:Str) (a b c:Int):Z4K ⟨k,s,a,b,c⟩=Zai k s a b c:=by
 by_cases hx:(⟨k,s,a,b,c⟩:Sig)∈ZdR
 exact ZdS _ hx
 rw [ZbY (fun ⟨p,hp,e⟩=>hx (e ▸ Yac hp))]
 unfold Zai
 symm
 split
 rename_i hc
 subst hc
 split
 rename_i hb
 subst hb
 split
 rename_i h;obtain ⟨rfl,rfl,rfl⟩:=h;exact absurd (by decide) hx
 split
 rename_i h;obtain ⟨rfl,rfl,rfl⟩:=h;exact absurd (by decide) hx
 split
 rename_i h
 obtain ⟨rfl,h,rfl⟩:=h
 simp only [Z0F,Xe,Xm,or_false] at h
 rcases h with rfl|rfl<;>exact absurd (by decide) hx
 rfl
 split
 rename_i h
 obtain ⟨rfl,rfl,rfl,h⟩:=h
 simp only [Z0G,Xe,Xm,or_false] at h
 rcases h with rfl|rfl<;>exact absurd (by decide) hx
 split
 rename_i h;obtain ⟨rfl,rfl,rfl,rfl⟩:=h;exact absurd (by decide) hx
 split
 rename_i h
 obtain ⟨rfl,rfl,h1,h⟩:=h
 simp only [JI,Xe,Xm,or_false] at h
 rcases h1 with rfl|rfl<;>rcases h with rfl|rfl|rfl|rfl<;>exact absurd (by decide) hx
 rfl
 rfl
theorem Zn9 {a x:Int} (ha:a≠0):JY [a] [x]=decide (a=x):=by simp [JY,ha]
theorem Zna {a b x y:Int} (ha:a≠0) (hb:b≠0):JY [a,b] [x,y]=decide (a=x∧b=y):=by simp [JY,ha,hb]
theorem Znb {a b c x y z:Int} (ha:a≠0) (hb:b≠0) (hc:c≠0):JY [a,b,c] [x,y,z]=decide (a=x∧b=y∧c=z):=by simp [JY,ha,hb,hc]
theorem JA {l m:List Int} (h:¬ l.length=m.length):JY l m=false:=Zbb (fun h'=>h (by rw [h'.1]))
theorem ZdT (k n:Int) (s:Str) (ts:List Int) (hr:∀ t∈ts,0≤t∧t≤3):Z3A k n s ts=Ja k n s ts:=by
 by_cases h0:ts=[]
 subst h0;simp [Z3A,Ja]
 by_cases hb:(0:Int)∈ts∨ts.length > 3
 rw [ZbZ k n s ts h0 hb]
 unfold Ja
 rcases hb with hb|hb
 simp [hb]
 simp [show ts.length > 3 from hb]
 have hz:¬ (0:Int)∈ts:=fun h=>hb (.inl h)
 have hl:¬ ts.length > 3:=fun h=>hb (.inr h)
 unfold Z3A Ja
 rw [if_neg h0,if_neg hl,if_neg hz,if_neg h0]
 by_cases hn:¬ n=0
 rw [if_pos hn,if_pos hn]
 rw [if_neg hn,if_neg hn]
 match ts,h0,hl with
 | [a], _, _=>
   have ha:a≠0:=fun e=>hz (by simp [e])
   have hra:=hr a (by simp)
   simp only [Xz,XR,List.getD_nil,Z5C,Z5h,Z7K,Z2s,Zn9 ha,JA (show ¬ [a].length=[(1:Int),1].length by simp),JA (show ¬ [a].length=[(3:Int),3].length by simp),JA (show ¬ [a].length=[(2:Int),2].length by simp),JA (show ¬ [a].length=[(3:Int),1].length by simp),decide_eq_true_eq]
   have hb0:Z2U s a 0=0:=by
    unfold Z2U
    have h1:¬ (a=0∧a=1):=fun h=>ha h.1
    have h2:¬ (a=0∧¬ a=2):=fun h=>ha h.1
    have h3:¬ (a=0∧a=2):=fun h=>ha h.1
    simp only [if_neg h1,if_neg h2,if_neg h3,ite_self]
   simp only [hb0,Zai,Xc,Xd,XE,and_false,or_self,if_false]
   grind (splits:=40)
 | [a, b], _, _=>
   have ha:a≠0:=fun e=>hz (by simp [e])
   have hb:b≠0:=fun e=>hz (by simp [e])
   have hra:=hr a (by simp)
   have hrb:=hr b (by simp)
   simp only [Xz,XR,List.getD_nil,Z5C,Z5h,Zgb s a b ha hb (by omega) (by omega),Z2s,Zna ha hb,JA (show ¬ [a,b].length=[(1:Int)].length by simp),JA (show ¬ [a,b].length=[(2:Int)].length by simp),JA (show ¬ [a,b].length=[(3:Int)].length by simp),decide_eq_true_eq]
   simp only [Zai,Xc,Xd,XE,and_false,or_self,if_false]
   grind (splits:=40)
 | [a, b, c], _, _=>
   have ha:a≠0:=fun e=>hz (by simp [e])
   have hb:b≠0:=fun e=>hz (by simp [e])
   have hc:c≠0:=fun e=>hz (by simp [e])
   have hra:=hr a (by simp)
   have hrb:=hr b (by simp)
   have hrc:=hr c (by simp)
   simp only [Xz,XR,Z5C,Z5h,Z7K,Z2s,Znb ha hb hc,JA (show ¬ [a,b,c].length=[(1:Int)].length by simp),JA (show ¬ [a,b,c].length=[(2:Int)].length by simp),JA (show ¬ [a,b,c].length=[(3:Int)].length by simp),JA (show ¬ [a,b,c].length=[(1:Int),1].length by simp),JA (show ¬ [a,b,c].length=[(3:Int),3].length by simp),JA (show ¬ [a,b,c].length=[(2:Int),2].length by simp),JA (show ¬ [a,b,c].length=[(3:Int),1].length by simp),decide_eq_true_eq]
   simp only [Zai,Xc,Xd,XE,and_false,or_self,if_false]
   grind (splits:=40)
 | _ :: _ :: _ :: _ :: _,_,hl=>exact absurd (by simp) hl
theorem Z8X (k n:Int) (s:Str):0≤Z0w k n s∧Z0w k n s≤3:=by
 have h:0≤(ZS s).2.1∧(ZS s).2.1≤3:=by
  unfold ZS
  dsimp only
  split
  simp
  split<;>simp
 unfold Z0w
 grind
theorem Z8Y (k n:Int) (s:Str) (ts:List Int) (hr:∀ t∈ts,0≤t∧t≤3):0≤Ja k n s ts∧Ja k n s ts≤3:=by
 unfold Ja
 split
 omega
 split
 omega
 split
 exact Z8X _ _ _
 split
 omega
 have hg:∀ i,0≤ts.getD i 0∧ts.getD i 0≤3:=by
  intro i
  by_cases hi:i<ts.length
  have:=hr ts[i] (Xf hi)
  simpa [List.getD,hi] using this
  simp [List.getD,YaQ (Nat.le_of_not_lt hi)]
 split
 exact hg 1
 split
 unfold Z2U
 split
 split<;>omega
 split
 split<;>omega
 split
 split<;>omega
 omega
 rw [Z5C]
 unfold Zai
 grind
theorem Z1P (x:Nd):0≤Zf x∧Zf x≤3:=by
 induction x using Nd.ind with
 | h k n s l ih=>
 rw [Z0x]
 refine Z8Y _ _ _ _ (fun t ht=>?_)
 obtain ⟨y,hy,rfl⟩:=YaM.1 ht
 exact ih y hy
theorem Zbc (x:Nd):Zf x=Z3A x.kind x.num x.word (x.kids.map Zf):=by
 rw [Z0x,ZdT]
 intro t ht
 obtain ⟨y,hy,rfl⟩:=YaM.1 ht
 exact Z1P y
def Zp:Nd→Nat
 | .mk k n s l=>1+(l.map Zp).foldl max 0
theorem Z0d (x:Nd):Zp x=1+(x.kids.map Zp).foldl max 0:=by
 cases x
 rw [Zp]
 rfl
theorem Z7M (l:List Nat):∀ (m b:Nat),l.foldl max m≤b↔m≤b∧∀ x∈l,x≤b:=by
 induction l with
 | nil=>intro m b;simp
 | cons y r ih=>
   intro m b
   rw [Yba,ih]
   simp only [Xe,forall_eq_or_imp]
   constructor
   rintro ⟨h1,h2⟩
   exact ⟨by omega,by omega,h2⟩
   rintro ⟨h1,h2,h3⟩
   exact ⟨by omega,h3⟩
theorem Z0y {x y:Nd} (h:y∈x.kids):Zp y<Zp x:=by
 rw [Z0d x]
 have:=(Z7M (x.kids.map Zp) 0 ((x.kids.map Zp).foldl max 0)).1 (Xl _)
 have:=this.2 (Zp y) (Yac h)
 omega
theorem Z8Z (x:Nd):∀ (X:List Nat) (v:Value) (w:World),Zp x≤1000000→NdV X w v x→
 CC 100 #[v] w fun r w'=>r=.int .i64 (Zp x:Int)∧Stp [] w w':=by
 induction x using Nd.ind with
 | h k n s l ih=>
 intro X v w hb hx
 generalize hxe:Nd.mk k n s l=x at *
 have ih':∀ y∈x.kids,∀ (X:List Nat) (v:Value) (w:World),Zp y≤1000000→NdV X w v y→CC 100 #[v] w fun r w'=>r=.int .i64 (Zp y:Int)∧Stp [] w w':=by
  subst hxe;exact ih
 clear ih hxe k n s l
 obtain ⟨kv,rfl,hs⟩:=hx
 have hmax:=hs.max
 refine cW1 22 Tryz.func100 ?_
 refine W ?_
 refine Z1 (Zo rfl) rfl ?_
 rintro _ w1 ⟨b,rfl,hbb,hblk,hS⟩
 replace hblk:Blk w1 b _ (ndC x kv):=hblk
 replace hs:=hs.up hS
 refine W ?_
 have hs0:=hs
 have hblk0:=hblk
 refine Zr (σ:=Nat) (fun k=>[(1,.pointer (some ⟨b,0,none⟩)),(3,.int .i64 ((((x.kids.take k).map Zp).foldl max 0:Nat):Int)),(4,.int .i64 k)]) (fun k w'=>k≤x.kids.length∧Stp [] w1 w') (fun k=>x.kids.length - k) 0 ⟨rfl,rfl,rfl,trivial⟩ ⟨Xo _,Stp.refl _ _⟩ ?_
 clear hs hblk
 rintro k w2 ⟨hk,hS2⟩
 have hs:=hs0.up hS2
 have hblk:=hblk0.up hS2
 by_cases hlt:k<x.kids.length
 obtain ⟨kv2,hs2,hc2⟩:=hs.nd hlt
 have hkid:=Z0y (Xf hlt)
 focus repeat'(first|refine W1 ?_|omega|refine VG ?_ ?_<;>intro hg|refine VC ?_ ?_<;>intro hc)
 apply Zd (ZU rfl rfl hs hlt hc2) rfl
 refine CL rfl (Zm rfl) rfl (ih' x.kids[k] (Xf hlt) X _ _ (by omega) ⟨kv2,rfl,hs2⟩) ?_
 rintro _ w3 ⟨rfl,hS3⟩
 refine W ?_
 refine Zg (k+1) ⟨rfl,?_,rfl,trivial⟩ ⟨hlt,hS2.trans hS3⟩ (by omega)
 rw [Xq hlt,YaJ,List.foldl_append]
 show some _=some _
 congr 2
 simp only [Xn,Xx,Yba,List.foldl_nil]
 omega
 have hke:k=x.kids.length:=by omega
 subst hke
 have hn:=Z0d x
 rw [XC]
 focus repeat'(first|refine W1 ?_|omega|refine VG ?_ ?_<;>intro hg|refine VC ?_ ?_<;>intro hc)
 refine WR ?_
 refine .mk ⟨?_,hS.trans hS2⟩
 rw [hn]
 congr 1
theorem Zaj (X:List Nat) (s:Str) (u:Value) (l:List Int) (w:World) (hl:SlV X w u l) :
 CC 193 #[str s,u] w fun r w'=>r=.int .i64 (Z5h s l)∧Stp [] w w':=by
 refine cW2 33 Tryz.func193 ?_
 refine W ?_
 refine Z1 (Z0 (vs:=[(0,.int .i64 3),(1,.int .i64 3)]) rfl (Z0O _ _)) rfl ?_
 rintro a3 w3 hN
 have ha:=hN.slv (X:=[]) (ys:=[(3:Int),3]) (by simp) rfl rfl (by simp [maxLen])
 have hS:=Z5.stp hN
 clear hN
 replace hl:=hl.up hS
 refine CL rfl (Zb rfl rfl) rfl (Z1u _ _ _ _ _ _ _ hl ha) ?_
 rintro _ w4 ⟨rfl,hS4⟩
 replace hl:=hl.up hS4
 replace hS:=hS.trans hS4
 clear ha
 unfold Z5h
 generalize JY l [3,3]=p3
 refine W ?_
 refine CL rfl (Zm rfl) rfl (Z0Z [] [110,101,120,116,32,112,114,101,118] _ (by simp) (by decide)) ?_
 rintro _ w5 ⟨hr,hS5⟩
 rw [Zag] at hr
 replace hl:=hl.up hS5
 replace hS:=hS.trans hS5
 refine W ?_
 refine CL rfl (Zb rfl rfl) rfl (Z0c [] _ _ s _ hr.slv0) ?_
 rintro _ w6 ⟨rfl,hS6⟩
 replace hl:=hl.up hS6
 replace hS:=hS.trans hS6
 generalize idx (isS s) Z0F=i1
 clear hr
 have rest:∀ (w:World) (Q:Exit→Act→World→Prop),True:=fun _ _=>trivial
 by_cases hi:0≤i1
 all_goals (repeat'(first|refine W1 ?_|omega|refine VG ?_ ?_<;>intro hg|refine VC ?_ ?_<;>intro hc))
 all_goals first
  | (refine Z1 (Z0 (vs := [(0, .int .i64 3)]) rfl (Jg _)) rfl ?_
     rintro a1 w7 hN
     have ha:=hN.slv (X:=[]) (ys:=[(3:Int)]) (by simp) rfl rfl (by simp [maxLen])
     have hS7:=Z5.stp hN
     clear hN
     replace hl:=hl.up hS7
     replace hS:=hS.trans hS7
     refine W ?_
     refine CL rfl (Zb rfl rfl) rfl (Z1u _ _ _ _ _ _ _ hl ha) ?_
     rintro _ w8 ⟨rfl,hS8⟩
     replace hl:=hl.up hS8
     replace hS:=hS.trans hS8
     generalize JY l [3]=p1
     cases p1)
  | generalize JY l [3]=p1
 all_goals (repeat'(first|refine W1 ?_|omega|refine VG ?_ ?_<;>intro hg|refine VC ?_ ?_<;>intro hc))
 all_goals first
  | (refine WR ?_
     exact .mk ⟨by simp [hi],hS⟩)
  | (refine CL rfl (Zm rfl) rfl (Z0Z [] [108, 97, 116, 101, 114, 32, 101, 97, 114, 108, 105, 101, 114] _ (by simp) (by decide)) ?_
     rintro _ w9 ⟨hr,hS9⟩
     rw [Zah] at hr
     replace hl:=hl.up hS9
     replace hS:=hS.trans hS9
     refine W ?_
     refine CL rfl (Zb rfl rfl) rfl (Z0c [] _ _ s _ hr.slv0) ?_
     rintro _ w10 ⟨rfl,hS10⟩
     replace hS:=hS.trans hS10
     generalize idx (isS s) Z0G=i2
     clear hr)
 all_goals by_cases hi2:0≤i2
 all_goals cases p3
 all_goals by_cases hs:s=[98,101,116,119,101,101,110]
 all_goals (repeat'(first|refine W1 ?_|omega|refine VG ?_ ?_<;>intro hg|refine VC ?_ ?_<;>intro hc))
 all_goals try contradiction
 all_goals (refine WR ?_)
 all_goals exact .mk ⟨by simp [hi,hi2,hs],hS⟩
def okN:Nd→Bool
 | .mk k n s l=>decide (l.length≤1000) && (l.map okN).all id
theorem Zbd (x:Nd):okN x=true↔x.kids.length≤1000∧∀ y∈x.kids,okN y=true:=by
 cases x
 rw [okN]
 simp [Nd.kids]
abbrev ndL (k n:Int) (s:Str) (kv:Value):List Value:=[.int .i64 k,.int .i64 n,str s,kv]
set_option maxHeartbeats 1000000 in
theorem Zc0 (x:Nd):∀ (X:List Nat) (v:Value) (w:World),okN x=true→NdV X w v x→
 CC 101 #[v] w fun r w'=>r=.int .i64 (Zf x)∧Stp [] w w':=by
 induction x using Nd.ind with
 | h k n s l ih=>
 intro X v w hok hx
 obtain ⟨hk1,hk2⟩:=(Zbd _).1 hok
 replace hk1:l.length≤1000:=hk1
 replace hk2:∀ y∈l,okN y=true:=hk2
 obtain ⟨kv,rfl,hs⟩:=hx
 replace hs:SlV X w kv l:=hs
 rw [Zbc]
 show Calls _ _ _ _ (Ret fun r w'=>r=.int .i64 (Z3A k n s (l.map Zf))∧Stp [] w w')
 refine cW1 104 Tryz.func101 ?_
 refine W ?_
 refine Z1 (Zo rfl) rfl ?_
 rintro _ w1 ⟨b,rfl,hbb,hblk,hS⟩
 replace hblk:Blk w1 b _ (ndL k n s kv):=hblk
 replace hs:=hs.up hS
 repeat'(first|refine W1 ?_|omega|refine VG ?_ ?_<;>intro hg|refine VC ?_ ?_<;>intro hc)
 refine CL rfl (Zm rfl) rfl (Zac X _ (.mk k n s l) _ ⟨kv,rfl,hs⟩) ?_
 rintro _ w2 ⟨rfl,hS2⟩
 refine W ?_
 refine WR ?_
 have hl0:l=[]:=XD.1 (by omega)
 subst hl0
 exact .mk ⟨by simp [Z3A];rfl,hS.trans hS2⟩
 have hne:¬ l.map Zf=[]:=by
  intro h
  have:=congrArg List.length h
  simp at this
  subst this
  simp at hc
 have hlen:(l.map Zf).length=l.length:=by simp
 have hget:∀ i (h:i<l.length) (h':i<(l.map Zf).length),(l.map Zf)[i]=Zf l[i]:=by intro i h h';simp
 generalize hts:l.map Zf=ts at *
 refine Z1t (σ:=Value) (fun u=>[(1,.pointer (some ⟨b,0,none⟩)),(3,u)]) (fun u w'=>SlV [] w' u ts∧Stp [] w1 w') ?_ ?_
 have hs0:=hs
 have hblk0:=hblk
 have hXw:w1.heap.size≤w1.heap.size:=Xl _
 refine Zr (σ:=Nat×Value) (fun q=>[(1,.pointer (some ⟨b,0,none⟩)),(3,q.2),(4,.int .i64 (q.1:Int))]) (fun q w'=>q.1≤l.length∧Row [] w' w1.heap.size 3 q.2 (ts.take q.1)∧Stp [] w1 w') (fun q=>l.length - q.1) (0,.slice none 0 0) ⟨rfl,rfl,rfl,trivial⟩ ⟨Xo _,Row.nil,Stp.refl _ _⟩ ?_
 clear hs hblk
 rintro ⟨j,u⟩ w2 ⟨hj,hrow,hS2⟩
 dsimp only at hj hrow ⊢
 have hs:=hs0.up hS2
 have hblk:=hblk0.up hS2
 by_cases hlt:j<l.length
 obtain ⟨kv2,hs2,hc2⟩:=hs.nd hlt
 focus repeat'(first|refine W1 ?_|omega|refine VG ?_ ?_<;>intro hg|refine VC ?_ ?_<;>intro hc)
 apply Zd (ZU rfl rfl hs hlt hc2) rfl
 refine CL rfl (Zm rfl) rfl (ih l[j] (Xf hlt) X _ _ (hk2 _ (Xf hlt)) ⟨kv2,rfl,hs2⟩) ?_
 rintro _ w3 ⟨rfl,hS3⟩
 replace hrow:=hrow.up hS3
 replace hS2:=hS2.trans hS3
 refine W ?_
 refine Z1 (Z0 (vs:=[(0,.int .i64 (Zf l[j]))]) rfl (Jg _)) rfl ?_
 rintro bv w4 hN
 have hbv:SlV (ob u++[]) w4 bv [Zf l[j]]:=hN.slv (fun b hb=>(hrow.ob_le b (by simpa using hb)).2) rfl rfl (by simp [maxLen])
 have hS4:=Z5.stp hN
 clear hN
 replace hrow:=hrow.up hS4
 replace hS2:=hS2.trans hS4
 have hbase:=hS2.size
 have hlt':(ts.take j).length≤1000:=by rw [Xw];omega
 refine Z1 (Jw (X:=[]) (base:=w1.heap.size) rfl (by decide) rfl rfl hrow hbv (by simp only [Xc,Xd];omega) (by simp only [Xc,Xd,maxLen];omega) hbase) rfl ?_
 rintro u' w5 ⟨hrow',hS5,_⟩
 refine W ?_
 refine Zg (j+1,u') ⟨rfl,rfl,rfl,trivial⟩ ⟨by dsimp only;omega,?_,hS2.own hS5 (fun c hc=>.inr (hrow.ob_le c hc).1)⟩ (by dsimp only;omega)
 dsimp only
 rw [Xq (by omega),hget j hlt]
 exact hrow'
 have hje:j=l.length:=by omega
 subst hje
 rw [← hlen,XC] at hrow
 focus repeat'(first|refine W1 ?_|omega|refine VG ?_ ?_<;>intro hg|refine VC ?_ ?_<;>intro hc)
 exact ZO u ⟨rfl,rfl,trivial⟩ ⟨hrow.slv0,hS2⟩
 rintro u w2 ⟨hu,hS2⟩
 replace hblk:=hblk.up hS2
 replace hS:=hS.trans hS2
 have hts1:1≤ts.length:=by
  cases ts with
  | nil=>exact absurd rfl hne
  | cons=>simp
 clear hget hts hs
 have h0:∀ (h:0<ts.length),ts.getD 0 0=ts[0]:=fun h=>by simp [List.getD,h]
 have h1:∀ (h:1<ts.length),ts.getD 1 0=ts[1]:=fun h=>by simp [List.getD,h]
 unfold Z3A
 rw [if_neg hne]
 refine W ?_
 by_cases hn:¬ n=0
 rw [if_pos hn]
 focus repeat'(first|refine W1 ?_|omega|refine VG ?_ ?_<;>intro hg|refine VC ?_ ?_<;>intro hc)
 refine WR ?_
 exact .mk ⟨rfl,hS⟩
 rw [if_neg hn]
 by_cases k5:k=5
 subst k5
 rw [if_pos rfl]
 have hl0:0<ts.length:=by omega
 by_cases hm:s=[45]∨s=[110,111,116]
 have fin:∀ (z:Int) (p:Bool),(s=[45]∧z=1∨s=[110,111,116]∧z=2)→JY ts [z]=p→(if s=[45]∧JY ts [1]=true∨s=[110,111,116]∧JY ts [2]=true then ts.getD 0 0 else 0)=if p then ts.getD 0 0 else 0:=by
  rintro z p (⟨rfl,rfl⟩|⟨rfl,rfl⟩) hp<;>simp [hp]
 rcases hm with rfl|rfl
 · repeat'(first|refine W1 ?_|omega|refine VG ?_ ?_<;>intro hg|refine VC ?_ ?_<;>intro hc)
   refine Z1 (Z0 (vs:=[(0,.int .i64 1)]) rfl (Jg _)) rfl ?_
   rintro a1 w7 hN
   have ha:=hN.slv (X:=[]) (ys:=[(1:Int)]) (by simp) rfl rfl (by simp [maxLen])
   have hS7:=Z5.stp hN
   clear hN
   replace hu:=hu.up hS7
   replace hblk:=hblk.up hS7
   replace hS:=hS.trans hS7
   refine W ?_
   refine CL rfl (Zb rfl rfl) rfl (Z1u _ _ _ _ _ _ _ hu ha) ?_
   rintro _ w8 ⟨rfl,hS8⟩
   replace hu:=hu.up hS8
   replace hblk:=hblk.up hS8
   replace hS:=hS.trans hS8
   rw [fin 1 _ (.inl ⟨rfl,rfl⟩) rfl]
   cases JY ts [1] with
   | true=>
     repeat'(first|refine W1 ?_|omega|refine VG ?_ ?_<;>intro hg|refine VC ?_ ?_<;>intro hc)
     refine WR ?_
     refine .mk ⟨?_,hS⟩
     rw [if_pos rfl,h0 hts1]
   | false=>
     repeat'(first|refine W1 ?_|omega|refine VG ?_ ?_<;>intro hg|refine VC ?_ ?_<;>intro hc)
     refine WR ?_
     exact .mk ⟨rfl,hS⟩
 · repeat'(first|refine W1 ?_|omega|refine VG ?_ ?_<;>intro hg|refine VC ?_ ?_<;>intro hc)
   refine Z1 (Z0 (vs:=[(0,.int .i64 2)]) rfl (Jg _)) rfl ?_
   rintro a1 w7 hN
   have ha:=hN.slv (X:=[]) (ys:=[(2:Int)]) (by simp) rfl rfl (by simp [maxLen])
   have hS7:=Z5.stp hN
   clear hN
   replace hu:=hu.up hS7
   replace hblk:=hblk.up hS7
   replace hS:=hS.trans hS7
   refine W ?_
   refine CL rfl (Zb rfl rfl) rfl (Z1u _ _ _ _ _ _ _ hu ha) ?_
   rintro _ w8 ⟨rfl,hS8⟩
   replace hu:=hu.up hS8
   replace hS:=hS.trans hS8
   rw [fin 2 _ (.inr ⟨rfl,rfl⟩) rfl]
   cases JY ts [2] with
   | true=>
     repeat'(first|refine W1 ?_|omega|refine VG ?_ ?_<;>intro hg|refine VC ?_ ?_<;>intro hc)
     refine WR ?_
     refine .mk ⟨?_,hS⟩
     rw [if_pos rfl,h0 hts1]
   | false=>
     repeat'(first|refine W1 ?_|omega|refine VG ?_ ?_<;>intro hg|refine VC ?_ ?_<;>intro hc)
     refine WR ?_
     exact .mk ⟨rfl,hS⟩
 · have hm1:¬ s=[45]:=fun h=>hm (.inl h)
   have hm2:¬ s=[110,111,116]:=fun h=>hm (.inr h)
   rw [if_neg (by rintro (⟨h,_⟩|⟨h,_⟩)<;>contradiction)]
   repeat'(first|refine W1 ?_|omega|refine VG ?_ ?_<;>intro hg|refine VC ?_ ?_<;>intro hc)
   all_goals try contradiction
   refine WR ?_
   exact .mk ⟨rfl,hS⟩
 rw [if_neg k5]
 by_cases k6:k=6
 subst k6
 rw [if_pos rfl]
 focus repeat'(first|refine W1 ?_|omega|refine VG ?_ ?_<;>intro hg|refine VC ?_ ?_<;>intro hc)
 refine CL rfl (Zb rfl rfl) rfl (Z7L [] s u ts _ hu) ?_
 rintro _ w3 ⟨rfl,hS3⟩
 refine W ?_
 refine WR ?_
 exact .mk ⟨rfl,hS.trans hS3⟩
 rw [if_neg k6]
 by_cases k78:k=7∨k=8
 · rw [if_pos k78]
   have n9:¬ k=9:=by omega
   have n10:¬ k=10:=by omega
   repeat'(first|refine W1 ?_|omega|refine VG ?_ ?_<;>intro hg|refine VC ?_ ?_<;>intro hc)
   all_goals
    refine ZDr 10 [] [] [(1,0),(2,1),(0,2),(3,2),(4,0),(5,0),(6,0),(7,2),(8,2),(9,0)] (fun w1 hS1=>?_)
    replace hu:=hu.up hS1
    replace hblk:=hblk.up hS1
    replace hS:=hS.trans hS1
    refine D ?_
    refine Za rfl trivial (Z4 rfl (Zm rfl) (Z0Z [] [100,97,121,115,32,119,101,101,107,115,32,109,111,110,116,104,115,32,99,111,117,114,116,100,97,121,115] _ (by simp) (by decide))) (fun _ _ h=>h.2) rfl ?_
    rintro _ w5 ⟨hr,hS5⟩
    rw [Z8V] at hr
    replace hu:=hu.up hS5
    replace hS:=hS.trans hS5
    refine Za rfl trivial (Z4 rfl (Zb rfl rfl) (Z0c [] _ _ s _ hr.slv0)) (fun _ _ h=>h.2) rfl ?_
    rintro _ w6 ⟨rfl,hS6⟩
    replace hu:=hu.up hS6
    replace hS:=hS.trans hS6
    generalize idx (isS s) JI=i1
    by_cases hi:0≤i1
    focus repeat'(first|refine D1 ?_|omega|refine J6 rfl rfl rfl rfl (fun hg=>?_) (fun hg=>?_)|(refine ZX rfl rfl rfl rfl (fun hg=>?_) (fun hg=>?_)<;>refine D1 ?_)|fail)
    refine Za rfl rfl (Z0 (vs:=[(0,.int .i64 3),(1,.int .i64 1)]) rfl (Z0O _ _)) (fun _ _ h=>Z5.stp h) rfl ?_
    rintro a1 w7 hN
    have ha:=hN.slv (X:=[]) (ys:=[(3:Int),1]) (by simp) rfl rfl (by simp [maxLen])
    have hS7:=Z5.stp hN
    clear hN
    replace hu:=hu.up hS7
    replace hS:=hS.trans hS7
    refine Za rfl rfl (Z4 rfl (Zb rfl rfl) (Z1u _ _ _ _ _ _ _ hu ha)) (fun _ _ h=>h.2) rfl ?_
    rintro _ w8 ⟨rfl,hS8⟩
    replace hS:=hS.trans hS8
    generalize JY ts [3,1]=p
    cases p
    refine D ?_
    focus repeat'(first|refine W1 ?_|omega|refine VG ?_ ?_<;>intro hg|refine VC ?_ ?_<;>intro hc)
    refine WR ?_
    exact .mk ⟨by simp,hS⟩
    refine D ?_
    focus repeat'(first|refine W1 ?_|omega|refine VG ?_ ?_<;>intro hg|refine VC ?_ ?_<;>intro hc)
    refine WR ?_
    exact .mk ⟨by simp [hi],hS⟩
    focus repeat'(first|refine D1 ?_|omega|refine J6 rfl rfl rfl rfl (fun hg=>?_) (fun hg=>?_)|(refine ZX rfl rfl rfl rfl (fun hg=>?_) (fun hg=>?_)<;>refine D1 ?_)|fail)
    focus repeat'(first|refine W1 ?_|omega|refine VG ?_ ?_<;>intro hg|refine VC ?_ ?_<;>intro hc)
    refine WR ?_
    exact .mk ⟨by simp [hi],hS⟩
 rw [if_neg k78]
 by_cases k9:k=9
 subst k9
 rw [if_pos rfl]
 focus repeat'(first|refine W1 ?_|omega|refine VG ?_ ?_<;>intro hg|refine VC ?_ ?_<;>intro hc)
 refine ZDr 19 [] [] [(0,0),(1,1),(2,0),(3,0),(4,0),(5,0),(6,0),(7,0),(8,0),(9,0),(10,0),(11,0),(12,1),(13,0),(14,0),(15,1),(16,2),(17,2),(18,0)] (fun w1 hS1=>?_)
 replace hu:=hu.up hS1
 replace hblk:=hblk.up hS1
 replace hS:=hS.trans hS1
 have hum:=hu.max
 by_cases hs:s=[]
 subst hs
 by_cases h3:ts.length=3
 have hl1:1<ts.length:=by omega
 have h1':=h1 hl1
 focus repeat'(first|refine D1 ?_|omega|refine J6 rfl rfl rfl rfl (fun hg=>?_) (fun hg=>?_)|(refine ZX rfl rfl rfl rfl (fun hg=>?_) (fun hg=>?_)<;>refine D1 ?_)|fail)
 refine Za rfl rfl (Z0 (vs:=[(0,.int .i64 2),(1,.int .i64 _),(2,.int .i64 _)]) rfl (ZdN _ _ _)) (fun _ _ h=>Z5.stp h) rfl ?_
 rintro a1 w7 hN
 have ha:=hN.slv (X:=[]) (ys:=[(2:Int),ts[1],ts[1]]) (by simp) rfl rfl (by simp [maxLen])
 have hS7:=Z5.stp hN
 clear hN
 replace hu:=hu.up hS7
 replace hS:=hS.trans hS7
 refine Za rfl rfl (Z4 rfl (Zb rfl rfl) (Z1u _ _ _ _ _ _ _ hu ha)) (fun _ _ h=>h.2) rfl ?_
 rintro _ w8 ⟨rfl,hS8⟩
 replace hu:=hu.up hS8
 replace hS:=hS.trans hS8
 rw [h1']
 cases hp:JY ts [2,ts[1],ts[1]]
 refine D ?_
 focus repeat'(first|refine W1 ?_|omega|refine VG ?_ ?_<;>intro hg|refine VC ?_ ?_<;>intro hc)
 refine WR ?_
 exact .mk ⟨by simp,hS⟩
 refine D ?_
 focus repeat'(first|refine W1 ?_|omega|refine VG ?_ ?_<;>intro hg|refine VC ?_ ?_<;>intro hc)
 refine WR ?_
 exact .mk ⟨by simp [h3],hS⟩
 focus repeat'(first|refine D1 ?_|omega|refine J6 rfl rfl rfl rfl (fun hg=>?_) (fun hg=>?_)|(refine ZX rfl rfl rfl rfl (fun hg=>?_) (fun hg=>?_)<;>refine D1 ?_)|fail)
 focus repeat'(first|refine W1 ?_|omega|refine VG ?_ ?_<;>intro hg|refine VC ?_ ?_<;>intro hc)
 refine WR ?_
 exact .mk ⟨by simp [h3],hS⟩
 · repeat'(first|refine D1 ?_|omega|refine J6 rfl rfl rfl rfl (fun hg=>?_) (fun hg=>?_)|(refine ZX rfl rfl rfl rfl (fun hg=>?_) (fun hg=>?_)<;>refine D1 ?_)|fail)
   all_goals try contradiction
   repeat'(first|refine W1 ?_|omega|refine VG ?_ ?_<;>intro hg|refine VC ?_ ?_<;>intro hc)
   refine WR ?_
   exact .mk ⟨by simp [hs],hS⟩
 rw [if_neg k9]
 by_cases k10:k=10
 subst k10
 rw [if_pos rfl]
 focus repeat'(first|refine W1 ?_|omega|refine VG ?_ ?_<;>intro hg|refine VC ?_ ?_<;>intro hc)
 refine CL rfl (Zb rfl rfl) rfl (Zaj [] s u ts _ hu) ?_
 rintro _ w3 ⟨rfl,hS3⟩
 refine W ?_
 refine WR ?_
 exact .mk ⟨rfl,hS.trans hS3⟩
 rw [if_neg k10]
 repeat'(first|refine W1 ?_|omega|refine VG ?_ ?_<;>intro hg|refine VC ?_ ?_<;>intro hc)
 refine WR ?_
 exact .mk ⟨rfl,hS⟩
def Jr:Nd→Nat
 | .mk k n s l=>1+(l.map Jr).sum
theorem Z1g (x:Nd):Jr x=1+(x.kids.map Jr).sum:=by
 cases x
 rw [Jr]
 rfl
theorem Z6G {l:List Nat} {a:Nat} (h:a∈l):a≤l.sum:=by
 induction l with
 | nil=>cases h
 | cons x r ih=>
   rw [List.sum_cons]
   rcases Xe.1 h with rfl|h
   omega
   have:=ih h;omega
theorem ZdU {x y:Nd} (h:y∈x.kids):Jr y<Jr x:=by
 rw [Z1g x]
 have:=Z6G (Yac (f:=Jr) h)
 omega
theorem ZdV (x:Nd):1≤Jr x:=by rw [Z1g];omega
theorem Zak (l:List Nd):l.length≤(l.map Jr).sum:=by
 induction l with
 | nil=>simp
 | cons x r ih=>
   have:=ZdV x
   simp
   omega
theorem Z90 (x:Nd):Jr x≤1000→okN x=true:=by
 induction x using Nd.ind with
 | h k n s l ih=>
 intro h
 rw [Zbd]
 have h1:=Z1g (.mk k n s l)
 have h2:=Zak l
 refine ⟨?_,fun y hy=>ih y hy ?_⟩
 show l.length≤1000
 have:Jr (.mk k n s l)=1+(l.map Jr).sum:=h1
 omega
 have:=ZdU (x:=.mk k n s l) (y:=y) hy
 omega
theorem ZdW (X:List Nat) (v:Value) (x:Nd) (w:World) (hok:okN x=true) (hn:Zp x≤1000000) (hx:NdV X w v x) :
 CC 46 #[v] w fun r w'=>r=.tuple #[.int .i64 (if Zp x≤12 then Zf x else 0),.int .i64 (if Zp x≤12 then (if Zf x=0 then 21 else 0) else 2)]∧Stp [] w w':=by
 obtain ⟨kv,rfl,hs⟩:=hx
 refine cW1 13 Tryz.func46 ?_
 refine W ?_
 refine Z1 (Zo rfl) rfl ?_
 rintro _ w1 ⟨b,rfl,hbb,hblk,hS⟩
 replace hblk:Blk w1 b _ (ndC x kv):=hblk
 replace hs:=hs.up hS
 refine W ?_
 refine CL rfl (Zm rfl) rfl (Z8Z x X _ _ hn ⟨kv,rfl,hs⟩) ?_
 rintro _ w2 ⟨rfl,hS2⟩
 replace hs:=hs.up hS2;replace hblk:=hblk.up hS2
 replace hS:=hS.trans hS2
 by_cases hn:Zp x≤12
 rw [if_pos hn,if_pos hn]
 focus repeat'(first|refine W1 ?_|omega|refine VG ?_ ?_<;>intro hg|refine VC ?_ ?_<;>intro hc)
 refine CL rfl (Zm rfl) rfl (Zc0 x X _ _ hok ⟨kv,rfl,hs⟩) ?_
 rintro _ w3 ⟨rfl,hS3⟩
 replace hS:=hS.trans hS3
 focus repeat'(first|refine W1 ?_|omega|refine VG ?_ ?_<;>intro hg|refine VC ?_ ?_<;>intro hc)
 refine WR ?_
 exact .mk ⟨by rw [if_pos hc,hc],hS⟩
 refine WR ?_
 exact .mk ⟨by rw [if_neg hc],hS⟩
 rw [if_neg hn,if_neg hn]
 focus repeat'(first|refine W1 ?_|omega|refine VG ?_ ?_<;>intro hg|refine VC ?_ ?_<;>intro hc)
 refine WR ?_
 exact .mk ⟨rfl,hS⟩
theorem Z5S {x:Nd} (h:Zf x≠0):x.kids.length≤3∧∀ y∈x.kids,Zf y≠0:=by
 rw [Z0x] at h
 unfold Ja at h
 refine ⟨?_,fun y hy e=>?_⟩
 by_cases hl:(x.kids.map Zf).length > 3
 rw [if_pos hl] at h;exact absurd rfl h
 simpa using hl
 by_cases hl:(x.kids.map Zf).length > 3
 rw [if_pos hl] at h;exact absurd rfl h
 rw [if_neg hl,if_pos (by rw [← e];exact Yac hy)] at h
 exact absurd rfl h
def Z5T:List Str:=[[110,101,120,116],[112,114,101,118],[108,97,116,101,114],[101,97,114,108,105,101,114],[98,101,116,119,101,101,110]]
inductive Zhg (k:Int) (s:Str) (m:Nat):Prop
 | neg (h:k=5) (hs:s=[45]∨s=[110,111,116]) (hm:m=1)
 | bin (h:k=6) (hs:s∈JS∨s∈Z1C∨s∈JT) (hm:m=2)
 | unit (h:k=7∨k=8) (hs:s∈JI) (hm:m=2)
 | cond (h:k=9) (hm:m=3)
 | call (h:k=10) (hs:s∈Z5T) (hm:1≤m∧m≤2)
theorem Z91 {x:Nd} (h:Zf x≠0) (hk:x.kids≠[]):x.num=0∧Zhg x.kind x.word x.kids.length:=by
 have hl:=(Z5S h).1
 rw [Zbc] at h
 have hlen:(x.kids.map Zf).length=x.kids.length:=by simp
 have hne:¬ x.kids.map Zf=[]:=by simpa using hk
 generalize x.kids.map Zf=ts at *
 rw [← hlen]
 unfold Z3A at h
 rw [if_neg hne] at h
 have hn:x.num=0:=Decidable.byContradiction (fun hn=>by rw [if_pos hn] at h;exact absurd rfl h)
 refine ⟨hn,?_⟩
 rw [if_neg (by simpa using hn)] at h
 have hlm:∀ m:List Int,JY ts m=true→ts.length=m.length:=fun m hm=>by rw [(Z8W.1 hm).1]
 by_cases k5:x.kind=5
 rw [if_pos k5] at h
 split at h
 rename_i hh
 rcases hh with ⟨h1,h2⟩|⟨h1,h2⟩
 exact .neg k5 (.inl h1) (hlm _ h2)
 exact .neg k5 (.inr h1) (hlm _ h2)
 exact absurd rfl h
 rw [if_neg k5] at h
 by_cases k6:x.kind=6
 rw [if_pos k6] at h
 unfold Z7K at h
 simp only [Z2s] at h
 split at h
 rename_i hh;exact .bin k6 (.inl hh.1) (hlm _ hh.2)
 split at h
 rename_i hh
 rcases hh.2 with h2|h2
 exact .bin k6 (.inr (.inl hh.1)) (hlm _ h2)
 exact .bin k6 (.inr (.inl hh.1)) (hlm _ h2)
 split at h
 rename_i hh;exact .bin k6 (.inr (.inr hh.1)) (hlm _ hh.2)
 exact absurd rfl h
 rw [if_neg k6] at h
 by_cases k78:x.kind=7∨x.kind=8
 rw [if_pos k78] at h
 simp only [Z2s] at h
 split at h
 rename_i hh;exact .unit k78 hh.1 (hlm _ hh.2)
 exact absurd rfl h
 rw [if_neg k78] at h
 by_cases k9:x.kind=9
 rw [if_pos k9] at h
 split at h
 rename_i hh;exact .cond k9 hh.2.1
 exact absurd rfl h
 rw [if_neg k9] at h
 by_cases k10:x.kind=10
 rw [if_pos k10] at h
 unfold Z5h at h
 simp only [Z2s] at h
 split at h
 rename_i hh
 refine .call k10 ?_ (by have:=hlm _ hh.2;simp at this;omega)
 have:=hh.1
 simp only [Z0F,Z5T,Xe,Xm,or_false] at this ⊢
 rcases this with h|h<;>simp [h]
 split at h
 rename_i hh
 refine .call k10 ?_ (by have:=hlm _ hh.2;simp at this;omega)
 have:=hh.1
 simp only [Z0G,Z5T,Xe,Xm,or_false] at this ⊢
 rcases this with h|h<;>simp [h]
 split at h
 rename_i hh
 refine .call k10 ?_ (by have:=hlm _ hh.2;simp at this;omega)
 simp [Z5T,hh.1]
 exact absurd rfl h
 rw [if_neg k10] at h
 exact absurd rfl h
end Go.Proofs.YtjdjdoefppebkaaGreatDoor
namespace Go.Eng
open Go
structure Ins where
 op:Int
 n:Int
 deriving DecidableEq,Inhabited
instance:Z9 Ins where
 k:=2
 enc:=fun x=>[.int .i64 x.op,.int .i64 x.n]
 len:=fun _=>rfl
 one:=by intro x u hu;simp at hu;rcases hu with rfl|rfl<;>rfl
def agg {α:Type} [Z9 α] (x:α):Value:=.agg (Z9.enc x).toArray
theorem Row.keep {β:Type} [Z9 β] {X S:List Nat} {w w':World} {base T:Nat} {v:Value} {xs:List β} (h:Row X w base T v xs) (hS:Stp S w w') (hd:∀ b∈S,b∉ob v):Row X w' base T v xs:=by
 have h':Row S w base T v xs:=h
 have:=h'.ext (X':=X) hS (fun b hb=>⟨hb,hd b hb⟩)
 obtain ⟨css,h1,h2,h3⟩:=h
 refine ⟨css,h1,h2,?_⟩
 have h4:Row S w base T v xs:=⟨css,h1,h2,h3⟩
 obtain ⟨ho,hr⟩:=h3
 refine ⟨ho,?_⟩
 rcases hr with hn|⟨q,cap,cur,rfl,hb,hg,rest⟩
 exact .inl hn
 refine .inr ⟨q,cap,cur,rfl,hb,?_,rest⟩
 rw [hS.block q (Xk.1 hg).1 (fun hq=>hd q hq (by simp [ob]))]
 exact hg
end Go.Eng
namespace Go.Proofs.YtjdjdoefppebkaaGreatDoor
open Go Go.Eng Go.RowKit
theorem Z7N (a b:Int) (w:World):(Instr.build 51 #[(0,.int .i64 a),(1,.int .i64 b)]).run Tryz.prog w=.ok (agg (Ins.mk a b)) w:=by kernel_rfl
theorem Z5D (a:Int) (w:World):(Instr.build 51 #[(0,.int .i64 a)]).run Tryz.prog w=.ok (agg (Ins.mk a 0)) w:=by kernel_rfl
theorem Z3i (d:Ins) (w:World):(Instr.buildSlice 40 1 #[(0,agg d)]).run Tryz.prog w=.ok (.slice (some ⟨w.heap.size,0,none⟩) 1 1) (w.alloc (.cells (Z9.enc d).toArray 51)):=by kernel_rfl
abbrev Cf:=Nat→List Ins
def chC (c y n:Cf) (p0:Nat):List Ins:=
 c p0 ++ [⟨14, ((p0 + (c p0).length + 1 + (y (p0 + (c p0).length + 1)).length + 1 : Nat) : Int)⟩] ++ y (p0 + (c p0).length + 1) ++
   [⟨13,((p0+(c p0).length+1+(y (p0+(c p0).length+1)).length+1+(n (p0+(c p0).length+1+(y (p0+(c p0).length+1)).length+1)).length:Nat):Int)⟩]++n (p0+(c p0).length+1+(y (p0+(c p0).length+1)).length+1)
def ZkP:List (Str×List Int):=[([43],[5]),([42],[7]),([110,111,116],[12]),([60],[9]),([60,61],[10]),([61],[11]),([62],[10,12]),([62,61],[9,12]),([33,61],[11,12]),([100,97,121,115],[15]),([119,101,101,107,115],[16]),([109,111,110,116,104,115],[17]),([99,111,117,114,116,100,97,121,115],[18]),([110,101,120,116],[19]),([112,114,101,118],[20]),([108,97,116,101,114],[21]),([101,97,114,108,105,101,114],[22]),([98,101,116,119,101,101,110],[23])]
def opF (s:Str):List Int:=match ZkP.find? (fun p=>decide (p.1=s)) with|some p=>p.2|none=>[]
theorem Zgc (s:Str):(opF s).length≤2:=by
 unfold opF
 cases h:ZkP.find? (fun p=>decide (p.1=s)) with
 | none=>simp
 | some p=>
   have hp:=YaE h
   have:∀ p∈ZkP,p.2.length≤2:=by decide
   exact this p hp
def JD:List Cf→Nat→List Ins
 | [],_=>[]
 | c :: r,p=>c p++JD r (p+(c p).length)
theorem Z5i (a b:List Cf) (p:Nat):JD (a++b) p=JD a p++JD b (p+(JD a p).length):=by
 induction a generalizing p with
 | nil=>simp [JD]
 | cons c r ih=>
   simp only [XN,JD,ih,Xg,XK]
   rw [Yax]
theorem Zc1 (cs:List Cf) (p i:Nat) (h:i<cs.length):JD (cs.take (i+1)) p=JD (cs.take i) p++cs[i] (p+(JD (cs.take i) p).length):=by
 rw [Xq h,Z5i]
 simp [JD]
theorem Zbe (cs:List Cf) (p i:Nat):(JD (cs.take i) p).length≤(JD cs p).length:=by
 have:JD cs p=JD (cs.take i) p++JD (cs.drop i) (p+(JD (cs.take i) p).length):=by rw [← Z5i,XT]
 rw [this,Xg]
 omega
def Z3M (l:List Int):List Ins:=l.map (fun o=>⟨o,0⟩)
def Z2t (k:Int) (s:Str) (cs:List Cf) (p:Nat):List Ins:=JD cs p++(if k=8∨k=5∧s=[45] then [⟨8,0⟩] else [])++Z3M (opF s)
def Z1Q (k n:Int) (s:Str):Ins:=if k=1 then ⟨1,n⟩ else if k=2 then ⟨2,n⟩ else if k=3 then ⟨3,n⟩ else ⟨4,(ZS s).1⟩
def Z6H:Cf:=fun _=>[]
def Z26 (k n:Int) (s:Str) (cs:List Cf) (p:Nat):List Ins:=
 if cs.length=0 then [Z1Q k n s]
 else if k=9 then chC (cs.getD 0 Z6H) (cs.getD 1 Z6H) (cs.getD 2 Z6H) p
 else if k=6∧s=[97,110,100] then chC (cs.getD 0 Z6H) (cs.getD 1 Z6H) (fun _=>[⟨2,0⟩]) p
 else if k=6∧s=[111,114] then chC (cs.getD 0 Z6H) (fun _=>[⟨2,1⟩]) (cs.getD 1 Z6H) p
 else if k=6∧s=[45] then Z2t k s cs p++[⟨6,0⟩]
 else Z2t k s cs p
def Zn:Nd→Nat→List Ins
 | .mk k n s l=>Z26 k n s (l.map Zn)
theorem Z5U (x:Nd):Zn x=Z26 x.kind x.num x.word (x.kids.map Zn):=by
 cases x
 rw [Zn]
 rfl
theorem ZdX (w:World):(Instr.build 27 #[(0,.int .i64 2)]).run Tryz.prog w=.ok (.agg #[.int .i64 2,.int .i64 0,str [],.slice none 0 0]) w:=by kernel_rfl
theorem ZdY (w:World):(Instr.build 27 #[(0,.int .i64 2),(1,.int .i64 1)]).run Tryz.prog w=.ok (.agg #[.int .i64 2,.int .i64 1,str [],.slice none 0 0]) w:=by kernel_rfl
theorem Z0P {α:Type} [Z8 α] (X:List Nat) (w:World):SlV (α:=α) X w (.slice none 0 0) []:=⟨none,0,rfl,Xl _,by simp [maxLen],fun _=>rfl,fun i h=>absurd h (Xy _)⟩
theorem Z04 {α:Type} [Z8 α] {X:List Nat} {w w':World} {v u:Value} {l:List α} {i k j:Nat} (hs:SlV X w v l) (hi:i<l.length) (hS:Stp X w w') (h:w.cell? (Zz v i k j)=some u):w'.cell? (Zz v i k j)=some u:=by
 obtain ⟨p,c,rfl,_,_,_,hc⟩:=hs
 obtain ⟨b,o,cs,rfl,_,hx,_⟩:=hc i hi
 exact hS.cell hx h
theorem Zal {x:Nd} (h:x.kids=[]) (p:Nat):Zn x p=[Z1Q x.kind x.num x.word]:=by
 rw [Z5U,h]
 simp [Z26]
theorem Zam {x:Nd} {i:Nat} (h:i<x.kids.length):(x.kids.map Zn).getD i Z6H=Zn x.kids[i]:=by simp [List.getD,h]
theorem ZdZ (l:List Nd) (h:∀ y∈l,∀ p,(Zn y p).length≤8 * Jr y) (p:Nat):(JD (l.map Zn) p).length≤8 * (l.map Jr).sum:=by
 induction l generalizing p with
 | nil=>simp [JD]
 | cons x r ih=>
   simp only [Xn,JD,Xg,List.sum_cons]
   have h1:=h x (by simp) p
   have h2:=ih (fun y hy=>h y (by simp [hy])) (p+(Zn x p).length)
   omega
theorem Z92 (l:List Int):(Z3M l).length=l.length:=by simp [Z3M]
theorem Ze0 {l:List Nd} (h:∀ y∈l,∀ p,(Zn y p).length≤8 * Jr y) (i p:Nat):((l.map Zn).getD i Z6H p).length≤8 * (l.map Jr).getD i 0:=by
 by_cases hi:i<l.length
 simp [List.getD,hi]
 exact h _ (Xf hi) p
 simp [List.getD,hi,Z6H]
theorem Ze1 (l:List Nat):l.getD 0 0+l.getD 1 0+l.getD 2 0≤l.sum:=by
 rcases l with _|⟨a,_|⟨b,_|⟨c,r⟩⟩⟩<;>simp<;>omega
theorem Z7O (c y n:Cf) (A B C:Nat) (hc:∀ p,(c p).length≤A) (hy:∀ p,(y p).length≤B) (hn:∀ p,(n p).length≤C) (p:Nat):(chC c y n p).length≤A+B+C+2:=by
 unfold chC
 simp only [Xg,Xc,Xd]
 have h1:=hc p
 have h2:=hy (p+(c p).length+1)
 have h3:=hn (p+(c p).length+1+(y (p+(c p).length+1)).length+1)
 omega
theorem Zc2 (x:Nd):∀ p,(Zn x p).length≤8 * Jr x:=by
 induction x using Nd.ind with
 | h k n s l ih=>
 intro p
 rw [Z5U,Z1g]
 show (Z26 k n s (l.map Zn) p).length≤8 * (1+(l.map Jr).sum)
 have hs:=Ze1 (l.map Jr)
 have g:=Ze0 ih
 have hp:(Z2t k s (l.map Zn) p).length≤8 * (l.map Jr).sum+3:=by
  unfold Z2t
  simp only [Xg,Z92]
  have h1:=ZdZ l ih p
  have h2:=Zgc s
  have h3:(if k=8∨k=5∧s=[45] then [(⟨8,0⟩:Ins)] else []).length≤1:=by split<;>simp
  omega
 unfold Z26
 split
 simp;omega
 split
 refine Xj (Z7O _ _ _ _ _ _ (g 0) (g 1) (g 2) p) (by omega)
 split
 refine Xj (Z7O _ _ _ _ _ 1 (g 0) (g 1) (fun _=>by simp) p) (by omega)
 split
 refine Xj (Z7O _ _ _ _ 1 _ (g 0) (fun _=>by simp) (g 1) p) (by omega)
 split
 simp only [Xg,Xc,Xd];omega
 omega
def Z1h (x:Nd):List Ins:=Zn x 0++[⟨24,0⟩]
def Z4a (x:Nd):Int:=if Zp x≤12 then (if Zf x=0 then 21 else if (Z1h x).length > 200 then 2 else 0) else 2
def Znc (w:World) (x:Nd) (r:Value) (w':World):Prop:=∃ cv,r=.tuple #[cv,.int .i64 (Z4a x)]∧(∀ X:List Nat,(∀ b∈X,b<w.heap.size)→SlV X w' cv (if Z4a x=0 then Z1h x else []))∧Stp [] w w'
theorem Z6U (v:Value) (x:Nd) (w:World) (hx:NdV [] w v x):CC 102 #[v] w fun r w'=>r=agg (Z1Q x.kind x.num x.word)∧Stp [] w w':=by
 obtain ⟨kv,rfl,hs⟩:=hx
 refine cW1 32 Tryz.func102 ?_
 refine W ?_
 refine Z1 (Zo rfl) rfl ?_
 rintro _ w1 ⟨b,rfl,hb,hblk,hS⟩
 replace hblk:Blk w1 b _ (ndC x kv):=hblk
 have hsz:=hS.size
 refine Z1 Z7 rfl ?_
 rintro _ w2 ⟨b2,rfl,hb2,hblk2,hS2⟩
 replace hblk:=hblk.up hS2
 replace hS:=hS.trans hS2
 repeat'(first|refine W1 ?_|omega|refine VG ?_ ?_<;>intro hg|refine VC ?_ ?_<;>intro hc)
 apply Z6 (vs:=[(0,.int .i64 1),(1,.int .i64 _)]) rfl (Z7N _ _) rfl
 refine Z2 (Z3 (us:=Z9.enc (Ins.mk 1 x.num)) rfl rfl rfl rfl (Z9.one _) hblk2 rfl) ?_
 rintro _ w3 ⟨hS3,hblk3⟩
 refine W ?_
 refine Zl rfl rfl rfl hblk3 rfl ?_
 refine .mk ⟨by rw [Z1Q,if_pos (by assumption)];rfl,hS.own hS3 (fun c hc=>.inr (by simp at hc;omega))⟩
 apply Z6 (vs:=[(0,.int .i64 2),(1,.int .i64 _)]) rfl (Z7N _ _) rfl
 refine Z2 (Z3 (us:=Z9.enc (Ins.mk 2 x.num)) rfl rfl rfl rfl (Z9.one _) hblk2 rfl) ?_
 rintro _ w3 ⟨hS3,hblk3⟩
 refine W ?_
 refine Zl rfl rfl rfl hblk3 rfl ?_
 refine .mk ⟨by rw [Z1Q,if_neg (by assumption),if_pos (by assumption)];rfl,hS.own hS3 (fun c hc=>.inr (by simp at hc;omega))⟩
 apply Z6 (vs:=[(0,.int .i64 3),(1,.int .i64 _)]) rfl (Z7N _ _) rfl
 refine Z2 (Z3 (us:=Z9.enc (Ins.mk 3 x.num)) rfl rfl rfl rfl (Z9.one _) hblk2 rfl) ?_
 rintro _ w3 ⟨hS3,hblk3⟩
 refine W ?_
 refine Zl rfl rfl rfl hblk3 rfl ?_
 refine .mk ⟨by rw [Z1Q,if_neg (by assumption),if_neg (by assumption),if_pos (by assumption)];rfl,hS.own hS3 (fun c hc=>.inr (by simp at hc;omega))⟩
 refine CL rfl (Zm rfl) rfl (Z5g x.word _) ?_
 rintro _ w3 ⟨rfl,hS3⟩
 replace hblk2:=hblk2.up hS3
 replace hS:=hS.trans hS3
 refine W ?_
 apply Z6 (vs:=[(0,.int .i64 4),(1,.int .i64 _)]) rfl (Z7N _ _) rfl
 refine Z2 (Z3 (us:=Z9.enc (Ins.mk 4 (ZS x.word).1)) rfl rfl rfl rfl (Z9.one _) hblk2 rfl) ?_
 rintro _ w4 ⟨hS4,hblk4⟩
 refine W ?_
 refine Zl rfl rfl rfl hblk4 rfl ?_
 refine .mk ⟨by rw [Z1Q,if_neg (by assumption),if_neg (by assumption),if_neg (by assumption)];rfl,hS.own hS4 (fun c hc=>.inr (by simp at hc;omega))⟩
def Z2V (k:Int) (s:Str):List Int:=(if k=8∨k=5∧s=[45] then [8] else [])++opF s++(if k=6∧s=[45] then [6] else [])
def Z7P:List Str:=[[43],[45],[42],[60],[60,61],[61],[62],[62,61],[33,61]]
def Z7Q:List (Sl Int):=[⟨[5]⟩,⟨[6]⟩,⟨[7]⟩,⟨[9]⟩,⟨[10]⟩,⟨[11]⟩,⟨[10,12]⟩,⟨[9,12]⟩,⟨[11,12]⟩]
theorem Ze2 (a b c d:Int) (w:World):(Instr.buildSlice 22 4 #[(0,.int .i64 a),(1,.int .i64 b),(2,.int .i64 c),(3,.int .i64 d)]).run Tryz.prog w=.ok (.slice (some ⟨w.heap.size,0,none⟩) 4 4) (w.alloc (.cells #[.int .i64 a,.int .i64 b,.int .i64 c,.int .i64 d] 3)):=by kernel_rfl
theorem Ze3 (a b c d e:Int) (w:World):(Instr.buildSlice 22 5 #[(0,.int .i64 a),(1,.int .i64 b),(2,.int .i64 c),(3,.int .i64 d),(4,.int .i64 e)]).run Tryz.prog w=.ok (.slice (some ⟨w.heap.size,0,none⟩) 5 5) (w.alloc (.cells #[.int .i64 a,.int .i64 b,.int .i64 c,.int .i64 d,.int .i64 e] 3)):=by kernel_rfl
theorem Ze4 (a b c d e:Str) (w:World):(Instr.buildSlice 119 5 #[(0,str a),(1,str b),(2,str c),(3,str d),(4,str e)]).run Tryz.prog w=.ok (.slice (some ⟨w.heap.size,0,none⟩) 5 5) (w.alloc (.cells #[str a,str b,str c,str d,str e] 9)):=by kernel_rfl
theorem Ze5 (a b c d e f g h i:Str) (w:World):(Instr.buildSlice 119 9 #[(0,str a),(1,str b),(2,str c),(3,str d),(4,str e),(5,str f),(6,str g),(7,str h),(8,str i)]).run Tryz.prog w=.ok (.slice (some ⟨w.heap.size,0,none⟩) 9 9) (w.alloc (.cells #[str a,str b,str c,str d,str e,str f,str g,str h,str i] 9)):=by kernel_rfl
theorem Ze6 (p0 p1 p2 p3 p4 p5 p6 p7 p8:Option Addr) (l0 l1 l2 l3 l4 l5 l6 l7 l8 c0 c1 c2 c3 c4 c5 c6 c7 c8:Nat) (w:World):(Instr.buildSlice 180 9 #[(0,.slice p0 l0 c0),(1,.slice p1 l1 c1),(2,.slice p2 l2 c2),(3,.slice p3 l3 c3),(4,.slice p4 l4 c4),(5,.slice p5 l5 c5),(6,.slice p6 l6 c6),(7,.slice p7 l7 c7),(8,.slice p8 l8 c8)]).run Tryz.prog w=.ok (.slice (some ⟨w.heap.size,0,none⟩) 9 9) (w.alloc (.cells #[.slice p0 l0 c0,.slice p1 l1 c1,.slice p2 l2 c2,.slice p3 l3 c3,.slice p4 l4 c4,.slice p5 l5 c5,.slice p6 l6 c6,.slice p7 l7 c7,.slice p8 l8 c8] 22)):=by kernel_rfl
theorem o6 {s:Str} (h:s∈JS∨s∈Z1C∨s∈JT) (ha:¬ s=[97,110,100]) (ho:¬ s=[111,114]):∃ i,∃ h:i<Z7Q.length,idx (isS s) Z7P=(i:Int)∧Z7Q[i].l=Z2V 6 s:=by
 simp only [JS,Z1C,JT,Xe,Xm,or_false] at h
 rcases h with (h|h|h)|(h|h|h|h|h|h)|(h|h)<;>subst h
 exact ⟨0,by decide,by decide,by decide⟩
 exact ⟨1,by decide,by decide,by decide⟩
 exact ⟨2,by decide,by decide,by decide⟩
 exact ⟨3,by decide,by decide,by decide⟩
 exact ⟨4,by decide,by decide,by decide⟩
 exact ⟨5,by decide,by decide,by decide⟩
 exact ⟨8,by decide,by decide,by decide⟩
 exact ⟨6,by decide,by decide,by decide⟩
 exact ⟨7,by decide,by decide,by decide⟩
 exact absurd rfl ha
 exact absurd rfl ho
theorem oU {s:Str} (h:s∈JI):∃ i,∃ h:i < [(15:Int),16,17,18].length,idx (isS s) JI=(i:Int)∧Z2V 7 s=[[(15:Int),16,17,18][i]]∧Z2V 8 s=[8,[(15:Int),16,17,18][i]]:=by
 simp only [JI,Xe,Xm,or_false] at h
 rcases h with h|h|h|h<;>subst h
 exact ⟨0,by decide,by decide,by decide,by decide⟩
 exact ⟨1,by decide,by decide,by decide,by decide⟩
 exact ⟨2,by decide,by decide,by decide,by decide⟩
 exact ⟨3,by decide,by decide,by decide,by decide⟩
theorem oC {s:Str} (h:s∈Z5T):∃ i,∃ h:i < [(19:Int),20,21,22,23].length,idx (isS s) Z5T=(i:Int)∧Z2V 10 s=[[(19:Int),20,21,22,23][i]]:=by
 simp only [Z5T,Xe,Xm,or_false] at h
 rcases h with h|h|h|h|h<;>subst h
 exact ⟨0,by decide,by decide,by decide⟩
 exact ⟨1,by decide,by decide,by decide⟩
 exact ⟨2,by decide,by decide,by decide⟩
 exact ⟨3,by decide,by decide,by decide⟩
 exact ⟨4,by decide,by decide,by decide⟩
theorem Zan (X:List Nat) (v:Value) (x:Nd) (w:World) (hX0:∀ b∈X,b<w.heap.size) (hsh:Zhg x.kind x.word x.kids.length) (h9:¬ x.kind=9) (ha:¬ (x.kind=6∧x.word=[97,110,100])) (ho:¬ (x.kind=6∧x.word=[111,114])) (hx:NdV [] w v x) :
 CC 104 #[v] w fun r w'=>SlV X w' r (Z2V x.kind x.word)∧Stp [] w w':=by
 obtain ⟨kv,rfl,hs⟩:=hx
 refine cW1 63 Tryz.func104 ?_
 refine W ?_
 refine Z1 (Zo rfl) rfl ?_
 rintro _ w0 ⟨b,rfl,hb,hblk,hS⟩
 replace hblk:Blk w0 b _ (ndC x kv):=hblk
 have hX:∀ b∈X,b<w0.heap.size:=fun b hb=>Xb (hX0 b hb) hS.size
 refine W ?_
 refine Z1 (Z0 (vs:=[(0,.int .i64 5)]) rfl (Jg _)) rfl ?_
 rintro a0 u0 hN
 have s_a0:SlV X u0 a0 [(5:Int)]:=hN.slv hX rfl rfl (by simp [maxLen])
 have hT:=Z5.stp hN
 clear hN
 replace hblk:=hblk.up hT
 replace hS:=hS.trans hT
 replace hX:=fun b hb=>Xb (hX b hb) hT.size
 clear hT
 refine Z1 (Z0 (vs:=[(0,.int .i64 6)]) rfl (Jg _)) rfl ?_
 rintro a1 u1 hN
 have s_a1:SlV X u1 a1 [(6:Int)]:=hN.slv hX rfl rfl (by simp [maxLen])
 have hT:=Z5.stp hN
 clear hN
 replace hblk:=hblk.up hT
 replace hS:=hS.trans hT
 replace hX:=fun b hb=>Xb (hX b hb) hT.size
 replace s_a0:=s_a0.up hT
 clear hT
 refine Z1 (Z0 (vs:=[(0,.int .i64 7)]) rfl (Jg _)) rfl ?_
 rintro a2 u2 hN
 have s_a2:SlV X u2 a2 [(7:Int)]:=hN.slv hX rfl rfl (by simp [maxLen])
 have hT:=Z5.stp hN
 clear hN
 replace hblk:=hblk.up hT
 replace hS:=hS.trans hT
 replace hX:=fun b hb=>Xb (hX b hb) hT.size
 replace s_a0:=s_a0.up hT
 replace s_a1:=s_a1.up hT
 clear hT
 refine Z1 (Z0 (vs:=[(0,.int .i64 9)]) rfl (Jg _)) rfl ?_
 rintro a3 u3 hN
 have s_a3:SlV X u3 a3 [(9:Int)]:=hN.slv hX rfl rfl (by simp [maxLen])
 have hT:=Z5.stp hN
 clear hN
 replace hblk:=hblk.up hT
 replace hS:=hS.trans hT
 replace hX:=fun b hb=>Xb (hX b hb) hT.size
 replace s_a0:=s_a0.up hT
 replace s_a1:=s_a1.up hT
 replace s_a2:=s_a2.up hT
 clear hT
 refine Z1 (Z0 (vs:=[(0,.int .i64 10)]) rfl (Jg _)) rfl ?_
 rintro a4 u4 hN
 have s_a4:SlV X u4 a4 [(10:Int)]:=hN.slv hX rfl rfl (by simp [maxLen])
 have hT:=Z5.stp hN
 clear hN
 replace hblk:=hblk.up hT
 replace hS:=hS.trans hT
 replace hX:=fun b hb=>Xb (hX b hb) hT.size
 replace s_a0:=s_a0.up hT
 replace s_a1:=s_a1.up hT
 replace s_a2:=s_a2.up hT
 replace s_a3:=s_a3.up hT
 clear hT
 refine Z1 (Z0 (vs:=[(0,.int .i64 11)]) rfl (Jg _)) rfl ?_
 rintro a5 u5 hN
 have s_a5:SlV X u5 a5 [(11:Int)]:=hN.slv hX rfl rfl (by simp [maxLen])
 have hT:=Z5.stp hN
 clear hN
 replace hblk:=hblk.up hT
 replace hS:=hS.trans hT
 replace hX:=fun b hb=>Xb (hX b hb) hT.size
 replace s_a0:=s_a0.up hT
 replace s_a1:=s_a1.up hT
 replace s_a2:=s_a2.up hT
 replace s_a3:=s_a3.up hT
 replace s_a4:=s_a4.up hT
 clear hT
 refine Z1 (Z0 (vs:=[(0,.int .i64 10),(1,.int .i64 12)]) rfl (Z0O _ _)) rfl ?_
 rintro a6 u6 hN
 have s_a6:SlV X u6 a6 [(10:Int),(12:Int)]:=hN.slv hX rfl rfl (by simp [maxLen])
 have hT:=Z5.stp hN
 clear hN
 replace hblk:=hblk.up hT
 replace hS:=hS.trans hT
 replace hX:=fun b hb=>Xb (hX b hb) hT.size
 replace s_a0:=s_a0.up hT
 replace s_a1:=s_a1.up hT
 replace s_a2:=s_a2.up hT
 replace s_a3:=s_a3.up hT
 replace s_a4:=s_a4.up hT
 replace s_a5:=s_a5.up hT
 clear hT
 refine Z1 (Z0 (vs:=[(0,.int .i64 9),(1,.int .i64 12)]) rfl (Z0O _ _)) rfl ?_
 rintro a7 u7 hN
 have s_a7:SlV X u7 a7 [(9:Int),(12:Int)]:=hN.slv hX rfl rfl (by simp [maxLen])
 have hT:=Z5.stp hN
 clear hN
 replace hblk:=hblk.up hT
 replace hS:=hS.trans hT
 replace hX:=fun b hb=>Xb (hX b hb) hT.size
 replace s_a0:=s_a0.up hT
 replace s_a1:=s_a1.up hT
 replace s_a2:=s_a2.up hT
 replace s_a3:=s_a3.up hT
 replace s_a4:=s_a4.up hT
 replace s_a5:=s_a5.up hT
 replace s_a6:=s_a6.up hT
 clear hT
 refine Z1 (Z0 (vs:=[(0,.int .i64 11),(1,.int .i64 12)]) rfl (Z0O _ _)) rfl ?_
 rintro a8 u8 hN
 have s_a8:SlV X u8 a8 [(11:Int),(12:Int)]:=hN.slv hX rfl rfl (by simp [maxLen])
 have hT:=Z5.stp hN
 clear hN
 replace hblk:=hblk.up hT
 replace hS:=hS.trans hT
 replace hX:=fun b hb=>Xb (hX b hb) hT.size
 replace s_a0:=s_a0.up hT
 replace s_a1:=s_a1.up hT
 replace s_a2:=s_a2.up hT
 replace s_a3:=s_a3.up hT
 replace s_a4:=s_a4.up hT
 replace s_a5:=s_a5.up hT
 replace s_a6:=s_a6.up hT
 replace s_a7:=s_a7.up hT
 clear hT
 obtain ⟨p0,c0,rfl,_⟩:=id s_a0
 obtain ⟨p1,c1,rfl,_⟩:=id s_a1
 obtain ⟨p2,c2,rfl,_⟩:=id s_a2
 obtain ⟨p3,c3,rfl,_⟩:=id s_a3
 obtain ⟨p4,c4,rfl,_⟩:=id s_a4
 obtain ⟨p5,c5,rfl,_⟩:=id s_a5
 obtain ⟨p6,c6,rfl,_⟩:=id s_a6
 obtain ⟨p7,c7,rfl,_⟩:=id s_a7
 obtain ⟨p8,c8,rfl,_⟩:=id s_a8
 refine Z1 (Z0 (vs:=[(0,.slice p0 _ c0),(1,.slice p1 _ c1),(2,.slice p2 _ c2),(3,.slice p3 _ c3),(4,.slice p4 _ c4),(5,.slice p5 _ c5),(6,.slice p6 _ c6),(7,.slice p7 _ c7),(8,.slice p8 _ c8)]) rfl (Ze6 _ _ _ _ _ _ _ _ _ _ _ _ _ _ _ _ _ _ _ _ _ _ _ _ _ _ _)) rfl ?_
 rintro tw u9 hN
 have s_tw:SlV X u9 tw Z7Q:=hN.slvS (xss:=Z7Q) hX rfl rfl (fun i hi hi'=>match i,hi with|0,_=>s_a0|1,_=>s_a1|2,_=>s_a2|3,_=>s_a3|4,_=>s_a4|5,_=>s_a5|6,_=>s_a6|7,_=>s_a7|8,_=>s_a8) (by decide)
 have hT:=Z5.stp hN
 clear hN
 replace hblk:=hblk.up hT
 replace hS:=hS.trans hT
 replace hX:=fun b hb=>Xb (hX b hb) hT.size
 replace s_a0:=s_a0.up hT
 replace s_a1:=s_a1.up hT
 replace s_a2:=s_a2.up hT
 replace s_a3:=s_a3.up hT
 replace s_a4:=s_a4.up hT
 replace s_a5:=s_a5.up hT
 replace s_a6:=s_a6.up hT
 replace s_a7:=s_a7.up hT
 replace s_a8:=s_a8.up hT
 clear hT
 clear s_a0 s_a1 s_a2 s_a3 s_a4 s_a5 s_a6 s_a7 s_a8
 refine W ?_
 refine Z1 (Z0 (vs:=[(0,.int .i64 19),(1,.int .i64 20),(2,.int .i64 21),(3,.int .i64 22),(4,.int .i64 23)]) rfl (Ze3 _ _ _ _ _)) rfl ?_
 rintro cl u10 hN
 have s_cl:SlV X u10 cl [(19:Int),20,21,22,23]:=hN.slv hX rfl rfl (by simp [maxLen])
 have hT:=Z5.stp hN
 clear hN
 replace hblk:=hblk.up hT
 replace hS:=hS.trans hT
 replace hX:=fun b hb=>Xb (hX b hb) hT.size
 replace s_tw:=s_tw.up hT
 clear hT
 refine W ?_
 refine Z1 (Z0 (vs:=[(0,.int .i64 15),(1,.int .i64 16),(2,.int .i64 17),(3,.int .i64 18)]) rfl (Ze2 _ _ _ _)) rfl ?_
 rintro un u11 hN
 have s_un:SlV X u11 un [(15:Int),16,17,18]:=hN.slv hX rfl rfl (by simp [maxLen])
 have hT:=Z5.stp hN
 clear hN
 replace hblk:=hblk.up hT
 replace hS:=hS.trans hT
 replace hX:=fun b hb=>Xb (hX b hb) hT.size
 replace s_tw:=s_tw.up hT
 replace s_cl:=s_cl.up hT
 clear hT
 refine W ?_
 refine Z1 (Z0 (vs:=[(0,str [100,97,121,115]),(1,str [119,101,101,107,115]),(2,str [109,111,110,116,104,115]),(3,str [99,111,117,114,116,100,97,121,115])]) rfl (ZdO _ _ _ _)) rfl ?_
 rintro us u12 hN
 have s_us:SlV X u12 us JI:=hN.slv hX rfl rfl (by simp [JI,maxLen])
 have hT:=Z5.stp hN
 clear hN
 replace hblk:=hblk.up hT
 replace hS:=hS.trans hT
 replace hX:=fun b hb=>Xb (hX b hb) hT.size
 replace s_tw:=s_tw.up hT
 replace s_cl:=s_cl.up hT
 replace s_un:=s_un.up hT
 clear hT
 refine W ?_
 refine CL rfl (Zb rfl rfl) rfl (Z1N X _ JI x.word _ s_us) ?_
 rintro _ w2 ⟨rfl,hT⟩
 replace hblk:=hblk.up hT;replace s_tw:=s_tw.up hT;replace s_cl:=s_cl.up hT;replace s_un:=s_un.up hT
 replace hS:=hS.trans hT
 replace hX:=fun b hb=>Xb (hX b hb) hT.size
 clear hT s_us
 have hO7:x.kind=7∨x.kind=8→x.word∈JI:=fun hk=>by
  rcases hsh with ⟨h,_,_⟩|⟨h,_,_⟩|⟨h,hu,_⟩|⟨h,_⟩|⟨h,_,_⟩<;>first|exact hu|omega
 have hO6:x.kind=6→x.word∈JS∨x.word∈Z1C∨x.word∈JT:=fun hk=>by
  rcases hsh with ⟨h,_,_⟩|⟨h,hu,_⟩|⟨h,_,_⟩|⟨h,_⟩|⟨h,_,_⟩<;>first|exact hu|omega
 have hO5:x.kind=5→x.word=[45]∨x.word=[110,111,116]:=fun hk=>by
  rcases hsh with ⟨h,hu,_⟩|⟨h,_,_⟩|⟨h,_,_⟩|⟨h,_⟩|⟨h,_,_⟩<;>first|exact hu|omega
 have hO10:¬ x.kind=5→¬ x.kind=6→¬ x.kind=7→¬ x.kind=8→x.kind=10∧x.word∈Z5T:=fun _ _ _ _=>by
  rcases hsh with ⟨h,_,_⟩|⟨h,_,_⟩|⟨h,_,_⟩|⟨h,_⟩|⟨h,hu,_⟩<;>first|exact ⟨h,hu⟩|omega
 refine W ?_
 by_cases k5:x.kind=5
 have hw5:=hO5 k5
 focus repeat'(first|refine W1 ?_|omega|refine VG ?_ ?_<;>intro hg|refine VC ?_ ?_<;>intro hc)
 refine Z1 (Z0 (vs:=[(0,.int .i64 8)]) rfl (Jg _)) rfl ?_
 rintro r w3 hN
 have hr:SlV X w3 r [(8:Int)]:=hN.slv hX rfl rfl (by simp [maxLen])
 have hT:=Z5.stp hN
 refine W ?_
 refine WR ?_
 have hw:x.word=[45]:=by assumption
 exact .mk ⟨by rw [k5,hw];exact hr,hS.trans hT⟩
 refine Z1 (Z0 (vs:=[(0,.int .i64 12)]) rfl (Jg _)) rfl ?_
 rintro r w3 hN
 have hr:SlV X w3 r [(12:Int)]:=hN.slv hX rfl rfl (by simp [maxLen])
 have hT:=Z5.stp hN
 refine W ?_
 refine WR ?_
 have hw:x.word=[110,111,116]:=hw5.resolve_left (by assumption)
 exact .mk ⟨by rw [k5,hw];exact hr,hS.trans hT⟩
 by_cases k6:x.kind=6
 have hw6:=hO6 k6
 obtain ⟨i,hi,hid,hco⟩:=o6 hw6 (fun h=>ha ⟨k6,h⟩) (fun h=>ho ⟨k6,h⟩)
 focus repeat'(first|refine W1 ?_|omega|refine VG ?_ ?_<;>intro hg|refine VC ?_ ?_<;>intro hc)
 refine Z1 (Z0 (vs:=[(0,str [43]),(1,str [45]),(2,str [42]),(3,str [60]),(4,str [60,61]),(5,str [61]),(6,str [62]),(7,str [62,61]),(8,str [33,61])]) rfl (Ze5 _ _ _ _ _ _ _ _ _)) rfl ?_
 rintro nv w3 hN
 have s_n:SlV X w3 nv Z7P:=hN.slv hX rfl rfl (by simp [Z7P,maxLen])
 have hT:=Z5.stp hN
 replace hblk:=hblk.up hT;replace s_tw:=s_tw.up hT
 replace hS:=hS.trans hT
 clear hT hN
 refine W ?_
 refine CL rfl (Zb rfl rfl) rfl (Z1N X _ Z7P x.word _ s_n) ?_
 rintro _ w4 ⟨rfl,hT⟩
 replace hblk:=hblk.up hT;replace s_tw:=s_tw.up hT
 replace hS:=hS.trans hT
 rw [hid]
 obtain ⟨u,hcell,hsu⟩:=s_tw.sub hi
 refine W ?_
 apply Zd (Z0L rfl rfl hcell) rfl
 refine W ?_
 refine WR ?_
 exact .mk ⟨by rw [k6,← hco];exact hsu,hS⟩
 by_cases k7:x.kind=7
 obtain ⟨i,hi,hid,hco,_⟩:=oU (hO7 (.inl k7))
 rw [hid]
 focus repeat'(first|refine W1 ?_|omega|refine VG ?_ ?_<;>intro hg|refine VC ?_ ?_<;>intro hc)
 refine Z1 (Z0 (vs:=[(0,.int .i64 _)]) rfl (Jg _)) rfl ?_
 rintro r w3 hN
 have hr:SlV X w3 r [[(15:Int),16,17,18][i]]:=hN.slv hX rfl rfl (by simp [maxLen])
 have hT:=Z5.stp hN
 refine W ?_
 refine WR ?_
 exact .mk ⟨by rw [k7,hco];exact hr,hS.trans hT⟩
 by_cases k8:x.kind=8
 obtain ⟨i,hi,hid,_,hco⟩:=oU (hO7 (.inr k8))
 rw [hid]
 focus repeat'(first|refine W1 ?_|omega|refine VG ?_ ?_<;>intro hg|refine VC ?_ ?_<;>intro hc)
 refine Z1 (Z0 (vs:=[(0,.int .i64 8),(1,.int .i64 _)]) rfl (Z0O _ _)) rfl ?_
 rintro r w3 hN
 have hr:SlV X w3 r [8,[(15:Int),16,17,18][i]]:=hN.slv hX rfl rfl (by simp [maxLen])
 have hT:=Z5.stp hN
 refine W ?_
 refine WR ?_
 exact .mk ⟨by rw [k8,hco];exact hr,hS.trans hT⟩
 obtain ⟨k10,hw10⟩:=hO10 k5 k6 k7 k8
 obtain ⟨i,hi,hid,hco⟩:=oC hw10
 repeat'(first|refine W1 ?_|omega|refine VG ?_ ?_<;>intro hg|refine VC ?_ ?_<;>intro hc)
 refine Z1 (Z0 (vs:=[(0,str [110,101,120,116]),(1,str [112,114,101,118]),(2,str [108,97,116,101,114]),(3,str [101,97,114,108,105,101,114]),(4,str [98,101,116,119,101,101,110])]) rfl (Ze4 _ _ _ _ _)) rfl ?_
 rintro nv w3 hN
 have s_n:SlV X w3 nv Z5T:=hN.slv hX rfl rfl (by simp [Z5T,maxLen])
 have hT:=Z5.stp hN
 replace hblk:=hblk.up hT;replace s_cl:=s_cl.up hT
 replace hS:=hS.trans hT
 replace hX:=fun b hb=>Xb (hX b hb) hT.size
 clear hT hN
 refine W ?_
 refine CL rfl (Zb rfl rfl) rfl (Z1N X _ Z5T x.word _ s_n) ?_
 rintro _ w4 ⟨rfl,hT⟩
 replace hblk:=hblk.up hT;replace s_cl:=s_cl.up hT
 replace hS:=hS.trans hT
 replace hX:=fun b hb=>Xb (hX b hb) hT.size
 rw [hid]
 refine W ?_
 refine Z1 (Z0 (vs:=[(0,.int .i64 _)]) rfl (Jg _)) rfl ?_
 rintro r w5 hN
 have hr:SlV X w5 r [[(19:Int),20,21,22,23][i]]:=hN.slv hX rfl rfl (by simp [maxLen])
 have hT:=Z5.stp hN
 refine W ?_
 refine WR ?_
 exact .mk ⟨by rw [k10,hco];exact hr,hS.trans hT⟩
abbrev RwI (w w':World) (v:Value) (xs:List Ins):Prop:=J8 51 w w' v xs
def Z4L (x:Nd) (f:Cf):Prop:=∀ (w:World) (nv:Value) (p:Nat) (z:Int),z=(p:Int)→NdV [] w nv x→p+(f p).length≤100000→
 CC 47 #[nv,.int .i64 z] w fun r w'=>RwI w w' r (f p)
theorem Z2W {x y n:Nd} {f g h:Cf} (hx:Z4L x f) (hy:Z4L y g) (hn:Z4L n h) (w:World) (xv yv nv:Value) (p0:Nat) (z0:Int) (hz:z0=(p0:Int))
 (gx:NdV [] w xv x) (gy:NdV [] w yv y) (gn:NdV [] w nv n) (hl:p0+(chC f g h p0).length≤100000) :
 CC 103 #[xv,yv,nv,.int .i64 z0] w fun r w'=>RwI w w' r (chC f g h p0):=by
 have hl':=hl
 unfold chC at hl'
 simp only [Xg,Xc,Xd] at hl'
 obtain ⟨xk,rfl,sx⟩:=gx
 obtain ⟨yk,rfl,sy⟩:=gy
 obtain ⟨nk,rfl,sn⟩:=gn
 subst hz
 refine cW4 60 Tryz.func103 ?_
 refine W ?_
 refine Z1 (Zo rfl) rfl ?_
 rintro _ w1 ⟨b1,rfl,hb1,k1,hS1⟩
 replace k1:Blk w1 b1 _ (ndC x xk):=k1
 refine Z1 (Zo rfl) rfl ?_
 rintro _ w2 ⟨b2,rfl,hb2,k2,hS2⟩
 replace k2:Blk w2 b2 _ (ndC y yk):=k2
 refine Z1 (Zo rfl) rfl ?_
 rintro _ w3 ⟨b3,rfl,hb3,k3,hS3⟩
 replace k3:Blk w3 b3 _ (ndC n nk):=k3
 have hS:=(hS1.trans hS2).trans hS3
 replace k1:=(k1.up hS2).up hS3
 replace k2:=k2.up hS3
 replace sx:=sx.up hS
 replace sy:=sy.up hS
 replace sn:=sn.up hS
 clear hS1 hS2 hS3
 have hch:=chC.eq_1 f g h p0
 generalize hA:f p0=A at *
 generalize hp:p0+A.length+1=p at *
 generalize hB:g p=B at *
 generalize hqq:p+B.length+1=q at *
 generalize hD:h q=D at *
 rw [hch]
 have e1:(A++[(⟨14,0⟩:Ins)]).length=A.length+1:=by simp
 have e2:(A++[(⟨14,0⟩:Ins)]++B).length=A.length+1+B.length:=by simp;omega
 have e3:(A++[(⟨14,0⟩:Ins)]++B++[(⟨13,0⟩:Ins)]).length=A.length+1+B.length+1:=by simp;omega
 have e4:∀ z,(A++[(⟨14,z⟩:Ins)]++B++[(⟨13,0⟩:Ins)]).length=A.length+1+B.length+1:=by simp;omega
 have e5:∀ z,(A++[(⟨14,z⟩:Ins)]++B++[(⟨13,0⟩:Ins)]++D).length=A.length+1+B.length+1+D.length:=by simp;omega
 refine W ?_
 refine CL rfl (Zb rfl rfl) rfl (hx _ _ p0 _ rfl ⟨xk,rfl,sx⟩ (by rw [hA];omega)) ?_
 rintro v w4 hr
 rw [hA] at hr
 have hsl:=hr.slv (X:=[]) (by simp)
 refine W ?_
 apply Z6 (vs:=[(0,.int .i64 14)]) rfl (Z5D _) rfl
 refine Z1 (Z0 (vs:=[(0,agg (Ins.mk 14 0))]) rfl (Z3i _)) rfl ?_
 rintro u wb hN
 have hu:SlV (ob v) wb u [Ins.mk 14 0]:=hN.slv (fun b hb=>(hr.ob_le b hb).2) rfl rfl (by simp [maxLen])
 have hT:=Z5.stp hN
 clear hN
 replace hr:=hr.up hT
 clear hT hsl
 refine Z1 (Jp rfl (by decide) rfl rfl hr hu (by simp only [Xc,Xd];omega) (by simp only [Xc,Xd,maxLen];omega)) rfl ?_
 clear hu hr
 rintro v wc ⟨hr,-,-⟩
 have hsl:=hr.slv (X:=[]) (by simp)
 have kk:=k2.up hr.2
 refine W ?_
 refine CL rfl (Zb rfl rfl) rfl (hy _ _ p _ (by omega) ⟨yk,rfl,sy.up hr.2⟩ (by rw [hB];omega)) ?_
 rintro u wd hu
 rw [hB] at hu
 have hus:=hu.slv (X:=ob v) (fun b hb=>(hr.ob_le b hb).2)
 replace hr:=hr.up hu.2
 clear hu hsl kk
 refine Z1 (Jp rfl (by decide) rfl rfl hr hus (by rw [e1];omega) (by rw [e1];simp only [maxLen];omega)) rfl ?_
 clear hus hr
 rintro v we ⟨hr,-,-⟩
 have hsl:=hr.slv (X:=[]) (by simp)
 refine W ?_
 apply Z6 (vs:=[(0,.int .i64 13)]) rfl (Z5D _) rfl
 refine Z1 (Z0 (vs:=[(0,agg (Ins.mk 13 0))]) rfl (Z3i _)) rfl ?_
 rintro u wb hN
 have hu:SlV (ob v) wb u [Ins.mk 13 0]:=hN.slv (fun b hb=>(hr.ob_le b hb).2) rfl rfl (by simp [maxLen])
 have hT:=Z5.stp hN
 clear hN
 replace hr:=hr.up hT
 clear hT hsl
 refine Z1 (Jp rfl (by decide) rfl rfl hr hu (by simp only [e2,Xc,Xd];omega) (by simp only [e2,Xc,Xd,maxLen];omega)) rfl ?_
 clear hu hr
 rintro v wc ⟨hr,-,-⟩
 have hsl:=hr.slv (X:=[]) (by simp)
 have hi1:A.length<(A++[(⟨14,0⟩:Ins)]++B++[(⟨13,0⟩:Ins)]).length:=by rw [e3];omega
 refine W ?_
 have hop1:(A++[(⟨14,0⟩:Ins)]++B++[(⟨13,0⟩:Ins)])[A.length]=⟨14,0⟩:=by simp
 have hq1:(p0:Int)+((A++[(⟨14,0⟩:Ins)]++B++[(⟨13,0⟩:Ins)]).length:Int)=(q:Int):=by rw [e3];omega
 refine Z2 (Zb8 (i:=A.length) (j:=1) (u:=.int .i64 ((p0:Int)+((A++[(⟨14,0⟩:Ins)]++B++[(⟨13,0⟩:Ins)]).length:Int))) (y':=⟨14,(q:Int)⟩) rfl rfl rfl rfl rfl hr hi1 (by decide) (by rw [hop1,← hq1];rfl)) ?_
 have hset1:(A++[(⟨14,0⟩:Ins)]++B++[(⟨13,0⟩:Ins)]).set A.length ⟨14,(q:Int)⟩=A++[(⟨14,(q:Int)⟩:Ins)]++B++[(⟨13,0⟩:Ins)]:=by simp
 rw [hset1]
 clear hr hsl
 rintro _ wf ⟨hr,-⟩
 have hsl:=hr.slv (X:=[]) (by simp)
 have e4':=e4 (q:Int)
 have kk:=k3.up hr.2
 refine W ?_
 refine CL rfl (Zb rfl rfl) rfl (hn _ _ q _ (by omega) ⟨nk,rfl,sn.up hr.2⟩ (by rw [hD];omega)) ?_
 rintro u wd hu
 rw [hD] at hu
 have hus:=hu.slv (X:=ob v) (fun b hb=>(hr.ob_le b hb).2)
 replace hr:=hr.up hu.2
 clear hu hsl kk
 refine Z1 (Jp rfl (by decide) rfl rfl hr hus (by rw [e4];omega) (by rw [e4];simp only [maxLen];omega)) rfl ?_
 clear hus hr
 rintro v we ⟨hr,-,-⟩
 have hsl:=hr.slv (X:=[]) (by simp)
 have e5':=e5 (q:Int)
 have hi2:A.length+1+B.length<(A++[(⟨14,(q:Int)⟩:Ins)]++B++[(⟨13,0⟩:Ins)]++D).length:=by rw [e5];omega
 refine W ?_
 have e2':(A++[(⟨14,(q:Int)⟩:Ins)]++B).length=A.length+1+B.length:=by simp;omega
 have hsp:A++[(⟨14,(q:Int)⟩:Ins)]++B++[(⟨13,0⟩:Ins)]++D=(A++[(⟨14,(q:Int)⟩:Ins)]++B)++(⟨13,0⟩:Ins) :: D:=by simp
 rw [e2]
 have hop2:(A++[(⟨14,(q:Int)⟩:Ins)]++B++[(⟨13,0⟩:Ins)]++D)[A.length+1+B.length]=⟨13,0⟩:=by
  rw [XQ (by rw [e4];omega),XO (by omega)]
  simp
 have hq2:(p0:Int)+((A++[(⟨14,(q:Int)⟩:Ins)]++B++[(⟨13,0⟩:Ins)]++D).length:Int)=((q+D.length:Nat):Int):=by rw [e5];omega
 refine Z2 (Zb8 (i:=A.length+1+B.length) (j:=1) (u:=.int .i64 ((p0:Int)+((A++[(⟨14,(q:Int)⟩:Ins)]++B++[(⟨13,0⟩:Ins)]++D).length:Int))) (y':=⟨13,((q+D.length:Nat):Int)⟩) rfl rfl rfl rfl rfl hr hi2 (by decide) (by rw [hop2,← hq2];rfl)) ?_
 have hset2:(A++[(⟨14,(q:Int)⟩:Ins)]++B++[(⟨13,0⟩:Ins)]++D).set (A.length+1+B.length) ⟨13,((q+D.length:Nat):Int)⟩=A++[(⟨14,(q:Int)⟩:Ins)]++B++[(⟨13,((q+D.length:Nat):Int)⟩:Ins)]++D:=by
  rw [hsp,List.set_append_right _ _ (by omega),e2']
  simp
 rw [hset2]
 clear hr hsl
 rintro _ wg ⟨hr,-⟩
 refine W ?_
 refine WR ?_
 exact .mk (hr.pre hS)
theorem Z93 (z:Int):Z4L (.mk 2 z [] []) (fun _=>[⟨2,z⟩]):=by
 intro w nv p z0 hz hx hl
 have hN:=hx
 obtain ⟨kv,rfl,hs⟩:=hx
 refine cW2 107 Tryz.func47 ?_
 refine W ?_
 refine Z1 (Zo rfl) rfl ?_
 rintro _ w1 ⟨b,rfl,hb,hblk,hS⟩
 replace hblk:Blk w1 b _ (ndC (.mk 2 z [] []) kv):=hblk
 replace hs:=hs.up hS;replace hN:=hN.up hS
 have hk0:(Nd.mk 2 z [] []).kids.length=0:=rfl
 repeat'(first|refine W1 ?_|omega|refine VG ?_ ?_<;>intro hg|refine VC ?_ ?_<;>intro hc)
 refine CL rfl (Zm rfl) rfl (Z6U _ (.mk 2 z [] []) _ hN) ?_
 rintro _ w2 ⟨rfl,hS2⟩
 refine Z1 (Z0 (vs:=[(0,agg (Ins.mk 2 z))]) rfl (Z3i _)) rfl ?_
 rintro u w3 hN3
 have hr:RwI w2 w3 u [Ins.mk 2 z]:=J8.one hN3 rfl rfl (by simp [maxLen])
 refine W ?_
 refine WR ?_
 exact .mk (hr.pre (hS.trans hS2))
theorem Z7R {x:Nd} (cs:List Cf) (p:Nat) (hne:¬ cs.length=0) (h9:¬ x.kind=9) (ha:¬ (x.kind=6∧x.word=[97,110,100])) (ho:¬ (x.kind=6∧x.word=[111,114])):Z26 x.kind x.num x.word cs p=JD cs p++Z3M (Z2V x.kind x.word):=by
 unfold Z26 Z2V Z2t
 rw [if_neg hne,if_neg h9,if_neg ha,if_neg ho]
 by_cases hm:x.kind=6∧x.word=[45]
 rw [if_pos hm,if_pos hm,hm.1,hm.2]
 simp [Z3M]
 rw [if_neg hm,if_neg hm]
 by_cases h8:x.kind=8∨x.kind=5∧x.word=[45]
 rw [if_pos h8,if_pos h8]
 simp [Z3M]
 rw [if_neg h8,if_neg h8]
 simp [Z3M]
theorem Zgd (x:Nd):Zf x≠0→Z4L x (Zn x):=by
 induction x using Nd.ind with
 | h k n s l ih=>
 intro hty
 have hkt:=(Z5S hty).2
 have hcs:∀ i (h:i<(Nd.mk k n s l).kids.length),Z4L (Nd.mk k n s l).kids[i] (Zn (Nd.mk k n s l).kids[i]):=by
  intro i h
  exact ih _ (Xf h) (hkt _ (Xf h))
 have hsh:=Z91 hty
 have hcN:=Z5U (.mk k n s l)
 have hcL:=Zal (x:=.mk k n s l)
 have hgD:=fun i=>Zam (x:=.mk k n s l) (i:=i)
 generalize (Nd.mk k n s l)=x at *
 clear ih
 intro w nv p z0 hz hx hl
 subst hz
 have hN:=hx
 obtain ⟨kv,rfl,hs⟩:=hx
 have hmax:=hs.max
 refine cW2 107 Tryz.func47 ?_
 refine W ?_
 refine Z1 (Zo rfl) rfl ?_
 rintro _ wA ⟨b,rfl,hb,hblk,hS⟩
 replace hblk:Blk wA b _ (ndC x kv):=hblk
 replace hs:=hs.up hS;replace hN:=hN.up hS
 by_cases h0:x.kids=[]
 have hk0:x.kids.length=0:=by rw [h0];rfl
 rw [hcL h0]
 focus repeat'(first|refine W1 ?_|omega|refine VG ?_ ?_<;>intro hg|refine VC ?_ ?_<;>intro hc)
 refine CL rfl (Zm rfl) rfl (Z6U _ x _ hN) ?_
 rintro _ w2 ⟨rfl,hS2⟩
 refine Z1 (Z0 (vs:=[(0,agg (Z1Q x.kind x.num x.word))]) rfl (Z3i _)) rfl ?_
 rintro u w3 hN3
 have hr:RwI w2 w3 u [Z1Q x.kind x.num x.word]:=J8.one hN3 rfl rfl (by simp [maxLen])
 refine W ?_
 refine WR ?_
 exact .mk (hr.pre (hS.trans hS2))
 have hkl:¬ x.kids.length=0:=fun h=>h0 (Yat h)
 have hcl:¬ (x.kids.map Zn).length=0:=by simpa using h0
 replace hsh:=(hsh h0).2
 have hk6:x.kind=6→x.kids.length=2:=fun h6=>by
  rcases hsh with ⟨h,_,_⟩|⟨h,_,hm⟩|⟨h,_,_⟩|⟨h,_⟩|⟨h,_,_⟩<;>omega
 have hk9:x.kind=9→x.kids.length=3:=fun h6=>by
  rcases hsh with ⟨h,_,_⟩|⟨h,_,hm⟩|⟨h,_,_⟩|⟨h,hm⟩|⟨h,_,_⟩<;>omega
 by_cases h9:x.kind=9
 have h3:=hk9 h9
 have h0:0<x.kids.length:=by omega
 have h1:1<x.kids.length:=by omega
 have h2:2<x.kids.length:=by omega
 have e9:Zn x=chC (Zn x.kids[0]) (Zn x.kids[1]) (Zn x.kids[2]):=by
  funext p
  rw [hcN,Z26,if_neg hcl,if_pos h9,hgD 0 h0,hgD 1 h1,hgD 2 h2]
 rw [e9] at hl ⊢
 focus repeat'(first|refine W1 ?_|omega|refine VG ?_ ?_<;>intro hg|refine VC ?_ ?_<;>intro hc)
 refine ZDr 15 [] [] [(0,0),(1,1),(2,0),(3,1),(4,0),(5,1),(6,0),(7,1),(8,0),(9,1),(10,0),(11,1),(12,0),(13,2),(14,0)] (fun w1 hS1=>?_)
 replace hs:=hs.up hS1
 replace hblk:=hblk.up hS1
 replace hS:=hS.trans hS1
 obtain ⟨u0,s0,d0⟩:=hs.nd h0
 obtain ⟨u1,s1,d1⟩:=hs.nd h1
 obtain ⟨u2,s2,d2⟩:=hs.nd h2
 refine D ?_
 refine ZZ rfl trivial (fun w' hS'=>ZU rfl rfl (hs.on hS' (fun _ h=>h)) h0 (fun j u hj=>Z04 hs h0 hS' (d0 j u hj))) rfl ?_
 refine D ?_
 refine ZZ rfl trivial (fun w' hS'=>ZU rfl rfl (hs.on hS' (fun _ h=>h)) h1 (fun j u hj=>Z04 hs h1 hS' (d1 j u hj))) rfl ?_
 refine D ?_
 refine ZZ rfl trivial (fun w' hS'=>ZU rfl rfl (hs.on hS' (fun _ h=>h)) h2 (fun j u hj=>Z04 hs h2 hS' (d2 j u hj))) rfl ?_
 refine D ?_
 refine Za rfl trivial (Z4 rfl (Z1e rfl rfl rfl rfl) (Z2W (hcs 0 h0) (hcs 1 h1) (hcs 2 h2) _ _ _ _ p _ rfl ⟨u0,rfl,s0⟩ ⟨u1,rfl,s1⟩ ⟨u2,rfl,s2⟩ hl)) (fun _ _ h=>h.2) rfl ?_
 rintro _ w5 hq
 refine D ?_
 refine W ?_
 refine WR ?_
 exact .mk (hq.pre hS)
 by_cases ha:x.kind=6∧x.word=[97,110,100]
 · obtain ⟨h6,hw⟩:=ha
   have h2:=hk6 h6
   have h0:0<x.kids.length:=by omega
   have h1:1<x.kids.length:=by omega
   have e9:Zn x=chC (Zn x.kids[0]) (Zn x.kids[1]) (fun _=>[⟨2,0⟩]):=by
    funext p
    rw [hcN,Z26,if_neg hcl,if_neg h9,if_pos ⟨h6,hw⟩,hgD 0 h0,hgD 1 h1]
   rw [e9] at hl ⊢
   repeat'(first|refine W1 ?_|omega|refine VG ?_ ?_<;>intro hg|refine VC ?_ ?_<;>intro hc)
   all_goals first
    | (exfalso;contradiction)
    | skip
   refine ZDr 12 [] [] [(0,0),(1,1),(2,0),(3,1),(4,0),(5,1),(6,0),(7,1),(8,0),(9,0),(10,2),(11,0)] (fun w1 hS1=>?_)
   replace hs:=hs.up hS1
   replace hblk:=hblk.up hS1
   replace hS:=hS.trans hS1
   obtain ⟨u0,s0,d0⟩:=hs.nd h0
   obtain ⟨u1,s1,d1⟩:=hs.nd h1
   refine D ?_
   refine ZZ rfl trivial (fun w' hS'=>ZU rfl rfl (hs.on hS' (fun _ h=>h)) h0 (fun j u hj=>Z04 hs h0 hS' (d0 j u hj))) rfl ?_
   refine D ?_
   refine ZZ rfl trivial (fun w' hS'=>ZU rfl rfl (hs.on hS' (fun _ h=>h)) h1 (fun j u hj=>Z04 hs h1 hS' (d1 j u hj))) rfl ?_
   refine D ?_
   apply Z0J
   exact rfl
   apply Z8Q (vs:=[(0,.int .i64 2)])
   exact trivial
   exact rfl
   exact ZdX
   exact rfl
   refine D ?_
   refine Za rfl trivial (Z4 rfl (Z1e rfl rfl rfl rfl) (Z2W (hcs 0 h0) (hcs 1 h1) (Z93 0) _ _ _ _ p _ rfl ⟨u0,rfl,s0⟩ ⟨u1,rfl,s1⟩ ⟨_,rfl,Z0P _ _⟩ hl)) (fun _ _ h=>h.2) rfl ?_
   rintro _ w5 hq
   refine D ?_
   refine W ?_
   refine WR ?_
   exact .mk (hq.pre hS)
 by_cases ho:x.kind=6∧x.word=[111,114]
 · obtain ⟨h6,hw⟩:=ho
   have h2:=hk6 h6
   have hnw:¬ x.word=[97,110,100]:=fun h=>ha ⟨h6,h⟩
   have h0:0<x.kids.length:=by omega
   have h1:1<x.kids.length:=by omega
   have e9:Zn x=chC (Zn x.kids[0]) (fun _=>[⟨2,1⟩]) (Zn x.kids[1]):=by
    funext p
    rw [hcN,Z26,if_neg hcl,if_neg h9,if_neg ha,if_pos ⟨h6,hw⟩,hgD 0 h0,hgD 1 h1]
   rw [e9] at hl ⊢
   repeat'(first|refine W1 ?_|omega|refine VG ?_ ?_<;>intro hg|refine VC ?_ ?_<;>intro hc)
   all_goals first
    | (exfalso;contradiction)
    | skip
   refine ZDr 12 [] [] [(0,0),(1,1),(2,0),(3,1),(4,0),(5,0),(6,1),(7,0),(8,1),(9,0),(10,2),(11,0)] (fun w1 hS1=>?_)
   replace hs:=hs.up hS1
   replace hblk:=hblk.up hS1
   replace hS:=hS.trans hS1
   obtain ⟨u0,s0,d0⟩:=hs.nd h0
   obtain ⟨u1,s1,d1⟩:=hs.nd h1
   refine D ?_
   refine ZZ rfl trivial (fun w' hS'=>ZU rfl rfl (hs.on hS' (fun _ h=>h)) h0 (fun j u hj=>Z04 hs h0 hS' (d0 j u hj))) rfl ?_
   refine D ?_
   apply Z0J
   exact rfl
   apply Z8Q (vs:=[(0,.int .i64 2),(1,.int .i64 1)])
   exact trivial
   exact rfl
   exact ZdY
   exact rfl
   refine D ?_
   refine ZZ rfl trivial (fun w' hS'=>ZU rfl rfl (hs.on hS' (fun _ h=>h)) h1 (fun j u hj=>Z04 hs h1 hS' (d1 j u hj))) rfl ?_
   refine D ?_
   refine Za rfl trivial (Z4 rfl (Z1e rfl rfl rfl rfl) (Z2W (hcs 0 h0) (Z93 1) (hcs 1 h1) _ _ _ _ p _ rfl ⟨u0,rfl,s0⟩ ⟨_,rfl,Z0P _ _⟩ ⟨u1,rfl,s1⟩ hl)) (fun _ _ h=>h.2) rfl ?_
   rintro _ w5 hq
   refine D ?_
   refine W ?_
   refine WR ?_
   exact .mk (hq.pre hS)
 have hcp:=Z7R (x:=x) _ p hcl h9 ha ho
 rw [hcN,hcp] at hl ⊢
 have hcm:(x.kids.map Zn).length=x.kids.length:=by simp
 generalize hO:Z2V x.kind x.word=O at *
 rw [Xg,Z92] at hl
 have main:∀ r w',RwI wA w' r (JD (x.kids.map Zn) p++Z3M O)→RwI w w' r (JD (x.kids.map Zn) p++Z3M O):=fun r w' h=>h.pre hS
 repeat'(first|refine W1 ?_|omega|refine VG ?_ ?_<;>intro hg|refine VC ?_ ?_<;>intro hc)
 all_goals first
  | (exfalso;first|exact ha ⟨by assumption,by assumption⟩|exact ho ⟨by assumption,by assumption⟩)
  | skip
 all_goals
  refine Zr (σ:=Nat×Value) (fun q=>[(1,.int .i64 (p:Int)),(2,.pointer (some ⟨b,0,none⟩)),(5,q.2),(6,.int .i64 (q.1:Int))]) (fun q w'=>q.1≤x.kids.length∧RwI wA w' q.2 (JD ((x.kids.map Zn).take q.1) p)) (fun q=>x.kids.length - q.1) (0,.slice none 0 0) ⟨rfl,rfl,rfl,rfl,trivial⟩ ⟨Xo _,by simpa [JD] using J8.nil⟩ ?_
  rintro ⟨j,v⟩ w2 ⟨hj,hr⟩
  dsimp only at hj hr ⊢
  have hsl:=hr.slv (X:=[]) (by simp)
  have hs2:=hs.up hr.2
  have hb2:=hblk.up hr.2
  by_cases hlt:j<x.kids.length
  obtain ⟨kv2,hk2,hc2⟩:=hs2.nd hlt
  have hst:=Zc1 (x.kids.map Zn) p j (by omega)
  have hle:=Zbe (x.kids.map Zn) p (j+1)
  have hle0:=Zbe (x.kids.map Zn) p j
  rw [hst,Xg] at hle
  rw [YaT] at hle hst
  focus repeat'(first|refine W1 ?_|omega|refine VG ?_ ?_<;>intro hg|refine VC ?_ ?_<;>intro hc)
  apply Zd (ZU rfl rfl hs2 hlt hc2) rfl
  refine W ?_
  generalize hA:JD ((x.kids.map Zn).take j) p=A at *
  refine CL rfl (Zb rfl rfl) rfl (hcs j hlt _ _ (p+A.length) _ (by omega) ⟨kv2,rfl,hk2⟩ (by omega)) ?_
  rintro u w3 hu
  have hus:=hu.slv (X:=ob v) (fun b hb=>(hr.ob_le b hb).2)
  replace hr:=hr.up hu.2
  clear hu
  refine Z1 (Jp rfl (by decide) rfl rfl hr hus (by omega) (by simp only [maxLen];omega)) rfl ?_
  rintro v' w4 ⟨hr',-,-⟩
  refine W ?_
  refine Zg (j+1,v') ⟨rfl,rfl,rfl,rfl,trivial⟩ ⟨by dsimp only;omega,?_⟩ (by dsimp only;omega)
  dsimp only
  rw [hst]
  exact hr'
  have hje:j=(x.kids.map Zn).length:=by omega
  subst hje
  rw [XC] at hr hsl
  generalize JD (x.kids.map Zn) p=A at *
  focus repeat'(first|refine W1 ?_|omega|refine VG ?_ ?_<;>intro hg|refine VC ?_ ?_<;>intro hc)
  refine CL rfl (Zm rfl) rfl (Zan (ob v) _ x _ (fun b hb=>(hr.ob_le b hb).2) hsh h9 ha ho ⟨kv,rfl,hs2⟩) ?_
  rintro ov w3 ⟨hso,hT⟩
  rw [hO] at hso
  replace hr:=hr.up hT
  clear hsl hs2 hb2
  have hOm:=hso.max
  refine W ?_
  refine Zr (σ:=Nat×Value) (fun q=>[(5,q.2),(7,ov),(8,.int .i64 (q.1:Int))]) (fun q w'=>q.1≤O.length∧RwI wA w' q.2 (A++Z3M (O.take q.1))∧SlV (ob q.2) w' ov O) (fun q=>O.length - q.1) (0,v) ⟨rfl,rfl,rfl,trivial⟩ ⟨Xo _,by simpa [Z3M] using hr,hso⟩ ?_
  clear hr hso hT
  rintro ⟨i,v5⟩ w5 ⟨hi,hr,hso⟩
  dsimp only at hi hr hso ⊢
  by_cases hlt:i<O.length
  have hln:(A++Z3M (O.take i)).length=A.length+i:=by simp [Z3M];omega
  focus repeat'(first|refine W1 ?_|omega|refine VG ?_ ?_<;>intro hg|refine VC ?_ ?_<;>intro hc)
  apply Z6 (vs:=[(0,.int .i64 _)]) rfl (Z5D _) rfl
  refine Z1 (Z0 (vs:=[(0,agg (Ins.mk O[i] 0))]) rfl (Z3i _)) rfl ?_
  rintro u w6 hN6
  have hu:SlV (ob v5) w6 u [Ins.mk O[i] 0]:=hN6.slv (fun b hb=>(hr.ob_le b hb).2) rfl rfl (by simp [maxLen])
  have hT:=Z5.stp hN6
  clear hN6
  replace hr:=hr.up hT
  replace hso:=hso.up hT
  refine Z1 (Jp rfl (by decide) rfl rfl hr hu (by rw [hln];simp only [Xc,Xd];omega) (by rw [hln];simp only [Xc,Xd,maxLen];omega)) rfl ?_
  rintro v7 w7 ⟨hr',hS7,hob⟩
  refine W ?_
  refine Zg (i+1,v7) ⟨rfl,rfl,rfl,trivial⟩ ⟨by dsimp only;omega,?_,hso.ext hS7 (fun _ h=>h) hob⟩ (by dsimp only;omega)
  dsimp only
  rw [Xq hlt]
  unfold Z3M at hr' ⊢
  rw [YaJ,← XK]
  exact hr'
  have hie:i=O.length:=by omega
  subst hie
  rw [XC] at hr
  focus repeat'(first|refine W1 ?_|omega|refine VG ?_ ?_<;>intro hg|refine VC ?_ ?_<;>intro hc)
  refine WR ?_
  exact .mk (main _ _ hr)
theorem Z5t (v:Value) (x:Nd) (w:World) (hsz:Jr x≤1000) (hnest:Zp x≤1000000) (hx:NdV [] w v x) :
 Calls Tryz.prog 13 #[v] w (Ret (Znc w x)):=by
 have hN:=hx
 obtain ⟨kv,rfl,hs⟩:=hx
 refine cW1 24 Tryz.func13 ?_
 refine W ?_
 refine Z1 (Zo rfl) rfl ?_
 rintro _ w1 ⟨b,rfl,hb,hblk,hS⟩
 replace hblk:Blk w1 b _ (ndC x kv):=hblk
 replace hs:=hs.up hS;replace hN:=hN.up hS
 refine W ?_
 refine CL rfl (Zm rfl) rfl (ZdW [] _ x _ (Z90 x hsz) hnest hN) ?_
 rintro _ w2 ⟨rfl,hS2⟩
 replace hs:=hs.up hS2;replace hN:=hN.up hS2;replace hblk:=hblk.up hS2
 replace hS:=hS.trans hS2
 by_cases hn:Zp x≤12
 case neg=>
  rw [if_neg hn,if_neg hn]
  have he:Z4a x=2:=by rw [Z4a,if_neg hn]
  repeat'(first|refine W1 ?_|omega|refine VG ?_ ?_<;>intro hg|refine VC ?_ ?_<;>intro hc)
  refine WR ?_
  refine .mk ⟨_,by rw [he];rfl,fun X hX=>?_,hS⟩
  rw [he,if_neg (by decide)]
  exact Z0P _ _
 by_cases ht:Zf x=0
 rw [if_pos hn,if_pos hn,if_pos ht]
 have he:Z4a x=21:=by rw [Z4a,if_pos hn,if_pos ht]
 focus repeat'(first|refine W1 ?_|omega|refine VG ?_ ?_<;>intro hg|refine VC ?_ ?_<;>intro hc)
 refine WR ?_
 refine .mk ⟨_,by rw [he];rfl,fun X hX=>?_,hS⟩
 rw [he,if_neg (by decide)]
 exact Z0P _ _
 rw [if_pos hn,if_pos hn,if_neg ht]
 have hlen:=Zc2 x 0
 repeat'(first|refine W1 ?_|omega|refine VG ?_ ?_<;>intro hg|refine VC ?_ ?_<;>intro hc)
 refine CL rfl (Zb rfl rfl) rfl (Zgd x ht _ _ 0 0 rfl hN (by omega)) ?_
 rintro v3 w3 hr
 apply Z6 (vs:=[(0,.int .i64 24)]) rfl (Z5D _) rfl
 refine Z1 (Z0 (vs:=[(0,agg (Ins.mk 24 0))]) rfl (Z3i _)) rfl ?_
 rintro u w4 hN4
 have hu:SlV (ob v3) w4 u [Ins.mk 24 0]:=hN4.slv (fun b hb=>(hr.ob_le b hb).2) rfl rfl (by simp [maxLen])
 have hT:=Z5.stp hN4
 clear hN4
 replace hr:=hr.up hT
 refine Z1 (Jp rfl (by decide) rfl rfl hr hu (by simp only [Xc,Xd];omega) (by simp only [Xc,Xd,maxLen];omega)) rfl ?_
 clear hu hr hT
 rintro v5 w5 ⟨hr,-,-⟩
 replace hr:=hr.pre hS
 replace hr:RwI w w5 v5 (Z1h x):=hr
 have hslv:=hr.slv (X:=[]) (by simp)
 by_cases hg:(Z1h x).length > 200
 have he:Z4a x=2:=by rw [Z4a,if_pos hn,if_neg ht,if_pos hg]
 focus repeat'(first|refine W1 ?_|omega|refine VG ?_ ?_<;>intro hg|refine VC ?_ ?_<;>intro hc)
 refine WR ?_
 refine .mk ⟨_,by rw [he],fun X hX=>?_,hr.2⟩
 rw [he,if_neg (by decide)]
 exact Z0P _ _
 have he:Z4a x=0:=by rw [Z4a,if_pos hn,if_neg ht,if_neg hg]
 focus repeat'(first|refine W1 ?_|omega|refine VG ?_ ?_<;>intro hg|refine VC ?_ ?_<;>intro hc)
 refine WR ?_
 refine .mk ⟨_,by rw [he],fun X hX=>?_,hr.2⟩
 rw [he,if_pos rfl]
 exact hr.slv hX
end Go.Proofs.YtjdjdoefppebkaaGreatDoor
namespace Go.Eng
open Go Go.RowKit Go.Proofs
theorem Z5.slvG {α:Type} [Z8 α] {w w':World} {X:List Nat} {T len:Nat} {cs:List Value} {v:Value} {ys:List α} {css:List (List Value)} (h:Z5 w T len cs v w') (hX:∀ b∈X,b<w.heap.size) (hl:len=ys.length) (hcl:css.length=ys.length)
 (hc:cs=css.flatten) (hr:∀ i (hi:i<ys.length) (hi':i<css.length),Z8.rep X w ys[i] css[i]) (hm:ys.length≤maxLen):SlV X w' v ys:=by
 obtain ⟨b,rfl,hb,hblk,hS⟩:=h
 subst hl
 subst hc
 have hk:∀ c∈css,c.length=Z8.k α:=by
  intro c hc
  obtain ⟨i,hi,rfl⟩:=Xr hc
  exact Z8.len (hr i (by omega) hi)
 refine ⟨some ⟨b,0,none⟩,ys.length,rfl,Xl _,hm,fun h=>by simp at h,fun i hi=>⟨b,0,css[i]'(by omega),rfl,hblk.lt,fun hx=>by have:=hX b hx;omega,Z8.ext (hr i hi (by omega)) hS (by simp) (fun b hb=>.inl hb),fun j u hu=>?_⟩⟩
 refine hblk.cell ?_
 have:=Z0Y css hk i (by omega) j u hu
 rw [X0]
 exact this
theorem SlV.wk {α:Type} [Z8 α] {X X':List Nat} {w:World} {v:Value} {l:List α} (h:SlV X w v l) (hs:∀ b∈X',b∈X):SlV X' w v l:=h.ext (Stp.refl [] w) (by simp) (fun b hb=>.inl (hs b hb))
end Go.Eng
namespace Go.Proofs.YtjdjdoefppebkaaGreatDoor
open Go Go.Eng Go.RowKit
theorem Z0e (k n:Int) (s:Str) (p:Option Addr) (l c:Nat) (w:World):(Instr.buildSlice 25 1 #[(0,.agg #[.int .i64 k,.int .i64 n,str s,.slice p l c])]).run Tryz.prog w=.ok (.slice (some ⟨w.heap.size,0,none⟩) 1 1) (w.alloc (.cells #[.int .i64 k,.int .i64 n,str s,.slice p l c] 27)):=by kernel_rfl
theorem Z6V:∀ (s sub:List UInt8),0≤Lib.index s sub↔∃ i,i≤s.length∧sub.isPrefixOf (s.drop i)=true
 | [], sub => by
   unfold Lib.index
   cases sub with
   | nil=>simp
   | cons a l=>simp
 | b :: l, sub => by
   have ih:=Z6V l sub
   have hge:=Lib.index_ge l sub
   unfold Lib.index
   by_cases hp:sub.isPrefixOf (b :: l)=true
   rw [if_pos hp]
   exact ⟨fun _=>⟨0,by omega,hp⟩,fun _=>by omega⟩
   rw [if_neg hp]
   have e:(0:Int)≤(if (Lib.index l sub == -1)=true then -1 else Lib.index l sub+1)↔0≤Lib.index l sub:=by
    by_cases h1:Lib.index l sub=-1
    rw [if_pos (by simpa using h1)];omega
    rw [if_neg (by simpa using h1)];omega
   rw [e,ih]
   constructor
   rintro ⟨i,hi,h⟩
   exact ⟨i+1,by simpa using hi,h⟩
   · rintro ⟨i,hi,h⟩
     cases i with
     | zero=>exact absurd h hp
     | succ i=>exact ⟨i,by simpa using hi,h⟩
theorem Z6W:∀ (t r:List UInt8),(∀ c∈t,c≠32)→(t++[32]).isPrefixOf r=true→r.takeWhile (fun c=>decide (c≠32))=t
 | [], r, _, h => by
   cases r with
   | nil=>simp at h
   | cons a l=>
     simp [List.isPrefixOf] at h
     subst h
     rfl
 | c :: t, r, hc, h => by
   cases r with
   | nil=>simp at h
   | cons a l=>
     simp only [XN,List.isPrefixOf,Xi,beq_iff_eq] at h
     obtain ⟨rfl,h⟩:=h
     have h1:=hc c (by simp)
     rw [List.takeWhile_cons_of_pos (by simpa using h1),Z6W t l (fun x hx=>hc x (by simp [hx])) h]
theorem Z7S (a b:Str) (m:Int) (w:World) (ha:a.length<4294967281) (hm:w.cell? ⟨2,0,none⟩=some (.int .i64 m)) :
 CC 176 #[str a,str b] w fun r w'=>r=.bool (Lib.contains a b)∧Stp [] w w':=by
 refine (Tryz.strings_Contains ⟨a.toArray⟩ ⟨b.toArray⟩ m w (by rw [Z0a];exact ha) hm).mono ?_
 rintro e w' ⟨rfl,rfl⟩
 exact .mk ⟨rfl,Stp.refl _ _⟩
theorem ZR (z:Int) (m:Int) (w:World) (hm:0<m) (hz:I64 z):CC 18 #[.int .i64 z,.int .i64 m] w fun r w'=>r=.int .i64 ((if z<0 then -(z+1) else z) % m)∧Stp [] w w':=by
 unfold I64 at hz
 refine cW2 13 Tryz.func18 ?_
 by_cases h:z<0
 focus repeat'(first|refine W1 ?_|omega|refine VG ?_ ?_<;>intro hg|refine VC ?_ ?_<;>intro hc)
 refine WR ?_
 exact .mk ⟨by rw [if_pos h],Stp.refl _ _⟩
 focus repeat'(first|refine W1 ?_|omega|refine VG ?_ ?_<;>intro hg|refine VC ?_ ?_<;>intro hc)
 refine WR ?_
 exact .mk ⟨by rw [if_neg h],Stp.refl _ _⟩
theorem Jj (z m:Int) (hm:0<m):0≤z % m∧z % m<m:=⟨Ya7 _ (by omega),YaX _ hm⟩
theorem ZY (X:List Nat) (v:Value) (l:List Int) (i m:Int) (w:World) (hm:0<m) (hi:I64 i) (hs:SlV X w v l) (hl:∀ a∈l,I64 a):CC 94 #[v,.int .i64 i,.int .i64 m] w fun r w'=>∃ q:Nat,r=.int .i64 (q:Int)∧(q:Int)<m∧Stp [] w w':=by
 unfold I64 at hi
 have hmax:=hs.max
 refine cW3 21 Tryz.func94 ?_
 refine W ?_
 by_cases hgo:0≤i∧i<l.length
 obtain ⟨h0,h1⟩:=hgo
 obtain ⟨k,rfl⟩:∃ k:Nat,i=(k:Int):=⟨i.toNat,by omega⟩
 have hk:k<l.length:=by omega
 focus repeat'(first|refine W1 ?_|omega|refine VG ?_ ?_<;>intro hg|refine VC ?_ ?_<;>intro hc)
 refine CL rfl (Zb rfl rfl) rfl (ZR _ m _ hm (hl _ (Xf hk))) ?_
 rintro _ w2 ⟨rfl,hS⟩
 refine W ?_
 refine WR ?_
 have:=Jj (if l[k]<0 then -(l[k]+1) else l[k]) m hm
 exact .mk ⟨_,by rw [YaH this.1],by rw [YaH this.1];exact this.2,hS⟩
 · repeat'(first|refine W1 ?_|omega|refine VG ?_ ?_<;>intro hg|refine VC ?_ ?_<;>intro hc)
   all_goals first
    | (refine WR ?_
       exact .mk ⟨0,rfl,by simpa using hm,Stp.refl _ _⟩)
theorem Zc3 (k:Int) (s:Str) (p:Option Addr) (l c:Nat) (w:World):(Instr.build 27 #[(0,.int .i64 k),(2,str s),(3,.slice p l c)]).run Tryz.prog w=.ok (.agg #[.int .i64 k,.int .i64 0,str s,.slice p l c]) w:=by kernel_rfl
def szD:Nat→Nat
 | 0=>0
 | d+1=>1+3 * szD d
theorem Zao {d:Nat} (h:1≤d):szD d=1+3 * szD (d - 1):=by
 cases d with
 | zero=>omega
 | succ d=>rfl
theorem Z2X {X:List Nat} {w:World} {y0:Nd} {k0:Value} (s0:SlV X w k0 y0.kids):∀ i (hi:i < [y0].length) (hi':i < [ndC y0 k0].length),Z8.rep X w [y0][i] [ndC y0 k0][i]
 | 0,_,_=>(show Z3u X w y0 (ndC y0 k0) by rw [y0.eta];exact Z25 s0)
theorem Z1i {X:List Nat} {w:World} {y0 y1:Nd} {k0 k1:Value} (s0:SlV X w k0 y0.kids) (s1:SlV X w k1 y1.kids):∀ i (hi:i < [y0,y1].length) (hi':i < [ndC y0 k0,ndC y1 k1].length),Z8.rep X w [y0,y1][i] [ndC y0 k0,ndC y1 k1][i]
 | 0,_,_=>(show Z3u X w y0 (ndC y0 k0) by rw [y0.eta];exact Z25 s0)
 | 1,_,_=>(show Z3u X w y1 (ndC y1 k1) by rw [y1.eta];exact Z25 s1)
theorem Zhh {X:List Nat} {w:World} {y0 y1 y2:Nd} {k0 k1 k2:Value} (s0:SlV X w k0 y0.kids) (s1:SlV X w k1 y1.kids) (s2:SlV X w k2 y2.kids):∀ i (hi:i < [y0,y1,y2].length) (hi':i < [ndC y0 k0,ndC y1 k1,ndC y2 k2].length),Z8.rep X w [y0,y1,y2][i] [ndC y0 k0,ndC y1 k1,ndC y2 k2][i]
 | 0,_,_=>(show Z3u X w y0 (ndC y0 k0) by rw [y0.eta];exact Z25 s0)
 | 1,_,_=>(show Z3u X w y1 (ndC y1 k1) by rw [y1.eta];exact Z25 s1)
 | 2,_,_=>(show Z3u X w y2 (ndC y2 k2) by rw [y2.eta];exact Z25 s2)
theorem Z4b (k n:Int) (w:World):(Instr.build 27 #[(0,.int .i64 k),(1,.int .i64 n)]).run Tryz.prog w=.ok (.agg #[.int .i64 k,.int .i64 n,str [],.slice none 0 0]) w:=by kernel_rfl
theorem Jk (k n:Int) (s:Str) (p:Option Addr) (l c:Nat) (k' n':Int) (s':Str) (p':Option Addr) (l' c':Nat) (w:World):(Instr.buildSlice 25 2 #[(0,.agg #[.int .i64 k,.int .i64 n,str s,.slice p l c]),(1,.agg #[.int .i64 k',.int .i64 n',str s',.slice p' l' c'])]).run Tryz.prog w=.ok (.slice (some ⟨w.heap.size,0,none⟩) 2 2) (w.alloc (.cells #[.int .i64 k,.int .i64 n,str s,.slice p l c,.int .i64 k',.int .i64 n',str s',.slice p' l' c'] 27)):=by kernel_rfl
theorem Z94 (k n:Int) (s:Str) (p:Option Addr) (l c:Nat) (k' n':Int) (s':Str) (p':Option Addr) (l' c':Nat) (k'' n'':Int) (s'':Str) (p'':Option Addr) (l'' c'':Nat) (w:World):(Instr.buildSlice 25 3 #[(0,.agg #[.int .i64 k,.int .i64 n,str s,.slice p l c]),(1,.agg #[.int .i64 k',.int .i64 n',str s',.slice p' l' c']),(2,.agg #[.int .i64 k'',.int .i64 n'',str s'',.slice p'' l'' c''])]).run Tryz.prog w=.ok (.slice (some ⟨w.heap.size,0,none⟩) 3 3) (w.alloc (.cells #[.int .i64 k,.int .i64 n,str s,.slice p l c,.int .i64 k',.int .i64 n',str s',.slice p' l' c',.int .i64 k'',.int .i64 n'',str s'',.slice p'' l'' c''] 27)):=by kernel_rfl
theorem Znd (k n:Int) (s:Str) (y0:Nd):Jr (.mk k n s [y0])=1+Jr y0:=by rw [Z1g];simp [Nd.kids]
theorem Zne (k n:Int) (s:Str) (y0 y1:Nd):Jr (.mk k n s [y0,y1])=1+Jr y0+Jr y1:=by rw [Z1g];simp [Nd.kids];omega
theorem Znf (k n:Int) (s:Str) (y0 y1 y2:Nd):Jr (.mk k n s [y0,y1,y2])=1+Jr y0+Jr y1+Jr y2:=by rw [Z1g];simp [Nd.kids];omega
theorem Zng (k n:Int) (s:Str):Jr (.mk k n s [])=1:=by rw [Z1g];simp [Nd.kids]
theorem Znh (k n:Int) (s:Str):Zp (.mk k n s [])=1:=by rw [Z0d];simp [Nd.kids]
theorem Zni (k n:Int) (s:Str) (y0:Nd):Zp (.mk k n s [y0])=1+Zp y0:=by rw [Z0d];simp [Nd.kids]
theorem Znj (k n:Int) (s:Str) (y0 y1:Nd):Zp (.mk k n s [y0,y1])=1+max (Zp y0) (Zp y1):=by rw [Z0d];simp [Nd.kids]
theorem Znk (k n:Int) (s:Str) (y0 y1 y2:Nd):Zp (.mk k n s [y0,y1,y2])=1+max (max (Zp y0) (Zp y1)) (Zp y2):=by rw [Z0d];simp [Nd.kids]
theorem ty0 {k n τ:Int} {s:Str} (h:Z0w k n s=τ):Zf (.mk k n s [])=τ:=by rw [Z0x];exact h
theorem ty1 {k τ a:Int} {s:Str} {y0:Nd} (h0:Zf y0=a) (h:Ja k 0 s [a]=τ):Zf (.mk k 0 s [y0])=τ:=by rw [Z0x];simp only [Nd.kind,Nd.num,Nd.word,Nd.kids,Xn,Xx,h0];exact h
theorem ty2 {k τ a b:Int} {s:Str} {y0 y1:Nd} (h0:Zf y0=a) (h1:Zf y1=b) (h:Ja k 0 s [a,b]=τ):Zf (.mk k 0 s [y0,y1])=τ:=by rw [Z0x];simp only [Nd.kind,Nd.num,Nd.word,Nd.kids,Xn,Xx,h0,h1];exact h
theorem ty3 {k τ a b c:Int} {s:Str} {y0 y1 y2:Nd} (h0:Zf y0=a) (h1:Zf y1=b) (h2:Zf y2=c) (h:Ja k 0 s [a,b,c]=τ):Zf (.mk k 0 s [y0,y1,y2])=τ:=by rw [Z0x];simp only [Nd.kind,Nd.num,Nd.word,Nd.kids,Xn,Xx,h0,h1,h2];exact h
abbrev RwZ (w w':World) (v:Value) (xs:List Int):Prop:=J8 3 w w' v xs
end Go.Proofs.YtjdjdoefppebkaaGreatDoor
namespace Go.Eng
open Go
end Go.Eng
namespace Go.Proofs.YtjdjdoefppebkaaGreatDoor
open Go Go.Eng Go.RowKit
def ZP (x:Ins):List Int×List Int×List Int×Bool:=
 if x.op=1 then ([],[],[1],decide (-2147483647≤x.n∧x.n≤2147483647))
 else if x.op=2 then ([],[],[2],decide (x.n=0∨x.n=1))
 else if x.op=3 then ([],[],[3],decide (0≤x.n∧x.n≤3652058))
 else if x.op=4 then ([],[],[if x.n=0∨x.n=1 then 3 else 1],decide (0≤x.n∧x.n<7))
 else if x.op=13 then ([],[],[],true)
 else if x.op=14 then ([2],[],[],true)
 else if x.op=5∨x.op=6∨x.op=7 then ([1,1],[],[1],decide (x.n=0))
 else if x.op=8 then ([1],[],[1],decide (x.n=0))
 else if x.op=9∨x.op=10∨x.op=11 then ([1,1],[3,3],[2],decide (x.n=0))
 else if x.op=12 then ([2],[],[2],decide (x.n=0))
 else if x.op=15∨x.op=16∨x.op=17∨x.op=18 then ([3,1],[],[3],decide (x.n=0))
 else if x.op=19∨x.op=20 then ([3],[],[3],decide (x.n=0))
 else if x.op=21∨x.op=22 then ([3,3],[],[3],decide (x.n=0))
 else if x.op=23 then ([3,3],[],[1],decide (x.n=0))
 else if x.op=24 then ([],[],[],decide (x.n=0))
 else ([],[],[],false)
end Go.Proofs.YtjdjdoefppebkaaGreatDoor
namespace Go.Eng
open Go
structure RwT where
 lo:Int
 hi:Int
 t:Str
 g:Str
instance:Z9 RwT where
 k:=4
 enc:=fun x=>[.int .i64 x.lo,.int .i64 x.hi,str x.t,str x.g]
 len:=fun _=>rfl
 one:=by intro x u hu;simp at hu;rcases hu with rfl|rfl|rfl|rfl<;>rfl
end Go.Eng
namespace Go.Proofs.YtjdjdoefppebkaaGreatDoor
open Go Go.Eng Go.RowKit
theorem JH (a b:Int) (s t:Str) (w:World):(Instr.build 201 #[(0,.int .i64 a),(1,.int .i64 b),(2,str s),(3,str t)]).run Tryz.prog w=.ok (agg (RwT.mk a b s t)) w:=by kernel_rfl
theorem JB (x:RwT) (w:World):(Instr.buildSlice 198 1 #[(0,agg x)]).run Tryz.prog w=.ok (.slice (some ⟨w.heap.size,0,none⟩) 1 1) (w.alloc (.cells (Z9.enc x).toArray 201)):=by kernel_rfl
theorem Zc4 (x y:RwT) (w:World):(Instr.buildSlice 198 2 #[(0,agg x),(1,agg y)]).run Tryz.prog w=.ok (.slice (some ⟨w.heap.size,0,none⟩) 2 2) (w.alloc (.cells (Z9.enc x++Z9.enc y).toArray 201)):=by kernel_rfl
theorem Ze7 (a b c d e f g:Str) (w:World):(Instr.buildSlice 119 7 #[(0,str a),(1,str b),(2,str c),(3,str d),(4,str e),(5,str f),(6,str g)]).run Tryz.prog w=.ok (.slice (some ⟨w.heap.size,0,none⟩) 7 7) (w.alloc (.cells #[str a,str b,str c,str d,str e,str f,str g] 9)):=by kernel_rfl
def Z2Y:List Str:=[[100],[100],[110],[110],[110],[110],[110]]
def ZA (x:Ins) (a z:Nat):List RwT:=
 if x.op=1 then [⟨-2147483647,2147483647,[],[110]⟩]
 else if x.op=2 then [⟨0,1,[],[98]⟩]
 else if x.op=3 then [⟨0,3652058,[],[100]⟩]
 else if x.op=4 then (if 0≤x.n∧x.n<7 then [⟨0,6,[],Z2Y.getD x.n.toNat []⟩] else [])
 else if x.op=5∨x.op=6∨x.op=7 then [⟨0,0,[110,110],[110]⟩]
 else if x.op=8 then [⟨0,0,[110],[110]⟩]
 else if x.op=9∨x.op=10∨x.op=11 then [⟨0,0,[110,110],[98]⟩,⟨0,0,[100,100],[98]⟩]
 else if x.op=12 then [⟨0,0,[98],[98]⟩]
 else if x.op=13 then [⟨(a:Int)+1,(z:Int) - 1,[],[]⟩]
 else if x.op=14 then [⟨(a:Int)+1,(z:Int) - 1,[98],[]⟩]
 else if x.op=15∨x.op=16∨x.op=17∨x.op=18 then [⟨0,0,[100,110],[100]⟩]
 else if x.op=19∨x.op=20 then [⟨0,0,[100],[100]⟩]
 else if x.op=21∨x.op=22 then [⟨0,0,[100,100],[100]⟩]
 else if x.op=23 then [⟨0,0,[100,100],[110]⟩]
 else if x.op=24 then [⟨0,0,[],[]⟩]
 else []
set_option maxHeartbeats 2000000 in
theorem Ze8 (X:List Nat) (x:Ins) (a z:Nat) (w:World) (ha:a≤100000) (hz:z≤100000) (hX0:∀ b∈X,b<w.heap.size) :
 CC 108 #[agg x,.int .i64 (a:Int),.int .i64 (z:Int)] w fun r w'=>SlV X w' r (ZA x a z)∧Stp [] w w':=by
 refine cW3 102 Tryz.func108 ?_
 refine W ?_
 refine Z1 (Zo rfl) rfl ?_
 rintro _ w0 ⟨b,rfl,hb,hblk,hS⟩
 replace hblk:Blk w0 b _ [.int .i64 x.op,.int .i64 x.n]:=hblk
 have hX:∀ b∈X,b<w0.heap.size:=fun b hb=>Xb (hX0 b hb) hS.size
 refine W ?_
 refine Z1 (Z0 (vs:=[(0,str [100]),(1,str [100]),(2,str [110]),(3,str [110]),(4,str [110]),(5,str [110]),(6,str [110])]) rfl (Ze7 _ _ _ _ _ _ _)) rfl ?_
 rintro fv w1 hN
 have s_f:SlV X w1 fv Z2Y:=hN.slv hX rfl rfl (by simp [Z2Y,maxLen])
 have hT:=Z5.stp hN
 clear hN
 replace hblk:=hblk.up hT
 replace hS:=hS.trans hT
 replace hX:=fun b hb=>Xb (hX b hb) hT.size
 clear hT
 refine W ?_
 by_cases h1:x.op=1
 · have heq:ZA x a z=[⟨-2147483647,2147483647,[],[110]⟩]:=by simp [ZA,h1]
   repeat'(first|refine W1 ?_|omega|refine VG ?_ ?_<;>intro hg|refine VC ?_ ?_<;>intro hc)
   all_goals
    refine W ?_
    apply Z6 (vs:=[(0,.int .i64 _),(1,.int .i64 _),(2,str []),(3,str [110])]) rfl (JH _ _ _ _) rfl
    refine Z1 (Z0 (vs:=[(0,agg (⟨-2147483647,2147483647,[],[110]⟩:RwT))]) rfl (JB _)) rfl ?_
    rintro g wq hN
    have s_g:SlV X wq g [(⟨-2147483647,2147483647,[],[110]⟩:RwT)]:=hN.slv hX rfl (by simp) (by simp [maxLen])
    have hT:=Z5.stp hN
    clear hN
    refine W ?_
    refine WR ?_
    refine .mk ⟨?_,hS.trans hT⟩
    rw [heq]
    exact s_g
 by_cases h2:x.op=2
 · have heq:ZA x a z=[⟨0,1,[],[98]⟩]:=by simp [ZA,h2]
   repeat'(first|refine W1 ?_|omega|refine VG ?_ ?_<;>intro hg|refine VC ?_ ?_<;>intro hc)
   all_goals
    refine W ?_
    apply Z6 (vs:=[(0,.int .i64 _),(1,.int .i64 _),(2,str []),(3,str [98])]) rfl (JH _ _ _ _) rfl
    refine Z1 (Z0 (vs:=[(0,agg (⟨0,1,[],[98]⟩:RwT))]) rfl (JB _)) rfl ?_
    rintro g wq hN
    have s_g:SlV X wq g [(⟨0,1,[],[98]⟩:RwT)]:=hN.slv hX rfl (by simp) (by simp [maxLen])
    have hT:=Z5.stp hN
    clear hN
    refine W ?_
    refine WR ?_
    refine .mk ⟨?_,hS.trans hT⟩
    rw [heq]
    exact s_g
 by_cases h3:x.op=3
 · have heq:ZA x a z=[⟨0,3652058,[],[100]⟩]:=by simp [ZA,h3]
   repeat'(first|refine W1 ?_|omega|refine VG ?_ ?_<;>intro hg|refine VC ?_ ?_<;>intro hc)
   all_goals
    refine W ?_
    apply Z6 (vs:=[(0,.int .i64 _),(1,.int .i64 _),(2,str []),(3,str [100])]) rfl (JH _ _ _ _) rfl
    refine Z1 (Z0 (vs:=[(0,agg (⟨0,3652058,[],[100]⟩:RwT))]) rfl (JB _)) rfl ?_
    rintro g wq hN
    have s_g:SlV X wq g [(⟨0,3652058,[],[100]⟩:RwT)]:=hN.slv hX rfl (by simp) (by simp [maxLen])
    have hT:=Z5.stp hN
    clear hN
    refine W ?_
    refine WR ?_
    refine .mk ⟨?_,hS.trans hT⟩
    rw [heq]
    exact s_g
 by_cases h4:x.op=4
 by_cases hn:0≤x.n∧x.n<7
 · have hlt:x.n.toNat<Z2Y.length:=by show x.n.toNat<7;omega
   have hnn:x.n=(x.n.toNat:Int):=by omega
   have heq:ZA x a z=[⟨0,6,[],Z2Y[x.n.toNat]⟩]:=by
    unfold ZA
    rw [if_neg h1,if_neg h2,if_neg h3,if_pos h4,if_pos hn]
    simp [List.getD,hlt]
   repeat'(first|refine W1 ?_|omega|refine VG ?_ ?_<;>intro hg|refine VC ?_ ?_<;>intro hc)
   all_goals
    refine W ?_
    apply Z6 (vs:=[(0,.int .i64 0),(1,.int .i64 6),(2,str []),(3,str _)]) rfl (JH _ _ _ _) rfl
    refine Z1 (Z0 (vs:=[(0,agg (⟨0,6,[],Z2Y[x.n.toNat]⟩:RwT))]) rfl (JB _)) rfl ?_
    rintro g wq hN
    have s_g:SlV X wq g [(⟨0,6,[],Z2Y[x.n.toNat]⟩:RwT)]:=hN.slv hX rfl (by simp) (by simp [maxLen])
    have hT:=Z5.stp hN
    clear hN
    refine W ?_
    refine WR ?_
    refine .mk ⟨?_,hS.trans hT⟩
    rw [heq]
    exact s_g
 · have heq:ZA x a z=[]:=by
    unfold ZA
    rw [if_neg h1,if_neg h2,if_neg h3,if_pos h4,if_neg hn]
   repeat'(first|refine W1 ?_|omega|refine VG ?_ ?_<;>intro hg|refine VC ?_ ?_<;>intro hc)
   all_goals
    refine WR ?_
    refine .mk ⟨?_,hS⟩
    rw [heq]
    exact Z0P _ _
 by_cases h5:x.op=5∨x.op=6∨x.op=7
 · have heq:ZA x a z=[⟨0,0,[110,110],[110]⟩]:=by rcases h5 with h|h|h<;>simp [ZA,h]
   repeat'(first|refine W1 ?_|omega|refine VG ?_ ?_<;>intro hg|refine VC ?_ ?_<;>intro hc)
   all_goals
    refine W ?_
    apply Z6 (vs:=[(0,.int .i64 _),(1,.int .i64 _),(2,str [110,110]),(3,str [110])]) rfl (JH _ _ _ _) rfl
    refine Z1 (Z0 (vs:=[(0,agg (⟨0,0,[110,110],[110]⟩:RwT))]) rfl (JB _)) rfl ?_
    rintro g wq hN
    have s_g:SlV X wq g [(⟨0,0,[110,110],[110]⟩:RwT)]:=hN.slv hX rfl (by simp) (by simp [maxLen])
    have hT:=Z5.stp hN
    clear hN
    refine W ?_
    refine WR ?_
    refine .mk ⟨?_,hS.trans hT⟩
    rw [heq]
    exact s_g
 by_cases h8:x.op=8
 · have heq:ZA x a z=[⟨0,0,[110],[110]⟩]:=by simp [ZA,h8]
   repeat'(first|refine W1 ?_|omega|refine VG ?_ ?_<;>intro hg|refine VC ?_ ?_<;>intro hc)
   all_goals
    refine W ?_
    apply Z6 (vs:=[(0,.int .i64 _),(1,.int .i64 _),(2,str [110]),(3,str [110])]) rfl (JH _ _ _ _) rfl
    refine Z1 (Z0 (vs:=[(0,agg (⟨0,0,[110],[110]⟩:RwT))]) rfl (JB _)) rfl ?_
    rintro g wq hN
    have s_g:SlV X wq g [(⟨0,0,[110],[110]⟩:RwT)]:=hN.slv hX rfl (by simp) (by simp [maxLen])
    have hT:=Z5.stp hN
    clear hN
    refine W ?_
    refine WR ?_
    refine .mk ⟨?_,hS.trans hT⟩
    rw [heq]
    exact s_g
 by_cases h9:x.op=9∨x.op=10∨x.op=11
 · have heq:ZA x a z=[⟨0,0,[110,110],[98]⟩,⟨0,0,[100,100],[98]⟩]:=by rcases h9 with h|h|h<;>simp [ZA,h]
   repeat'(first|refine W1 ?_|omega|refine VG ?_ ?_<;>intro hg|refine VC ?_ ?_<;>intro hc)
   all_goals
    refine W ?_
    apply Z6 (vs:=[(0,.int .i64 _),(1,.int .i64 _),(2,str [110,110]),(3,str [98])]) rfl (JH _ _ _ _) rfl
    refine W ?_
    apply Z6 (vs:=[(0,.int .i64 _),(1,.int .i64 _),(2,str [100,100]),(3,str [98])]) rfl (JH _ _ _ _) rfl
    refine Z1 (Z0 (vs:=[(0,agg (⟨0,0,[110,110],[98]⟩:RwT)),(1,agg (⟨0,0,[100,100],[98]⟩:RwT))]) rfl (Zc4 _ _)) rfl ?_
    rintro g wq hN
    have s_g:SlV X wq g [(⟨0,0,[110,110],[98]⟩:RwT),(⟨0,0,[100,100],[98]⟩:RwT)]:=hN.slv hX rfl (by simp) (by simp [maxLen])
    have hT:=Z5.stp hN
    clear hN
    refine W ?_
    refine WR ?_
    refine .mk ⟨?_,hS.trans hT⟩
    rw [heq]
    exact s_g
 by_cases h12:x.op=12
 · have heq:ZA x a z=[⟨0,0,[98],[98]⟩]:=by simp [ZA,h12]
   repeat'(first|refine W1 ?_|omega|refine VG ?_ ?_<;>intro hg|refine VC ?_ ?_<;>intro hc)
   all_goals
    refine W ?_
    apply Z6 (vs:=[(0,.int .i64 _),(1,.int .i64 _),(2,str [98]),(3,str [98])]) rfl (JH _ _ _ _) rfl
    refine Z1 (Z0 (vs:=[(0,agg (⟨0,0,[98],[98]⟩:RwT))]) rfl (JB _)) rfl ?_
    rintro g wq hN
    have s_g:SlV X wq g [(⟨0,0,[98],[98]⟩:RwT)]:=hN.slv hX rfl (by simp) (by simp [maxLen])
    have hT:=Z5.stp hN
    clear hN
    refine W ?_
    refine WR ?_
    refine .mk ⟨?_,hS.trans hT⟩
    rw [heq]
    exact s_g
 by_cases h13:x.op=13
 · have heq:ZA x a z=[⟨(a:Int)+1,(z:Int) - 1,[],[]⟩]:=by simp [ZA,h13]
   repeat'(first|refine W1 ?_|omega|refine VG ?_ ?_<;>intro hg|refine VC ?_ ?_<;>intro hc)
   all_goals
    refine W ?_
    apply Z6 (vs:=[(0,.int .i64 _),(1,.int .i64 _),(2,str []),(3,str [])]) rfl (JH _ _ _ _) rfl
    refine Z1 (Z0 (vs:=[(0,agg (⟨(a:Int)+1,(z:Int) - 1,[],[]⟩:RwT))]) rfl (JB _)) rfl ?_
    rintro g wq hN
    have s_g:SlV X wq g [(⟨(a:Int)+1,(z:Int) - 1,[],[]⟩:RwT)]:=hN.slv hX rfl (by simp) (by simp [maxLen])
    have hT:=Z5.stp hN
    clear hN
    refine W ?_
    refine WR ?_
    refine .mk ⟨?_,hS.trans hT⟩
    rw [heq]
    exact s_g
 by_cases h14:x.op=14
 · have heq:ZA x a z=[⟨(a:Int)+1,(z:Int) - 1,[98],[]⟩]:=by simp [ZA,h14]
   repeat'(first|refine W1 ?_|omega|refine VG ?_ ?_<;>intro hg|refine VC ?_ ?_<;>intro hc)
   all_goals
    refine W ?_
    apply Z6 (vs:=[(0,.int .i64 _),(1,.int .i64 _),(2,str [98]),(3,str [])]) rfl (JH _ _ _ _) rfl
    refine Z1 (Z0 (vs:=[(0,agg (⟨(a:Int)+1,(z:Int) - 1,[98],[]⟩:RwT))]) rfl (JB _)) rfl ?_
    rintro g wq hN
    have s_g:SlV X wq g [(⟨(a:Int)+1,(z:Int) - 1,[98],[]⟩:RwT)]:=hN.slv hX rfl (by simp) (by simp [maxLen])
    have hT:=Z5.stp hN
    clear hN
    refine W ?_
    refine WR ?_
    refine .mk ⟨?_,hS.trans hT⟩
    rw [heq]
    exact s_g
 by_cases h15:x.op=15∨x.op=16∨x.op=17∨x.op=18
 · have heq:ZA x a z=[⟨0,0,[100,110],[100]⟩]:=by rcases h15 with h|h|h|h<;>simp [ZA,h]
   repeat'(first|refine W1 ?_|omega|refine VG ?_ ?_<;>intro hg|refine VC ?_ ?_<;>intro hc)
   all_goals
    refine W ?_
    apply Z6 (vs:=[(0,.int .i64 _),(1,.int .i64 _),(2,str [100,110]),(3,str [100])]) rfl (JH _ _ _ _) rfl
    refine Z1 (Z0 (vs:=[(0,agg (⟨0,0,[100,110],[100]⟩:RwT))]) rfl (JB _)) rfl ?_
    rintro g wq hN
    have s_g:SlV X wq g [(⟨0,0,[100,110],[100]⟩:RwT)]:=hN.slv hX rfl (by simp) (by simp [maxLen])
    have hT:=Z5.stp hN
    clear hN
    refine W ?_
    refine WR ?_
    refine .mk ⟨?_,hS.trans hT⟩
    rw [heq]
    exact s_g
 by_cases h19:x.op=19∨x.op=20
 · have heq:ZA x a z=[⟨0,0,[100],[100]⟩]:=by rcases h19 with h|h<;>simp [ZA,h]
   repeat'(first|refine W1 ?_|omega|refine VG ?_ ?_<;>intro hg|refine VC ?_ ?_<;>intro hc)
   all_goals
    refine W ?_
    apply Z6 (vs:=[(0,.int .i64 _),(1,.int .i64 _),(2,str [100]),(3,str [100])]) rfl (JH _ _ _ _) rfl
    refine Z1 (Z0 (vs:=[(0,agg (⟨0,0,[100],[100]⟩:RwT))]) rfl (JB _)) rfl ?_
    rintro g wq hN
    have s_g:SlV X wq g [(⟨0,0,[100],[100]⟩:RwT)]:=hN.slv hX rfl (by simp) (by simp [maxLen])
    have hT:=Z5.stp hN
    clear hN
    refine W ?_
    refine WR ?_
    refine .mk ⟨?_,hS.trans hT⟩
    rw [heq]
    exact s_g
 by_cases h21:x.op=21∨x.op=22
 · have heq:ZA x a z=[⟨0,0,[100,100],[100]⟩]:=by rcases h21 with h|h<;>simp [ZA,h]
   repeat'(first|refine W1 ?_|omega|refine VG ?_ ?_<;>intro hg|refine VC ?_ ?_<;>intro hc)
   all_goals
    refine W ?_
    apply Z6 (vs:=[(0,.int .i64 _),(1,.int .i64 _),(2,str [100,100]),(3,str [100])]) rfl (JH _ _ _ _) rfl
    refine Z1 (Z0 (vs:=[(0,agg (⟨0,0,[100,100],[100]⟩:RwT))]) rfl (JB _)) rfl ?_
    rintro g wq hN
    have s_g:SlV X wq g [(⟨0,0,[100,100],[100]⟩:RwT)]:=hN.slv hX rfl (by simp) (by simp [maxLen])
    have hT:=Z5.stp hN
    clear hN
    refine W ?_
    refine WR ?_
    refine .mk ⟨?_,hS.trans hT⟩
    rw [heq]
    exact s_g
 by_cases h23:x.op=23
 · have heq:ZA x a z=[⟨0,0,[100,100],[110]⟩]:=by simp [ZA,h23]
   repeat'(first|refine W1 ?_|omega|refine VG ?_ ?_<;>intro hg|refine VC ?_ ?_<;>intro hc)
   all_goals
    refine W ?_
    apply Z6 (vs:=[(0,.int .i64 _),(1,.int .i64 _),(2,str [100,100]),(3,str [110])]) rfl (JH _ _ _ _) rfl
    refine Z1 (Z0 (vs:=[(0,agg (⟨0,0,[100,100],[110]⟩:RwT))]) rfl (JB _)) rfl ?_
    rintro g wq hN
    have s_g:SlV X wq g [(⟨0,0,[100,100],[110]⟩:RwT)]:=hN.slv hX rfl (by simp) (by simp [maxLen])
    have hT:=Z5.stp hN
    clear hN
    refine W ?_
    refine WR ?_
    refine .mk ⟨?_,hS.trans hT⟩
    rw [heq]
    exact s_g
 by_cases h24:x.op=24
 · have heq:ZA x a z=[⟨0,0,[],[]⟩]:=by simp [ZA,h24]
   repeat'(first|refine W1 ?_|omega|refine VG ?_ ?_<;>intro hg|refine VC ?_ ?_<;>intro hc)
   all_goals
    refine W ?_
    apply Z6 (vs:=[(0,.int .i64 _),(1,.int .i64 _),(2,str []),(3,str [])]) rfl (JH _ _ _ _) rfl
    refine Z1 (Z0 (vs:=[(0,agg (⟨0,0,[],[]⟩:RwT))]) rfl (JB _)) rfl ?_
    rintro g wq hN
    have s_g:SlV X wq g [(⟨0,0,[],[]⟩:RwT)]:=hN.slv hX rfl (by simp) (by simp [maxLen])
    have hT:=Z5.stp hN
    clear hN
    refine W ?_
    refine WR ?_
    refine .mk ⟨?_,hS.trans hT⟩
    rw [heq]
    exact s_g
 have heq:ZA x a z=[]:=by simp [ZA,h1,h2,h3,h4,h5,h8,h9,h12,h13,h14,h15,h19,h21,h23,h24]
 repeat'(first|refine W1 ?_|omega|refine VG ?_ ?_<;>intro hg|refine VC ?_ ?_<;>intro hc)
 refine WR ?_
 refine .mk ⟨?_,hS⟩
 rw [heq]
 exact Z0P _ _
abbrev Shp:=List Int
def Zv (x:Ins) (s:Shp):Option Shp:=
 let e:=ZP x
 let k:=s.length - e.1.length
 if e.2.2.2=true∧e.1.length≤s.length∧(s.drop k=e.1∨e.2.1≠[]∧s.drop k=e.2.1)∧(s.take k++e.2.2.1).length≤16 then some (s.take k++e.2.2.1) else none
def JE (st:List (Option Shp)) (t:Int) (sh:Shp):Option (List (Option Shp)):=
 if 0≤t∧t<st.length then
  match st.getD t.toNat none with
  | some s=>if s=sh then some st else none
  | none=>some (st.set t.toNat (some sh))
 else none
def Z0Q (st:List (Option Shp)) (i:Nat) (x:Ins):Option (List (Option Shp)):=
 match st.getD i none with
 | none=>none
 | some s=>
   match Zv x s with
   | none=>none
   | some nx=>
     if x.op=24 then (if i+1=st.length∧s.length=1 then some st else none)
     else if x.op=13 then (if x.n > i then JE st x.n nx else none)
     else if x.op=14 then (if x.n > i then (JE st x.n nx).bind (fun st'=>JE st' ((i:Int)+1) nx) else none)
     else JE st ((i:Int)+1) nx
def Z3N (code:List Ins):Nat→List (Option Shp)→Option (List (Option Shp))
 | 0,st=>some st
 | k+1,st=>(Z3N code k st).bind (fun st'=>Z0Q st' k (code.getD k ⟨0,0⟩))
def Z2u (code:List Ins):Int×Int:=
 if code.length=0∨code.length > 200 then (0,22) else
  match Z3N code code.length ((some []) :: List.replicate (code.length - 1) none) with
  | none=>(0,22)
  | some st=>(((st.getD (code.length - 1) none).getD []).headD 0,0)
theorem JU {st st':List (Option Shp)} {t:Int} {sh:Shp} (h:JE st t sh=some st'):st'.length=st.length:=by
 unfold JE at h
 split at h
 split at h
 split at h
 cases h;rfl
 cases h
 cases h;simp
 cases h
example:Z2u [⟨4,0⟩,⟨1,3⟩,⟨15,0⟩,⟨24,0⟩]=(3,0):=by decide
example:Z2u [⟨24,0⟩]=(0,22):=by decide
def tyB (k:Int):UInt8:=if k=1 then 110 else if k=2 then 98 else 100
def ZB (s:Shp):Str:=s.map tyB
def Z1X:Option Shp→Str
 | none=>[63]
 | some s=>ZB s
def okS (s:Shp):Prop:=∀ k∈s,k=1∨k=2∨k=3
theorem Zge {a b:Int} (ha:a=1∨a=2∨a=3) (hb:b=1∨b=2∨b=3) (h:tyB a=tyB b):a=b:=by
 rcases ha with rfl|rfl|rfl<;>rcases hb with rfl|rfl|rfl<;>first|rfl|(exfalso;revert h;decide)
theorem Z5V:∀ {a b:Shp},okS a→okS b→ZB a=ZB b→a=b
 | [],[],_,_,_=>rfl
 | [],_ :: _,_,_,h=>by simp [ZB] at h
 | _ :: _,[],_,_,h=>by simp [ZB] at h
 | x :: a, y :: b, ha, hb, h => by
   simp only [ZB,Xn,Yaw] at h
   rw [Zge (ha x (by simp)) (hb y (by simp)) h.1,Z5V (a:=a) (b:=b) (fun k hk=>ha k (by simp [hk])) (fun k hk=>hb k (by simp [hk])) h.2]
theorem ZkQ (k:Int):tyB k≠63:=by
 unfold tyB
 split
 decide
 split<;>decide
theorem Z7T (s:Shp):ZB s≠[63]:=by
 intro h
 rcases s with _|⟨a,_|⟨b,r⟩⟩
 simp [ZB] at h
 simp [ZB] at h;exact ZkQ a h
 simp [ZB] at h
theorem Z5W (s:Shp):(ZB s).length=s.length:=by simp [ZB]
def Z95 (n:Int) (sh:Str) (r:RwT):Option Str:=
 if r.lo≤n∧n≤r.hi∧r.t.length≤sh.length∧sh.drop (sh.length - r.t.length)=r.t∧sh.length - r.t.length+r.g.length≤16 then some (sh.take (sh.length - r.t.length)++r.g) else none
def ZF (n:Int) (sh:Str):List RwT→Option Str
 | []=>none
 | r :: l => match Z95 n sh r with
   | some s=>some s
   | none=>ZF n sh l
def Z1D (x:Ins) (a z:Nat) (sh:Str):Option Str:=ZF x.n sh (ZA x a z)
def Zc5 (strs:List Str) (t:Int) (nx:Str):Option (List Str):=if strs.getD t.toNat []≠[63]∧strs.getD t.toNat []≠nx then none else some (strs.set t.toNat nx)
def Z3B (x:Ins) (i z:Nat):List Int:=(if x.op=13∨x.op=14 then [x.n] else [])++(if x.op≠13∧i+1<z then [(i:Int)+1] else [])
def Z4c (nx:Str):List Int→List Str→Option (List Str)
 | [],st=>some st
 | t :: l,st=>(Zc5 st t nx).bind (Z4c nx l)
def Z2K (strs:List Str) (i:Nat) (x:Ins):Option (List Str):=
 match Z1D x i strs.length (strs.getD i []) with
 | none=>none
 | some nx=>if strs.getD i []=[63]∨¬ (x.op=24↔i+1=strs.length) then none else Z4c nx (Z3B x i strs.length) strs
def Z4M (code:List Ins):Nat→List Str→Option (List Str)
 | 0,st=>some st
 | k+1,st=>(Z4M code k st).bind (fun st'=>Z2K st' k (code.getD k ⟨0,0⟩))
def Zap (m:Nat):Option (List Str)→Int×Int
 | none=>(0,22)
 | some st=>if st.getD m []=[110] then (1,0) else if st.getD m []=[98] then (2,0) else if st.getD m []=[100] then (3,0) else (0,22)
def Zc6 (code:List Ins):Int×Int:=
 if code.length=0∨code.length > 200 then (0,22) else Zap (code.length - 1) (Z4M code code.length ([] :: List.replicate (code.length - 1) [63]))
theorem Ze9 {s:Shp} (h:okS s) (k:Nat):okS (s.take k):=fun a ha=>h a (YaB ha)
theorem Zea {s:Shp} (h:okS s) (k:Nat):okS (s.drop k):=fun a ha=>h a (YaV ha)
theorem Zgf {s t:Shp} (h:okS s) (h':okS t):okS (s++t):=fun a ha=>(Xs.1 ha).elim (h a) (h' a)
theorem Z4d {n lo hi:Int} {s t g:Shp} (hs:okS s) (ht:okS t) :
 Z95 n (ZB s) ⟨lo,hi,ZB t,ZB g⟩=if (lo≤n∧n≤hi)∧t.length≤s.length∧s.drop (s.length - t.length)=t∧(s.take (s.length - t.length)++g).length≤16 then some (ZB (s.take (s.length - t.length)++g)) else none:=by
 unfold Z95
 have e1:(ZB s).drop (s.length - t.length)=ZB (s.drop (s.length - t.length)):=by simp [ZB,List.map_drop]
 have e2:(ZB s).take (s.length - t.length)++ZB g=ZB (s.take (s.length - t.length)++g):=by simp [ZB,List.map_take]
 have e3:(ZB (s.drop (s.length - t.length))=ZB t)↔(s.drop (s.length - t.length)=t):=⟨Z5V (Zea hs _) ht,fun h=>by rw [h]⟩
 have e4:(s.take (s.length - t.length)++g).length=s.length - t.length+g.length:=by simp
 dsimp only
 rw [Z5W,Z5W,Z5W,e1,e2,e4]
 by_cases c1:lo≤n<;>by_cases c2:n≤hi<;>by_cases c3:t.length≤s.length<;>by_cases c4:s.drop (s.length - t.length)=t<;>by_cases c5:s.length - t.length+g.length≤16<;>simp [c1,c2,c3,c4,c5,e3]
theorem ZH {x:Ins} {s t g:Shp} {lo hi:Int} {ok:Bool} (hs:okS s) (ht:okS t) (he:ZP x=(t,[],g,ok)) (hok:ok=true↔(lo≤x.n∧x.n≤hi)) :
 ZF x.n (ZB s) [⟨lo,hi,ZB t,ZB g⟩]=(Zv x s).map ZB:=by
 simp only [ZF,Z4d hs ht,Zv,he]
 by_cases c1:ok=true
 have c1':=hok.1 c1
 by_cases c2:t.length≤s.length∧s.drop (s.length - t.length)=t∧(s.take (s.length - t.length)++g).length≤16
 rw [if_pos ⟨c1',c2⟩,if_pos ⟨c1,c2.1,.inl c2.2.1,c2.2.2⟩];rfl
 rw [if_neg (fun h=>c2 h.2),if_neg (fun h=>c2 ⟨h.2.1,h.2.2.1.elim id (fun h=>absurd rfl h.1),h.2.2.2⟩)];rfl
 rw [if_neg (fun h=>c1 (hok.2 h.1)),if_neg (fun h=>c1 h.1)];rfl
theorem Z4N {x:Ins} {s t u g:Shp} (hs:okS s) (ht:okS t) (hu:okS u) (htu:t.length=u.length) (hu0:u≠[]) (he:ZP x=(t,u,g,decide (x.n=0))) :
 ZF x.n (ZB s) [⟨0,0,ZB t,ZB g⟩,⟨0,0,ZB u,ZB g⟩]=(Zv x s).map ZB:=by
 simp only [ZF,Z4d hs ht,Z4d hs hu,Zv,he,← htu]
 have hr:(0≤x.n∧x.n≤0)↔x.n=0:=by omega
 by_cases c1:x.n=0<;>by_cases c2:t.length≤s.length<;>by_cases c3:s.drop (s.length - t.length)=t<;>by_cases c4:s.drop (s.length - t.length)=u<;>by_cases c5:(s.take (s.length - t.length)++g).length≤16<;>simp only [hr,c1,c2,c3,c4,c5,hu0,ne_eq,not_false_eq_true,true_and,and_true,or_true,true_or,and_self,false_and,and_false,or_false,decide_true,decide_false,if_true,if_false,Option.map_some,Ybb,XE,Yak]
 all_goals (first|done|rfl|(split<;>simp_all)|simp_all)
theorem Z5X {x:Ins} {s t:Shp} {lo hi:Int} (hs:okS s) (ht:okS t) (he:ZP x=(t,[],[],true)) :
 ZF x.n (ZB s) [⟨lo,hi,ZB t,ZB []⟩]=if ¬ (lo≤x.n∧x.n≤hi) then none else (Zv x s).map ZB:=by
 simp only [ZF,Z4d hs ht,Zv,he]
 by_cases c1:lo≤x.n∧x.n≤hi
 rw [if_neg (Classical.not_not.2 c1)]
 by_cases c2:t.length≤s.length∧s.drop (s.length - t.length)=t∧(s.take (s.length - t.length)++[]).length≤16
 rw [if_pos ⟨c1,c2⟩,if_pos ⟨trivial,c2.1,.inl c2.2.1,c2.2.2⟩];rfl
 rw [if_neg (fun h=>c2 h.2),if_neg (fun h=>c2 ⟨h.2.1,h.2.2.1.elim id (fun h=>absurd rfl h.1),h.2.2.2⟩)];rfl
 rw [if_pos c1,if_neg (fun h=>c1 h.1)]
theorem ZpI {n:Int} {s:Shp} {a z:Nat} (hs:okS s):ZF n (ZB s) (ZA ⟨1,n⟩ a z)=(Zv ⟨1,n⟩ s).map ZB:=
 ZH (x:=⟨1,n⟩) (t:=[]) (g:=[1]) (lo:=-2147483647) (hi:=2147483647) hs (by intro k hk;simp at hk) rfl (by simp)
theorem ZpJ {n:Int} {s:Shp} {a z:Nat} (hs:okS s):ZF n (ZB s) (ZA ⟨2,n⟩ a z)=(Zv ⟨2,n⟩ s).map ZB:=
 ZH (x:=⟨2,n⟩) (t:=[]) (g:=[2]) (lo:=0) (hi:=1) hs (by intro k hk;simp at hk) rfl (by simp;omega)
theorem ZpK {n:Int} {s:Shp} {a z:Nat} (hs:okS s):ZF n (ZB s) (ZA ⟨3,n⟩ a z)=(Zv ⟨3,n⟩ s).map ZB:=
 ZH (x:=⟨3,n⟩) (t:=[]) (g:=[3]) (lo:=0) (hi:=3652058) hs (by intro k hk;simp at hk) rfl (by simp)
theorem ZpL {n:Int} {s:Shp} {a z:Nat} (hs:okS s):ZF n (ZB s) (ZA ⟨4,n⟩ a z)=(Zv ⟨4,n⟩ s).map ZB:=by
 by_cases hr:0≤n∧n<7
 have hn:n=0∨n=1∨n=2∨n=3∨n=4∨n=5∨n=6:=by omega
 rcases hn with rfl|rfl|rfl|rfl|rfl|rfl|rfl
 exact ZH (x:=⟨4,0⟩) (t:=[]) (g:=[3]) (lo:=0) (hi:=6) hs (by intro k hk;simp at hk) rfl (by simp)
 exact ZH (x:=⟨4,1⟩) (t:=[]) (g:=[3]) (lo:=0) (hi:=6) hs (by intro k hk;simp at hk) rfl (by simp)
 exact ZH (x:=⟨4,2⟩) (t:=[]) (g:=[1]) (lo:=0) (hi:=6) hs (by intro k hk;simp at hk) rfl (by simp)
 exact ZH (x:=⟨4,3⟩) (t:=[]) (g:=[1]) (lo:=0) (hi:=6) hs (by intro k hk;simp at hk) rfl (by simp)
 exact ZH (x:=⟨4,4⟩) (t:=[]) (g:=[1]) (lo:=0) (hi:=6) hs (by intro k hk;simp at hk) rfl (by simp)
 exact ZH (x:=⟨4,5⟩) (t:=[]) (g:=[1]) (lo:=0) (hi:=6) hs (by intro k hk;simp at hk) rfl (by simp)
 exact ZH (x:=⟨4,6⟩) (t:=[]) (g:=[1]) (lo:=0) (hi:=6) hs (by intro k hk;simp at hk) rfl (by simp)
 have e1:ZA ⟨4,n⟩ a z=[]:=if_neg hr
 have e2:Zv ⟨4,n⟩ s=none:=if_neg (fun h=>hr (of_decide_eq_true h.1))
 rw [e1,e2];rfl
theorem ZpM {n:Int} {s:Shp} {a z:Nat} (hs:okS s):ZF n (ZB s) (ZA ⟨5,n⟩ a z)=(Zv ⟨5,n⟩ s).map ZB:=
 ZH (x:=⟨5,n⟩) (t:=[1,1]) (g:=[1]) (lo:=0) (hi:=0) hs (by intro k hk;simp at hk;omega) rfl (by simp;omega)
theorem ZpN {n:Int} {s:Shp} {a z:Nat} (hs:okS s):ZF n (ZB s) (ZA ⟨6,n⟩ a z)=(Zv ⟨6,n⟩ s).map ZB:=
 ZH (x:=⟨6,n⟩) (t:=[1,1]) (g:=[1]) (lo:=0) (hi:=0) hs (by intro k hk;simp at hk;omega) rfl (by simp;omega)
theorem ZpO {n:Int} {s:Shp} {a z:Nat} (hs:okS s):ZF n (ZB s) (ZA ⟨7,n⟩ a z)=(Zv ⟨7,n⟩ s).map ZB:=
 ZH (x:=⟨7,n⟩) (t:=[1,1]) (g:=[1]) (lo:=0) (hi:=0) hs (by intro k hk;simp at hk;omega) rfl (by simp;omega)
theorem ZpP {n:Int} {s:Shp} {a z:Nat} (hs:okS s):ZF n (ZB s) (ZA ⟨8,n⟩ a z)=(Zv ⟨8,n⟩ s).map ZB:=
 ZH (x:=⟨8,n⟩) (t:=[1]) (g:=[1]) (lo:=0) (hi:=0) hs (by intro k hk;simp at hk;omega) rfl (by simp;omega)
theorem ZpQ {n:Int} {s:Shp} {a z:Nat} (hs:okS s):ZF n (ZB s) (ZA ⟨9,n⟩ a z)=(Zv ⟨9,n⟩ s).map ZB:=
 Z4N (x:=⟨9,n⟩) (t:=[1,1]) (u:=[3,3]) (g:=[2]) hs (by intro k hk;simp at hk;omega) (by intro k hk;simp at hk;omega) rfl (by simp) rfl
theorem Znl {n:Int} {s:Shp} {a z:Nat} (hs:okS s):ZF n (ZB s) (ZA ⟨10,n⟩ a z)=(Zv ⟨10,n⟩ s).map ZB:=
 Z4N (x:=⟨10,n⟩) (t:=[1,1]) (u:=[3,3]) (g:=[2]) hs (by intro k hk;simp at hk;omega) (by intro k hk;simp at hk;omega) rfl (by simp) rfl
theorem Znm {n:Int} {s:Shp} {a z:Nat} (hs:okS s):ZF n (ZB s) (ZA ⟨11,n⟩ a z)=(Zv ⟨11,n⟩ s).map ZB:=
 Z4N (x:=⟨11,n⟩) (t:=[1,1]) (u:=[3,3]) (g:=[2]) hs (by intro k hk;simp at hk;omega) (by intro k hk;simp at hk;omega) rfl (by simp) rfl
theorem Znn {n:Int} {s:Shp} {a z:Nat} (hs:okS s):ZF n (ZB s) (ZA ⟨12,n⟩ a z)=(Zv ⟨12,n⟩ s).map ZB:=
 ZH (x:=⟨12,n⟩) (t:=[2]) (g:=[2]) (lo:=0) (hi:=0) hs (by intro k hk;simp at hk;omega) rfl (by simp;omega)
theorem Zno {n:Int} {s:Shp} {a z:Nat} (hs:okS s):ZF n (ZB s) (ZA ⟨13,n⟩ a z)=if ¬ ((a:Int)+1≤n∧n≤(z:Int) - 1) then none else (Zv ⟨13,n⟩ s).map ZB:=
 Z5X (x:=⟨13,n⟩) (t:=[]) (lo:=(a:Int)+1) (hi:=(z:Int) - 1) hs (by intro k hk;simp at hk) rfl
theorem Znp {n:Int} {s:Shp} {a z:Nat} (hs:okS s):ZF n (ZB s) (ZA ⟨14,n⟩ a z)=if ¬ ((a:Int)+1≤n∧n≤(z:Int) - 1) then none else (Zv ⟨14,n⟩ s).map ZB:=
 Z5X (x:=⟨14,n⟩) (t:=[2]) (lo:=(a:Int)+1) (hi:=(z:Int) - 1) hs (by intro k hk;simp at hk;omega) rfl
theorem Znq {n:Int} {s:Shp} {a z:Nat} (hs:okS s):ZF n (ZB s) (ZA ⟨15,n⟩ a z)=(Zv ⟨15,n⟩ s).map ZB:=
 ZH (x:=⟨15,n⟩) (t:=[3,1]) (g:=[3]) (lo:=0) (hi:=0) hs (by intro k hk;simp at hk;omega) rfl (by simp;omega)
theorem Znr {n:Int} {s:Shp} {a z:Nat} (hs:okS s):ZF n (ZB s) (ZA ⟨16,n⟩ a z)=(Zv ⟨16,n⟩ s).map ZB:=
 ZH (x:=⟨16,n⟩) (t:=[3,1]) (g:=[3]) (lo:=0) (hi:=0) hs (by intro k hk;simp at hk;omega) rfl (by simp;omega)
theorem Zns {n:Int} {s:Shp} {a z:Nat} (hs:okS s):ZF n (ZB s) (ZA ⟨17,n⟩ a z)=(Zv ⟨17,n⟩ s).map ZB:=
 ZH (x:=⟨17,n⟩) (t:=[3,1]) (g:=[3]) (lo:=0) (hi:=0) hs (by intro k hk;simp at hk;omega) rfl (by simp;omega)
theorem Znt {n:Int} {s:Shp} {a z:Nat} (hs:okS s):ZF n (ZB s) (ZA ⟨18,n⟩ a z)=(Zv ⟨18,n⟩ s).map ZB:=
 ZH (x:=⟨18,n⟩) (t:=[3,1]) (g:=[3]) (lo:=0) (hi:=0) hs (by intro k hk;simp at hk;omega) rfl (by simp;omega)
theorem Znu {n:Int} {s:Shp} {a z:Nat} (hs:okS s):ZF n (ZB s) (ZA ⟨19,n⟩ a z)=(Zv ⟨19,n⟩ s).map ZB:=
 ZH (x:=⟨19,n⟩) (t:=[3]) (g:=[3]) (lo:=0) (hi:=0) hs (by intro k hk;simp at hk;omega) rfl (by simp;omega)
theorem Znv {n:Int} {s:Shp} {a z:Nat} (hs:okS s):ZF n (ZB s) (ZA ⟨20,n⟩ a z)=(Zv ⟨20,n⟩ s).map ZB:=
 ZH (x:=⟨20,n⟩) (t:=[3]) (g:=[3]) (lo:=0) (hi:=0) hs (by intro k hk;simp at hk;omega) rfl (by simp;omega)
theorem Znw {n:Int} {s:Shp} {a z:Nat} (hs:okS s):ZF n (ZB s) (ZA ⟨21,n⟩ a z)=(Zv ⟨21,n⟩ s).map ZB:=
 ZH (x:=⟨21,n⟩) (t:=[3,3]) (g:=[3]) (lo:=0) (hi:=0) hs (by intro k hk;simp at hk;omega) rfl (by simp;omega)
theorem Znx {n:Int} {s:Shp} {a z:Nat} (hs:okS s):ZF n (ZB s) (ZA ⟨22,n⟩ a z)=(Zv ⟨22,n⟩ s).map ZB:=
 ZH (x:=⟨22,n⟩) (t:=[3,3]) (g:=[3]) (lo:=0) (hi:=0) hs (by intro k hk;simp at hk;omega) rfl (by simp;omega)
theorem Zny {n:Int} {s:Shp} {a z:Nat} (hs:okS s):ZF n (ZB s) (ZA ⟨23,n⟩ a z)=(Zv ⟨23,n⟩ s).map ZB:=
 ZH (x:=⟨23,n⟩) (t:=[3,3]) (g:=[1]) (lo:=0) (hi:=0) hs (by intro k hk;simp at hk;omega) rfl (by simp;omega)
theorem Znz {n:Int} {s:Shp} {a z:Nat} (hs:okS s):ZF n (ZB s) (ZA ⟨24,n⟩ a z)=(Zv ⟨24,n⟩ s).map ZB:=
 ZH (x:=⟨24,n⟩) (t:=[]) (g:=[]) (lo:=0) (hi:=0) hs (by intro k hk;simp at hk) rfl (by simp;omega)
theorem Zbf {op n:Int} {a z:Nat} (h:¬ (1≤op∧op≤24)):ZA ⟨op,n⟩ a z=[]:=by
 have h1:∀ k:Int,1≤k→k≤24→¬ op=k:=fun k h1 h2 e=>h (by omega)
 simp only [ZA]
 rw [if_neg (h1 1 (by decide) (by decide))]
 rw [if_neg (h1 2 (by decide) (by decide))]
 rw [if_neg (h1 3 (by decide) (by decide))]
 rw [if_neg (h1 4 (by decide) (by decide))]
 rw [if_neg (not_or.2 ⟨h1 5 (by decide) (by decide),(not_or.2 ⟨h1 6 (by decide) (by decide),(h1 7 (by decide) (by decide))⟩)⟩)]
 rw [if_neg (h1 8 (by decide) (by decide))]
 rw [if_neg (not_or.2 ⟨h1 9 (by decide) (by decide),(not_or.2 ⟨h1 10 (by decide) (by decide),(h1 11 (by decide) (by decide))⟩)⟩)]
 rw [if_neg (h1 12 (by decide) (by decide))]
 rw [if_neg (h1 13 (by decide) (by decide))]
 rw [if_neg (h1 14 (by decide) (by decide))]
 rw [if_neg (not_or.2 ⟨h1 15 (by decide) (by decide),(not_or.2 ⟨h1 16 (by decide) (by decide),(not_or.2 ⟨h1 17 (by decide) (by decide),(h1 18 (by decide) (by decide))⟩)⟩)⟩)]
 rw [if_neg (not_or.2 ⟨h1 19 (by decide) (by decide),(h1 20 (by decide) (by decide))⟩)]
 rw [if_neg (not_or.2 ⟨h1 21 (by decide) (by decide),(h1 22 (by decide) (by decide))⟩)]
 rw [if_neg (h1 23 (by decide) (by decide))]
 rw [if_neg (h1 24 (by decide) (by decide))]
theorem Zeb {op n:Int} (h:¬ (1≤op∧op≤24)):ZP ⟨op,n⟩=([],[],[],false):=by
 have h1:∀ k:Int,1≤k→k≤24→¬ op=k:=fun k h1 h2 e=>h (by omega)
 simp only [ZP]
 rw [if_neg (h1 1 (by decide) (by decide))]
 rw [if_neg (h1 2 (by decide) (by decide))]
 rw [if_neg (h1 3 (by decide) (by decide))]
 rw [if_neg (h1 4 (by decide) (by decide))]
 rw [if_neg (h1 13 (by decide) (by decide))]
 rw [if_neg (h1 14 (by decide) (by decide))]
 rw [if_neg (not_or.2 ⟨h1 5 (by decide) (by decide),(not_or.2 ⟨h1 6 (by decide) (by decide),(h1 7 (by decide) (by decide))⟩)⟩)]
 rw [if_neg (h1 8 (by decide) (by decide))]
 rw [if_neg (not_or.2 ⟨h1 9 (by decide) (by decide),(not_or.2 ⟨h1 10 (by decide) (by decide),(h1 11 (by decide) (by decide))⟩)⟩)]
 rw [if_neg (h1 12 (by decide) (by decide))]
 rw [if_neg (not_or.2 ⟨h1 15 (by decide) (by decide),(not_or.2 ⟨h1 16 (by decide) (by decide),(not_or.2 ⟨h1 17 (by decide) (by decide),(h1 18 (by decide) (by decide))⟩)⟩)⟩)]
 rw [if_neg (not_or.2 ⟨h1 19 (by decide) (by decide),(h1 20 (by decide) (by decide))⟩)]
 rw [if_neg (not_or.2 ⟨h1 21 (by decide) (by decide),(h1 22 (by decide) (by decide))⟩)]
 rw [if_neg (h1 23 (by decide) (by decide))]
 rw [if_neg (h1 24 (by decide) (by decide))]
theorem Z5Y {x:Ins} {s:Shp} {a z:Nat} (hs:okS s) :
 Z1D x a z (ZB s)=if (x.op=13∨x.op=14)∧¬ ((a:Int)+1≤x.n∧x.n≤(z:Int) - 1) then none else (Zv x s).map ZB:=by
 obtain ⟨op,n⟩:=x
 unfold Z1D
 by_cases hr:1≤op∧op≤24
 have hn:op=1∨op=2∨op=3∨op=4∨op=5∨op=6∨op=7∨op=8∨op=9∨op=10∨op=11∨op=12∨op=13∨op=14∨op=15∨op=16∨op=17∨op=18∨op=19∨op=20∨op=21∨op=22∨op=23∨op=24:=by omega
 rcases hn with rfl|rfl|rfl|rfl|rfl|rfl|rfl|rfl|rfl|rfl|rfl|rfl|rfl|rfl|rfl|rfl|rfl|rfl|rfl|rfl|rfl|rfl|rfl|rfl
 rw [if_neg (by simp)];exact ZpI hs
 rw [if_neg (by simp)];exact ZpJ hs
 rw [if_neg (by simp)];exact ZpK hs
 rw [if_neg (by simp)];exact ZpL hs
 rw [if_neg (by simp)];exact ZpM hs
 rw [if_neg (by simp)];exact ZpN hs
 rw [if_neg (by simp)];exact ZpO hs
 rw [if_neg (by simp)];exact ZpP hs
 rw [if_neg (by simp)];exact ZpQ hs
 rw [if_neg (by simp)];exact Znl hs
 rw [if_neg (by simp)];exact Znm hs
 rw [if_neg (by simp)];exact Znn hs
 simp only [true_or,true_and];exact Zno hs
 simp only [or_true,true_and];exact Znp hs
 rw [if_neg (by simp)];exact Znq hs
 rw [if_neg (by simp)];exact Znr hs
 rw [if_neg (by simp)];exact Zns hs
 rw [if_neg (by simp)];exact Znt hs
 rw [if_neg (by simp)];exact Znu hs
 rw [if_neg (by simp)];exact Znv hs
 rw [if_neg (by simp)];exact Znw hs
 rw [if_neg (by simp)];exact Znx hs
 rw [if_neg (by simp)];exact Zny hs
 rw [if_neg (by simp)];exact Znz hs
 rw [if_neg (fun h=>by have:=h.1;dsimp only at this;omega)]
 have e2:Zv ⟨op,n⟩ s=none:=by
  unfold Zv
  rw [Zeb hr]
  exact if_neg (fun h=>by cases h.1)
 dsimp only
 rw [Zbf hr,e2];rfl
def Z4e (st:List (Option Shp)):Prop:=∀ s,some s∈st→okS s
theorem Z3j (st:List (Option Shp)) {i:Nat} (h:i<st.length):(st.map Z1X).getD i []=Z1X (st.getD i none):=by simp [List.getD,h]
theorem Z3k {st:List (Option Shp)} {t:Int} {nx:Shp} (hst:Z4e st) (hn:okS nx) (h0:0≤t) (h1:t<st.length) :
 Zc5 (st.map Z1X) t (ZB nx)=(JE st t nx).map (List.map Z1X):=by
 obtain ⟨k,rfl⟩:∃ k:Nat,t=(k:Int):=⟨t.toNat,by omega⟩
 have hk:k<st.length:=by omega
 unfold Zc5 JE
 rw [if_pos (show 0≤(k:Int)∧(k:Int)<(st.length:Int) from ⟨h0,h1⟩),Yal,Z3j st hk]
 have hg:st.getD k none=st[k]:=by simp [List.getD,hk]
 rw [hg]
 cases hs:st[k] with
 | none=>
   rw [if_neg (by simp [Z1X])]
   simp [List.map_set,Z1X]
 | some s0=>
   have hs0:okS s0:=hst s0 (by rw [← hs];exact Xf hk)
   by_cases he:s0=nx
   subst he
   rw [if_neg (by simp [Z1X])]
   simp only [if_true,Option.map_some,Xh]
   refine YaD (by simp) (fun j h1 h2=>?_)
   rw [List.getElem_set]
   split
   rename_i hj;subst hj;simp [hs,Z1X]
   rfl
   rw [if_pos ⟨by simp only [Z1X];exact Z7T s0,fun h=>he (Z5V hs0 hn h)⟩]
   simp [he]
theorem Zc7 (x:Ins):okS (ZP x).2.2.1:=by
 obtain ⟨op,n⟩:=x
 by_cases hr:1≤op∧op≤24
 have hn:op=1∨op=2∨op=3∨op=4∨op=5∨op=6∨op=7∨op=8∨op=9∨op=10∨op=11∨op=12∨op=13∨op=14∨op=15∨op=16∨op=17∨op=18∨op=19∨op=20∨op=21∨op=22∨op=23∨op=24:=by omega
 rcases hn with rfl|rfl|rfl|rfl|rfl|rfl|rfl|rfl|rfl|rfl|rfl|rfl|rfl|rfl|rfl|rfl|rfl|rfl|rfl|rfl|rfl|rfl|rfl|rfl
 intro k hk;simp [ZP] at hk;omega
 intro k hk;simp [ZP] at hk;omega
 intro k hk;simp [ZP] at hk;omega
 show okS [if n=0∨n=1 then 3 else 1]
 intro k hk;simp at hk;subst hk;split<;>simp
 intro k hk;simp [ZP] at hk;omega
 intro k hk;simp [ZP] at hk;omega
 intro k hk;simp [ZP] at hk;omega
 intro k hk;simp [ZP] at hk;omega
 intro k hk;simp [ZP] at hk;omega
 intro k hk;simp [ZP] at hk;omega
 intro k hk;simp [ZP] at hk;omega
 intro k hk;simp [ZP] at hk;omega
 intro k hk;simp [ZP] at hk
 intro k hk;simp [ZP] at hk
 intro k hk;simp [ZP] at hk;omega
 intro k hk;simp [ZP] at hk;omega
 intro k hk;simp [ZP] at hk;omega
 intro k hk;simp [ZP] at hk;omega
 intro k hk;simp [ZP] at hk;omega
 intro k hk;simp [ZP] at hk;omega
 intro k hk;simp [ZP] at hk;omega
 intro k hk;simp [ZP] at hk;omega
 intro k hk;simp [ZP] at hk;omega
 intro k hk;simp [ZP] at hk
 rw [Zeb hr];intro k hk;simp at hk
theorem Zbg {x:Ins} {s nx:Shp} (hs:okS s) (h:Zv x s=some nx):okS nx:=by
 unfold Zv at h
 dsimp only at h
 split at h
 cases h;exact Zgf (Ze9 hs _) (Zc7 x)
 cases h
theorem Z2Z {st st':List (Option Shp)} {t:Int} {nx:Shp} (hst:Z4e st) (hn:okS nx) (h:JE st t nx=some st'):Z4e st':=by
 unfold JE at h
 split at h
 split at h
 split at h
 cases h;exact hst
 cases h
 cases h
 intro s hs
 rcases YaF hs with h|h
 exact hst s h
 cases h;exact hn
 cases h
theorem Zgg {st st':List (Option Shp)} {i:Nat} {x:Ins} (hst:Z4e st) (h:Z0Q st i x=some st'):Z4e st'∧st'.length=st.length:=by
 unfold Z0Q at h
 split at h
 cases h
 rename_i s hs
 have hs0:okS s:=by
  refine hst s ?_
  have hi:i<st.length:=Nat.lt_of_not_le fun hle=>by simp [List.getD,Nat.not_lt.2 hle] at hs
  have:st.getD i none=st[i]:=by simp [List.getD,hi]
  rw [← hs,this];exact Xf hi
 split at h
 cases h
 rename_i nx hn
 have hnx:=Zbg hs0 hn
 split at h
 split at h
 cases h;exact ⟨hst,rfl⟩
 cases h
 split at h
 split at h
 exact ⟨Z2Z hst hnx h,JU h⟩
 cases h
 split at h
 split at h
 obtain ⟨s1,h1,h2⟩:=XX.1 h
 exact ⟨Z2Z (Z2Z hst hnx h1) hnx h2,by rw [JU h2,JU h1]⟩
 cases h
 exact ⟨Z2Z hst hnx h,JU h⟩
theorem Zbh {st:List (Option Shp)} (hst:Z4e st) {i:Nat} {s:Shp} (hi:i<st.length) (h:st.getD i none=some s):okS s:=by
 refine hst s ?_
 have:st.getD i none=st[i]:=by simp [List.getD,hi]
 rw [← h,this];exact Xf hi
theorem Z1E {st:List (Option Shp)} {t:Int} {nx:Shp} (h:¬ t<st.length):JE st t nx=none:=if_neg (fun h'=>h h'.2)
theorem Zgh {st:List (Option Shp)} {i:Nat} {x:Ins} (hst:Z4e st) (hi:i+1<st.length):Z2K (st.map Z1X) i x=(Z0Q st i x).map (List.map Z1X):=by
 unfold Z2K Z0Q
 rw [Z3j st (by omega),Yab]
 cases hs:st.getD i none with
 | none=>
   dsimp only [Z1X]
   cases Z1D x i st.length [63] with
   | none=>rfl
   | some nx=>simp
 | some s=>
   have hs0:=Zbh hst (by omega) hs
   rw [show Z1X (some s)=ZB s from rfl,Z5Y hs0]
   dsimp only
   cases hn:Zv x s with
   | none=>rw [Ybb,ite_self];rfl
   | some nx=>
     have hnx:=Zbg hs0 hn
     have hne:=Z7T s
     dsimp only [Option.map_some]
     by_cases h24:x.op=24
     rw [if_neg (by omega),if_pos h24,if_neg (by omega)]
     dsimp only
     rw [if_pos (Or.inr (fun h=>by have:=h.1 h24;omega))]
     rfl
     have hiff:¬ (ZB s=[63]∨¬ (x.op=24↔i+1=st.length)):=by
      rintro (h|h)
      exact hne h
      exact h ⟨fun h=>absurd h h24,fun h=>by omega⟩
     by_cases h13:x.op=13
     rw [if_neg h24,if_pos h13]
     by_cases hb:(i:Int)+1≤x.n∧x.n≤(st.length:Int) - 1
     rw [if_neg (fun h=>h.2 hb)]
     dsimp only
     rw [if_neg hiff,if_pos (by omega),Z3B,if_pos (.inl h13),if_neg (by omega)]
     simp only [XI,Z4c]
     rw [Z3k hst hnx (by omega) (by omega)]
     cases JE st x.n nx<;>rfl
     rw [if_pos ⟨.inl h13,hb⟩]
     dsimp only
     by_cases h:x.n > i
     rw [if_pos h,Z1E (by omega)];rfl
     rw [if_neg h];rfl
     by_cases h14:x.op=14
     rw [if_neg h24,if_neg h13,if_pos h14]
     by_cases hb:(i:Int)+1≤x.n∧x.n≤(st.length:Int) - 1
     · rw [if_neg (fun h=>h.2 hb)]
       dsimp only
       rw [if_neg hiff,if_pos (by omega),Z3B,if_pos (.inr h14),if_pos ⟨h13,hi⟩]
       simp only [XN,XL,Z4c]
       rw [Z3k hst hnx (by omega) (by omega)]
       cases hr:JE st x.n nx with
       | none=>rfl
       | some st1=>
         dsimp only [Option.map_some,Option.bind_some]
         have hl:=JU hr
         rw [Z3k (Z2Z hst hnx hr) hnx (by omega) (by omega)]
         cases JE st1 ((i:Int)+1) nx<;>rfl
     rw [if_pos ⟨.inr h14,hb⟩]
     dsimp only
     by_cases h:x.n > i
     rw [if_pos h,Z1E (by omega)];rfl
     rw [if_neg h];rfl
     rw [if_neg (fun h=>h.1.elim h13 h14),if_neg h24,if_neg h13,if_neg h14]
     dsimp only
     rw [if_neg hiff,Z3B,if_neg (fun h=>h.elim h13 h14),if_pos ⟨h13,hi⟩]
     simp only [XL,Z4c]
     rw [Z3k hst hnx (by omega) (by omega)]
     cases JE st ((i:Int)+1) nx<;>rfl
def Zc8 (m:Nat):Option (List (Option Shp))→Int×Int
 | none=>(0,22)
 | some st=>(((st.getD m none).getD []).headD 0,0)
theorem Zgi {st:List (Option Shp)} {i:Nat} {x:Ins} (hst:Z4e st) (hi:i+1=st.length):Zap i (Z2K (st.map Z1X) i x)=Zc8 i (Z0Q st i x):=by
 unfold Z2K Z0Q
 rw [Z3j st (by omega),Yab]
 cases hs:st.getD i none with
 | none=>
   dsimp only [Z1X]
   cases Z1D x i st.length [63] with
   | none=>rfl
   | some nx=>simp [Zap,Zc8]
 | some s=>
   have hs0:=Zbh hst (by omega) hs
   rw [show Z1X (some s)=ZB s from rfl,Z5Y hs0]
   dsimp only
   cases hn:Zv x s with
   | none=>rw [Ybb,ite_self];rfl
   | some nx=>
     dsimp only [Option.map_some]
     by_cases h24:x.op=24
     rw [if_neg (by omega),if_pos h24]
     dsimp only
     rw [if_neg (by rintro (h|h);exact Z7T s h;exact h ⟨fun _=>hi,fun _=>h24⟩),Z3B,if_neg (by omega),if_neg (by omega)]
     simp only [XL,Z4c,Zap,Z3j st (show i<st.length by omega),hs,Z1X]
     rcases s with _|⟨k,_|⟨k',r⟩⟩
     simp [ZB,Zc8]
     rcases hs0 k (by simp) with rfl|rfl|rfl<;>simp [ZB,tyB,Zc8,hi]<;>rw [← Xt,hs]<;>rfl
     simp [ZB,Zc8]
     refine Eq.trans (b:=((0:Int),(22:Int))) ?_ ?_
     · generalize (if (x.op=13∨x.op=14)∧¬ ((i:Int)+1≤x.n∧x.n≤(st.length:Int) - 1) then none else some (ZB nx))=o
       cases o with
       | none=>rfl
       | some nx=>dsimp only;rw [if_pos (Or.inr (fun h=>h24 (h.2 hi)))];rfl
     rw [if_neg h24]
     by_cases h13:x.op=13
     rw [if_pos h13]
     by_cases h:x.n > i
     rw [if_pos h,Z1E (by omega)];rfl
     rw [if_neg h];rfl
     by_cases h14:x.op=14
     rw [if_neg h13,if_pos h14]
     by_cases h:x.n > i
     rw [if_pos h,Z1E (by omega)];rfl
     rw [if_neg h];rfl
     rw [if_neg h13,if_neg h14,Z1E (by omega)];rfl
theorem Z7U {code:List Ins} {st0:List (Option Shp)} (h0:Z4e st0):∀ k st,Z3N code k st0=some st→Z4e st∧st.length=st0.length
 | 0,st,h=>by cases h;exact ⟨h0,rfl⟩
 | k + 1, st, h => by
   obtain ⟨s1,h1,h2⟩:=XX.1 h
   obtain ⟨a,b⟩:=Z7U h0 k s1 h1
   obtain ⟨c,d⟩:=Zgg a h2
   exact ⟨c,by omega⟩
theorem Zec {code:List Ins} {st0:List (Option Shp)} (h0:Z4e st0):∀ k,k+1≤st0.length→Z4M code k (st0.map Z1X)=(Z3N code k st0).map (List.map Z1X)
 | 0,_=>rfl
 | k + 1, hk => by
   rw [Z4M,Z3N,Zec h0 k (by omega)]
   cases h:Z3N code k st0 with
   | none=>rfl
   | some st=>
     obtain ⟨a,b⟩:=Z7U h0 k st h
     exact Zgh a (by omega)
theorem ZkR (code:List Ins):Zc6 code=Z2u code:=by
 unfold Zc6 Z2u
 by_cases hl:code.length=0∨code.length > 200
 rw [if_pos hl,if_pos hl]
 rw [if_neg hl,if_neg hl]
 obtain ⟨m,hm⟩:∃ m,code.length=m+1:=⟨code.length - 1,by omega⟩
 rw [hm,Yav]
 have h0:Z4e ((some []) :: List.replicate m none):=by
  intro s hs
  simp at hs
  subst hs
  intro k hk;cases hk
 have e0:([]:Str) :: List.replicate m [63]=((some []) :: List.replicate m none).map Z1X:=by simp [Z1X,ZB]
 have key:Zap m (Z4M code (m+1) ([] :: List.replicate m [63]))=Zc8 m (Z3N code (m+1) ((some []) :: List.replicate m none)):=by
  rw [e0,Z4M,Z3N,Zec h0 m (by simp)]
  cases h:Z3N code m ((some []) :: List.replicate m none) with
  | none=>rfl
  | some st=>
    obtain ⟨a,b⟩:=Z7U h0 m st h
    exact Zgi a (by simp at b;omega)
 exact key
theorem ZkS {st st':List (Option Shp)} {i:Nat} {x:Ins} (h0:∀ s,some s∈st→s.length≤16) (h:Z0Q st i x=some st'):∀ s,some s∈st'→s.length≤16:=by
 have hr:∀ {st st':List (Option Shp)} {t:Int} {nx:Shp},(∀ s,some s∈st→s.length≤16)→nx.length≤16→JE st t nx=some st'→∀ s,some s∈st'→s.length≤16:=by
  intro st st' t nx hst hn h
  unfold JE at h
  split at h
  split at h
  split at h
  cases h;exact hst
  cases h
  cases h
  intro s hs
  rcases YaF hs with h|h
  exact hst s h
  cases h;exact hn
  cases h
 have hn:∀ {s nx:Shp},Zv x s=some nx→nx.length≤16:=by
  intro s nx h
  unfold Zv at h
  dsimp only at h
  split at h
  rename_i hc
  cases h;exact hc.2.2.2
  cases h
 unfold Z0Q at h
 split at h
 cases h
 split at h
 cases h
 rename_i nx hn'
 have hnx:=hn hn'
 split at h
 split at h
 cases h;exact h0
 cases h
 split at h
 split at h
 exact hr h0 hnx h
 cases h
 split at h
 split at h
 obtain ⟨s1,h1,h2⟩:=XX.1 h
 exact hr (hr h0 hnx h1) hnx h2
 cases h
 exact hr h0 hnx h
def ZkT (o:Option Str):Value:=.tuple #[str (o.getD []),.bool o.isSome]
theorem Zaq (x:Ins) (a z:Nat):∀ r∈ZA x a z,r.t.length≤2∧r.g.length≤1:=by
 obtain ⟨op,n⟩:=x
 by_cases hr:1≤op∧op≤24
 · have hn:op=1∨op=2∨op=3∨op=4∨op=5∨op=6∨op=7∨op=8∨op=9∨op=10∨op=11∨op=12∨op=13∨op=14∨op=15∨op=16∨op=17∨op=18∨op=19∨op=20∨op=21∨op=22∨op=23∨op=24:=by omega
   rcases hn with rfl|rfl|rfl|rfl|rfl|rfl|rfl|rfl|rfl|rfl|rfl|rfl|rfl|rfl|rfl|rfl|rfl|rfl|rfl|rfl|rfl|rfl|rfl|rfl
   case inr.inr.inr.inl=>
    intro r h
    have h':r∈(if 0≤n∧n<7 then [(⟨0,6,[],Z2Y.getD n.toNat []⟩:RwT)] else []):=h
    split at h'
    rename_i hc
    have hn:n=0∨n=1∨n=2∨n=3∨n=4∨n=5∨n=6:=by omega
    simp only [Xp] at h'
    subst h'
    rcases hn with rfl|rfl|rfl|rfl|rfl|rfl|rfl<;>decide
    cases h'
   all_goals (intro r h;simp [ZA] at h;first|(subst h;exact ⟨by first|decide|simp,by first|decide|simp⟩)|(rcases h with rfl|rfl<;>exact ⟨by decide,by decide⟩))
 rw [Zbf hr];intro r h;cases h
theorem Zc9 (x:Ins) (i z:Nat) (sh:Str) (w:World) (hi:i≤100000) (hz:z≤100000) (hsh:sh.length≤1000) :
 CC 55 #[agg x,.int .i64 (i:Int),.int .i64 (z:Int),str sh] w fun r w'=>r=ZkT (Z1D x i z sh)∧Stp [] w w':=by
 refine cW4 85 Tryz.func55 ?_
 refine W ?_
 refine Z1 (Zo rfl) rfl ?_
 rintro _ w1 ⟨b,rfl,hb,hblk,hS⟩
 replace hblk:Blk w1 b _ [.int .i64 x.op,.int .i64 x.n]:=hblk
 refine W ?_
 refine CL rfl (ZE rfl rfl rfl) rfl (Ze8 [] x i z _ hi hz (by simp)) ?_
 rintro lv w2 ⟨sl,hS2⟩
 replace hblk:=hblk.up hS2
 replace hS:=hS.trans hS2
 clear hS2
 have hsm:=Zaq x i z
 have hA:Z1D x i z sh=ZF x.n sh (ZA x i z):=rfl
 generalize ZA x i z=l at *
 have hmax:=sl.max
 refine W ?_
 refine Zr (σ:=Nat) (fun j=>[(3,str sh),(4,.pointer (some ⟨b,0,none⟩)),(10,lv),(11,.int .i64 (j:Int))]) (fun j w'=>j≤l.length∧Stp [] w2 w'∧ZF x.n sh l=ZF x.n sh (l.drop j)) (fun j=>l.length - j) 0 ⟨rfl,rfl,rfl,rfl,trivial⟩ ⟨Xo _,Stp.refl _ _,rfl⟩ ?_
 rintro j w3 ⟨hj,hS3,heq⟩
 try dsimp only at hj heq ⊢
 replace hblk:=hblk.up hS3
 replace sl:=sl.up hS3
 by_cases hlt:j<l.length
 case neg=>
  repeat'(first|refine W1 ?_|omega|refine VG ?_ ?_<;>intro hg|refine VC ?_ ?_<;>intro hc)
  refine WR ?_
  refine .mk ⟨?_,hS.trans hS3⟩
  rw [hA,heq,Yaf (by omega)];rfl
 obtain ⟨st,sg⟩:=hsm _ (Xf hlt)
 have hd:l.drop j=l[j] :: l.drop (j+1):=XG hlt
 repeat'(first|refine W1 ?_|omega|refine VG ?_ ?_<;>intro hg|refine VC ?_ ?_<;>intro hc)
 refine ZDr 44 [] [] [(0,0),(1,1),(2,0),(3,0),(4,0),(5,0),(6,1),(7,0),(8,0),(9,0),(10,1),(11,0),(12,0),(13,0),(14,0),(15,1),(16,0),(17,0),(18,0),(19,0),(20,0),(21,0),(22,0),(23,0),(24,0),(25,0),(26,0),(27,0),(28,0),(29,0),(30,1),(31,0),(32,0),(33,0),(34,0),(35,0),(36,0),(37,0),(38,0),(39,1),(40,0),(41,0),(42,0),(43,0)] (fun w1 hS1=>?_)
 replace hblk:=hblk.up hS1
 replace sl:=sl.up hS1
 replace hS3:=hS3.trans hS1
 by_cases hr:l[j].lo≤x.n∧x.n≤l[j].hi∧l[j].t.length≤sh.length
 case neg=>
  have hrow:ZF x.n sh l=ZF x.n sh (l.drop (j+1)):=by
   rw [heq,hd,ZF,Z95,if_neg (fun h=>hr ⟨h.1,h.2.1,h.2.2.1⟩)]
  repeat'(first|refine D1 ?_|omega|refine J6 rfl rfl rfl rfl (fun hg=>?_) (fun hg=>?_)|(refine ZX rfl rfl rfl rfl (fun hg=>?_) (fun hg=>?_)<;>refine D1 ?_)|fail)
  all_goals (repeat'(first|refine W1 ?_|omega|refine VG ?_ ?_<;>intro hg|refine VC ?_ ?_<;>intro hc))
  all_goals exact Zg (j+1) ⟨rfl,rfl,rfl,rfl,trivial⟩ ⟨hlt,hS3,hrow⟩ (Yap hlt (Yas j))
 have hkk:(sh.length:Int) - (l[j].t.length:Int)=((sh.length - l[j].t.length:Nat):Int):=by omega
 have hrow:ZF x.n sh l=if sh.drop (sh.length - l[j].t.length)=l[j].t∧sh.length - l[j].t.length+l[j].g.length≤16 then some (sh.take (sh.length - l[j].t.length)++l[j].g) else ZF x.n sh (l.drop (j+1)):=by
  rw [heq,hd,ZF,Z95]
  by_cases hc:sh.drop (sh.length - l[j].t.length)=l[j].t∧sh.length - l[j].t.length+l[j].g.length≤16
  rw [if_pos ⟨hr.1,hr.2.1,hr.2.2,hc⟩,if_pos hc]
  rw [if_neg (fun h=>hc h.2.2.2),if_neg hc]
 obtain ⟨hr1,hr2,hr3⟩:=hr
 repeat'(first|refine D1 ?_|omega|refine J6 rfl rfl rfl rfl (fun hg=>?_) (fun hg=>?_)|(refine ZX rfl rfl rfl rfl (fun hg=>?_) (fun hg=>?_)<;>refine D1 ?_)|fail)
 refine Z5d rfl rfl rfl rfl hkk (by omega) rfl ?_
 by_cases he:sh.drop (sh.length - l[j].t.length)=l[j].t∧sh.length - l[j].t.length+l[j].g.length≤16
 · rw [if_pos he] at hrow
   obtain ⟨he1,he2⟩:=he
   repeat'(first|refine D1 ?_|omega|refine J6 rfl rfl rfl rfl (fun hg=>?_) (fun hg=>?_)|(refine ZX rfl rfl rfl rfl (fun hg=>?_) (fun hg=>?_)<;>refine D1 ?_)|fail)
   all_goals (repeat'(first|refine W1 ?_|omega|refine VG ?_ ?_<;>intro hg|refine VC ?_ ?_<;>intro hc))
   refine ZDr 11 [] [] [(0,0),(1,0),(2,0),(3,0),(4,0),(5,0),(6,0),(7,1),(8,0),(9,0),(10,0)] (fun w1 hS1=>?_)
   replace hblk:=hblk.up hS1
   replace sl:=sl.up hS1
   replace hS3:=hS3.trans hS1
   have hadd:(sh.take (sh.length - l[j].t.length)).length+l[j].g.length≤9223372036854775807:=by simp;omega
   refine D ?_
   refine Z8M rfl trivial rfl rfl hkk (by omega) rfl ?_
   refine D ?_
   refine W ?_
   refine WR ?_
   exact .mk ⟨by rw [hA,hrow];rfl,hS.trans hS3⟩
   exact absurd he1 (by assumption)
 · rw [if_neg he] at hrow
   repeat'(first|refine D1 ?_|omega|refine J6 rfl rfl rfl rfl (fun hg=>?_) (fun hg=>?_)|(refine ZX rfl rfl rfl rfl (fun hg=>?_) (fun hg=>?_)<;>refine D1 ?_)|fail)
   all_goals (repeat'(first|refine W1 ?_|omega|refine VG ?_ ?_<;>intro hg|refine VC ?_ ?_<;>intro hc))
   exact absurd ⟨by assumption,by omega⟩ he
   all_goals exact Zg (j+1) ⟨rfl,rfl,rfl,rfl,trivial⟩ ⟨hlt,hS3,hrow⟩ (Yap hlt (Yas j))
theorem Zed (a b c:Str) (w:World):(Instr.buildSlice 119 3 #[(0,str a),(1,str b),(2,str c)]).run Tryz.prog w=.ok (.slice (some ⟨w.heap.size,0,none⟩) 3 3) (w.alloc (.cells #[str a,str b,str c] 9)):=by kernel_rfl
abbrev RwS (w w':World) (v:Value) (xs:List Str):Prop:=J8 9 w w' v xs
theorem Z96 {x:Ins} {i z:Nat} {sh nx:Str} (h:Z1D x i z sh=some nx) (hx:x.op=13∨x.op=14):(i:Int)+1≤x.n∧x.n≤(z:Int) - 1:=by
 have key:∀ {n lo hi:Int} {t g:Str},ZF n sh [⟨lo,hi,t,g⟩]=some nx→lo≤n∧n≤hi:=by
  intro n lo hi t g h
  unfold ZF Z95 at h
  by_cases hc:lo≤n∧n≤hi∧t.length≤sh.length∧sh.drop (sh.length - t.length)=t∧sh.length - t.length+g.length≤16
  exact ⟨hc.1,hc.2.1⟩
  dsimp only at h
  rw [if_neg hc] at h
  cases h
 obtain ⟨op,n⟩:=x
 rcases hx with hx|hx<;>(dsimp only at hx;subst hx)
 exact key (show ZF n sh [⟨(i:Int)+1,(z:Int) - 1,[],[]⟩]=some nx from h)
 exact key (show ZF n sh [⟨(i:Int)+1,(z:Int) - 1,[98],[]⟩]=some nx from h)
theorem Zca {x:Ins} {i z:Nat} {sh nx:Str} (h:Z1D x i z sh=some nx):nx.length≤16:=by
 unfold Z1D at h
 generalize ZA x i z=l at h
 induction l with
 | nil=>cases h
 | cons r l ih=>
   unfold ZF at h
   cases hr:Z95 x.n sh r with
   | none=>rw [hr] at h;exact ih h
   | some s=>
     rw [hr] at h
     cases h
     unfold Z95 at hr
     split at hr
     rename_i hc
     cases hr
     simp;omega
     cases hr
theorem Z6X {code:List Ins} {st0:List Str} {k:Nat} (h:Z4M code k st0=none):∀ m,k≤m→Z4M code m st0=none
 | 0, hm => by
   obtain rfl:k=0:=by omega
   exact h
 | m + 1, hm => by
   by_cases hk:k=m+1
   subst hk;exact h
   rw [Z4M,Z6X h m (by omega)];rfl
theorem cls (s:Str):idx (isS s) [[110],[98],[100]]=if s=[110] then 0 else if s=[98] then 1 else if s=[100] then 2 else -1:=by
 by_cases h1:s=[110]
 subst h1;rfl
 by_cases h2:s=[98]
 subst h2;rfl
 by_cases h3:s=[100]
 subst h3;rfl
 rw [if_neg h1,if_neg h2,if_neg h3]
 have e1:decide (([110]:Str)=s)=false:=decide_eq_false (fun h=>h1 h.symm)
 have e2:decide (([98]:Str)=s)=false:=decide_eq_false (fun h=>h2 h.symm)
 have e3:decide (([100]:Str)=s)=false:=decide_eq_false (fun h=>h3 h.symm)
 simp [idx,isS,Yau,e1,e2,e3]
theorem Z97 (v:Value) (code:List Ins) (w:World) (hs:SlV [] w v code) :
 CC 19 #[v] w fun r w'=>r=.tuple #[.int .i64 (Z2u code).1,.int .i64 (Z2u code).2]∧Stp [] w w':=by
 have hmax:=hs.max
 rw [← ZkR]
 refine cW1 158 Tryz.func19 ?_
 refine W ?_
 by_cases h0:code.length=0∨code.length > 200
 · have hM:Zc6 code=(0,22):=if_pos h0
   repeat'(first|refine W1 ?_|omega|refine VG ?_ ?_<;>intro hg|refine VC ?_ ?_<;>intro hc)
   all_goals
    refine WR ?_
    exact .mk ⟨by rw [hM],Stp.refl _ _⟩
 repeat'(first|refine W1 ?_|omega|refine VG ?_ ?_<;>intro hg|refine VC ?_ ?_<;>intro hc)
 have hn0:0<code.length:=by omega
 have hn200:code.length≤200:=by omega
 refine Z1 (Z0 (vs:=[(0,str [])]) rfl (Z5R _)) rfl ?_
 rintro s0 w1 hN
 have hr:RwS w w1 s0 [[]]:=J8.one hN rfl rfl (by simp [maxLen])
 clear hN
 refine W ?_
 refine Zr (σ:=Nat×Value) (fun q=>[(0,v),(2,.int .i64 0),(3,.int .i64 0),(4,q.2),(5,.int .i64 (q.1:Int))]) (fun q w'=>1≤q.1∧q.1≤code.length∧RwS w w' q.2 ([] :: List.replicate (q.1 - 1) [63])) (fun q=>code.length - q.1) (1,s0) ⟨rfl,rfl,rfl,rfl,rfl,trivial⟩ ⟨Xl _,hn0,hr⟩ ?_
 clear hr
 rintro ⟨k,sv⟩ w2 ⟨hk1,hk,hr⟩
 try dsimp only at hk1 hk hr ⊢
 have hs2:=hs.up hr.2
 by_cases hlt:k<code.length
 focus repeat'(first|refine W1 ?_|omega|refine VG ?_ ?_<;>intro hg|refine VC ?_ ?_<;>intro hc)
 refine Z1 (Z0 (vs:=[(0,str [63])]) rfl (Z5R _)) rfl ?_
 rintro u w3 hN
 have hu:SlV (ob sv) w3 u [[(63:UInt8)]]:=hN.slv (fun b hb=>(hr.ob_le b hb).2) rfl rfl (by simp [maxLen])
 replace hr:=hr.up (Z5.stp hN)
 clear hN
 refine Z1 (Jp rfl (by decide) rfl rfl hr hu (by simp;omega) (by simp [maxLen];omega)) rfl ?_
 rintro v' w4 ⟨hr',-,-⟩
 refine W ?_
 refine Zg (k+1,v') ⟨rfl,rfl,rfl,rfl,rfl,trivial⟩ ⟨by dsimp only;omega,hlt,?_⟩ (by dsimp only;omega)
 obtain ⟨j,rfl⟩:∃ j,k=j+1:=⟨k - 1,by omega⟩
 simpa [List.replicate_succ'] using hr'
 obtain rfl:k=code.length:=by omega
 generalize hst0:([] :: List.replicate (code.length - 1) [63]:List Str)=st0 at *
 have hlen0:st0.length=code.length:=by rw [← hst0];simp;omega
 have h160:∀ s∈st0,s.length≤16:=by
  intro s h
  rw [← hst0] at h
  simp at h
  rcases h with rfl|⟨_,rfl⟩<;>simp
 have hverR:Zc6 code=Zap (code.length - 1) (Z4M code code.length st0):=by
  rw [← hst0];exact if_neg h0
 clear hst0
 repeat'(first|refine W1 ?_|omega|refine VG ?_ ?_<;>intro hg|refine VC ?_ ?_<;>intro hc)
 refine Zr (σ:=Nat×List Str) (fun q=>[(0,v),(4,sv),(6,.int .i64 (q.1:Int))])
  (fun q w'=>q.1≤code.length∧Z4M code q.1 st0=some q.2∧RwS w w' sv q.2∧q.2.length=code.length∧(∀ s∈q.2,s.length≤16)) (fun q=>code.length - q.1) (0,st0) ⟨rfl,rfl,rfl,trivial⟩ ⟨Xo _,rfl,hr,hlen0,h160⟩ ?_
 clear hr hs2
 rintro ⟨i,strs⟩ w3 ⟨hi,hrun,hr,hlen,h16⟩
 try dsimp only at hi hrun hr hlen h16 ⊢
 have hs3:=hs.up hr.2
 have hsl:=hr.1.slv0
 by_cases hlt:i<code.length
 case neg=>
  obtain rfl:i=code.length:=by omega
  obtain ⟨m,hm⟩:∃ m,code.length=m+1:=⟨code.length - 1,by omega⟩
  have hml:m<strs.length:=by omega
  have hkk:(code.length:Int) - 1=(m:Int):=by omega
  repeat'(first|refine W1 ?_|omega|refine VG ?_ ?_<;>intro hg|refine VC ?_ ?_<;>intro hc)
  refine Z1 (Z0 (vs:=[(0,str [110]),(1,str [98]),(2,str [100])]) rfl (Zed _ _ _)) rfl ?_
  rintro u w4 hN
  have hu:SlV [] w4 u ([[110],[98],[100]]:List Str):=hN.slv (by simp) rfl rfl (by simp [maxLen])
  have hS4:=Z5.stp hN
  clear hN
  replace hs3:=hs3.up hS4
  replace hsl:=hsl.up hS4
  replace hr:=hr.up hS4
  refine W ?_
  refine CL rfl (Zb rfl rfl) rfl (Z1N [] _ _ strs[m] _ hu) ?_
  rintro _ w5 ⟨rfl,hS5⟩
  have hv:Zc6 code=if strs[m]=[110] then (1,0) else if strs[m]=[98] then (2,0) else if strs[m]=[100] then (3,0) else (0,22):=by
   rw [hverR,hrun,hm]
   have e:strs.getD m []=strs[m]:=by simp [List.getD,hml]
   simp only [Zap,Yav,e]
  rw [cls]
  by_cases c1:strs[m]=[110]
  rw [if_pos c1] at hv ⊢
  focus repeat'(first|refine W1 ?_|omega|refine VG ?_ ?_<;>intro hg|refine VC ?_ ?_<;>intro hc)
  refine WR ?_
  exact .mk ⟨by rw [hv];rfl,(hr.up hS5).2⟩
  rw [if_neg c1] at hv ⊢
  by_cases c2:strs[m]=[98]
  rw [if_pos c2] at hv ⊢
  focus repeat'(first|refine W1 ?_|omega|refine VG ?_ ?_<;>intro hg|refine VC ?_ ?_<;>intro hc)
  refine WR ?_
  exact .mk ⟨by rw [hv];rfl,(hr.up hS5).2⟩
  rw [if_neg c2] at hv ⊢
  by_cases c3:strs[m]=[100]
  rw [if_pos c3] at hv ⊢
  focus repeat'(first|refine W1 ?_|omega|refine VG ?_ ?_<;>intro hg|refine VC ?_ ?_<;>intro hc)
  refine WR ?_
  exact .mk ⟨by rw [hv];rfl,(hr.up hS5).2⟩
  rw [if_neg c3] at hv ⊢
  repeat'(first|refine W1 ?_|omega|refine VG ?_ ?_<;>intro hg|refine VC ?_ ?_<;>intro hc)
  refine WR ?_
  exact .mk ⟨by rw [hv],(hr.up hS5).2⟩
 have hlt':i<strs.length:=by omega
 have hcg:code.getD i ⟨0,0⟩=code[i]:=by simp [List.getD,hlt]
 have hsg:strs.getD i []=strs[i]:=by simp [List.getD,hlt']
 have hnext:Z4M code (i+1) st0=Z2K strs i code[i]:=by rw [Z4M,hrun,Option.bind_some,hcg]
 have hM:Z2K strs i code[i]=Z2K strs i code[i]:=rfl
 conv at hM=>rhs;unfold Z2K;rw [hsg,hlen]
 have hsi:=h16 _ (Xf hlt')
 have hdone:Z2K strs i code[i]=none→Zc6 code=(0,22):=fun h=>by rw [hverR,Z6X (hnext.trans h) code.length hlt];rfl
 repeat'(first|refine W1 ?_|omega|refine VG ?_ ?_<;>intro hg|refine VC ?_ ?_<;>intro hc)
 refine ZDr 17 [] [] [(0,0),(1,0),(2,0),(3,1),(4,0),(5,0),(6,0),(7,0),(8,0),(9,0),(10,1),(11,2),(12,0),(13,0),(14,0),(15,0),(16,0)] (fun w1 hS1=>?_)
 replace hs3:=hs3.up hS1
 replace hsl:=hsl.up hS1
 replace hr:=hr.up hS1
 refine D ?_
 refine Za rfl trivial (Z4 rfl (Z1e rfl rfl rfl rfl) (Zc9 code[i] i code.length strs[i] _ (by omega) (by omega) (by omega))) (fun _ _ h=>h.2) rfl ?_
 rintro _ w4 ⟨rfl,hS4⟩
 replace hs3:=hs3.up hS4
 replace hsl:=hsl.up hS4
 replace hr:=hr.up hS4
 clear hS1 hS4
 cases hA:Z1D code[i] i code.length strs[i] with
 | none=>
   have hn:Z2K strs i code[i]=none:=by rw [hM,hA]
   refine D ?_
   repeat'(first|refine W1 ?_|omega|refine VG ?_ ?_<;>intro hg|refine VC ?_ ?_<;>intro hc)
   refine WR ?_
   exact .mk ⟨by rw [hdone hn],hr.2⟩
 | some nx=>
   rw [hA] at hM
   dsimp only at hM
   have hnx:=Zca hA
   by_cases hbad:strs[i]=[63]∨¬ (code[i].op=24↔i+1=code.length)
   · rw [if_pos hbad] at hM
     refine D ?_
     repeat'(first|refine W1 ?_|omega|refine VG ?_ ?_<;>intro hg|refine VC ?_ ?_<;>intro hc)
     refine WR ?_
     exact .mk ⟨by rw [hdone hM],hr.2⟩
     refine WR ?_
     exact .mk ⟨by rw [hdone hM],hr.2⟩
     all_goals
      exfalso
      have h2:¬ ¬ decide (code[i].op=24)=decide ((i:Int)=(code.length:Int) - 1):=by assumption
      have h3:=decide_eq_decide.1 (Classical.not_not.1 h2)
      rcases hbad with h|h
      exact absurd h (by assumption)
      exact h (h3.trans (by omega))
   rw [if_neg hbad] at hM
   have hiff:code[i].op=24↔i+1=code.length:=Classical.not_not.1 (fun h=>hbad (Or.inr h))
   have hTr:∀ t∈Z3B code[i] i code.length,0≤t∧t<(code.length:Int):=by
    intro t ht
    unfold Z3B at ht
    rcases Xs.1 ht with h|h
    split at h
    rename_i hx
    have:=Z96 hA hx
    simp at h
    omega
    cases h
    split at h
    simp at h;omega
    cases h
   refine D ?_
   refine W ?_
   refine Z8B rfl rfl (fun hg=>absurd (Or.inl hg) hbad) (fun hg=>?_)
   refine W ?_
   refine Z7r rfl (fun hc=>absurd (decide_eq_decide.2 (hiff.trans (by omega))) hc) (fun hc=>?_)
   refine W ?_
   refine Z7I (σ:=Bool) (fun q=>[(0,v),(4,sv),(6,.int .i64 (i:Int)),(7,str nx),(9,.slice none 0 0),(87,.bool q)]) (fun q w'=>w'=w4∧q=decide (code[i].op=13∨code[i].op=14)) ?_ ?_
   focus repeat'(first|refine W1 ?_|omega|refine VG ?_ ?_<;>intro hg|refine VC ?_ ?_<;>intro hc)
   exact ZO true ⟨rfl,rfl,rfl,rfl,rfl,rfl,trivial⟩ ⟨rfl,by simp [*]⟩
   exact ZO _ ⟨rfl,rfl,rfl,rfl,rfl,rfl,trivial⟩ ⟨rfl,by simp [*]⟩
   rintro q w5 ⟨rfl,hq⟩
   try dsimp only
   refine Z2k (σ:=Value) (fun tv=>[(0,v),(4,sv),(6,.int .i64 (i:Int)),(7,str nx),(9,tv)]) (fun tv w'=>RwZ w5 w' tv (if code[i].op=13∨code[i].op=14 then [code[i].n] else [])) ?_ ?_
   by_cases hx:code[i].op=13∨code[i].op=14
   rw [if_pos hx]
   rw [decide_eq_true hx] at hq
   subst hq
   refine W ?_
   refine Z1 (Z0 (vs:=[(0,.int .i64 code[i].n)]) rfl (Jg _)) rfl ?_
   rintro u w6 hN
   have hu:SlV [] w6 u [code[i].n]:=hN.slv (by simp) rfl rfl (by simp [maxLen])
   have h0:RwZ w5 w6 (.slice none 0 0) []:=(J8.nil).up (Z5.stp hN)
   clear hN
   refine Z1 (Jp rfl (by decide) rfl rfl h0 hu (by simp) (by simp [maxLen])) rfl ?_
   rintro v' w7 ⟨hr',-,-⟩
   refine W ?_
   exact ZO v' ⟨rfl,rfl,rfl,rfl,rfl,trivial⟩ hr'
   rw [if_neg hx]
   rw [decide_eq_false hx] at hq
   subst hq
   refine W ?_
   exact ZO (.slice none 0 0) ⟨rfl,rfl,rfl,rfl,rfl,trivial⟩ J8.nil
   rintro tv w6 hrt
   try dsimp only at hrt ⊢
   have hs6:=hs3.up hrt.2
   refine W ?_
   refine Z7I (σ:=Bool) (fun q=>[(0,v),(4,sv),(6,.int .i64 (i:Int)),(7,str nx),(9,tv),(108,.bool q)]) (fun q w'=>w'=w6∧q=decide (code[i].op≠13∧i+1<code.length)) ?_ ?_
   by_cases hx:code[i].op=13
   focus repeat'(first|refine W1 ?_|omega|refine VG ?_ ?_<;>intro hg|refine VC ?_ ?_<;>intro hc)
   exact ZO _ ⟨rfl,rfl,rfl,rfl,rfl,rfl,trivial⟩ ⟨rfl,by simp [hx]⟩
   focus repeat'(first|refine W1 ?_|omega|refine VG ?_ ?_<;>intro hg|refine VC ?_ ?_<;>intro hc)
   exact ZO _ ⟨rfl,rfl,rfl,rfl,rfl,rfl,trivial⟩ ⟨rfl,by simp only [ne_eq,hx,not_false_eq_true,true_and];exact decide_eq_decide.2 (by omega)⟩
   rintro q w7 ⟨rfl,hq⟩
   try dsimp only
   refine Z2k (σ:=Value) (fun tv=>[(0,v),(4,sv),(6,.int .i64 (i:Int)),(7,str nx),(9,tv)]) (fun tv w'=>RwZ w5 w' tv (Z3B code[i] i code.length)) ?_ ?_
   unfold Z3B
   have hT1:(if code[i].op=13∨code[i].op=14 then [code[i].n] else []).length≤1:=by split<;>simp
   generalize (if code[i].op=13∨code[i].op=14 then [code[i].n] else [])=T1 at *
   by_cases hx:code[i].op≠13∧i+1<code.length
   rw [if_pos hx]
   rw [decide_eq_true hx] at hq
   subst hq
   refine W ?_
   refine Z1 (Z0 (vs:=[(0,.int .i64 ((i:Int)+1))]) rfl (Jg _)) rfl ?_
   rintro u w6 hN
   have hu:SlV (ob tv) w6 u [(i:Int)+1]:=hN.slv (fun b hb=>(hrt.ob_le b hb).2) rfl rfl (by simp [maxLen])
   have h0:=hrt.up (Z5.stp hN)
   clear hN
   refine Z1 (Jp rfl (by decide) rfl rfl h0 hu (by simp;omega) (by simp [maxLen];omega)) rfl ?_
   rintro v' w8 ⟨hr',-,-⟩
   refine W ?_
   exact ZO v' ⟨rfl,rfl,rfl,rfl,rfl,trivial⟩ hr'
   rw [if_neg hx,XI]
   rw [decide_eq_false hx] at hq
   subst hq
   refine W ?_
   exact ZO tv ⟨rfl,rfl,rfl,rfl,rfl,trivial⟩ hrt
   clear hrt hs6
   rintro tv w6 hrt
   try dsimp only at hrt ⊢
   generalize Z3B code[i] i code.length=T at *
   have hTm:=(hrt.1.slv0).max
   have hst:SlV (ob sv) w6 tv T:=hrt.slv (fun b hb=>(hr.ob_le b hb).2)
   have hr6:RwS w w6 sv strs:=hr.up hrt.2
   clear hsl hq
   refine W ?_
   refine Zr (σ:=Nat×List Str) (fun q=>[(0,v),(4,sv),(6,.int .i64 (i:Int)),(7,str nx),(9,tv),(10,.int .i64 (q.1:Int))])
    (fun q w'=>q.1≤T.length∧Z4c nx T strs=Z4c nx (T.drop q.1) q.2∧RwS w w' sv q.2∧q.2.length=code.length∧(∀ s∈q.2,s.length≤16)∧SlV (ob sv) w' tv T) (fun q=>T.length - q.1) (0,strs) ⟨rfl,rfl,rfl,rfl,rfl,rfl,trivial⟩ ⟨Xo _,rfl,hr6,hlen,h16,hst⟩ ?_
   rintro ⟨k,st⟩ w8 ⟨hk,hse,hr8,hl8,h168,hst8⟩
   try dsimp only at hk hse hr8 hl8 h168 hst8 ⊢
   have hsl8:=hr8.1.slv0
   by_cases hkt:k<T.length
   case neg=>
    rw [Yaf (by omega)] at hse
    repeat'(first|refine W1 ?_|omega|refine VG ?_ ?_<;>intro hg|refine VC ?_ ?_<;>intro hc)
    exact Zg (i+1,st) ⟨rfl,rfl,rfl,trivial⟩ ⟨hlt,hnext.trans (hM.trans hse),hr8,hl8,h168⟩ (Yap hlt (Yas i))
   obtain ⟨ht0,ht1⟩:=hTr _ (Xf hkt)
   have hd:T.drop k=T[k] :: T.drop (k+1):=XG hkt
   rw [hd,Z4c] at hse
   obtain ⟨q,hqz⟩:∃ q:Nat,T[k]=(q:Int):=⟨T[k].toNat,by omega⟩
   have hql:q<st.length:=by omega
   have hgd:st.getD (T[k]).toNat []=st[q]:=by rw [hqz];simp [List.getD,hql]
   by_cases hbad2:st[q]≠[63]∧st[q]≠nx
   · have hn:Z2K strs i code[i]=none:=by
      rw [hM,hse,Zc5,hgd,if_pos hbad2];rfl
     repeat'(first|refine W1 ?_|omega|refine VG ?_ ?_<;>intro hg|refine VC ?_ ?_<;>intro hc)
     refine WR ?_
     exact .mk ⟨by rw [hdone hn],hr8.2⟩
     all_goals (exfalso;first|exact hbad2.2 (Classical.not_not.1 (by assumption))|exact hbad2.1 (by assumption)|exact hbad2.1 (Classical.not_not.1 (by assumption)))
   · have hsr:Zc5 st T[k] nx=some (st.set q nx):=by rw [Zc5,hgd,if_neg hbad2,hqz,Yal]
     rw [hsr,Option.bind_some] at hse
     repeat'(first|refine W1 ?_|omega|refine VG ?_ ?_<;>intro hg|refine VC ?_ ?_<;>intro hc)
     exact absurd ⟨by assumption,by assumption⟩ hbad2
     all_goals
      refine Z2 (Z8T (α:=Str) (y':=nx) (u:=str nx) rfl rfl rfl rfl hr8.1 hql) ?_
      rintro _ w9 ⟨hr9',hS9⟩
      have hr9:RwS w w9 sv (st.set q nx):=⟨hr9',hr8.step hS9 (fun _ h=>h)⟩
      refine W ?_
      refine Zg (k+1,st.set q nx) ⟨rfl,rfl,rfl,rfl,rfl,rfl,trivial⟩ ⟨hkt,hse,hr9,by simpa using hl8,fun s hs=>?_,hst8.ext (X':=ob sv) hS9 (fun _ h=>h) (fun _ h=>.inl h)⟩ (Yap hkt (Yas k))
      rcases YaF hs with h|h
      exact h168 s h
      rw [h];exact hnx
end Go.Proofs.YtjdjdoefppebkaaGreatDoor
