/-
Merged by program out of own texts: Car2, Car3, Car4, Car6, Car7, Sor0, Car8, Car9, Car10, Car11, Car12, Car14, Car15, Car17, Car18, Eng23, Eng24, Psr0, Eng11, Eng15, Eng7, Eng8, Eng16, Eng17, Shl, Cmp3, Cmp4, Prn1, Nam1, Nam2, Psr1, Eng25.
-/
import Derived.Test.YtjdjdoefppebkaaGreatDoorM1
import Derived.Deep.Slices
import Derived.Deep.Fields
import Derived.ChangeSame
import Derived.Below
import Derived.Carry
import Derived.ChangeOld
import Derived.ProofKit
import Derived.OpenShut
import Derived.SizedLaws
import Derived.HandedShaped
import Derived.LaidMore
import Derived.Stop.Joined
import Derived.SevenTiedAt
import Derived.MakeChecks
import Derived.Lib.ConvBytes
import Derived.Laws.AppendOwn
import Derived.Shelf.Small.Utf8
import Derived.Shelf.Small.Bits
import Derived.Shelf.Small.Strs
import Derived.Shelf.Small.Wraps
import Derived.Shelf.Strconv.Atoi
import Derived.Shelf.Strconv.Itoa0
import Derived.Shelf.Strconv.Itoa1
import Derived.Shelf.LaysM
import Derived.Shelf.Strconv.Itoa2
import Derived.Shelf.Strconv.Itoa3
import Derived.Shelf.Strconv.AtoiErrFast
import Derived.Shelf.Strconv.ParseIntEmpty
import Derived.Shelf.Strconv.AtoiFail
import Derived.Shelf.Strconv.Clone
import Derived.Shelf.Strconv.SyntaxError
import Derived.Shelf.LaysC
import Derived.Shelf.Strconv.ToError
import Derived.Shelf.Strconv.Lower
import Derived.Shelf.Strconv.ParseUint10
import Derived.Shelf.Strconv.ParseUint10Empty
import Derived.Shelf.Strconv.ParseUint10Any
import Derived.Shelf.Strconv.ParseInt10
import Derived.Shelf.Strconv.AtoiLong
import Derived.Shelf.Strconv.AtoiInnerAll
import Derived.Shelf.Strconv.RangeError
import Derived.Shelf.Strconv.ToErrorRange
import Derived.Shelf.Strconv.AtoiAll
import Derived.Shelf.Strconv.ErrVarAll
import Derived.Shelf.Strings.Search1
import Derived.Shelf.Strings.Search2
import Derived.Shelf.Strings.Search3
import Derived.Shelf.Strings.Shaped
import Derived.Shelf.Sort.Plain
import Derived.Shelf.Strings.Prefix
import Derived.Shelf.Strings.Runes
import Derived.Shelf.Slices.Turned
import Derived.Ground.Names2Prog
import Derived.Shelf.Slices.CompactI
import Derived.Shelf.Slices.SearchI
import Derived.Shelf.Slices.Cells
import Derived.Shelf.Slices.In.SortNone
import Derived.Test.YtjdjdoefppebkaaGreatDoorProg
import Derived.Laws.RangeString
import Derived.Laws.RangeAny
set_option linter.unusedVariables false
set_option linter.unusedSimpArgs false
namespace Go.Proofs.YtjdjdoefppebkaaGreatDoor
open Go Go.Eng Go.RowKit
theorem Z3H (g:Nat) (fn:Func) [Fun Tryz.prog g fn] (lb:Array Value) (p:Pap→Bool) (X:List Nat) (v:Value) (xs:List Pap) (w:World) (hs:SlV X w v xs) (hp:Z3c Tryz.prog g lb p w) :
 CC 71 #[v,.func (.func g) #[] lb] w fun r w'=>r=.int .i64 (idx p xs)∧Stp [] w w':=by
 refine cW2 8 Tryz.func71 ?_
 refine W ?_
 refine CL rfl (Zb rfl rfl) rfl (Z8t g fn lb p X v xs w hs hp) ?_
 rintro _ w2 ⟨rfl,hS2⟩
 refine W ?_
 refine WR ?_
 exact .mk ⟨rfl,hS2⟩
theorem Z9g (g:Nat) (fn:Func) [Fun Tryz.prog g fn] (lb:Array Value) (p:Wy→Bool) (X:List Nat) (v:Value) (xs:List Wy) (w:World) (hs:SlV X w v xs) (hp:Z3c Tryz.prog g lb p w) :
 CC 65 #[v,.func (.func g) #[] lb] w fun r w'=>r=.int .i64 (idx p xs)∧Stp [] w w':=by
 refine cW2 8 Tryz.func65 ?_
 refine W ?_
 refine CL rfl (Zb rfl rfl) rfl (Zbg g fn lb p X v xs w hs hp) ?_
 rintro _ w2 ⟨rfl,hS2⟩
 refine W ?_
 refine WR ?_
 exact .mk ⟨rfl,hS2⟩
theorem Z6A (g:Nat) (fn:Func) [Fun Tryz.prog g fn] (lb:Array Value) (p:Dlv→Bool) (X:List Nat) (v:Value) (xs:List Dlv) (w:World) (hs:SlV X w v xs) (hp:Z3c Tryz.prog g lb p w) :
 CC 73 #[v,.func (.func g) #[] lb] w fun r w'=>r=.int .i64 (idx p xs)∧Stp [] w w':=by
 refine cW2 8 Tryz.func73 ?_
 refine W ?_
 refine CL rfl (Zb rfl rfl) rfl (Z2B g fn lb p X v xs w hs hp) ?_
 rintro _ w2 ⟨rfl,hS2⟩
 refine W ?_
 refine WR ?_
 exact .mk ⟨rfl,hS2⟩
theorem Zhc (b T:Nat) (p:Pap) (w:World) (hb:Blk w b T (Z5.enc p)):Z3c Tryz.prog 221 #[.pointer (some ⟨b,0,none⟩)] (fun x:Pap=>decide (x.attempt=p.attempt)) w:=by
 intro x w1 hS
 have hb:=hb.up hS
 show Calls _ _ #[agg x,.pointer (some ⟨b,0,none⟩)] _ _
 refine cW2 9 Tryz.func221 ?_
 refine W ?_
 refine Z0 (Zl rfl) rfl ?_
 rintro _ w2 ⟨c,rfl,hc,hblk,hS2⟩
 have hb:=hb.up hS2
 refine W ?_
 refine WR ?_
 exact .mk ⟨rfl,hS2⟩
theorem Zhd (b T:Nat) (p:Wy) (w:World) (hb:Blk w b T (Z5.enc p)):Z3c Tryz.prog 222 #[.pointer (some ⟨b,0,none⟩)] (fun x:Pap=>decide (x.attempt=p.attempt)) w:=by
 intro x w1 hS
 have hb:=hb.up hS
 show Calls _ _ #[agg x,.pointer (some ⟨b,0,none⟩)] _ _
 refine cW2 9 Tryz.func222 ?_
 refine W ?_
 refine Z0 (Zl rfl) rfl ?_
 rintro _ w2 ⟨c,rfl,hc,hblk,hS2⟩
 have hb:=hb.up hS2
 refine W ?_
 refine WR ?_
 exact .mk ⟨rfl,hS2⟩
theorem Zhe (b T:Nat) (p:Wy) (w:World) (hb:Blk w b T (Z5.enc p)):Z3c Tryz.prog 223 #[.pointer (some ⟨b,0,none⟩)] (fun x:Wy=>decide (x.attempt=p.attempt)) w:=by
 intro x w1 hS
 have hb:=hb.up hS
 show Calls _ _ #[agg x,.pointer (some ⟨b,0,none⟩)] _ _
 refine cW2 9 Tryz.func223 ?_
 refine W ?_
 refine Z0 (Zl rfl) rfl ?_
 rintro _ w2 ⟨c,rfl,hc,hblk,hS2⟩
 have hb:=hb.up hS2
 refine W ?_
 refine WR ?_
 exact .mk ⟨rfl,hS2⟩
theorem Zjj (b T:Nat) (p:Pap) (w:World) (hb:Blk w b T (Z5.enc p)):Z3c Tryz.prog 66 #[.pointer (some ⟨b,0,none⟩)] (fun x:Wy=>decide (x.attempt=p.attempt)) w:=by
 intro x w1 hS
 have hb:=hb.up hS
 show Calls _ _ #[agg x,.pointer (some ⟨b,0,none⟩)] _ _
 refine cW2 9 Tryz.func66 ?_
 refine W ?_
 refine Z0 (Zl rfl) rfl ?_
 rintro _ w2 ⟨c,rfl,hc,hblk,hS2⟩
 have hb:=hb.up hS2
 refine W ?_
 refine WR ?_
 exact .mk ⟨rfl,hS2⟩
theorem Zjk (b T:Nat) (z:Int) (w:World) (hb:Blk w b T [.int .i64 z]):Z3c Tryz.prog 72 #[.pointer (some ⟨b,0,none⟩)] (fun x:Pap=>decide (x.attempt=z)) w:=by
 intro x w1 hS
 have hb:=hb.up hS
 show Calls _ _ #[agg x,.pointer (some ⟨b,0,none⟩)] _ _
 refine cW2 8 Tryz.func72 ?_
 refine W ?_
 refine Z0 (Zl rfl) rfl ?_
 rintro _ w2 ⟨c,rfl,hc,hblk,hS2⟩
 have hb:=hb.up hS2
 refine W ?_
 refine WR ?_
 exact .mk ⟨rfl,hS2⟩
theorem Zjl (b1 b2 b3 T1 T2 T3:Nat) (z:Int) (k:Nat) (X:List Nat) (v:Value) (ps:List Pap) (w:World) (h1:Blk w b1 T1 [.int .i64 z]) (h2:Blk w b2 T2 [v]) (h3:Blk w b3 T3 [.int .i64 (k:Int)]) (hs:SlV X w v ps) (hk:k<ps.length) :
 Z3c Tryz.prog 74 #[.pointer (some ⟨b1,0,none⟩),.pointer (some ⟨b2,0,none⟩),.pointer (some ⟨b3,0,none⟩)] (fun x:Dlv=>decide (x.attempt=z∧x.party=ps[k].party)) w:=by
 intro x w1 hS
 show Calls _ _ #[agg x,.pointer (some ⟨b1,0,none⟩),.pointer (some ⟨b2,0,none⟩),.pointer (some ⟨b3,0,none⟩)] _ _
 refine cW4 20 Tryz.func74 ?_
 refine W ?_
 refine Z0 (Zl rfl) rfl ?_
 rintro _ w2 ⟨c,rfl,hc,hblk,hS2⟩
 have hS:=hS.trans hS2
 refine W ?_
 refine ZDr 15 [] [] [(0,0),(1,1),(2,1),(3,0),(4,0),(5,0),(6,1),(7,1),(8,1),(9,0),(10,0),(11,1),(12,0),(13,0),(14,0)] (fun w1 hS1=>?_)
 have hS:=hS.trans hS1
 replace hblk:=hblk.up hS1;replace h1:=h1.up hS;replace h2:=h2.up hS;replace h3:=h3.up hS;replace hs:=hs.up hS
 repeat'(first|refine D1 ?_|omega|refine Zm rfl rfl rfl rfl (fun hg=>?_) (fun hg=>?_)|(refine Zi rfl rfl rfl rfl (fun hg=>?_) (fun hg=>?_)<;>refine D1 ?_)|fail)
 all_goals (refine W ?_)
 all_goals (refine WR ?_)
 exact .mk ⟨by simp [hg],hS2.trans hS1⟩
 exact .mk ⟨by simp [hg],hS2.trans hS1⟩
def Z9h:Option Dlv→Int×Bool
 | none=>(0,false)
 | some d=>(d.day,true)
def served (l:List Dlv) (ps:List Pap) (z:Int):Int×Bool:=
 match ps.find? (fun x=>decide (x.attempt=z)) with
 | none=>(0,false)
 | some p=>Z9h (l.find? (fun x=>decide (x.attempt=z∧x.party=p.party)))
theorem Z0j {α:Type} (p:α→Bool) (xs:List α):(idx p xs=-1∧xs.find? p=none)∨∃ k,∃ h:k<xs.length,idx p xs=(k:Int)∧xs.find? p=some xs[k]∧p xs[k]=true∧∀ j (h:j<xs.length),j<k→p xs[j]=false:=by
 cases h:xs.findIdx? p with
 | none=>exact .inl ⟨by simp [idx,h],by rw [List.findIdx?_eq_none_iff] at h;rw [List.find?_eq_none];intro x hx;simp [h x hx]⟩
 | some k=>
   have h0:=h
   rw [List.findIdx?_eq_some_iff_getElem] at h
   obtain ⟨hk,hp,hb⟩:=h
   refine .inr ⟨k,hk,by simp [idx,h0],?_,hp,fun j h hj=>by simpa using hb j hj⟩
   rw [List.find?_eq_some_iff_getElem]
   exact ⟨hp,k,hk,rfl,fun j hj=>by simpa using hb j hj⟩
theorem Z2P (X Y:List Nat) (v u:Value) (l:List Dlv) (ps:List Pap) (z:Int) (w:World) (hl:SlV X w v l) (hps:SlV Y w u ps) :
 CC 25 #[v,u,.int .i64 z] w fun r w'=>r=.tuple #[.int .i64 (served l ps z).1,.bool (served l ps z).2]∧Stp [] w w':=by
 refine cW3 25 Tryz.func25 ?_
 apply Z1c;apply Jm
 refine Z0 (ZcE rfl hps) rfl ?_
 rintro _ w1 ⟨b1,rfl,hb1,hblk1,hS1⟩
 refine Z0 (Zl rfl) rfl ?_
 rintro _ w2 ⟨b2,rfl,hb2,hblk2,hS2⟩
 replace hblk1:=hblk1.up hS2
 have hS:=hS1.trans hS2
 replace hl:=hl.up hS;replace hps:=hps.up hS
 refine W ?_
 refine CL rfl (Zb rfl rfl) rfl (Z3H _ _ _ _ _ _ _ _ hps (Zjk _ _ _ _ hblk2)) ?_
 rintro _ w3 ⟨rfl,hS3⟩
 have hS:=hS.trans hS3
 replace hl:=hl.up hS3;replace hps:=hps.up hS3;replace hblk1:=hblk1.up hS3;replace hblk2:=hblk2.up hS3
 refine Z0 Z8 rfl ?_
 rintro _ w4 ⟨b3,rfl,hb3,hblk3,hS4⟩
 refine Z1 (Z2 (us:=[.int .i64 (idx (fun x:Pap=>decide (x.attempt=z)) ps)]) rfl rfl rfl rfl (by simp [Value.oneCell']) hblk3 rfl) ?_
 rintro _ w5 ⟨hS5,hblk3⟩
 have hS5:=hS4.own hS5 (by simp;omega)
 have hS:=hS.trans hS5
 replace hl:=hl.up hS5;replace hps:=hps.up hS5;replace hblk1:=hblk1.up hS5;replace hblk2:=hblk2.up hS5
 rcases Z0j (fun x:Pap=>decide (x.attempt=z)) ps with ⟨e1,e2⟩|⟨k,hk,e1,e2,e3,e4⟩
 rw [e1] at hblk3
 refine W ?_
 refine WR ?_
 exact .mk ⟨by simp [served,e2],hS⟩
 rw [e1] at hblk3
 refine W ?_
 refine CL rfl (Zb rfl rfl) rfl (Z6A _ _ _ _ _ _ _ _ hl (Zjl _ _ _ _ _ _ _ _ _ _ _ _ hblk2 hblk1 hblk3 hps hk)) ?_
 rintro _ w6 ⟨rfl,hS6⟩
 have hS:=hS.trans hS6
 replace hl:=hl.up hS6
 have e3':(fun x:Pap=>decide (x.attempt=z)) ps[k]=true:=e3
 rcases Z0j (fun x:Dlv=>decide (x.attempt=z∧x.party=ps[k].party)) l with ⟨f1,f2⟩|⟨m,hm,f1,f2,f3,f4⟩
 rw [f1]
 refine W ?_
 refine WR ?_
 exact .mk ⟨by simp only [served,e2,f2,Z9h],hS⟩
 rw [f1]
 refine W ?_
 refine WR ?_
 exact .mk ⟨by simp only [served,e2,f2,Z9h],hS⟩
theorem Zhf (op:BinOp) (x y:Operand) (a b:Dlv) (w:World):(eqGuard op 141 x y (agg a) (agg b)).run Tryz.prog w=.ok () w:=by
 cases op<;>kernel_rfl
theorem Zlr (a b:Dlv) (w:World):(binOp .neq 141 (agg a) (agg b)).run Tryz.prog w=.ok (.bool (decide (¬ a=b))) w:=by
 have h1:Program.stoodInHeld Tryz.prog 141=false:=by kernel_rfl
 obtain ⟨a1,a2,a3⟩:=a
 obtain ⟨b1,b2,b3⟩:=b
 simp [agg,Z5.enc,run_neq_struct,run_equalIn_struct,h1,Program.fieldsOf,Tryz.underlying141,Op.eqFields,part,Und.isAgg,JA,run_equalIn_int w _ _ .i64 .i64 _ _ Tryz.underlying3]
 repeat' split
 all_goals simp_all
theorem Zhg (op:BinOp) (x y:Operand) (a b:Rpt) (w:World):(eqGuard op 145 x y (agg a) (agg b)).run Tryz.prog w=.ok () w:=by
 cases op<;>kernel_rfl
theorem Zls (a b:Rpt) (w:World):(binOp .neq 145 (agg a) (agg b)).run Tryz.prog w=.ok (.bool (decide (¬ a=b))) w:=by
 have h1:Program.stoodInHeld Tryz.prog 145=false:=by kernel_rfl
 have h2:Program.stoodInHeld Tryz.prog 143=false:=by kernel_rfl
 obtain ⟨a1,a2,a3,a4,a5,a6⟩:=a
 obtain ⟨b1,b2,b3,b4,b5,b6⟩:=b
 simp [agg,Z5.enc,run_neq_struct,run_equalIn_struct,h1,h2,Program.fieldsOf,Tryz.underlying145,Tryz.underlying143,Op.eqFields,part,Und.isAgg,Siz.run,JA,run_equalIn_int w _ _ .i64 .i64 _ _ Tryz.underlying3]
 repeat' split
 all_goals simp_all
theorem Zbh (a b c:Int) (w:World):(Instr.build 141 #[(0,.int .i64 a),(1,.int .i64 b),(2,.int .i64 c)]).run Tryz.prog w=.ok (agg (Dlv.mk a b c)) w:=by kernel_rfl
theorem Z8u (a b c d:Int) (w:World):(Instr.build 72 #[(0,.int .i64 a),(1,.int .i64 b),(2,.int .i64 c),(3,.int .i64 d)]).run Tryz.prog w=.ok (agg (Pap.mk a b c d)) w:=by kernel_rfl
theorem Zhh (a b c d:Int) (w:World):(Instr.build 137 #[(0,.int .i64 a),(1,.int .i64 b),(2,.int .i64 c),(3,.int .i64 d)]).run Tryz.prog w=.ok (agg (Wy.mk a b c d)) w:=by kernel_rfl
theorem Z7t (a b c d:Int) (w:World):(Instr.build 143 #[(0,.int .i64 a),(1,.int .i64 b),(2,.int .i64 c),(3,.int .i64 d)]).run Tryz.prog w=.ok (.agg #[.int .i64 a,.int .i64 b,.int .i64 c,.int .i64 d]) w:=by kernel_rfl
theorem Zhi (z y a b c d:Int) (w:World):(Instr.build 145 #[(0,.int .i64 z),(1,.int .i64 y),(2,.agg #[.int .i64 a,.int .i64 b,.int .i64 c,.int .i64 d])]).run Tryz.prog w=.ok (agg (Rpt.mk z y a b c d)) w:=by kernel_rfl
theorem Zbi (y a b c d:Int) (w:World):(Instr.build 145 #[(1,.int .i64 y),(2,.agg #[.int .i64 a,.int .i64 b,.int .i64 c,.int .i64 d])]).run Tryz.prog w=.ok (agg (Rpt.mk 0 y a b c d)) w:=by kernel_rfl
theorem Z2o (d:Dlv) (w:World):(Instr.buildSlice 67 1 #[(0,agg d)]).run Tryz.prog w=.ok (.slice (some ⟨w.heap.size,0,none⟩) 1 1) (w.alloc (.cells (Z5.enc d).toArray 141)):=by kernel_rfl
theorem Zd6 (d:Rpt) (w:World):(Instr.buildSlice 68 1 #[(0,agg d)]).run Tryz.prog w=.ok (.slice (some ⟨w.heap.size,0,none⟩) 1 1) (w.alloc (.cells (Z5.enc d).toArray 145)):=by kernel_rfl
theorem Z6B (d:Pap) (w:World):(Instr.buildSlice 61 1 #[(0,agg d)]).run Tryz.prog w=.ok (.slice (some ⟨w.heap.size,0,none⟩) 1 1) (w.alloc (.cells (Z5.enc d).toArray 72)):=by kernel_rfl
theorem Z4C (d:Wy) (w:World):(Instr.buildSlice 62 1 #[(0,agg d)]).run Tryz.prog w=.ok (.slice (some ⟨w.heap.size,0,none⟩) 1 1) (w.alloc (.cells (Z5.enc d).toArray 137)):=by kernel_rfl
theorem Z3I (a:Int) (w:World):(Instr.buildSlice 22 1 #[(0,.int .i64 a)]).run Tryz.prog w=.ok (.slice (some ⟨w.heap.size,0,none⟩) 1 1) (w.alloc (.cells #[.int .i64 a] 3)):=by kernel_rfl
theorem Z3J (a b:Int) (w:World):(Instr.buildSlice 22 2 #[(0,.int .i64 a),(1,.int .i64 b)]).run Tryz.prog w=.ok (.slice (some ⟨w.heap.size,0,none⟩) 2 2) (w.alloc (.cells #[.int .i64 a,.int .i64 b] 3)):=by kernel_rfl
def Z2C (ws:List Wy) (z:Int):Wy:=match ws.find? (fun x=>decide (x.attempt=z)) with|some p=>p|none=>⟨z,0,1,0⟩
theorem Zjm (X Y:List Nat) (v u:Value) (xs ys:List Dlv) (w:World) (hs:SlV X w v xs) (hu:SlV Y w u ys) :
 CC 135 #[v,u] w fun r w'=>r=.bool (decide (xs=ys))∧Stp [] w w':=by
 have hmax:=hs.max
 refine cW2 26 Tryz.func135 ?_
 repeat'(first|refine W1 ?_|refine VG ?_ ?_<;>intro hg|refine VC ?_ ?_<;>intro hc)
 refine WR ?_
 have:¬ xs=ys:=fun e=>hc (by rw [e])
 exact .mk ⟨by simp [this],Stp.refl _ _⟩
 have hl:xs.length=ys.length:=by omega
 refine Zh (σ:=Nat) (fun k=>[(0,v),(1,u),(5,.int .i64 k)]) (fun k w'=>k≤xs.length∧Stp [] w w'∧∀ j (h:j<xs.length),j<k→xs[j]=ys[j]) (fun k=>xs.length - k) 0 ⟨rfl,rfl,rfl,trivial⟩ ⟨Xo _,Stp.refl _ _,fun j _ h=>absurd h (Xs _)⟩ ?_
 rintro k w2 ⟨hk,hS2,hno⟩
 replace hs:=hs.up hS2;replace hu:=hu.up hS2
 by_cases hlt:k<xs.length
 have hlt2:k<ys.length:=by omega
 focus repeat'(first|refine W1 ?_|refine VG ?_ ?_<;>intro hg|refine VC ?_ ?_<;>intro hc)
 refine ZDr 9 [] [] [(0,0),(1,0),(2,0),(3,1),(4,0),(5,0),(6,0),(7,1),(8,0)] (fun w1 hS1=>?_)
 have hS2:=hS2.trans hS1
 replace hs:=hs.up hS1;replace hu:=hu.up hS1
 focus repeat'(first|refine D1 ?_|omega|refine Zm rfl rfl rfl rfl (fun hg=>?_) (fun hg=>?_)|(refine Zi rfl rfl rfl rfl (fun hg=>?_) (fun hg=>?_)<;>refine D1 ?_)|fail)
 refine Z9c rfl trivial rfl rfl (Zhf .neq _ _ _ _) (Zlr xs[k] ys[k]) rfl ?_
 focus repeat'(first|refine D1 ?_|omega|refine Zm rfl rfl rfl rfl (fun hg=>?_) (fun hg=>?_)|(refine Zi rfl rfl rfl rfl (fun hg=>?_) (fun hg=>?_)<;>refine D1 ?_)|fail)
 focus repeat'(first|refine W1 ?_|refine VG ?_ ?_<;>intro hg|refine VC ?_ ?_<;>intro hc)
 refine WR ?_
 have:¬ xs=ys:=fun e=>hc (by simp [e])
 exact .mk ⟨by simp [this],hS2⟩
 refine Zd (k+1) ⟨rfl,rfl,rfl,trivial⟩ ⟨by omega,hS2,fun j h hj=>?_⟩ (by omega)
 by_cases e:j=k
 subst e;simpa using hc
 exact hno j h (by omega)
 omega
 focus repeat'(first|refine W1 ?_|refine VG ?_ ?_<;>intro hg|refine VC ?_ ?_<;>intro hc)
 omega
 refine WR ?_
 have:xs=ys:=Yaq hl (fun j h1 h2=>hno j h1 (by omega))
 exact .mk ⟨by simp [this],hS2⟩
def Z24 (p:Pap) (w:Wy):Dlv:=⟨p.attempt,if w.kind=4 then w.party else p.party,p.sent+w.days⟩
def Z13 (p:Pap) (w:Wy):Bool:=decide (p.sent+w.days≤3652058∧w.kind≠1∧w.kind≠5)
def Z1Q (p:Pap) (w:Wy) (i:Int):Rpt:=⟨p.attempt,p.sent+w.days+i,p.carrier,1,p.sent+w.days,p.sent+w.days⟩
def Z0k (p:Pap) (w:Wy):List Rpt:=
 if p.sent+w.days > 3652058∨w.kind=1∨w.kind=2 then [] else if w.kind=3 then [Z1Q p w 1,Z1Q p w 2] else [Z1Q p w 1]
theorem SlV.nilC {α:Type} [Z4 α] (X:List Nat) (w:World):SlV (α:=α) X w (.slice none 0 0) []:=
 ⟨none,0,rfl,Xk _,by simp [maxLen],fun _=>rfl,fun i h=>absurd h (Xs _)⟩
def Z0f (a d:Dlv):Bool:=decide (a.day<d.day∨a.day=d.day∧a.attempt<d.attempt)
def JW (a d:Rpt):Bool:=decide (a.day<d.day∨a.day=d.day∧a.attempt<d.attempt)
def Zlt (l:List Dlv) (d:Dlv):List Dlv:=l.takeWhile (fun x=>Z0f x d)++[d]++l.dropWhile (fun x=>Z0f x d)
def Zlu (l:List Rpt) (d:Rpt):List Rpt:=l.takeWhile (fun x=>JW x d)++[d]++l.dropWhile (fun x=>JW x d)
theorem Z0l (a b:Int) (hb:0<b):0≤ZL a b∧ZL a b<b:=by
 unfold ZL
 split
 exact ⟨Yat _ (by omega),Yam _ hb⟩
 exact ⟨Yat _ (by omega),Yam _ hb⟩
def Z49 (i:Nat) (x:Int):Pap:=
 let n:=ZL x 1000000
 ⟨3 * (i:Int)+n % 3,n / 3 % 4,n / 12 % 3,739616+n / 36 % 40⟩
def ZF (l:List Int):List Pap:=(List.range (min l.length 8)).map (fun i=>Z49 i (l.getD i 0))
def Z4Y (p:Pap) (x:Int):Option Wy:=
 let n:=ZL x 1000000
 if n % 7<6 then some ⟨p.attempt,n % 7,n / 7 % 9,n / 63 % 4⟩ else none
def Z1d (ps:List Pap) (l:List Int):List Wy:=(List.range (min ps.length l.length)).filterMap (fun i=>Z4Y (ps.getD i default) (l.getD i 0))
theorem Z2D {α β:Type} (f:α→Option β) (a:α):[a].filterMap f=(f a).toList:=by
 cases h:f a<;>simp [h]
theorem Z9P (X Y:List Nat) (v:Value) (l:List Int) (w:World) (hX:∀ b∈X,b<w.heap.size) (hl:SlV Y w v l) (hi:∀ x∈l,I64 x) :
 CC 61 #[v] w fun r w'=>Row X w' w.heap.size 72 r (ZF l)∧Stp [] w w':=by
 have hmax:=hl.max
 refine cW1 41 Tryz.func61 ?_
 refine W ?_
 refine Zh (σ:=Nat×Value) (fun k=>[(0,v),(3,k.2),(4,.int .i64 k.1)]) (fun k w'=>k.1≤min l.length 8∧Stp [] w w'∧Row X w' w.heap.size 72 k.2 ((List.range k.1).map (fun i=>Z49 i (l.getD i 0)))) (fun k=>8 - k.1) (0,.slice none 0 0) ⟨rfl,rfl,rfl,trivial⟩ ⟨Xo _,Stp.refl _ _,Row.nil⟩ ?_
 rintro ⟨k,r⟩ w1 ⟨hk,hS,hrow⟩
 dsimp only at hk hS hrow ⊢
 replace hl:=hl.up hS
 have hw0:=hS.size
 by_cases hlt:k<l.length
 · repeat'(first|refine W1 ?_|refine VG ?_ ?_<;>intro hg|refine VC ?_ ?_<;>intro hc)
   have hx:=hi l[k] (Xm hlt)
   refine CL rfl (Zb rfl rfl) rfl (Z0T _ 1000000 hx (by omega) _) ?_
   rintro _ w2 ⟨rfl,hS2⟩
   replace hrow:=hrow.up hS2
   replace hS:=hS.trans hS2
   replace hw0:=hS.size
   have hp:Z49 k (l.getD k 0)=Z49 k l[k]:=by simp [List.getD,hlt]
   obtain ⟨h0,h1⟩:=Z0l l[k] 1000000 (by omega)
   have hq:Z49 k l[k]=⟨3 * (k:Int)+ZL l[k] 1000000 % 3,ZL l[k] 1000000 / 3 % 4,ZL l[k] 1000000 / 12 % 3,739616+ZL l[k] 1000000 / 36 % 40⟩:=rfl
   generalize Z49 k l[k]=pk at *
   generalize ZL l[k] 1000000=n at *
   subst hq
   refine W ?_
   apply Za (vs:=[(0,.int .i64 (3 * (k:Int)+n % 3)),(1,.int .i64 (n / 3 % 4)),(2,.int .i64 (n / 12 % 3)),(3,.int .i64 (739616+n / 36 % 40))]) rfl (Z8u _ _ _ _) rfl
   refine Z0 (Z3 (vs:=[(0,agg (Pap.mk _ _ _ _))]) rfl (Z6B _)) rfl ?_
   rintro u w3 hN
   have hv1:=hrow.ob_le
   have hSb:=hN.choose_spec.2.2.2
   replace hrow:=hrow.up hSb
   have hus:SlV (ob r++X) w3 u [Pap.mk _ _ _ _]:=hN.slv (fun b hb=>(Xt.1 hb).elim (fun h=>(hv1 b h).2) (fun h=>Xb (hX b h) hw0)) rfl rfl (by simp [maxLen])
   replace hS:=hS.trans hSb
   replace hw0:=hS.size
   refine Z0 (Jn (X:=X) (base:=w.heap.size) rfl (by decide) rfl rfl hrow hus (by simp;omega) (by simp [maxLen];omega) hw0) rfl ?_
   rintro v2 w4 ⟨hrow2,hSc,hob2⟩
   replace hS:=hS.own hSc (fun b hb=>.inr (hrow.ob_le b hb).1)
   refine W ?_
   refine Zd (k+1,v2) ⟨rfl,rfl,rfl,trivial⟩ ⟨by dsimp only;omega,hS,?_⟩ (by dsimp only;omega)
   dsimp only
   rw [Yav,Yal,List.map_singleton,hp]
   exact hrow2
   all_goals (first|omega|skip)
   all_goals (refine WR ?_)
   all_goals exact .mk ⟨by rw [ZF,show min l.length 8=k by omega];exact hrow,hS⟩
 · repeat'(first|refine W1 ?_|refine VG ?_ ?_<;>intro hg|refine VC ?_ ?_<;>intro hc)
   all_goals (first|omega|skip)
   all_goals (refine WR ?_)
   all_goals exact .mk ⟨by rw [ZF,show min l.length 8=k by omega];exact hrow,hS⟩
theorem Zd7 (X Y Z:List Nat) (v u:Value) (ps:List Pap) (l:List Int) (w:World) (hX:∀ b∈X,b<w.heap.size) (hps:SlV Z w u ps) (hl:SlV Y w v l) (hi:∀ x∈l,I64 x) (hn:ps.length≤1000) :
 CC 62 #[u,v] w fun r w'=>Row X w' w.heap.size 137 r (Z1d ps l)∧Stp [] w w':=by
 have hmax:=hl.max
 refine cW2 46 Tryz.func62 ?_
 refine W ?_
 refine Zh (σ:=Nat×Value) (fun k=>[(0,u),(1,v),(5,k.2),(6,.int .i64 k.1)]) (fun k w'=>k.1≤min ps.length l.length∧Stp [] w w'∧Row X w' w.heap.size 137 k.2 ((List.range k.1).filterMap (fun i=>Z4Y (ps.getD i default) (l.getD i 0)))) (fun k=>ps.length - k.1) (0,.slice none 0 0) ⟨rfl,rfl,rfl,rfl,trivial⟩ ⟨Xo _,Stp.refl _ _,Row.nil⟩ ?_
 rintro ⟨k,r⟩ w1 ⟨hk,hS,hrow⟩
 dsimp only at hk hS hrow ⊢
 replace hl:=hl.up hS;replace hps:=hps.up hS
 have hw0:=hS.size
 by_cases hpt:k<ps.length
 by_cases hlt:k<l.length
 · repeat'(first|refine W1 ?_|refine VG ?_ ?_<;>intro hg|refine VC ?_ ?_<;>intro hc)
   have hx:=hi l[k] (Xm hlt)
   refine CL rfl (Zb rfl rfl) rfl (Z0T _ 1000000 hx (by omega) _) ?_
   rintro _ w2 ⟨rfl,hS2⟩
   replace hrow:=hrow.up hS2
   replace hl:=hl.up hS2;replace hps:=hps.up hS2
   replace hS:=hS.trans hS2
   replace hw0:=hS.size
   have hlen:((List.range k).filterMap (fun i=>Z4Y (ps.getD i default) (l.getD i 0))).length≤k:=by
    have:=List.length_filterMap_le (fun i=>Z4Y (ps.getD i default) (l.getD i 0)) (List.range k)
    simpa using this
   obtain ⟨h0,h1⟩:=Z0l l[k] 1000000 (by omega)
   have hp:Z4Y (ps.getD k default) (l.getD k 0)=if ZL l[k] 1000000 % 7<6 then some ⟨ps[k].attempt,ZL l[k] 1000000 % 7,ZL l[k] 1000000 / 7 % 9,ZL l[k] 1000000 / 63 % 4⟩ else none:=by simp [List.getD,hlt,hpt,Z4Y]
   generalize ZL l[k] 1000000=n at *
   focus repeat'(first|refine W1 ?_|refine VG ?_ ?_<;>intro hg|refine VC ?_ ?_<;>intro hc)
   apply Za (vs:=[(0,.int .i64 ps[k].attempt),(1,.int .i64 (n % 7)),(2,.int .i64 (n / 7 % 9)),(3,.int .i64 (n / 63 % 4))]) rfl (Zhh _ _ _ _) rfl
   refine Z0 (Z3 (vs:=[(0,agg (Wy.mk _ _ _ _))]) rfl (Z4C _)) rfl ?_
   rintro u' w3 hN
   have hv1:=hrow.ob_le
   have hSb:=hN.choose_spec.2.2.2
   replace hrow:=hrow.up hSb
   have hus:SlV (ob r++X) w3 u' [Wy.mk _ _ _ _]:=hN.slv (fun b hb=>(Xt.1 hb).elim (fun h=>(hv1 b h).2) (fun h=>Xb (hX b h) hw0)) rfl rfl (by simp [maxLen])
   replace hS:=hS.trans hSb
   replace hw0:=hS.size
   refine Z0 (Jn (X:=X) (base:=w.heap.size) rfl (by decide) rfl rfl hrow hus (by simp only [Xe,Xi];omega) (by simp only [Xe,Xi,maxLen];omega) hw0) rfl ?_
   rintro v2 w4 ⟨hrow2,hSc,hob2⟩
   replace hS:=hS.own hSc (fun b hb=>.inr (hrow.ob_le b hb).1)
   refine W ?_
   refine Zd (k+1,v2) ⟨rfl,rfl,rfl,rfl,trivial⟩ ⟨by dsimp only;omega,hS,?_⟩ (by dsimp only;omega)
   dsimp only
   rw [Yav,List.filterMap_append,Z2D,hp,if_pos (by assumption)]
   exact hrow2
   refine Zd (k+1,r) ⟨rfl,rfl,rfl,rfl,trivial⟩ ⟨by dsimp only;omega,hS,?_⟩ (by dsimp only;omega)
   dsimp only
   rw [Yav,List.filterMap_append,Z2D,hp,if_neg (by assumption)]
   simpa using hrow
   all_goals (first|omega|skip)
 · repeat'(first|refine W1 ?_|refine VG ?_ ?_<;>intro hg|refine VC ?_ ?_<;>intro hc)
   all_goals (first|omega|skip)
   all_goals (refine WR ?_)
   all_goals exact .mk ⟨by rw [Z1d,show min ps.length l.length=k by omega];exact hrow,hS⟩
 · repeat'(first|refine W1 ?_|refine VG ?_ ?_<;>intro hg|refine VC ?_ ?_<;>intro hc)
   all_goals (first|omega|skip)
   all_goals (refine WR ?_)
   all_goals exact .mk ⟨by rw [Z1d,show min ps.length l.length=k by omega];exact hrow,hS⟩
theorem Zd8 (X Y Z:List Nat) (va vb:Value) (a b:List Int) (n:Int) (w:World) (hX:∀ b∈X,b<w.heap.size) (ha:SlV Y w va a) (hb:SlV Z w vb b) (hia:∀ x∈a,I64 x) (hib:∀ x∈b,I64 x) (hn:I64 n) :
 CC 22 #[.agg #[va,vb,.int .i64 n]] w fun r w'=>∃ u v,r=.tuple #[u,v,.int .i64 (739616+ZL n 60)]∧Row X w' w.heap.size 72 u (ZF a)∧SlV (ob u++X) w' v (Z1d (ZF a) b)∧Row X w' w.heap.size 137 v (Z1d (ZF a) b)∧(∀ b∈ob v,b∉ob u)∧Stp [] w w':=by
 obtain ⟨pa,ca,rfl⟩:=ha.len
 obtain ⟨pb,cb,rfl⟩:=hb.len
 refine cW1 18 Tryz.func22 ?_
 refine W ?_
 refine Z0 (Zl rfl) rfl ?_
 rintro _ w0 ⟨q,rfl,hq,hblk,hS⟩
 replace hblk:Blk w0 q _ [.slice pa a.length ca,.slice pb b.length cb,.int .i64 n]:=hblk
 replace ha:=ha.up hS;replace hb:=hb.up hS
 refine W ?_
 refine CL rfl (Zk rfl) rfl (Z9P X Y _ _ _ (fun b h=>Xb (hX b h) hS.size) ha hia) ?_
 rintro u w2 ⟨hrow,hS2⟩
 replace ha:=ha.up hS2;replace hb:=hb.up hS2;replace hblk:=hblk.up hS2
 have hw1:=hS.size
 have hrow':Row X w2 w.heap.size 72 u (ZF a):=by
  obtain ⟨css,h1,h2,h3⟩:=hrow
  exact ⟨css,h1,h2,h3.1,h3.2.imp id (fun ⟨q,cap,cur,e1,e2,e3⟩=>⟨q,cap,cur,e1,by omega,e3⟩)⟩
 replace hS:=hS.trans hS2
 refine W ?_
 refine ZDr 12 [] [] [(0,0),(1,0),(2,0),(3,1),(5,0),(6,1),(4,2),(7,2),(8,0),(9,0),(10,0),(11,0)] (fun w1 hS1=>?_)
 replace ha:=ha.up hS1;replace hb:=hb.up hS1;replace hblk:=hblk.up hS1;replace hrow':=hrow'.up hS1
 replace hS:=hS.trans hS1
 have hps:SlV X w1 u (ZF a):=hrow'.slv hX
 repeat'(first|refine D1 ?_|omega|refine Zm rfl rfl rfl rfl (fun hg=>?_) (fun hg=>?_)|(refine Zi rfl rfl rfl rfl (fun hg=>?_) (fun hg=>?_)<;>refine D1 ?_)|fail)
 have hXu:∀ b∈ob u++X,b<w1.heap.size:=fun b hb=>(Xt.1 hb).elim (fun h=>(hrow'.ob_le b h).2) (fun h=>Xb (hX b h) hS.size)
 have hlen:(ZF a).length≤8:=by simp [ZF];omega
 refine ZC rfl trivial (Ze rfl (Zb rfl rfl) (Zd7 (ob u++X) Z X _ _ _ _ _ hXu hps hb hib (by omega))) (fun _ _ h=>h.2) rfl ?_
 rintro v w4 ⟨hways,hS4⟩
 refine ZC rfl trivial (Ze rfl (Zb rfl rfl) (Z0T _ 60 hn (by omega) _)) (fun _ _ h=>h.2) rfl ?_
 rintro _ w5 ⟨rfl,hS5⟩
 obtain ⟨h0,h1⟩:=Z0l n 60 (by omega)
 repeat'(first|refine D1 ?_|omega|refine Zm rfl rfl rfl rfl (fun hg=>?_) (fun hg=>?_)|(refine Zi rfl rfl rfl rfl (fun hg=>?_) (fun hg=>?_)<;>refine D1 ?_)|fail)
 refine W ?_
 refine WR ?_
 have hv:=(hways.slv hXu).up hS5
 refine .mk ⟨u,v,rfl,(hrow'.up hS4).up hS5,hv,?_,fun b hb hu=>?_,(hS.trans hS4).trans hS5⟩
 obtain ⟨css,h1,h2,h3⟩:=hways.up hS5
 have hsz:=hS.size
 exact ⟨css,h1,h2,h3.1,h3.2.imp id (fun ⟨q,cap,cur,e1,e2,e3⟩=>⟨q,cap,cur,e1,by omega,e3⟩)⟩
 have h1:=(hways.ob_le b hb).1
 have h2:=(hrow'.ob_le b hu).2
 omega
def Z5K (till:Int) (ws:List Wy) (ds:List Dlv) (p:Pap):List Dlv:=
 if Z13 p (Z2C ws p.attempt)=true∧(Z24 p (Z2C ws p.attempt)).day≤till then Zlt ds (Z24 p (Z2C ws p.attempt)) else ds
def Zbj (till:Int) (rs:List Rpt) (r:Rpt):List Rpt:=if r.day≤till then Zlu rs r else rs
def Z4Z (till:Int) (ws:List Wy) (rs:List Rpt) (p:Pap):List Rpt:=(Z0k p (Z2C ws p.attempt)).foldl (Zbj till) rs
def Z3d (till:Int) (ws:List Wy) (ps:List Pap):List Dlv:=ps.foldl (Z5K till ws) []
def Z3e (till:Int) (ws:List Wy) (ps:List Pap):List Rpt:=ps.foldl (Z4Z till ws) []
theorem Z8v (p:Pap) (y:Wy):(Z0k p y).length≤2:=by unfold Z0k;split<;>(try split)<;>simp
def Z4s {α:Type} [Z5 α] (P:Program) (S:List Nat) (g:Nat) (lb:Array Value) (c:α→α→Int) (w:World):Prop:=
 ∀ (x y:α) (w':World),Stp S w w'→Calls P g (#[agg x,agg y]++lb) w' (Ret fun v w''=>v=.int .i64 (c x y)∧Stp [] w' w'')
theorem Z9i (x:Int) (w:World):CC 217 #[.int .i64 x] w fun v w'=>v=.bool false∧Stp [] w w':=by
 refine cW1 6 Tryz.func217 ?_
 repeat'(first|(apply JC;exact rfl;exact rfl)|apply Z0h|(apply Z0I;exact rfl;exact rfl)|(apply Zb2;exact rfl;exact rfl;exact rfl)|(apply Z9b;exact rfl;exact rfl;exact rfl)|apply Z1c|apply Jm|apply Z1u|refine Z0p ?_|refine J0 ?_)
 refine WR ?_
 exact .mk ⟨by simp,Stp.refl _ _⟩
def Z1A (x y:Int):Int:=if x<y then -1 else if x > y then 1 else 0
theorem Z0y (x y:Int) (w:World):CC 127 #[.int .i64 x,.int .i64 y] w fun v w'=>v=.int .i64 (Z1A x y)∧Stp [] w w':=by
 refine cW2 20 Tryz.func127 ?_
 repeat'(first|(apply JC;exact rfl;exact rfl)|apply Z0h|(apply Z0I;exact rfl;exact rfl)|(apply Z21;exact rfl;exact rfl;exact rfl)|(apply Z6t;exact rfl;exact rfl;exact rfl)|apply Z1c|apply Jm|apply Z0Y|apply Z1u|(apply J1;exact rfl)|(apply ZS;exact rfl)|refine Z0p ?_|refine J0 ?_)
 refine CL rfl (Zk rfl) rfl (Z9i _ _) ?_
 rintro _ w1 ⟨rfl,hS⟩
 repeat'(first|(apply JC;exact rfl;exact rfl)|apply Z0h|(apply Z0I;exact rfl;exact rfl)|(apply Z21;exact rfl;exact rfl;exact rfl)|(apply Z6t;exact rfl;exact rfl;exact rfl)|apply Z1c|apply Jm|apply Z0Y|apply Z1u|(apply J1;exact rfl)|(apply ZS;exact rfl)|refine Z0p ?_|refine J0 ?_)
 refine CL rfl (Zk rfl) rfl (Z9i _ _) ?_
 rintro _ w2 ⟨rfl,hS2⟩
 replace hS:=hS.trans hS2
 repeat'(first|(apply JC;exact rfl;exact rfl)|apply Z0h|(apply Z0I;exact rfl;exact rfl)|(apply Z21;exact rfl;exact rfl;exact rfl)|(apply Z6t;exact rfl;exact rfl;exact rfl)|apply Z1c|apply Jm|apply Z0Y|apply Z1u|(apply J1;exact rfl)|(apply ZS;exact rfl)|refine Z0p ?_|refine J0 ?_|refine Z97 rfl (fun hc=>?_) (fun hc=>?_)|refine Z76 rfl (fun hc=>?_) (fun hc=>?_))
 all_goals (refine WR ?_)
 all_goals exact .mk ⟨by unfold Z1A;(first|(simp_all;done)|(rw [if_neg (by omega),if_neg (by omega)])),hS⟩
def put {α:Type} (pre rest:List α) (x:α) (j:Nat):List α:=pre.take j++x :: pre.drop j++rest
theorem Z50 {α:Type} {pre rest:List α} {x:α} {j:Nat} (hj:j<pre.length):((put pre rest x (j+1)).set (j+1) pre[j]).set j x=put pre rest x j:=by
 have h1:pre.take (j+1)=pre.take j++[pre[j]]:=Xl hj
 have h2:pre.drop j=pre[j] :: pre.drop (j+1):=XA hj
 have hl:(pre.take j).length=j:=by simp;omega
 unfold put
 rw [h1,h2]
 simp only [Xr,XI,XK]
 rw [List.set_append,if_neg (by omega),hl,show j+1 - j=1 by omega]
 rw [List.set_append,if_neg (by omega),hl,Nat.sub_self]
 rfl
theorem Z8w {α:Type} {pre rest:List α} {x:α} {j:Nat} (hj:j≤pre.length) (h:j<(put pre rest x j).length):(put pre rest x j)[j]=x:=by
 rw [List.getElem_eq_iff]
 unfold put
 rw [List.getElem?_append_left (by simp;omega),List.getElem?_append_right (by simp;omega)]
 simp [XO hj]
theorem Z2Q {α:Type} {pre rest:List α} {x:α} {j:Nat} (hj:j<pre.length) (h:j<(put pre rest x (j+1)).length):(put pre rest x (j+1))[j]=pre[j]:=by
 rw [List.getElem_eq_iff]
 unfold put
 rw [List.getElem?_append_left (by simp;omega),List.getElem?_append_left (by simp;omega)]
 simp [hj]
theorem Z0K {α:Type} {pre rest:List α} {x:α} {j:Nat}:(put pre rest x j).length=pre.length+1+rest.length:=by
 have:=congrArg List.length (Xq j pre)
 simp only [Xh] at this
 simp only [put,Xh,Xe];omega
def JX {α:Type} (c:α→α→Int) (xs ys:List α):Prop:=ys.Perm xs∧ys.Pairwise (fun a b=>¬ c b a<0)
structure Ord {α:Type} (c:α→α→Int):Prop where
 asym:∀ a b,c a b<0→¬ c b a<0
 trans:∀ a b d,¬ c b a<0→¬ c d b<0→¬ c d a<0
theorem Z2R {α:Type} {c:α→α→Int} (ho:Ord c) {pre:List α} {x:α} {j:Nat} (hj:j≤pre.length) (hp:pre.Pairwise (fun a b=>¬ c b a<0))
 (h1:∀ q (h:q<pre.length),j≤q→c x pre[q]<0) (h2:∀ h:j - 1<pre.length,0<j→¬ c x pre[j - 1]<0):(pre.take j++x :: pre.drop j).Pairwise (fun a b=>¬ c b a<0):=by
 rw [Yad]
 have hd:∀ a∈pre.drop j,c x a<0:=by
  intro a ha
  obtain ⟨m,hm,rfl⟩:=Xj ha
  simp only [List.getElem_drop]
  simp at hm
  exact h1 _ _ (by omega)
 have ht:∀ a∈pre.take j,¬ c x a<0:=by
  intro a ha
  obtain ⟨m,hm,rfl⟩:=Xj ha
  simp only [Xu] at hm
  simp only [Yan]
  by_cases e:m=j - 1
  subst e;exact h2 (by omega) (by omega)
  exact ho.trans _ _ _ (Yae.1 hp m (j - 1) (by omega) (by omega) (by omega)) (h2 (by omega) (by omega))
 refine ⟨hp.sublist (List.take_sublist _ _),?_,?_⟩
 rw [Yaz]
 exact ⟨fun a ha=>ho.asym _ _ (hd a ha),hp.sublist (List.drop_sublist _ _)⟩
 intro a ha b hb
 rcases Xd.1 hb with rfl|hb
 exact ht a ha
 exact fun h=>by
  have h3:=hd b hb
  exact ho.trans a x b (ht a ha) (ho.asym _ _ h3) h
theorem Z0L (x y:Int):Z1A x y<0↔x<y:=by unfold Z1A;split<;>(try split)<;>omega
def Z5L {α:Type} [Z5 α] (P:Program) (S:List Nat) (g:Nat) (lb:Array Value) (p:α→Bool) (w:World):Prop:=
 ∀ (x:α) (w':World),Stp S w w'→Calls P g (#[agg x]++lb) w' (Ret fun v w''=>v=.bool (p x)∧Stp [] w' w'')
theorem Z5L.pred {α:Type} [Z5 α] {P:Program} {S:List Nat} {g:Nat} {lb:Array Value} {p:α→Bool} {w w':World} (h:Z5L P S g lb p w) (hS:Stp S w w'):Z3c P g lb p w':=
 fun x w'' h2=>h x w'' (hS.trans (h2.mono (by simp)))
theorem Zbk (d:Dlv) (w:World):CC 68 #[agg d] w fun v w'=>v=.tuple #[.int .i64 d.day,.int .i64 d.attempt]∧Stp [] w w':=by
 refine cW1 8 Tryz.func68 ?_
 refine W ?_
 refine Z0 (Zl rfl) rfl ?_
 rintro _ w2 ⟨c,rfl,hc,hblk,hS⟩
 replace hblk:Blk w2 c _ (Z5.enc d):=hblk
 refine W ?_
 refine ZDr 6 [] [] [(0,0),(1,1),(2,0),(3,1),(4,0),(5,0)] (fun w1 hS1=>?_)
 replace hS:=hS.trans hS1
 replace hblk:=hblk.up hS1
 repeat'(first|refine D1 ?_|omega|refine Zm rfl rfl rfl rfl (fun hg=>?_) (fun hg=>?_)|(refine Zi rfl rfl rfl rfl (fun hg=>?_) (fun hg=>?_)<;>refine D1 ?_)|fail)
 refine W ?_
 refine WR ?_
 exact .mk ⟨rfl,hS⟩
theorem Zbl (d:Rpt) (w:World):CC 70 #[agg d] w fun v w'=>v=.tuple #[.int .i64 d.day,.int .i64 d.attempt]∧Stp [] w w':=by
 refine cW1 8 Tryz.func70 ?_
 refine W ?_
 refine Z0 (Zl rfl) rfl ?_
 rintro _ w2 ⟨c,rfl,hc,hblk,hS⟩
 replace hblk:Blk w2 c _ (Z5.enc d):=hblk
 refine W ?_
 refine ZDr 6 [] [] [(0,0),(1,1),(2,0),(3,1),(4,0),(5,0)] (fun w1 hS1=>?_)
 replace hS:=hS.trans hS1
 replace hblk:=hblk.up hS1
 repeat'(first|refine D1 ?_|omega|refine Zm rfl rfl rfl rfl (fun hg=>?_) (fun hg=>?_)|(refine Zi rfl rfl rfl rfl (fun hg=>?_) (fun hg=>?_)<;>refine D1 ?_)|fail)
 refine W ?_
 refine WR ?_
 exact .mk ⟨rfl,hS⟩
def orI (x y:Int):Int:=if x≠0 then x else y
theorem Z9j (X:List Nat) (v:Value) (x y:Int) (w:World) (hv:SlV X w v [x,y]):CC 126 #[v] w fun r w'=>r=.int .i64 (orI x y)∧Stp [] w w':=by
 refine cW1 18 Tryz.func126 ?_
 refine W ?_
 refine Zh (σ:=Nat) (fun k=>[(3,.int .i64 0),(6,v),(7,.int .i64 2),(8,.int .i64 k)]) (fun k w'=>k≤2∧Stp [] w w'∧(0<k→x=0)∧(1<k→y=0)) (fun k=>2 - k) 0 ⟨rfl,rfl,rfl,rfl,trivial⟩ ⟨by omega,Stp.refl _ _,by omega,by omega⟩ ?_
 rintro k w1 ⟨hk,hS,hx,hy⟩
 replace hv:=hv.up hS
 have hc:k=0∨k=1∨k=2:=by omega
 rcases hc with rfl|rfl|rfl
 have h2:0 < [x,y].length:=by simp
 focus repeat'(first|refine W1 ?_|refine VG ?_ ?_<;>intro hg|refine VC ?_ ?_<;>intro hc)
 refine WR ?_
 exact .mk ⟨by simp_all [orI],hS⟩
 exact Zd 1 ⟨rfl,rfl,rfl,rfl,trivial⟩ ⟨by omega,hS,fun _=>by simp_all,by omega⟩ (by omega)
 have h2:1 < [x,y].length:=by simp
 focus repeat'(first|refine W1 ?_|refine VG ?_ ?_<;>intro hg|refine VC ?_ ?_<;>intro hc)
 refine WR ?_
 exact .mk ⟨by simp_all [orI],hS⟩
 exact Zd 2 ⟨rfl,rfl,rfl,rfl,trivial⟩ ⟨by omega,hS,fun _=>hx (by omega),fun _=>by simp_all⟩ (by omega)
 focus repeat'(first|refine W1 ?_|refine VG ?_ ?_<;>intro hg|refine VC ?_ ?_<;>intro hc)
 refine WR ?_
 exact .mk ⟨by simp_all [orI],hS⟩
theorem Zjn (S:List Nat) (b1 b2 T1 T2:Nat) (till:Int) (w:World) (h1:Blk w b1 T1 [.func (.func 68) #[] #[]]) (h2:Blk w b2 T2 [.int .i64 till]) (n1:b1∉S) (n2:b2∉S) :
 Z5L Tryz.prog S 123 #[.pointer (some ⟨b1,0,none⟩),.pointer (some ⟨b2,0,none⟩)] (fun x:Dlv=>decide (x.day > till)) w:=by
 intro x w1 hS
 replace h1:=h1.ext hS n1
 replace h2:=h2.ext hS n2
 show Calls _ _ #[agg x,.pointer (some ⟨b1,0,none⟩),.pointer (some ⟨b2,0,none⟩)] _ _
 refine cW3 16 Tryz.func123 ?_
 refine W ?_
 refine Z0 (Zl rfl) rfl ?_
 rintro _ w2 ⟨c,rfl,hc,hblk,hS2⟩
 replace hblk:Blk w2 c _ (Z5.enc x):=hblk
 replace h1:=h1.up hS2;replace h2:=h2.up hS2
 refine W ?_
 refine Z0 (ZK (f:=68) rfl (Zk rfl) rfl (Zbk _ _)) rfl ?_
 rintro _ w3 ⟨rfl,hS3⟩
 replace h2:=h2.up hS3
 refine W ?_
 refine WR ?_
 exact .mk ⟨rfl,hS2.trans hS3⟩
def Z6C (x y:Dlv):Int:=orI (Z1A x.day y.day) (Z1A x.attempt y.attempt)
theorem Zjo (S:List Nat) (b T:Nat) (w:World) (h1:Blk w b T [.func (.func 68) #[] #[]]) (n1:b∉S) :
 Z4s Tryz.prog S 125 #[.pointer (some ⟨b,0,none⟩)] Z6C w:=by
 intro x y w1 hS
 replace h1:=h1.ext hS n1
 show Calls _ _ #[agg x,agg y,.pointer (some ⟨b,0,none⟩)] _ _
 refine cW3 30 Tryz.func125 ?_
 refine W ?_
 refine Z0 (Zl rfl) rfl ?_
 rintro _ w2 ⟨c,rfl,hc,hblk,hS2⟩
 replace hblk:Blk w2 c _ (Z5.enc x):=hblk
 replace h1:=h1.up hS2
 refine Z0 (Zl rfl) rfl ?_
 rintro _ w3 ⟨c2,rfl,hc2,hblk2,hS3⟩
 replace hblk2:Blk w3 c2 _ (Z5.enc y):=hblk2
 replace h1:=h1.up hS3;replace hblk:=hblk.up hS3
 replace hS2:=hS2.trans hS3
 refine W ?_
 refine Z0 (ZK (f:=68) rfl (Zk rfl) rfl (Zbk _ _)) rfl ?_
 rintro _ w4 ⟨rfl,hS4⟩
 replace h1:=h1.up hS4;replace hblk:=hblk.up hS4;replace hblk2:=hblk2.up hS4
 replace hS2:=hS2.trans hS4
 refine W ?_
 refine Z0 (ZK (f:=68) rfl (Zk rfl) rfl (Zbk _ _)) rfl ?_
 rintro _ w5 ⟨rfl,hS5⟩
 replace hS2:=hS2.trans hS5
 refine W ?_
 refine CL rfl (Zb rfl rfl) rfl (Z0y _ _ _) ?_
 rintro _ w6 ⟨rfl,hS6⟩
 replace hS2:=hS2.trans hS6
 refine W ?_
 refine CL rfl (Zb rfl rfl) rfl (Z0y _ _ _) ?_
 rintro _ w7 ⟨rfl,hS7⟩
 replace hS2:=hS2.trans hS7
 refine Z0 (Z3 (vs:=[(0,.int .i64 (Z1A x.day y.day)),(1,.int .i64 (Z1A x.attempt y.attempt))]) rfl (Z3J _ _)) rfl ?_
 rintro u w8 hN
 have hu:SlV [] w8 u [Z1A x.day y.day,Z1A x.attempt y.attempt]:=hN.slv (by simp) rfl rfl (by simp [maxLen])
 replace hS2:=hS2.trans hN.choose_spec.2.2.2
 refine CL rfl (Zk rfl) rfl (Z9j _ _ _ _ _ hu) ?_
 rintro _ w9 ⟨rfl,hS9⟩
 refine W ?_
 refine WR ?_
 exact .mk ⟨rfl,hS2.trans hS9⟩
theorem Zjp (S:List Nat) (b1 b2 T1 T2:Nat) (till:Int) (w:World) (h1:Blk w b1 T1 [.func (.func 70) #[] #[]]) (h2:Blk w b2 T2 [.int .i64 till]) (n1:b1∉S) (n2:b2∉S) :
 Z5L Tryz.prog S 129 #[.pointer (some ⟨b1,0,none⟩),.pointer (some ⟨b2,0,none⟩)] (fun x:Rpt=>decide (x.day > till)) w:=by
 intro x w1 hS
 replace h1:=h1.ext hS n1
 replace h2:=h2.ext hS n2
 show Calls _ _ #[agg x,.pointer (some ⟨b1,0,none⟩),.pointer (some ⟨b2,0,none⟩)] _ _
 refine cW3 16 Tryz.func129 ?_
 refine W ?_
 refine Z0 (Zl rfl) rfl ?_
 rintro _ w2 ⟨c,rfl,hc,hblk,hS2⟩
 replace hblk:Blk w2 c _ (Z5.enc x):=hblk
 replace h1:=h1.up hS2;replace h2:=h2.up hS2
 refine W ?_
 refine Z0 (ZK (f:=70) rfl (Zk rfl) rfl (Zbl _ _)) rfl ?_
 rintro _ w3 ⟨rfl,hS3⟩
 replace h2:=h2.up hS3
 refine W ?_
 refine WR ?_
 exact .mk ⟨rfl,hS2.trans hS3⟩
def Z6D (x y:Rpt):Int:=orI (Z1A x.day y.day) (Z1A x.attempt y.attempt)
theorem Zjq (S:List Nat) (b T:Nat) (w:World) (h1:Blk w b T [.func (.func 70) #[] #[]]) (n1:b∉S) :
 Z4s Tryz.prog S 131 #[.pointer (some ⟨b,0,none⟩)] Z6D w:=by
 intro x y w1 hS
 replace h1:=h1.ext hS n1
 show Calls _ _ #[agg x,agg y,.pointer (some ⟨b,0,none⟩)] _ _
 refine cW3 30 Tryz.func131 ?_
 refine W ?_
 refine Z0 (Zl rfl) rfl ?_
 rintro _ w2 ⟨c,rfl,hc,hblk,hS2⟩
 replace hblk:Blk w2 c _ (Z5.enc x):=hblk
 replace h1:=h1.up hS2
 refine Z0 (Zl rfl) rfl ?_
 rintro _ w3 ⟨c2,rfl,hc2,hblk2,hS3⟩
 replace hblk2:Blk w3 c2 _ (Z5.enc y):=hblk2
 replace h1:=h1.up hS3;replace hblk:=hblk.up hS3
 replace hS2:=hS2.trans hS3
 refine W ?_
 refine Z0 (ZK (f:=70) rfl (Zk rfl) rfl (Zbl _ _)) rfl ?_
 rintro _ w4 ⟨rfl,hS4⟩
 replace h1:=h1.up hS4;replace hblk:=hblk.up hS4;replace hblk2:=hblk2.up hS4
 replace hS2:=hS2.trans hS4
 refine W ?_
 refine Z0 (ZK (f:=70) rfl (Zk rfl) rfl (Zbl _ _)) rfl ?_
 rintro _ w5 ⟨rfl,hS5⟩
 replace hS2:=hS2.trans hS5
 refine W ?_
 refine CL rfl (Zb rfl rfl) rfl (Z0y _ _ _) ?_
 rintro _ w6 ⟨rfl,hS6⟩
 replace hS2:=hS2.trans hS6
 refine W ?_
 refine CL rfl (Zb rfl rfl) rfl (Z0y _ _ _) ?_
 rintro _ w7 ⟨rfl,hS7⟩
 replace hS2:=hS2.trans hS7
 refine Z0 (Z3 (vs:=[(0,.int .i64 (Z1A x.day y.day)),(1,.int .i64 (Z1A x.attempt y.attempt))]) rfl (Z3J _ _)) rfl ?_
 rintro u w8 hN
 have hu:SlV [] w8 u [Z1A x.day y.day,Z1A x.attempt y.attempt]:=hN.slv (by simp) rfl rfl (by simp [maxLen])
 replace hS2:=hS2.trans hN.choose_spec.2.2.2
 refine CL rfl (Zk rfl) rfl (Z9j _ _ _ _ _ hu) ?_
 rintro _ w9 ⟨rfl,hS9⟩
 refine W ?_
 refine WR ?_
 exact .mk ⟨rfl,hS2.trans hS9⟩
theorem Z2E {α:Type} {ys xs:List α} {i j:Nat} (hij:i<j) (hj:j<xs.length) (hl:ys.length=xs.length) (hd:ys.drop j=xs.drop j) :
 (ys.set i xs[j]).take (i+1)=ys.take i++[xs[j]]∧(ys.set i xs[j]).drop (j+1)=xs.drop (j+1):=by
 constructor
 apply Yaq
 simp;omega
 intro m h1 h2
 by_cases hm:m<i
 rw [XB (by simp;omega)]
 simp [show ¬ i=m by omega]
 have:m=i:=by simp at h1;omega
 subst this
 rw [Xz (by simp;omega)]
 simp
 rw [List.drop_set_of_lt (by omega)]
 have:=congrArg (List.drop 1) hd
 simpa [YaL] using this
theorem Zd9 (g:Nat) (fn:Func) [Fun Tryz.prog g fn] (lb:Array Value) (p:Dlv→Bool) (X:List Nat) (base:Nat) (v:Value) (xs:List Dlv) (w:World) (hX:∀ b∈X,b<base) (hbase:base≤w.heap.size) (hrow:Row X w base 141 v xs) (hp:Z5L Tryz.prog (ob v) g lb p w) (hlen:xs.length≤1000) :
 CC 122 #[v,.func (.func g) #[] lb] w fun r w'=>Row X w' base 141 r (xs.filter (fun x=>!p x))∧Stp (ob v) w w'∧ob r=ob v:=by
 have hs:=hrow.slv hX
 refine cW2 42 Tryz.func122 ?_
 refine W ?_
 refine CL rfl (Zb rfl rfl) rfl (Z2B g fn lb p X v xs _ hs (hp.pred (Stp.refl _ _))) ?_
 rintro _ w1 ⟨rfl,hS1⟩
 replace hs:=hs.up hS1;replace hrow:=hrow.up hS1
 rcases Z0j p xs with ⟨hi,hno⟩|⟨k,hk,hi,_,hpk,hb⟩
 rw [hi]
 refine W ?_
 refine WR ?_
 have:xs.filter (fun x=>!p x)=xs:=by
  rw [Yah]
  intro x hx
  have:=List.find?_eq_none.1 hno x hx
  simpa using this
 exact .mk ⟨by rw [this];exact hrow,hS1.mono (by simp),rfl⟩
 rw [hi]
 focus repeat'(first|refine W1 ?_|refine VG ?_ ?_<;>intro hg|refine VC ?_ ?_<;>intro hc)
 refine Zh (σ:=Nat×Nat) (fun s=>[(0,v),(1,.func (.func g) #[] lb),(5,.int .i64 s.1),(6,.int .i64 s.2)])
  (fun s w'=>s.1<s.2∧s.2≤xs.length∧Stp (ob v) w w'∧∃ ys,ys.length=xs.length∧Row X w' base 141 v ys∧ys.take s.1=(xs.take s.2).filter (fun x=>!p x)∧ys.drop s.2=xs.drop s.2) (fun s=>xs.length - s.2) (k,k+1) ⟨rfl,rfl,rfl,rfl,trivial⟩
  ⟨by simp,hk,hS1.mono (by simp),xs,rfl,hrow,?_,rfl⟩ ?_
 dsimp only
 rw [Xl hk,XG]
 have h1:(xs.take k).filter (fun x=>!p x)=xs.take k:=by
  rw [Yah]
  intro x hx
  obtain ⟨m,hm,rfl⟩:=Xj hx
  simp at hm
  simp [hb m (by omega) (by omega)]
 simp [h1,hpk]
 rintro ⟨i,j⟩ w2 ⟨hij,hj,hS,ys,hyl,hrow,hyt,hyd⟩
 dsimp only at hij hj hyt hyd ⊢
 have hsy:=hrow.slv hX
 have hw2:=hS.size
 by_cases hjt:j<ys.length
 · have hjx:j<xs.length:=by omega
   repeat'(first|refine W1 ?_|refine VG ?_ ?_<;>intro hg|refine VC ?_ ?_<;>intro hc)
   rotate_left
   omega
   have hxj:ys[j]=xs[j]:=by
    have:=congrArg (fun l=>l[0]?) hyd
    simpa [hjt,hjx] using this
   have hlt1:=hrow.ob_le
   refine Z0 Z8 rfl ?_
   rintro _ w3 ⟨b,rfl,hb',hblk,hS3⟩
   refine Z1 (Z2 (us:=Z5.enc ys[j]) rfl rfl rfl rfl (Z5.one _) hblk rfl) ?_
   rintro _ w4 ⟨hS4,hblk⟩
   replace hS4:=hS3.own hS4 (S:=[]) (by simp;omega)
   replace hrow:=hrow.up hS4;replace hsy:=hsy.up hS4
   replace hS:=hS.trans (hS4.mono (by simp))
   have hq:xs.take (j+1)=xs.take j++[xs[j]]:=Xl hjx
   refine W ?_
   refine Z0 (ZK (f:=g) rfl (Zk rfl) rfl (hp ys[j] w4 hS)) rfl ?_
   rintro _ w5 ⟨rfl,hS5⟩
   replace hrow:=hrow.up hS5;replace hsy:=hsy.up hS5;replace hblk:=hblk.up hS5
   replace hS:=hS.trans (hS5.mono (by simp))
   cases hpj:p ys[j] with
   | true=>
     repeat'(first|refine W1 ?_|refine VG ?_ ?_<;>intro hg|refine VC ?_ ?_<;>intro hc)
     refine Zd (i,j+1) ⟨rfl,rfl,rfl,rfl,trivial⟩ ⟨by dsimp only;omega,hjx,hS,ys,hyl,hrow,?_,?_⟩ (by dsimp only;omega)
     dsimp only
     rw [hq,XG,hyt,← hxj]
     simp [hpj]
     dsimp only
     have:=congrArg (List.drop 1) hyd
     simpa [YaL] using this
   | false=>
     have hiy:i<ys.length:=by omega
     have hnb:b∉ob v:=fun h=>by have:=(hlt1 b h).2;omega
     repeat'(first|refine W1 ?_|refine VG ?_ ?_<;>intro hg|refine VC ?_ ?_<;>intro hc)
     refine Z1 (Ju (i:=i) (y':=ys[j]) rfl rfl rfl rfl hrow hX hiy) ?_
     rintro _ w6 ⟨hrow,hS6⟩
     refine W ?_
     obtain ⟨e1,e2⟩:=Z2E hij hjx hyl hyd
     refine Zd (i+1,j+1) ⟨rfl,rfl,rfl,rfl,trivial⟩ ⟨by dsimp only;omega,hjx,hS.trans hS6,ys.set i xs[j],by simp [hyl],?_,?_,e2⟩ (by dsimp only;omega)
     rw [hxj] at hrow;exact hrow
     dsimp only
     rw [hq,XG,e1,hyt,← hxj]
     simp [hpj]
 have hje:j=xs.length:=by omega
 focus repeat'(first|refine W1 ?_|refine VG ?_ ?_<;>intro hg|refine VC ?_ ?_<;>intro hc)
 omega
 have hie:i≤ys.length:=by omega
 apply Z7 (Z4N rfl hsy rfl rfl hie) rfl
 refine Z1 (Z35 (by decide) (by decide) (by decide) rfl hrow hie) ?_
 rintro _ w6 ⟨hrow,hS6⟩
 refine W ?_
 apply Z7 (Z2M rfl hsy rfl rfl hie) rfl
 refine W ?_
 refine WR ?_
 refine .mk ⟨?_,hS.trans hS6,Z4O _ _ _⟩
 rw [hyt,hje,Xw] at hrow
 exact hrow
theorem Zda (g:Nat) (fn:Func) [Fun Tryz.prog g fn] (lb:Array Value) (p:Rpt→Bool) (X:List Nat) (base:Nat) (v:Value) (xs:List Rpt) (w:World) (hX:∀ b∈X,b<base) (hbase:base≤w.heap.size) (hrow:Row X w base 145 v xs) (hp:Z5L Tryz.prog (ob v) g lb p w) (hlen:xs.length≤1000) :
 CC 128 #[v,.func (.func g) #[] lb] w fun r w'=>Row X w' base 145 r (xs.filter (fun x=>!p x))∧Stp (ob v) w w'∧ob r=ob v:=by
 have hs:=hrow.slv hX
 refine cW2 42 Tryz.func128 ?_
 refine W ?_
 refine CL rfl (Zb rfl rfl) rfl (Z7s g fn lb p X v xs _ hs (hp.pred (Stp.refl _ _))) ?_
 rintro _ w1 ⟨rfl,hS1⟩
 replace hs:=hs.up hS1;replace hrow:=hrow.up hS1
 rcases Z0j p xs with ⟨hi,hno⟩|⟨k,hk,hi,_,hpk,hb⟩
 rw [hi]
 refine W ?_
 refine WR ?_
 have:xs.filter (fun x=>!p x)=xs:=by
  rw [Yah]
  intro x hx
  have:=List.find?_eq_none.1 hno x hx
  simpa using this
 exact .mk ⟨by rw [this];exact hrow,hS1.mono (by simp),rfl⟩
 rw [hi]
 focus repeat'(first|refine W1 ?_|refine VG ?_ ?_<;>intro hg|refine VC ?_ ?_<;>intro hc)
 refine Zh (σ:=Nat×Nat) (fun s=>[(0,v),(1,.func (.func g) #[] lb),(5,.int .i64 s.1),(6,.int .i64 s.2)])
  (fun s w'=>s.1<s.2∧s.2≤xs.length∧Stp (ob v) w w'∧∃ ys,ys.length=xs.length∧Row X w' base 145 v ys∧ys.take s.1=(xs.take s.2).filter (fun x=>!p x)∧ys.drop s.2=xs.drop s.2) (fun s=>xs.length - s.2) (k,k+1) ⟨rfl,rfl,rfl,rfl,trivial⟩
  ⟨by simp,hk,hS1.mono (by simp),xs,rfl,hrow,?_,rfl⟩ ?_
 dsimp only
 rw [Xl hk,XG]
 have h1:(xs.take k).filter (fun x=>!p x)=xs.take k:=by
  rw [Yah]
  intro x hx
  obtain ⟨m,hm,rfl⟩:=Xj hx
  simp at hm
  simp [hb m (by omega) (by omega)]
 simp [h1,hpk]
 rintro ⟨i,j⟩ w2 ⟨hij,hj,hS,ys,hyl,hrow,hyt,hyd⟩
 dsimp only at hij hj hyt hyd ⊢
 have hsy:=hrow.slv hX
 have hw2:=hS.size
 by_cases hjt:j<ys.length
 · have hjx:j<xs.length:=by omega
   repeat'(first|refine W1 ?_|refine VG ?_ ?_<;>intro hg|refine VC ?_ ?_<;>intro hc)
   rotate_left
   omega
   have hxj:ys[j]=xs[j]:=by
    have:=congrArg (fun l=>l[0]?) hyd
    simpa [hjt,hjx] using this
   have hlt1:=hrow.ob_le
   refine Z0 Z8 rfl ?_
   rintro _ w3 ⟨b,rfl,hb',hblk,hS3⟩
   refine Z1 (Z2 (us:=Z5.enc ys[j]) rfl rfl rfl rfl (Z5.one _) hblk rfl) ?_
   rintro _ w4 ⟨hS4,hblk⟩
   replace hS4:=hS3.own hS4 (S:=[]) (by simp;omega)
   replace hrow:=hrow.up hS4;replace hsy:=hsy.up hS4
   replace hS:=hS.trans (hS4.mono (by simp))
   have hq:xs.take (j+1)=xs.take j++[xs[j]]:=Xl hjx
   refine W ?_
   refine Z0 (ZK (f:=g) rfl (Zk rfl) rfl (hp ys[j] w4 hS)) rfl ?_
   rintro _ w5 ⟨rfl,hS5⟩
   replace hrow:=hrow.up hS5;replace hsy:=hsy.up hS5;replace hblk:=hblk.up hS5
   replace hS:=hS.trans (hS5.mono (by simp))
   cases hpj:p ys[j] with
   | true=>
     repeat'(first|refine W1 ?_|refine VG ?_ ?_<;>intro hg|refine VC ?_ ?_<;>intro hc)
     refine Zd (i,j+1) ⟨rfl,rfl,rfl,rfl,trivial⟩ ⟨by dsimp only;omega,hjx,hS,ys,hyl,hrow,?_,?_⟩ (by dsimp only;omega)
     dsimp only
     rw [hq,XG,hyt,← hxj]
     simp [hpj]
     dsimp only
     have:=congrArg (List.drop 1) hyd
     simpa [YaL] using this
   | false=>
     have hiy:i<ys.length:=by omega
     have hnb:b∉ob v:=fun h=>by have:=(hlt1 b h).2;omega
     repeat'(first|refine W1 ?_|refine VG ?_ ?_<;>intro hg|refine VC ?_ ?_<;>intro hc)
     refine Z1 (Ju (i:=i) (y':=ys[j]) rfl rfl rfl rfl hrow hX hiy) ?_
     rintro _ w6 ⟨hrow,hS6⟩
     refine W ?_
     obtain ⟨e1,e2⟩:=Z2E hij hjx hyl hyd
     refine Zd (i+1,j+1) ⟨rfl,rfl,rfl,rfl,trivial⟩ ⟨by dsimp only;omega,hjx,hS.trans hS6,ys.set i xs[j],by simp [hyl],?_,?_,e2⟩ (by dsimp only;omega)
     rw [hxj] at hrow;exact hrow
     dsimp only
     rw [hq,XG,e1,hyt,← hxj]
     simp [hpj]
 have hje:j=xs.length:=by omega
 focus repeat'(first|refine W1 ?_|refine VG ?_ ?_<;>intro hg|refine VC ?_ ?_<;>intro hc)
 omega
 have hie:i≤ys.length:=by omega
 apply Z7 (Z4N rfl hsy rfl rfl hie) rfl
 refine Z1 (Z35 (by decide) (by decide) (by decide) rfl hrow hie) ?_
 rintro _ w6 ⟨hrow,hS6⟩
 refine W ?_
 apply Z7 (Z2M rfl hsy rfl rfl hie) rfl
 refine W ?_
 refine WR ?_
 refine .mk ⟨?_,hS.trans hS6,Z4O _ _ _⟩
 rw [hyt,hje,Xw] at hrow
 exact hrow
theorem Z8x (g:Nat) (fn:Func) [Fun Tryz.prog g fn] (lb:Array Value) (c:Dlv→Dlv→Int) (ho:Ord c) (X:List Nat) (base:Nat) (v:Value) (xs:List Dlv) (w:World) (hX:∀ b∈X,b<base) (hbase:base≤w.heap.size) (hrow:Row X w base 141 v xs) (hp:Z4s Tryz.prog (ob v) g lb c w) (hlen:xs.length≤1000) :
 CC 276 #[v,.int .i64 0,.int .i64 xs.length,.func (.func g) #[] lb] w fun r w'=>∃ ys,JX c xs ys∧Row X w' base 141 v ys∧Stp (ob v) w w':=by
 refine cW4 53 Tryz.func276 ?_
 refine W ?_
 refine Zh (σ:=Nat) (fun i=>[(0,v),(1,.int .i64 0),(2,.int .i64 xs.length),(3,.func (.func g) #[] lb),(8,.int .i64 (i+1))])
  (fun i w'=>Stp (ob v) w w'∧∃ ys,ys.Perm xs∧Row X w' base 141 v ys∧(ys.take (i+1)).Pairwise (fun a b=>¬ c b a<0)) (fun i=>xs.length - i) 0 ⟨rfl,rfl,rfl,rfl,rfl,trivial⟩
  ⟨Stp.refl _ _,xs,YaM _,hrow,?_⟩ ?_
 · cases xs with
   | nil=>simp
   | cons x r=>simp
 rintro i w1 ⟨hS,ys,hperm,hrow,hsort⟩
 have hyl:=hperm.length_eq
 by_cases hit:i+1<xs.length
 · repeat'(first|refine W1 ?_|refine VG ?_ ?_<;>intro hg|refine VC ?_ ?_<;>intro hc)
   rotate_left
   omega
   obtain ⟨pre,x,rest,hpl,rfl⟩:∃ pre x rest,pre.length=i+1∧ys=put pre rest x pre.length:=by
    refine ⟨ys.take (i+1),ys[i+1],ys.drop (i+2),by simp;omega,?_⟩
    unfold put
    have hl:(ys.take (i+1)).length=i+1:=by simp;omega
    rw [hl,XR,Nat.min_self,XX (by omega)]
    conv=>lhs;rw [← Xq (i+1) ys,XA (by omega)]
    simp
   have hpre:pre.Pairwise (fun a b=>¬ c b a<0):=by
    have:(put pre rest x pre.length).take (i+1)=pre:=by
     unfold put
     rw [Xw,X7,Xr,← hpl,X1]
     rfl
    rwa [this] at hsort
   have hpl2:pre.length+1+rest.length=xs.length:=by rw [← hyl,Z0K]
   have fin:∀ j (w':World),j≤pre.length→Stp (ob v) w w'→Row X w' base 141 v (put pre rest x j)→(∀ q (h:q<pre.length),j≤q→c x pre[q]<0)→(∀ h:j - 1<pre.length,0<j→¬ c x pre[j - 1]<0)→
    Stp (ob v) w w'∧∃ ys,ys.Perm xs∧Row X w' base 141 v ys∧(ys.take (i+1+1)).Pairwise (fun a b=>¬ c b a<0):=by
    intro j w' hj hS hrow h1 h2
    refine ⟨hS,put pre rest x j,?_,hrow,?_⟩
    refine List.Perm.trans ?_ hperm
    unfold put
    rw [Xw,X7]
    refine XN _ ?_
    refine List.Perm.trans Yar ?_
    rw [Xq]
    exact (XY x pre).symm
    have e:(put pre rest x j).take (i+1+1)=pre.take j++x :: pre.drop j:=by
     have hl:(pre.take j++x :: pre.drop j).length=i+1+1:=by
      have:=congrArg List.length (Xq j pre)
      simp only [Xh] at this
      simp only [Xh,Xe];omega
     unfold put
     rw [← hl,X1]
     rfl
    rw [e]
    exact Z2R ho hj hpre h1 h2
   refine Zh (σ:=Nat) (fun j=>[(0,v),(1,.int .i64 0),(2,.int .i64 xs.length),(3,.func (.func g) #[] lb),(8,.int .i64 (i+1)),(9,.int .i64 (j:Int))])
    (fun j w'=>j≤pre.length∧Stp (ob v) w w'∧Row X w' base 141 v (put pre rest x j)∧(∀ q (h:q<pre.length),j≤q→c x pre[q]<0)) (fun j=>j) (i+1) ⟨rfl,rfl,rfl,rfl,rfl,rfl,trivial⟩
    ⟨by omega,hS,by rw [hpl] at hrow;exact hrow,fun q h hq=>by omega⟩ ?_
   clear hrow hS
   rintro j w2 ⟨hj,hS,hrow,hlt⟩
   have hs:=hrow.slv hX
   cases j with
   | zero=>
     refine W ?_
     refine ZDr 17 [] [] [(0,0),(1,0),(2,0),(3,0),(4,0),(5,0),(6,0),(7,0),(8,1),(9,0),(10,0),(11,0),(12,0),(13,1),(14,2),(15,0),(16,0)] (fun w1 hS1=>?_)
     replace hS:=hS.trans (hS1.mono (by simp))
     replace hrow:=hrow.up hS1;replace hs:=hs.up hS1
     repeat'(first|refine D1 ?_|omega|refine Zm rfl rfl rfl rfl (fun hg=>?_) (fun hg=>?_)|(refine Zi rfl rfl rfl rfl (fun hg=>?_) (fun hg=>?_)<;>refine D1 ?_)|fail)
     refine W ?_
     exact Zd (i+1) ⟨rfl,rfl,rfl,rfl,rfl,trivial⟩ (fin 0 _ (Xo _) hS hrow hlt (fun _ h=>absurd h (Nat.lt_irrefl _))) (by omega)
   | succ j=>
     have hz:((j+1:Nat):Int) - 1=(j:Int):=by omega
     have hi1:j+1<(put pre rest x (j+1)).length:=by rw [Z0K];omega
     have hi0:j<(put pre rest x (j+1)).length:=by rw [Z0K];omega
     have a1:=Z8w (rest:=rest) (x:=x) hj hi1
     have a0:=Z2Q (rest:=rest) (x:=x) (X3 hj) hi0
     refine W ?_
     refine ZDr 17 [] [] [(0,0),(1,0),(2,0),(3,0),(4,0),(5,0),(6,0),(7,0),(8,1),(9,0),(10,0),(11,0),(12,0),(13,1),(14,2),(15,0),(16,0)] (fun w1 hS1=>?_)
     replace hS:=hS.trans (hS1.mono (by simp))
     replace hrow:=hrow.up hS1;replace hs:=hs.up hS1
     repeat'(first|refine D1 ?_|omega|refine Zm rfl rfl rfl rfl (fun hg=>?_) (fun hg=>?_)|(refine Zi rfl rfl rfl rfl (fun hg=>?_) (fun hg=>?_)<;>refine D1 ?_)|fail)
     refine ZC rfl (by first|exact trivial|exact rfl) (ZK (f:=g) rfl (Zb rfl rfl) rfl (hp _ _ _ hS)) (fun _ _ h=>h.2) rfl ?_
     rintro _ w3 ⟨rfl,hS3⟩
     rw [a1,a0]
     replace hS:=hS.trans (hS3.mono (by simp))
     replace hrow:=hrow.up hS3;replace hs:=hs.up hS3
     repeat'(first|refine D1 ?_|omega|refine Zm rfl rfl rfl rfl (fun hg=>?_) (fun hg=>?_)|(refine Zi rfl rfl rfl rfl (fun hg=>?_) (fun hg=>?_)<;>refine D1 ?_)|fail)
     repeat'(first|refine W1 ?_|refine VG ?_ ?_<;>intro hg|refine VC ?_ ?_<;>intro hc)
     rename_i hc
     refine ZDr 18 [] [15,17] [(0,0),(1,0),(2,0),(3,0),(4,0),(5,0),(6,0),(7,0),(8,0),(9,1),(10,0),(11,0),(12,0),(13,1),(14,0),(15,2),(16,0),(17,2)] (fun w1 hS1=>?_)
     replace hS:=hS.trans (hS1.mono (by simp))
     replace hrow:=hrow.up hS1;replace hs:=hs.up hS1
     focus repeat'(first|refine D1 ?_|omega|refine Zm rfl rfl rfl rfl (fun hg=>?_) (fun hg=>?_)|(refine Zi rfl rfl rfl rfl (fun hg=>?_) (fun hg=>?_)<;>refine D1 ?_)|fail)
     rw [a1,a0]
     refine ZU rfl trivial (Ju (i:=j+1) (y':=pre[j]) rfl rfl rfl rfl hrow hX hi1) rfl ?_
     rintro _ w4 ⟨hrow,hS4⟩
     replace hS:=hS.trans hS4
     focus repeat'(first|refine D1 ?_|omega|refine Zm rfl rfl rfl rfl (fun hg=>?_) (fun hg=>?_)|(refine Zi rfl rfl rfl rfl (fun hg=>?_) (fun hg=>?_)<;>refine D1 ?_)|fail)
     refine ZU rfl trivial (Ju (i:=j) (y':=x) rfl rfl rfl rfl hrow hX (by rw [Yaj];exact hi0)) rfl ?_
     rintro _ w5 ⟨hrow,hS5⟩
     replace hS:=hS.trans hS5
     rw [Z50 (X3 hj)] at hrow
     focus repeat'(first|refine D1 ?_|omega|refine Zm rfl rfl rfl rfl (fun hg=>?_) (fun hg=>?_)|(refine Zi rfl rfl rfl rfl (fun hg=>?_) (fun hg=>?_)<;>refine D1 ?_)|fail)
     refine W ?_
     refine Zd j ⟨rfl,rfl,rfl,rfl,rfl,(by rw [← hz];rfl),trivial⟩ ⟨by omega,hS,hrow,fun q h hq=>?_⟩ (by omega)
     by_cases e:q=j
     subst e;exact hc
     exact hlt q h (by omega)
     exact Zd (i+1) ⟨rfl,rfl,rfl,rfl,rfl,trivial⟩ (fin (j+1) _ hj hS hrow hlt (fun _ _=>by assumption)) (by omega)
 focus repeat'(first|refine W1 ?_|refine VG ?_ ?_<;>intro hg|refine VC ?_ ?_<;>intro hc)
 omega
 refine WR ?_
 refine .mk ⟨ys,⟨hperm,?_⟩,hrow,hS⟩
 rwa [Xn (by omega)] at hsort
theorem Z8y (g:Nat) (fn:Func) [Fun Tryz.prog g fn] (lb:Array Value) (c:Rpt→Rpt→Int) (ho:Ord c) (X:List Nat) (base:Nat) (v:Value) (xs:List Rpt) (w:World) (hX:∀ b∈X,b<base) (hbase:base≤w.heap.size) (hrow:Row X w base 145 v xs) (hp:Z4s Tryz.prog (ob v) g lb c w) (hlen:xs.length≤1000) :
 CC 278 #[v,.int .i64 0,.int .i64 xs.length,.func (.func g) #[] lb] w fun r w'=>∃ ys,JX c xs ys∧Row X w' base 145 v ys∧Stp (ob v) w w':=by
 refine cW4 53 Tryz.func278 ?_
 refine W ?_
 refine Zh (σ:=Nat) (fun i=>[(0,v),(1,.int .i64 0),(2,.int .i64 xs.length),(3,.func (.func g) #[] lb),(8,.int .i64 (i+1))])
  (fun i w'=>Stp (ob v) w w'∧∃ ys,ys.Perm xs∧Row X w' base 145 v ys∧(ys.take (i+1)).Pairwise (fun a b=>¬ c b a<0)) (fun i=>xs.length - i) 0 ⟨rfl,rfl,rfl,rfl,rfl,trivial⟩
  ⟨Stp.refl _ _,xs,YaM _,hrow,?_⟩ ?_
 · cases xs with
   | nil=>simp
   | cons x r=>simp
 rintro i w1 ⟨hS,ys,hperm,hrow,hsort⟩
 have hyl:=hperm.length_eq
 by_cases hit:i+1<xs.length
 · repeat'(first|refine W1 ?_|refine VG ?_ ?_<;>intro hg|refine VC ?_ ?_<;>intro hc)
   rotate_left
   omega
   obtain ⟨pre,x,rest,hpl,rfl⟩:∃ pre x rest,pre.length=i+1∧ys=put pre rest x pre.length:=by
    refine ⟨ys.take (i+1),ys[i+1],ys.drop (i+2),by simp;omega,?_⟩
    unfold put
    have hl:(ys.take (i+1)).length=i+1:=by simp;omega
    rw [hl,XR,Nat.min_self,XX (by omega)]
    conv=>lhs;rw [← Xq (i+1) ys,XA (by omega)]
    simp
   have hpre:pre.Pairwise (fun a b=>¬ c b a<0):=by
    have:(put pre rest x pre.length).take (i+1)=pre:=by
     unfold put
     rw [Xw,X7,Xr,← hpl,X1]
     rfl
    rwa [this] at hsort
   have hpl2:pre.length+1+rest.length=xs.length:=by rw [← hyl,Z0K]
   have fin:∀ j (w':World),j≤pre.length→Stp (ob v) w w'→Row X w' base 145 v (put pre rest x j)→(∀ q (h:q<pre.length),j≤q→c x pre[q]<0)→(∀ h:j - 1<pre.length,0<j→¬ c x pre[j - 1]<0)→
    Stp (ob v) w w'∧∃ ys,ys.Perm xs∧Row X w' base 145 v ys∧(ys.take (i+1+1)).Pairwise (fun a b=>¬ c b a<0):=by
    intro j w' hj hS hrow h1 h2
    refine ⟨hS,put pre rest x j,?_,hrow,?_⟩
    refine List.Perm.trans ?_ hperm
    unfold put
    rw [Xw,X7]
    refine XN _ ?_
    refine List.Perm.trans Yar ?_
    rw [Xq]
    exact (XY x pre).symm
    have e:(put pre rest x j).take (i+1+1)=pre.take j++x :: pre.drop j:=by
     have hl:(pre.take j++x :: pre.drop j).length=i+1+1:=by
      have:=congrArg List.length (Xq j pre)
      simp only [Xh] at this
      simp only [Xh,Xe];omega
     unfold put
     rw [← hl,X1]
     rfl
    rw [e]
    exact Z2R ho hj hpre h1 h2
   refine Zh (σ:=Nat) (fun j=>[(0,v),(1,.int .i64 0),(2,.int .i64 xs.length),(3,.func (.func g) #[] lb),(8,.int .i64 (i+1)),(9,.int .i64 (j:Int))])
    (fun j w'=>j≤pre.length∧Stp (ob v) w w'∧Row X w' base 145 v (put pre rest x j)∧(∀ q (h:q<pre.length),j≤q→c x pre[q]<0)) (fun j=>j) (i+1) ⟨rfl,rfl,rfl,rfl,rfl,rfl,trivial⟩
    ⟨by omega,hS,by rw [hpl] at hrow;exact hrow,fun q h hq=>by omega⟩ ?_
   clear hrow hS
   rintro j w2 ⟨hj,hS,hrow,hlt⟩
   have hs:=hrow.slv hX
   cases j with
   | zero=>
     refine W ?_
     refine ZDr 17 [] [] [(0,0),(1,0),(2,0),(3,0),(4,0),(5,0),(6,0),(7,0),(8,1),(9,0),(10,0),(11,0),(12,0),(13,1),(14,2),(15,0),(16,0)] (fun w1 hS1=>?_)
     replace hS:=hS.trans (hS1.mono (by simp))
     replace hrow:=hrow.up hS1;replace hs:=hs.up hS1
     repeat'(first|refine D1 ?_|omega|refine Zm rfl rfl rfl rfl (fun hg=>?_) (fun hg=>?_)|(refine Zi rfl rfl rfl rfl (fun hg=>?_) (fun hg=>?_)<;>refine D1 ?_)|fail)
     refine W ?_
     exact Zd (i+1) ⟨rfl,rfl,rfl,rfl,rfl,trivial⟩ (fin 0 _ (Xo _) hS hrow hlt (fun _ h=>absurd h (Nat.lt_irrefl _))) (by omega)
   | succ j=>
     have hz:((j+1:Nat):Int) - 1=(j:Int):=by omega
     have hi1:j+1<(put pre rest x (j+1)).length:=by rw [Z0K];omega
     have hi0:j<(put pre rest x (j+1)).length:=by rw [Z0K];omega
     have a1:=Z8w (rest:=rest) (x:=x) hj hi1
     have a0:=Z2Q (rest:=rest) (x:=x) (X3 hj) hi0
     refine W ?_
     refine ZDr 17 [] [] [(0,0),(1,0),(2,0),(3,0),(4,0),(5,0),(6,0),(7,0),(8,1),(9,0),(10,0),(11,0),(12,0),(13,1),(14,2),(15,0),(16,0)] (fun w1 hS1=>?_)
     replace hS:=hS.trans (hS1.mono (by simp))
     replace hrow:=hrow.up hS1;replace hs:=hs.up hS1
     repeat'(first|refine D1 ?_|omega|refine Zm rfl rfl rfl rfl (fun hg=>?_) (fun hg=>?_)|(refine Zi rfl rfl rfl rfl (fun hg=>?_) (fun hg=>?_)<;>refine D1 ?_)|fail)
     refine ZC rfl (by first|exact trivial|exact rfl) (ZK (f:=g) rfl (Zb rfl rfl) rfl (hp _ _ _ hS)) (fun _ _ h=>h.2) rfl ?_
     rintro _ w3 ⟨rfl,hS3⟩
     rw [a1,a0]
     replace hS:=hS.trans (hS3.mono (by simp))
     replace hrow:=hrow.up hS3;replace hs:=hs.up hS3
     repeat'(first|refine D1 ?_|omega|refine Zm rfl rfl rfl rfl (fun hg=>?_) (fun hg=>?_)|(refine Zi rfl rfl rfl rfl (fun hg=>?_) (fun hg=>?_)<;>refine D1 ?_)|fail)
     repeat'(first|refine W1 ?_|refine VG ?_ ?_<;>intro hg|refine VC ?_ ?_<;>intro hc)
     rename_i hc
     refine ZDr 18 [] [15,17] [(0,0),(1,0),(2,0),(3,0),(4,0),(5,0),(6,0),(7,0),(8,0),(9,1),(10,0),(11,0),(12,0),(13,1),(14,0),(15,2),(16,0),(17,2)] (fun w1 hS1=>?_)
     replace hS:=hS.trans (hS1.mono (by simp))
     replace hrow:=hrow.up hS1;replace hs:=hs.up hS1
     focus repeat'(first|refine D1 ?_|omega|refine Zm rfl rfl rfl rfl (fun hg=>?_) (fun hg=>?_)|(refine Zi rfl rfl rfl rfl (fun hg=>?_) (fun hg=>?_)<;>refine D1 ?_)|fail)
     rw [a1,a0]
     refine ZU rfl trivial (Ju (i:=j+1) (y':=pre[j]) rfl rfl rfl rfl hrow hX hi1) rfl ?_
     rintro _ w4 ⟨hrow,hS4⟩
     replace hS:=hS.trans hS4
     focus repeat'(first|refine D1 ?_|omega|refine Zm rfl rfl rfl rfl (fun hg=>?_) (fun hg=>?_)|(refine Zi rfl rfl rfl rfl (fun hg=>?_) (fun hg=>?_)<;>refine D1 ?_)|fail)
     refine ZU rfl trivial (Ju (i:=j) (y':=x) rfl rfl rfl rfl hrow hX (by rw [Yaj];exact hi0)) rfl ?_
     rintro _ w5 ⟨hrow,hS5⟩
     replace hS:=hS.trans hS5
     rw [Z50 (X3 hj)] at hrow
     focus repeat'(first|refine D1 ?_|omega|refine Zm rfl rfl rfl rfl (fun hg=>?_) (fun hg=>?_)|(refine Zi rfl rfl rfl rfl (fun hg=>?_) (fun hg=>?_)<;>refine D1 ?_)|fail)
     refine W ?_
     refine Zd j ⟨rfl,rfl,rfl,rfl,rfl,(by rw [← hz];rfl),trivial⟩ ⟨by omega,hS,hrow,fun q h hq=>?_⟩ (by omega)
     by_cases e:q=j
     subst e;exact hc
     exact hlt q h (by omega)
     exact Zd (i+1) ⟨rfl,rfl,rfl,rfl,rfl,trivial⟩ (fin (j+1) _ hj hS hrow hlt (fun _ _=>by assumption)) (by omega)
 focus repeat'(first|refine W1 ?_|refine VG ?_ ?_<;>intro hg|refine VC ?_ ?_<;>intro hc)
 omega
 refine WR ?_
 refine .mk ⟨ys,⟨hperm,?_⟩,hrow,hS⟩
 rwa [Xn (by omega)] at hsort
theorem Z9k (x y:Int):Z1A x y≠0↔x≠y:=by unfold Z1A;split<;>(try split)<;>omega
theorem Zbm (x y:Int):orI x y<0↔x<0∨x=0∧y<0:=by unfold orI;split<;>omega
theorem Z2p (x y:Dlv):Z6C x y<0↔Z0f x y=true:=by
 unfold Z6C Z0f
 rw [Zbm,Z0L,Z0L,decide_eq_true_eq]
 have:=Z9k x.day y.day
 constructor
 rintro (h|⟨h,h2⟩)
 exact .inl h
 exact .inr ⟨by omega,h2⟩
 rintro (h|⟨h,h2⟩)
 exact .inl h
 exact .inr ⟨by omega,h2⟩
theorem Zlv:Ord Z6C where
 asym:=fun a b=>by rw [Z2p,Z2p];simp only [Z0f,decide_eq_true_eq];omega
 trans:=fun a b d=>by rw [Z2p,Z2p,Z2p];simp only [Z0f,decide_eq_true_eq];omega
theorem Z2q (x y:Rpt):Z6D x y<0↔JW x y=true:=by
 unfold Z6D JW
 rw [Zbm,Z0L,Z0L,decide_eq_true_eq]
 have:=Z9k x.day y.day
 constructor
 rintro (h|⟨h,h2⟩)
 exact .inl h
 exact .inr ⟨by omega,h2⟩
 rintro (h|⟨h,h2⟩)
 exact .inl h
 exact .inr ⟨by omega,h2⟩
theorem Zlw:Ord Z6D where
 asym:=fun a b=>by rw [Z2q,Z2q];simp only [JW,decide_eq_true_eq];omega
 trans:=fun a b d=>by rw [Z2q,Z2q,Z2q];simp only [JW,decide_eq_true_eq];omega
theorem Zdb (g:Nat) (fn:Func) [Fun Tryz.prog g fn] (lb:Array Value) (c:Dlv→Dlv→Int) (ho:Ord c) (X:List Nat) (base:Nat) (v:Value) (xs:List Dlv) (w:World) (hX:∀ b∈X,b<base) (hbase:base≤w.heap.size) (hrow:Row X w base 141 v xs) (hp:Z4s Tryz.prog (ob v) g lb c w) (hlen:xs.length<20) :
 CC 216 #[v,.int .i64 xs.length,.func (.func g) #[] lb] w fun r w'=>∃ ys,JX c xs ys∧Row X w' base 141 v ys∧Stp (ob v) w w':=by
 have nl:¬ ((20:Int)≤xs.length):=by omega
 have nl2:¬ ((20:Int)<xs.length):=by omega
 refine cW3 63 Tryz.func216 ?_
 refine W ?_
 refine Zh (σ:=Unit) (fun _=>[(0,v),(1,.int .i64 xs.length),(2,.func (.func g) #[] lb),(6,.int .i64 20),(7,.int .i64 0),(8,.int .i64 20)]) (fun _ w'=>w'=w) (fun _=>0) () ⟨rfl,rfl,rfl,rfl,rfl,rfl,trivial⟩ rfl ?_
 rintro _ w' rfl
 repeat'(first|refine W1 ?_|refine VG ?_ ?_<;>intro hg|refine VC ?_ ?_<;>intro hc)
 exact absurd (by assumption) nl
 refine CL rfl (Z2z rfl rfl rfl rfl) rfl (Z8x g fn lb c ho X base v xs _ hX hbase hrow hp (by omega)) ?_
 rintro r w2 hres
 refine W ?_
 refine Zh (σ:=Unit) (fun _=>[(1,.int .i64 xs.length),(6,.int .i64 20)]) (fun _ w'=>w'=w2) (fun _=>0) () ⟨rfl,rfl,trivial⟩ rfl ?_
 rintro _ w' rfl
 repeat'(first|refine W1 ?_|refine VG ?_ ?_<;>intro hg|refine VC ?_ ?_<;>intro hc)
 exact absurd (by assumption) nl2
 refine WR ?_
 exact .mk hres
theorem Z7u (g:Nat) (fn:Func) [Fun Tryz.prog g fn] (lb:Array Value) (c:Dlv→Dlv→Int) (ho:Ord c) (X:List Nat) (base:Nat) (v:Value) (xs:List Dlv) (w:World) (hX:∀ b∈X,b<base) (hbase:base≤w.heap.size) (hrow:Row X w base 141 v xs) (hp:Z4s Tryz.prog (ob v) g lb c w) (hlen:xs.length<20) :
 CC 124 #[v,.func (.func g) #[] lb] w fun r w'=>∃ ys,JX c xs ys∧Row X w' base 141 v ys∧Stp (ob v) w w':=by
 have hs:=hrow.slv hX
 refine cW2 9 Tryz.func124 ?_
 refine W ?_
 refine CL rfl (J7 rfl rfl rfl) rfl (Zdb g fn lb c ho X base v xs _ hX hbase hrow hp hlen) ?_
 rintro r w2 hres
 refine W ?_
 refine WR ?_
 exact .mk hres
theorem Zdc (g:Nat) (fn:Func) [Fun Tryz.prog g fn] (lb:Array Value) (c:Rpt→Rpt→Int) (ho:Ord c) (X:List Nat) (base:Nat) (v:Value) (xs:List Rpt) (w:World) (hX:∀ b∈X,b<base) (hbase:base≤w.heap.size) (hrow:Row X w base 145 v xs) (hp:Z4s Tryz.prog (ob v) g lb c w) (hlen:xs.length<20) :
 CC 219 #[v,.int .i64 xs.length,.func (.func g) #[] lb] w fun r w'=>∃ ys,JX c xs ys∧Row X w' base 145 v ys∧Stp (ob v) w w':=by
 have nl:¬ ((20:Int)≤xs.length):=by omega
 have nl2:¬ ((20:Int)<xs.length):=by omega
 refine cW3 63 Tryz.func219 ?_
 refine W ?_
 refine Zh (σ:=Unit) (fun _=>[(0,v),(1,.int .i64 xs.length),(2,.func (.func g) #[] lb),(6,.int .i64 20),(7,.int .i64 0),(8,.int .i64 20)]) (fun _ w'=>w'=w) (fun _=>0) () ⟨rfl,rfl,rfl,rfl,rfl,rfl,trivial⟩ rfl ?_
 rintro _ w' rfl
 repeat'(first|refine W1 ?_|refine VG ?_ ?_<;>intro hg|refine VC ?_ ?_<;>intro hc)
 exact absurd (by assumption) nl
 refine CL rfl (Z2z rfl rfl rfl rfl) rfl (Z8y g fn lb c ho X base v xs _ hX hbase hrow hp (by omega)) ?_
 rintro r w2 hres
 refine W ?_
 refine Zh (σ:=Unit) (fun _=>[(1,.int .i64 xs.length),(6,.int .i64 20)]) (fun _ w'=>w'=w2) (fun _=>0) () ⟨rfl,rfl,trivial⟩ rfl ?_
 rintro _ w' rfl
 repeat'(first|refine W1 ?_|refine VG ?_ ?_<;>intro hg|refine VC ?_ ?_<;>intro hc)
 exact absurd (by assumption) nl2
 refine WR ?_
 exact .mk hres
theorem Z7v (g:Nat) (fn:Func) [Fun Tryz.prog g fn] (lb:Array Value) (c:Rpt→Rpt→Int) (ho:Ord c) (X:List Nat) (base:Nat) (v:Value) (xs:List Rpt) (w:World) (hX:∀ b∈X,b<base) (hbase:base≤w.heap.size) (hrow:Row X w base 145 v xs) (hp:Z4s Tryz.prog (ob v) g lb c w) (hlen:xs.length<20) :
 CC 130 #[v,.func (.func g) #[] lb] w fun r w'=>∃ ys,JX c xs ys∧Row X w' base 145 v ys∧Stp (ob v) w w':=by
 have hs:=hrow.slv hX
 refine cW2 9 Tryz.func130 ?_
 refine W ?_
 refine CL rfl (J7 rfl rfl rfl) rfl (Zdc g fn lb c ho X base v xs _ hX hbase hrow hp hlen) ?_
 rintro r w2 hres
 refine W ?_
 refine WR ?_
 exact .mk hres
theorem Zdd (X:List Nat) (base:Nat) (v:Value) (xs:List Dlv) (till:Int) (w:World) (hX:∀ b∈X,b<base) (hbase:base≤w.heap.size) (hrow:Row X w base 141 v xs) (hlen:xs.length<20) :
 CC 67 #[v,.int .i64 till,.func (.func 68) #[] #[]] w fun r w'=>∃ ys,JX Z6C (xs.filter (fun x=>!decide (x.day > till))) ys∧Row X w' base 141 r ys∧Stp (ob v) w w'∧ob r=ob v:=by
 have hob:=hrow.ob_le
 have hs:=hrow.slv hX
 refine cW3 14 Tryz.func67 ?_
 refine W ?_
 refine Z0 (Zl rfl) rfl ?_
 rintro _ w1 ⟨b1,rfl,hb1,hblk1,hS1⟩
 refine Z0 (Zl rfl) rfl ?_
 rintro _ w2 ⟨b2,rfl,hb2,hblk2,hS2⟩
 replace hblk1:=hblk1.up hS2
 have hw0:=hS1.size
 replace hS1:=hS1.trans hS2
 replace hrow:=hrow.up hS1;replace hs:=hs.up hS1
 have n1:b1∉ob v:=fun h=>by have:=(hob _ h).2;omega
 have n2:b2∉ob v:=fun h=>by have:=(hob _ h).2;have:=hS2.size;omega
 refine W ?_
 have hw1:=hS1.size
 refine CL rfl (Zb rfl rfl) rfl (Zd9 123 _ _ (fun x=>decide (x.day > till)) X base v xs _ hX (by omega) hrow (Zjn (ob v) b2 b1 _ _ till _ hblk2 hblk1 n2 n1) (by omega)) ?_
 rintro r w3 ⟨hrow,hS3,hobr⟩
 replace hblk2:=hblk2.ext hS3 n2
 have hw3:=hS3.size
 refine W ?_
 refine CL rfl (Zb rfl rfl) rfl (Z7u 125 _ _ Z6C Zlv X base r _ _ hX (by omega) hrow (Zjo (ob r) b2 _ _ hblk2 (by rw [hobr];exact n2)) (Yay (X0 _ _) hlen)) ?_
 rintro z w4 ⟨ys,hys,hrow,hS4⟩
 refine W ?_
 refine WR ?_
 exact .mk ⟨ys,hys,hrow,((hS1.mono (by simp)).trans hS3).trans (hobr ▸ hS4),hobr⟩
theorem Zde (X:List Nat) (base:Nat) (v:Value) (xs:List Rpt) (till:Int) (w:World) (hX:∀ b∈X,b<base) (hbase:base≤w.heap.size) (hrow:Row X w base 145 v xs) (hlen:xs.length<20) :
 CC 69 #[v,.int .i64 till,.func (.func 70) #[] #[]] w fun r w'=>∃ ys,JX Z6D (xs.filter (fun x=>!decide (x.day > till))) ys∧Row X w' base 145 r ys∧Stp (ob v) w w'∧ob r=ob v:=by
 have hob:=hrow.ob_le
 have hs:=hrow.slv hX
 refine cW3 14 Tryz.func69 ?_
 refine W ?_
 refine Z0 (Zl rfl) rfl ?_
 rintro _ w1 ⟨b1,rfl,hb1,hblk1,hS1⟩
 refine Z0 (Zl rfl) rfl ?_
 rintro _ w2 ⟨b2,rfl,hb2,hblk2,hS2⟩
 replace hblk1:=hblk1.up hS2
 have hw0:=hS1.size
 replace hS1:=hS1.trans hS2
 replace hrow:=hrow.up hS1;replace hs:=hs.up hS1
 have n1:b1∉ob v:=fun h=>by have:=(hob _ h).2;omega
 have n2:b2∉ob v:=fun h=>by have:=(hob _ h).2;have:=hS2.size;omega
 refine W ?_
 have hw1:=hS1.size
 refine CL rfl (Zb rfl rfl) rfl (Zda 129 _ _ (fun x=>decide (x.day > till)) X base v xs _ hX (by omega) hrow (Zjp (ob v) b2 b1 _ _ till _ hblk2 hblk1 n2 n1) (by omega)) ?_
 rintro r w3 ⟨hrow,hS3,hobr⟩
 replace hblk2:=hblk2.ext hS3 n2
 have hw3:=hS3.size
 refine W ?_
 refine CL rfl (Zb rfl rfl) rfl (Z7v 131 _ _ Z6D Zlw X base r _ _ hX (by omega) hrow (Zjq (ob r) b2 _ _ hblk2 (by rw [hobr];exact n2)) (Yay (X0 _ _) hlen)) ?_
 rintro z w4 ⟨ys,hys,hrow,hS4⟩
 refine W ?_
 refine WR ?_
 exact .mk ⟨ys,hys,hrow,((hS1.mono (by simp)).trans hS3).trans (hobr ▸ hS4),hobr⟩
theorem _root_.Go.Eng.Row.reX {β:Type} [Z5 β] {X X':List Nat} {w:World} {base T:Nat} {v:Value} {xs:List β} (h:Row X w base T v xs):Row X' w base T v xs:=h
theorem Zdf (c:Int) (w:World):(Instr.build 137 #[(2,.int .i64 c)]).run Tryz.prog w=.ok (agg (Wy.mk 0 0 c 0)) w:=by kernel_rfl
def Z0A (ws:List Wy) (z:Int):Wy:=match ws.find? (fun x=>decide (x.attempt=z)) with|some p=>p|none=>⟨0,0,1,0⟩
def Z0M (ws:List Wy) (ps:List Pap):List Dlv:=ps.flatMap (fun p=>if Z13 p (Z0A ws p.attempt) then [Z24 p (Z0A ws p.attempt)] else [])
def Z1B (ws:List Wy) (ps:List Pap):List Rpt:=ps.flatMap (fun p=>Z0k p (Z0A ws p.attempt))
theorem Z5M (ws:List Wy) (ps:List Pap) (k:Nat) (hk:k<ps.length):Z0M ws (ps.take (k+1))=Z0M ws (ps.take k)++if Z13 ps[k] (Z0A ws ps[k].attempt) then [Z24 ps[k] (Z0A ws ps[k].attempt)] else []:=by
 unfold Z0M
 rw [Xl hk,List.flatMap_append]
 simp
theorem Z5N (ws:List Wy) (ps:List Pap) (k:Nat) (hk:k<ps.length):Z1B ws (ps.take (k+1))=Z1B ws (ps.take k)++Z0k ps[k] (Z0A ws ps[k].attempt):=by
 unfold Z1B
 rw [Xl hk,List.flatMap_append]
 simp
theorem Z51 (ws:List Wy) (ps:List Pap):∀ k,k≤ps.length→(Z0M ws (ps.take k)).length≤k
 | 0,_=>by simp [Z0M]
 | k + 1, h => by
   have ih:=Z51 ws ps k (by omega)
   rw [Z5M ws ps k (by omega),Xh]
   split<;>simp<;>omega
theorem Z52 (ws:List Wy) (ps:List Pap):∀ k,k≤ps.length→(Z1B ws (ps.take k)).length≤2 * k
 | 0,_=>by simp [Z1B]
 | k + 1, h => by
   have ih:=Z52 ws ps k (by omega)
   rw [Z5N ws ps k (by omega),Xh]
   have:=Z8v (ps[k]'(by omega)) (Z0A ws (ps[k]'(by omega)).attempt)
   omega
def Jk (y:Wy):Nat:=if y.kind=2 then 0 else if y.kind=3 then 2 else 1
theorem Z7w (p:Pap) (y:Wy) (h1:¬ p.sent+y.days > 3652058) (h2:¬ y.kind=1):Z0k p y=(List.range (Jk y)).map (fun i=>Z1Q p y (1+(i:Nat))):=by
 unfold Z0k Jk
 by_cases e2:y.kind=2
 simp [e2]
 by_cases e3:y.kind=3
 rw [if_neg (by omega),if_pos e3,if_neg e2,if_pos e3];rfl
 rw [if_neg (by omega),if_neg e3,if_neg e2,if_neg e3];rfl
theorem Zhj (X Y Z:List Nat) (u v:Value) (ps:List Pap) (ws:List Wy) (till:Int) (w:World) (hX:∀ b∈X,b<w.heap.size) (hps:SlV Y w u ps) (hws:SlV Z w v ws) (hn:ps.length≤9) (hr:∀ p∈ps,I64 (p.sent+(Z0A ws p.attempt).days)) :
 CC 24 #[u,v,.int .i64 till] w fun r w'=>∃ a b ds rs,r=.tuple #[a,b]∧JX Z6C ((Z0M ws ps).filter (fun x=>!decide (x.day > till))) ds∧JX Z6D ((Z1B ws ps).filter (fun x=>!decide (x.day > till))) rs∧SlV X w' a ds∧SlV X w' b rs∧Stp [] w w':=by
 have hmax:=hws.max
 refine cW3 97 Tryz.func24 ?_
 refine W ?_
 refine Z6h (σ:=Value×Value) (fun s=>[(2,.int .i64 till),(8,s.1),(9,s.2)])
  (fun s w'=>Stp [] w w'∧Row X w' w.heap.size 141 s.1 (Z0M ws ps)∧Row X w' w.heap.size 145 s.2 (Z1B ws ps)∧∀ b∈ob s.1,b∉ob s.2) ?_ ?_
 refine Zh (σ:=Nat×Value×Value) (fun k=>[(1,v),(2,.int .i64 till),(8,k.2.1),(9,k.2.2),(18,u),(19,.int .i64 ps.length),(20,.int .i64 k.1)])
  (fun k w'=>k.1≤ps.length∧Stp [] w w'∧Row X w' w.heap.size 141 k.2.1 (Z0M ws (ps.take k.1))∧Row X w' w.heap.size 145 k.2.2 (Z1B ws (ps.take k.1))∧∀ b∈ob k.2.1,b∉ob k.2.2) (fun k=>ps.length - k.1) (0,.slice none 0 0,.slice none 0 0)
  ⟨rfl,rfl,rfl,rfl,rfl,rfl,rfl,trivial⟩ ⟨Xo _,Stp.refl _ _,Row.nil,Row.nil,by simp [ob]⟩ ?_
 rintro ⟨k,dv,rv⟩ w1 ⟨hk,hS,hd,hrp,hdis⟩
 dsimp only at hk hS hd hrp hdis ⊢
 have hps0:=hps
 have hws0:=hws
 replace hps:=hps.up hS;replace hws:=hws.up hS
 have hd0:=hd.ob_le
 have hr0:=hrp.ob_le
 have hw1:=hS.size
 by_cases hlt:k<ps.length
 · repeat'(first|refine W1 ?_|refine VG ?_ ?_<;>intro hg|refine VC ?_ ?_<;>intro hc)
   rotate_left
   omega
   refine Z0 Z8 rfl ?_
   rintro _ w2 ⟨b,rfl,hb,hblk,hS2⟩
   refine Z1 (Z2 (us:=Z5.enc ps[k]) rfl rfl rfl rfl (Z5.one _) hblk rfl) ?_
   rintro _ w3 ⟨hS3,hblk⟩
   replace hS3:=hS2.own hS3 (S:=[]) (by simp;omega)
   replace hps:=hps.up hS3;replace hws:=hws.up hS3;replace hd:=hd.up hS3;replace hrp:=hrp.up hS3
   replace hS:=hS.trans hS3
   refine W ?_
   apply Za (vs:=[(2,.int .i64 1)]) rfl (Zdf _) rfl
   have f1:=hblk.lt
   refine Z0 Z8 rfl ?_
   rintro _ w4 ⟨b2,rfl,hb2,hblk2,hS4⟩
   refine Z1 (Z2 (us:=Z5.enc (Wy.mk 0 0 1 0)) rfl rfl rfl rfl (Z5.one _) hblk2 rfl) ?_
   rintro _ w5 ⟨hS5,hblk2⟩
   replace hS5:=hS4.own hS5 (S:=[]) (by simp;omega)
   replace hps:=hps.up hS5;replace hws:=hws.up hS5;replace hd:=hd.up hS5;replace hrp:=hrp.up hS5;replace hblk:=hblk.up hS5
   replace hS:=hS.trans hS5
   refine W ?_
   refine CL rfl (Zb rfl rfl) rfl (Z9g 66 _ _ _ Z v ws _ hws (Zjj b _ ps[k] _ hblk)) ?_
   rintro _ w6 ⟨rfl,hS6⟩
   replace hps:=hps.up hS6;replace hws:=hws.up hS6;replace hd:=hd.up hS6;replace hrp:=hrp.up hS6;replace hblk:=hblk.up hS6;replace hblk2:=hblk2.up hS6
   replace hS:=hS.trans hS6
   refine W ?_
   have hb0:=hblk.lt
   refine Z33 (σ:=Unit) (fun _=>[(1,v),(2,.int .i64 till),(8,dv),(9,rv),(18,u),(19,.int .i64 ps.length),(20,.int .i64 k),(11,.pointer (some ⟨b,0,none⟩)),(12,.pointer (some ⟨b2,0,none⟩))])
    (fun _ w'=>Stp [b2] w6 w'∧Blk w' b2 137 (Z5.enc (Z0A ws ps[k].attempt))) ?_ ?_
   rcases Z0j (fun x:Wy=>decide (x.attempt=ps[k].attempt)) ws with ⟨hi,hf⟩|⟨m,hm,hi,hf,_,_⟩
   rw [hi]
   refine W ?_
   exact ZJ () ⟨rfl,rfl,rfl,rfl,rfl,rfl,rfl,rfl,rfl,trivial⟩ ⟨Stp.refl _ _,by unfold Z0A;rw [hf];exact hblk2⟩
   rw [hi]
   focus repeat'(first|refine W1 ?_|refine VG ?_ ?_<;>intro hg|refine VC ?_ ?_<;>intro hc)
   refine Z1 (Z2 (us:=Z5.enc ws[m]) rfl rfl rfl rfl (Z5.one _) hblk2 rfl) ?_
   rintro _ w7 ⟨hS7,hblk2⟩
   refine W ?_
   exact ZJ () ⟨rfl,rfl,rfl,rfl,rfl,rfl,rfl,rfl,rfl,trivial⟩ ⟨hS7,by unfold Z0A;rw [hf];exact hblk2⟩
   rintro _ w7 ⟨hS7,hblk2⟩
   have hbb:b≠b2:=by have:=hS6.size;omega
   replace hblk:=hblk.ext hS7 (by simpa using hbb)
   have hvf:w.heap.size≤b2:=by have:=hS3.size;omega
   have hdb:∀ x∈ob dv,x≠b2:=fun x hx e=>by have:=(hd0 x hx).2;omega
   have hdb1:∀ x∈ob dv,x≠b:=fun x hx e=>by have:=(hd0 x hx).2;omega
   have hrb1:∀ x∈ob rv,x≠b:=fun x hx e=>by have:=(hr0 x hx).2;omega
   have hrb:∀ x∈ob rv,x≠b2:=fun x hx e=>by have:=(hr0 x hx).2;omega
   replace hd:=hd.keep hS7 (fun x hx h=>hdb _ h (by simpa using hx))
   replace hrp:=hrp.keep hS7 (fun x hx h=>hrb _ h (by simpa using hx))
   have hSw:=hS
   replace hS:=hS.own hS7 (by simp;omega)
   have hy:=hr ps[k] (Xm hlt)
   have lD:=Z51 ws ps k hk
   have lR:=Z52 ws ps k hk
   have nD:=Z5M ws ps k hlt
   have nR:=Z5N ws ps k hlt
   generalize Z0M ws (ps.take k)=ds at *
   generalize Z1B ws (ps.take k)=rs at *
   generalize Z0A ws ps[k].attempt=y at *
   clear hd0 hr0
   replace hps:=hps0.up hS
   replace hws:=hws0.up hS
   have hyy:=hy
   unfold I64 at hyy
   refine Z3A (σ:=Unit) (fun _=>[(1,v),(2,.int .i64 till),(8,dv),(9,rv),(18,u),(19,.int .i64 ps.length),(20,.int .i64 k),(11,.pointer (some ⟨b,0,none⟩)),(12,.pointer (some ⟨b2,0,none⟩)),(14,.int .i64 (ps[k].sent+y.days))]) (fun _ w'=>w'=w7) ?_ ?_
   refine W ?_
   exact ZJ () ⟨rfl,rfl,rfl,rfl,rfl,rfl,rfl,rfl,rfl,rfl,trivial⟩ rfl
   rintro _ w' rfl
   refine Z3A (σ:=Unit) (fun _=>[(1,v),(2,.int .i64 till),(8,dv),(9,rv),(18,u),(19,.int .i64 ps.length),(20,.int .i64 k),(11,.pointer (some ⟨b,0,none⟩)),(12,.pointer (some ⟨b2,0,none⟩)),(14,.int .i64 (ps[k].sent+y.days))]) (fun _ w''=>w''=w'∧¬ ps[k].sent+y.days > 3652058∧¬ y.kind=1) ?_ ?_
   focus repeat'(first|refine W1 ?_|refine VG ?_ ?_<;>intro hg|refine VC ?_ ?_<;>intro hc)
   refine Zd (k+1,dv,rv) ⟨rfl,rfl,rfl,rfl,rfl,rfl,rfl,trivial⟩ ⟨hlt,hS,?_,?_,hdis⟩ (by dsimp only;omega)
   dsimp only
   have e:Z13 ps[k] y=false:=by simp only [Z13,decide_eq_false_iff_not];omega
   rw [nD,e];simpa using hd
   dsimp only
   rw [nR,Z0k,if_pos (by omega)];simpa using hrp
   refine Zd (k+1,dv,rv) ⟨rfl,rfl,rfl,rfl,rfl,rfl,rfl,trivial⟩ ⟨hlt,hS,?_,?_,hdis⟩ (by dsimp only;omega)
   dsimp only
   have e:Z13 ps[k] y=false:=by simp only [Z13,decide_eq_false_iff_not];omega
   rw [nD,e];simpa using hd
   dsimp only
   rw [nR,Z0k,if_pos (by omega)];simpa using hrp
   exact ZJ () ⟨rfl,rfl,rfl,rfl,rfl,rfl,rfl,rfl,rfl,rfl,trivial⟩ ⟨rfl,by omega,by omega⟩
   rintro _ w'' ⟨rfl,hday,hk1⟩
   have hdr:=hd.ob_le
   have hrr:=hrp.ob_le
   refine Z3A (σ:=Value) (fun dv'=>[(1,v),(2,.int .i64 till),(8,dv'),(9,rv),(18,u),(19,.int .i64 ps.length),(20,.int .i64 k),(11,.pointer (some ⟨b,0,none⟩)),(12,.pointer (some ⟨b2,0,none⟩)),(14,.int .i64 (ps[k].sent+y.days))]) (fun dv' w'=>Stp (ob dv) w'' w'∧Row X w' w.heap.size 141 dv' (Z0M ws (ps.take (k+1)))∧∀ b∈ob dv',b∈ob dv∨w''.heap.size≤b) ?_ ?_
   focus repeat'(first|refine W1 ?_|refine VG ?_ ?_<;>intro hg|refine VC ?_ ?_<;>intro hc)
   have eD:Z0M ws (ps.take (k+1))=ds++[Dlv.mk ps[k].attempt y.party (ps[k].sent+y.days)]:=by
    rw [nD,if_pos (by simp only [Z13,decide_eq_true_eq];exact ⟨by omega,hk1,by assumption⟩),Z24,if_pos (by assumption)]
   apply Za (vs:=[(0,.int .i64 ps[k].attempt),(1,.int .i64 y.party),(2,.int .i64 (ps[k].sent+y.days))]) rfl (Zbh _ _ _) rfl
   refine Z0 (Z3 (vs:=[(0,agg (Dlv.mk _ _ _))]) rfl (Z2o _)) rfl ?_
   rintro z w8 hN
   have hSb:=hN.choose_spec.2.2.2
   have hus:SlV (ob dv) w8 z [Dlv.mk ps[k].attempt y.party (ps[k].sent+y.days)]:=hN.slv (fun b hb=>(hdr b hb).2) rfl rfl (by simp [maxLen])
   have hd8:=hd.up hSb
   have hb8:=hS.size
   have hb9:=hSb.size
   refine Z0 (Jn (X:=[]) (base:=w.heap.size) rfl (by decide) rfl rfl hd8.reX (by simpa using hus) (by simp only [Xe,Xi];omega) (by simp only [Xe,Xi,maxLen];omega) (by omega)) rfl ?_
   rintro dv' w9 ⟨hd9,hS9,hob⟩
   refine W ?_
   exact ZJ dv' ⟨rfl,rfl,rfl,rfl,rfl,rfl,rfl,rfl,rfl,rfl,trivial⟩ ⟨(hSb.mono (by simp)).trans hS9,by rw [eD];exact hd9.reX,fun b hb=>(hob b hb).imp id (fun h=>by omega)⟩
   have eD:Z0M ws (ps.take (k+1))=ds++[Dlv.mk ps[k].attempt ps[k].party (ps[k].sent+y.days)]:=by
    rw [nD,if_pos (by simp only [Z13,decide_eq_true_eq];exact ⟨by omega,hk1,by assumption⟩),Z24,if_neg (by assumption)]
   apply Za (vs:=[(0,.int .i64 ps[k].attempt),(1,.int .i64 ps[k].party),(2,.int .i64 (ps[k].sent+y.days))]) rfl (Zbh _ _ _) rfl
   refine Z0 (Z3 (vs:=[(0,agg (Dlv.mk _ _ _))]) rfl (Z2o _)) rfl ?_
   rintro z w8 hN
   have hSb:=hN.choose_spec.2.2.2
   have hus:SlV (ob dv) w8 z [Dlv.mk ps[k].attempt ps[k].party (ps[k].sent+y.days)]:=hN.slv (fun b hb=>(hdr b hb).2) rfl rfl (by simp [maxLen])
   have hd8:=hd.up hSb
   have hb8:=hS.size
   have hb9:=hSb.size
   refine Z0 (Jn (X:=[]) (base:=w.heap.size) rfl (by decide) rfl rfl hd8.reX (by simpa using hus) (by simp only [Xe,Xi];omega) (by simp only [Xe,Xi,maxLen];omega) (by omega)) rfl ?_
   rintro dv' w9 ⟨hd9,hS9,hob⟩
   refine W ?_
   exact ZJ dv' ⟨rfl,rfl,rfl,rfl,rfl,rfl,rfl,rfl,rfl,rfl,trivial⟩ ⟨(hSb.mono (by simp)).trans hS9,by rw [eD];exact hd9.reX,fun b hb=>(hob b hb).imp id (fun h=>by omega)⟩
   exact ZJ dv ⟨rfl,rfl,rfl,rfl,rfl,rfl,rfl,rfl,rfl,rfl,trivial⟩ ⟨Stp.refl _ _,by rw [nD,if_neg (by simp only [Z13,decide_eq_true_eq];omega)];simpa using hd,fun b hb=>.inl hb⟩
   rintro dv' w8 ⟨hS8,hd',hdv⟩
   have hS8':=hS8
   have hdis':∀ b∈ob dv',b∉ob rv:=fun b hb h=>(hdv b hb).elim (fun h1=>hdis b h1 h) (fun h1=>by have:=(hrr b h).2;omega)
   replace hrp:=hrp.keep hS8 hdis
   replace hS:=hS.own hS8 (fun b hb=>.inr (hdr b hb).1)
   replace hblk:=hblk.ext hS8 (fun h=>hdb1 _ h rfl)
   replace hblk2:=hblk2.ext hS8 (fun h=>hdb _ h rfl)
   replace hps:=hps0.up hS
   replace hws:=hws0.up hS
   refine Z3A (σ:=Unit) (fun _=>[(1,v),(2,.int .i64 till),(8,dv'),(9,rv),(18,u),(19,.int .i64 ps.length),(20,.int .i64 k),(11,.pointer (some ⟨b,0,none⟩)),(12,.pointer (some ⟨b2,0,none⟩)),(14,.int .i64 (ps[k].sent+y.days)),(16,.int .i64 1)]) (fun _ w'=>w'=w8) ?_ ?_
   refine W ?_
   exact ZJ () ⟨rfl,rfl,rfl,rfl,rfl,rfl,rfl,rfl,rfl,rfl,rfl,trivial⟩ rfl
   rintro _ w' rfl
   refine Z3A (σ:=Unit) (fun _=>[(1,v),(2,.int .i64 till),(8,dv'),(9,rv),(18,u),(19,.int .i64 ps.length),(20,.int .i64 k),(11,.pointer (some ⟨b,0,none⟩)),(12,.pointer (some ⟨b2,0,none⟩)),(14,.int .i64 (ps[k].sent+y.days)),(16,.int .i64 (Jk y:Nat))]) (fun _ w''=>w''=w') ?_ ?_
   focus repeat'(first|refine W1 ?_|refine VG ?_ ?_<;>intro hg|refine VC ?_ ?_<;>intro hc)
   have e:Jk y=0:=by unfold Jk;rw [if_pos (by assumption)]
   exact ZJ () ⟨rfl,rfl,rfl,rfl,rfl,rfl,rfl,rfl,rfl,rfl,(by rw [e];rfl),trivial⟩ rfl
   have e:Jk y=2:=by unfold Jk;rw [if_neg (by assumption),if_pos (by assumption)]
   exact ZJ () ⟨rfl,rfl,rfl,rfl,rfl,rfl,rfl,rfl,rfl,rfl,(by rw [e];rfl),trivial⟩ rfl
   have e:Jk y=1:=by unfold Jk;rw [if_neg (by assumption),if_neg (by assumption)]
   exact ZJ () ⟨rfl,rfl,rfl,rfl,rfl,rfl,rfl,rfl,rfl,rfl,(by rw [e];rfl),trivial⟩ rfl
   rintro _ w'' rfl
   have hcl:Jk y≤2:=by unfold Jk;split<;>(try split)<;>omega
   have eR:=Z7w ps[k] y hday hk1
   rw [eR] at nR
   generalize Jk y=cp at *
   refine W ?_
   refine Zh (σ:=Nat×Value) (fun s=>[(1,v),(2,.int .i64 till),(8,dv'),(9,s.2),(18,u),(19,.int .i64 ps.length),(20,.int .i64 k),(11,.pointer (some ⟨b,0,none⟩)),(12,.pointer (some ⟨b2,0,none⟩)),(14,.int .i64 (ps[k].sent+y.days)),(70,.int .i64 (cp:Nat)),(71,.int .i64 s.1)])
    (fun s w'=>s.1≤cp∧Stp [] w w'∧Row X w' w.heap.size 141 dv' (Z0M ws (ps.take (k+1)))∧Row X w' w.heap.size 145 s.2 (rs++(List.range s.1).map (fun i=>Z1Q ps[k] y (1+(i:Nat))))∧(∀ x∈ob dv',x∉ob s.2)∧(∀ x∈ob s.2,x≠b)∧Blk w' b 72 (Z5.enc ps[k])) (fun s=>cp - s.1) (0,rv)
    ⟨rfl,rfl,rfl,rfl,rfl,rfl,rfl,rfl,rfl,rfl,rfl,rfl,trivial⟩ ⟨Xo _,hS,hd',by simpa using hrp,hdis',hrb1,hblk⟩ ?_
   rintro ⟨m,rv'⟩ w9 ⟨hm,hS9,hd9,hr9,hdi9,hnb9,hblk9⟩
   dsimp only at hm hS9 hd9 hr9 hdi9 hnb9 ⊢
   by_cases hmt:m<cp
   · repeat'(first|refine W1 ?_|refine VG ?_ ?_<;>intro hg|refine VC ?_ ?_<;>intro hc)
     rotate_left
     omega
     apply Za (vs:=[(0,.int .i64 ps[k].carrier),(1,.int .i64 1),(2,.int .i64 (ps[k].sent+y.days)),(3,.int .i64 (ps[k].sent+y.days))]) rfl (Z7t _ _ _ _) rfl
     apply Za (vs:=[(0,.int .i64 ps[k].attempt),(1,.int .i64 (ps[k].sent+y.days+1+m)),(2,.agg #[.int .i64 ps[k].carrier,.int .i64 1,.int .i64 (ps[k].sent+y.days),.int .i64 (ps[k].sent+y.days)])]) rfl (Zhi _ _ _ _ _ _) rfl
     have eM:Rpt.mk ps[k].attempt (ps[k].sent+y.days+1+m) ps[k].carrier 1 (ps[k].sent+y.days) (ps[k].sent+y.days)=Z1Q ps[k] y (1+(m:Nat)):=by
      simp only [Z1Q,Rpt.mk.injEq,true_and,and_true];omega
     rw [eM]
     refine Z0 (Z3 (vs:=[(0,agg (Z1Q ps[k] y (1+(m:Nat))))]) rfl (Zd6 _)) rfl ?_
     rintro z w10 hN
     have hSb:=hN.choose_spec.2.2.2
     have hr9b:=hr9.ob_le
     have hd9b:=hd9.ob_le
     have hbl:=hblk9.lt
     have hus:SlV (ob rv') w10 z [Z1Q ps[k] y (1+(m:Nat))]:=hN.slv (fun b hb=>(hr9b b hb).2) rfl rfl (by simp [maxLen])
     have hr10:=hr9.up hSb
     have hd10:=hd9.up hSb
     have hblk10:=hblk9.up hSb
     have hb8:=hS9.size
     have hb9:=hSb.size
     have hrl:((List.range m).map (fun i=>Z1Q ps[k] y (1+(i:Nat)))).length=m:=by simp
     refine Z0 (Jn (X:=[]) (base:=w.heap.size) rfl (by decide) rfl rfl hr10.reX (by simpa using hus) (by simp only [Xh,Xe,Xi,hrl];omega) (by simp only [Xh,Xe,Xi,hrl,maxLen];omega) (by omega)) rfl ?_
     rintro rv'' w11 ⟨hr11,hS11,hob⟩
     refine W ?_
     refine Zd (m+1,rv'') ⟨rfl,rfl,rfl,rfl,rfl,rfl,rfl,rfl,rfl,rfl,rfl,rfl,trivial⟩ ⟨hmt,(hS9.trans hSb).own hS11 (fun x hx=>.inr (hr9b x hx).1),hd10.keep hS11 (fun x hx h=>hdi9 x h hx),?_,fun x hx h=>?_,fun x hx e=>?_,hblk10.ext hS11 (fun h=>hnb9 _ h rfl)⟩ (by dsimp only;omega)
     dsimp only
     rw [Yav,Yal,List.map_singleton,← Xr]
     exact hr11.reX
     rcases hob x h with h1|h1
     exact hdi9 x hx h1
     have:=(hd9b x hx).2;omega
     rcases hob x hx with h1|h1
     exact hnb9 x h1 e
     omega
   focus repeat'(first|refine W1 ?_|refine VG ?_ ?_<;>intro hg|refine VC ?_ ?_<;>intro hc)
   omega
   have e:m=cp:=by omega
   subst e
   refine Zd (k+1,dv',rv') ⟨rfl,rfl,rfl,rfl,rfl,rfl,rfl,trivial⟩ ⟨hlt,hS9,hd9,?_,hdi9⟩ (by dsimp only;omega)
   dsimp only
   rw [nR]
   exact hr9
 focus repeat'(first|refine W1 ?_|refine VG ?_ ?_<;>intro hg|refine VC ?_ ?_<;>intro hc)
 omega
 rw [Xn (by omega)] at hd hrp
 exact ZJ (dv,rv) ⟨rfl,rfl,rfl,trivial⟩ ⟨hS,hd,hrp,hdis⟩
 rintro ⟨dv,rv⟩ w1 ⟨hS,hd,hrp,hdis⟩
 dsimp only at hS hd hrp hdis ⊢
 have lD:=Z51 ws ps ps.length (Xk _)
 have lR:=Z52 ws ps ps.length (Xk _)
 rw [Xw] at lD lR
 refine W ?_
 refine CL rfl (J7 rfl rfl rfl) rfl (Zdd X w.heap.size dv _ till _ hX hS.size hd (by omega)) ?_
 rintro a w2 ⟨ds,hds,hd2,hS2,hoa⟩
 have hrp2:=hrp.keep hS2 hdis
 replace hS:=hS.own hS2 (fun b hb=>.inr (hd.ob_le b hb).1)
 refine W ?_
 refine CL rfl (J7 rfl rfl rfl) rfl (Zde X w.heap.size rv _ till _ hX hS.size hrp2 (by omega)) ?_
 rintro a2 w3 ⟨rs,hrs,hr3,hS3,hob⟩
 have hd3:=hd2.keep hS3 (fun b hb h=>hdis b (hoa ▸ h) hb)
 refine W ?_
 refine WR ?_
 exact .mk ⟨a,a2,ds,rs,rfl,hds,hrs,hd3.slv hX,hr3.slv hX,hS.own hS3 (fun b hb=>.inr (hrp2.ob_le b hb).1)⟩
def JE (a b:Int):Bool:=decide (0≤a∧a<b)
def Zdg (p:Pap):Bool:=!JE p.attempt 65536 || !JE p.party 64 || !JE p.carrier 16 || !JE p.sent 3652059
def Zdh (y:Wy):Bool:=!JE y.kind 6 || !JE y.days 1001 || !JE y.party 64
def Z5y (ps:List Pap) (k:Nat):Option Int:=
 let p:=ps.getD k default
 if Zdg p then some 5 else if (ps.take k).any (fun x=>decide (x.attempt=p.attempt)) then some 4 else none
def Z4t (ps:List Pap) (ws:List Wy) (k:Nat):Option Int:=
 let y:=ws.getD k default
 if ps.any (fun x=>decide (x.attempt=y.attempt))=false then some 3 else if Zdh y then some 5 else if (ws.take k).any (fun x=>decide (x.attempt=y.attempt)) then some 4 else none
def chk (ps:List Pap) (ws:List Wy):Int:=match (List.range ps.length).findSome? (Z5y ps) with|some e=>e|none=>match (List.range ws.length).findSome? (Z4t ps ws) with|some e=>e|none=>0
def Z8z (ps:List Pap) (ws:List Wy):Int:=match (List.range ws.length).findSome? (Z4t ps ws) with|some e=>e|none=>0
theorem Zbn {ps:List Pap} {ws:List Wy} (h:(List.range ps.length).findSome? (Z5y ps)=none):chk ps ws=Z8z ps ws:=by unfold chk Z8z;rw [h]
theorem Z4a {f:Nat→Option Int} {n k:Nat} {e:Int} (hk:k<n) (hb:∀ j,j<k→f j=none) (he:f k=some e):(List.range n).findSome? f=some e:=by
 rw [List.findSome?_eq_some_iff]
 refine ⟨List.range k,k,List.range' (k+1) (n - k - 1),?_,he,?_⟩
 rw [List.range_eq_range',List.range_eq_range',show k :: List.range' (k+1) (n - k - 1)=List.range' k (n - k) by rw [show n - k=(n - k - 1)+1 by omega];rfl]
 have:=List.range'_append_1 (s:=0) (m:=k) (n:=n - k)
 rw [X8] at this
 rw [this];congr 1;omega
 intro x hx
 exact hb x (by simpa using hx)
theorem Z2F {f:Nat→Option Int} {n:Nat} (hb:∀ j,j<n→f j=none):(List.range n).findSome? f=none:=by
 rw [List.findSome?_eq_none_iff]
 intro x hx
 exact hb x (by simpa using hx)
theorem Z9l {ps:List Pap} {ws:List Wy} {k:Nat} {e:Int} (hk:k<ps.length) (hb:∀ j,j<k→Z5y ps j=none) (he:Z5y ps k=some e):chk ps ws=e:=by unfold chk;rw [Z4a hk hb he]
theorem Z6E {ps:List Pap} {ws:List Wy} {k:Nat} {e:Int} (hk:k<ws.length) (hb:∀ j,j<k→Z4t ps ws j=none) (he:Z4t ps ws k=some e):Z8z ps ws=e:=by unfold Z8z;rw [Z4a hk hb he]
theorem Z9Q {ps:List Pap} {ws:List Wy} (hb:∀ j,j<ws.length→Z4t ps ws j=none):Z8z ps ws=0:=by unfold Z8z;rw [Z2F hb]
theorem Z6F {α:Type} (p:α→Bool) (xs:List α) (k:Nat):(xs.take k).any p=true↔∃ j,∃ h:j<xs.length,j<k∧p xs[j]=true:=by
 rw [XM]
 constructor
 rintro ⟨x,hx,hp⟩
 obtain ⟨m,hm,rfl⟩:=Xj hx
 simp only [Xu] at hm
 simp only [Yan] at hp
 exact ⟨m,by omega,by omega,hp⟩
 rintro ⟨j,h,hj,hp⟩
 exact ⟨xs[j],List.mem_take_iff_getElem.2 ⟨j,by omega,rfl⟩,hp⟩
theorem Zbo {α:Type} (p:α→Bool) (xs:List α) (k:Nat) (hk:k<xs.length) (hp:p xs[k]=true):idx p xs<(k:Int)↔(xs.take k).any p=true:=by
 rw [Z6F]
 rcases Z0j p xs with ⟨hi,hf⟩|⟨m,hm,hi,_,hpm,hb⟩
 have:=List.find?_eq_none.1 hf xs[k] (Xm hk)
 exact absurd hp this
 rw [hi]
 constructor
 intro h;exact ⟨m,hm,by omega,hpm⟩
 rintro ⟨j,h,hj,hpj⟩
 by_cases e:j<m
 rw [hb j h e] at hpj;cases hpj
 omega
theorem Zdi {α:Type} (p:α→Bool) (xs:List α):idx p xs<0↔xs.any p=false:=by
 rcases Z0j p xs with ⟨hi,hf⟩|⟨m,hm,hi,_,hpm,hb⟩
 rw [hi]
 constructor
 intro _
 rw [List.any_eq_false]
 exact List.find?_eq_none.1 hf
 intro _;omega
 rw [hi]
 constructor
 intro h;omega
 intro h
 rw [List.any_eq_false] at h
 exact absurd hpm (h _ (Xm hm))
theorem Z4D (a b:Int) (q:Bool) (h:JE a b=q) (w:World):CC 220 #[.int .i64 a,.int .i64 b] w fun v w'=>v=.bool q∧Stp [] w w':=by
 subst h;exact Z7r a b w
theorem Z8A (p:Pap):(Zdg p=true∧(JE p.attempt 65536=false∨JE p.attempt 65536=true∧(JE p.party 64=false∨JE p.party 64=true∧(JE p.carrier 16=false∨JE p.carrier 16=true∧JE p.sent 3652059=false))))∨(Zdg p=false∧JE p.attempt 65536=true∧JE p.party 64=true∧JE p.carrier 16=true∧JE p.sent 3652059=true):=by
 unfold Zdg
 cases JE p.attempt 65536<;>cases JE p.party 64<;>cases JE p.carrier 16<;>cases JE p.sent 3652059<;>simp
theorem Z8B (y:Wy):(Zdh y=true∧(JE y.kind 6=false∨JE y.kind 6=true∧(JE y.days 1001=false∨JE y.days 1001=true∧JE y.party 64=false)))∨(Zdh y=false∧JE y.kind 6=true∧JE y.days 1001=true∧JE y.party 64=true):=by
 unfold Zdh
 cases JE y.kind 6<;>cases JE y.days 1001<;>cases JE y.party 64<;>simp
theorem Z9R (X Y:List Nat) (u v:Value) (ps:List Pap) (ws:List Wy) (w:World) (hps:SlV X w u ps) (hws:SlV Y w v ws) :
 CC 134 #[u,v] w fun r w'=>r=.int .i64 (chk ps ws)∧Stp [] w w':=by
 have hm1:=hps.max
 have hm2:=hws.max
 have hps0:=hps
 have hws0:=hws
 refine cW2 80 Tryz.func134 ?_
 refine W ?_
 refine Zh (σ:=Nat) (fun k=>[(0,u),(1,v),(9,u),(10,.int .i64 ps.length),(11,.int .i64 k)]) (fun k w'=>k≤ps.length∧Stp [] w w'∧∀ j,j<k→Z5y ps j=none) (fun k=>ps.length - k) 0 ⟨rfl,rfl,rfl,rfl,rfl,trivial⟩ ⟨Xo _,Stp.refl _ _,by omega⟩ ?_
 rintro k w1 ⟨hk,hS,hno⟩
 replace hps:=hps0.up hS
 by_cases hlt:k<ps.length
 · repeat'(first|refine W1 ?_|refine VG ?_ ?_<;>intro hg|refine VC ?_ ?_<;>intro hc)
   rotate_left
   omega
   have ed:ps.getD k default=ps[k]:=by simp [List.getD,hlt]
   refine Z0 Z8 rfl ?_
   rintro _ w2 ⟨b,rfl,hb,hblk,hS2⟩
   refine W ?_
   refine Z1 (Z2 (us:=Z5.enc ps[k]) rfl rfl rfl rfl (Z5.one _) hblk rfl) ?_
   rintro _ w3 ⟨hS3,hblk⟩
   replace hS:=(hS.trans hS2).own hS3 (by simp;have:=hS.size;omega)
   rcases Z8A ps[k] with ⟨hbad,hq⟩|⟨hok,h1,h2,h3,h4⟩
   · have he:Z5y ps k=some 5:=by unfold Z5y;rw [ed];simp [hbad]
     have hres:chk ps ws=5:=Z9l hlt hno he
     rw [hres]
     rcases hq with h1|⟨h1,h2|⟨h2,h3|⟨h3,h4⟩⟩⟩
     all_goals (repeat'(first|(apply Z0I;exact rfl;exact rfl)|apply Z0h|(apply JC;exact rfl;exact rfl)|(apply Z39;first|refine JV rfl rfl (by assumption) (by rfl) rfl ?_|refine Z07 rfl rfl (by assumption) (by rfl) rfl ?_|refine Z0S rfl rfl (by assumption) (by assumption) (by rfl) (by rfl) rfl ?_|refine Z0v rfl rfl (by assumption) (by assumption) (by rfl) rfl ?_)|(apply Z02;exact rfl;exact rfl)|(apply Z22;first|refine Z0u rfl (SlV.isSome (by assumption) (by assumption)) rfl ?_)|(apply Z1Z;exact rfl;exact rfl)|(apply Z20;exact rfl;exact rfl)|(apply Z36;exact rfl;exact rfl)|(apply Z4P;exact rfl;exact rfl)|(apply Z21;exact rfl;exact rfl;exact rfl)|(apply Z1h;exact rfl;exact rfl;exact rfl)|(apply Z1i;exact rfl;exact rfl;exact rfl)|(apply Z03;exact rfl)|(apply Z04;exact rfl;exact rfl)|(apply Z05;exact rfl;exact rfl;exact rfl)|(apply Z06;exact rfl;exact rfl;exact rfl;exact rfl)|(apply Z4T;first|refine Z37 rfl (by assumption) rfl ?_|refine Z4R rfl rfl ?_)|(apply Z4S;first|refine Jr rfl (by assumption) rfl rfl (by assumption) rfl ?_|refine Jr rfl (by assumption) rfl rfl (by omega) rfl ?_|refine Jr rfl (by assumption) rfl (by assumption) (by first|assumption|omega) rfl ?_)|(apply Z4Q;exact rfl;exact rfl;(unfold I64;omega);exact rfl)|(apply Z77;exact rfl)|(apply Z34;exact rfl;exact rfl)|apply Z1c|apply Jm|apply Z1U|apply Z0Y|apply Z1u|apply Z32|(apply J1;exact rfl)|(apply ZS;exact rfl)|refine Z0p ?_|refine J0 ?_|refine Z00 ?_|refine JN ?_|refine Z0t rfl ?_|refine Z01 ?_|refine Z1T ?_|(refine Z0 (Ze rfl (Zb rfl rfl) (Z4D _ _ _ (by assumption) _)) rfl ?_;rintro _ w4 ⟨rfl,hS4⟩;replace hS:=hS.trans hS4;replace hblk:=hblk.up hS4)))
     all_goals (refine WR ?_)
     all_goals exact .mk ⟨rfl,hS⟩
   focus repeat'(first|(apply Z0I;exact rfl;exact rfl)|apply Z0h|(apply JC;exact rfl;exact rfl)|(apply Z39;first|refine JV rfl rfl (by assumption) (by rfl) rfl ?_|refine Z07 rfl rfl (by assumption) (by rfl) rfl ?_|refine Z0S rfl rfl (by assumption) (by assumption) (by rfl) (by rfl) rfl ?_|refine Z0v rfl rfl (by assumption) (by assumption) (by rfl) rfl ?_)|(apply Z02;exact rfl;exact rfl)|(apply Z22;first|refine Z0u rfl (SlV.isSome (by assumption) (by assumption)) rfl ?_)|(apply Z1Z;exact rfl;exact rfl)|(apply Z20;exact rfl;exact rfl)|(apply Z36;exact rfl;exact rfl)|(apply Z4P;exact rfl;exact rfl)|(apply Z21;exact rfl;exact rfl;exact rfl)|(apply Z1h;exact rfl;exact rfl;exact rfl)|(apply Z1i;exact rfl;exact rfl;exact rfl)|(apply Z03;exact rfl)|(apply Z04;exact rfl;exact rfl)|(apply Z05;exact rfl;exact rfl;exact rfl)|(apply Z06;exact rfl;exact rfl;exact rfl;exact rfl)|(apply Z4T;first|refine Z37 rfl (by assumption) rfl ?_|refine Z4R rfl rfl ?_)|(apply Z4S;first|refine Jr rfl (by assumption) rfl rfl (by assumption) rfl ?_|refine Jr rfl (by assumption) rfl rfl (by omega) rfl ?_|refine Jr rfl (by assumption) rfl (by assumption) (by first|assumption|omega) rfl ?_)|(apply Z4Q;exact rfl;exact rfl;(unfold I64;omega);exact rfl)|(apply Z77;exact rfl)|(apply Z34;exact rfl;exact rfl)|apply Z1c|apply Jm|apply Z1U|apply Z0Y|apply Z1u|apply Z32|(apply J1;exact rfl)|(apply ZS;exact rfl)|refine Z0p ?_|refine J0 ?_|refine Z00 ?_|refine JN ?_|refine Z0t rfl ?_|refine Z01 ?_|refine Z1T ?_|(refine Z0 (Ze rfl (Zb rfl rfl) (Z4D _ _ _ (by assumption) _)) rfl ?_;rintro _ w4 ⟨rfl,hS4⟩;replace hS:=hS.trans hS4;replace hblk:=hblk.up hS4))
   replace hps:=hps0.up hS
   refine CL rfl (Zb rfl rfl) rfl (Z3H 221 _ _ _ X u ps _ hps (Zhc b _ ps[k] _ hblk)) ?_
   rintro _ w4 ⟨rfl,hS4⟩
   replace hS:=hS.trans hS4
   have hil:=Zbo (fun x:Pap=>decide (x.attempt=ps[k].attempt)) ps k hlt (by simp)
   have he:Z5y ps k=if (ps.take k).any (fun x=>decide (x.attempt=ps[k].attempt))=true then some 4 else none:=by unfold Z5y;rw [ed];simp [hok]
   focus repeat'(first|refine W1 ?_|refine VG ?_ ?_<;>intro hg|refine VC ?_ ?_<;>intro hc)
   refine WR ?_
   rename_i hc
   rw [if_pos (hil.1 hc)] at he
   have hres:chk ps ws=4:=Z9l hlt hno he
   exact .mk ⟨by rw [hres],hS⟩
   rename_i hc
   rw [if_neg (fun h=>hc (hil.2 h))] at he
   refine Zd (k+1) ⟨rfl,rfl,rfl,rfl,rfl,trivial⟩ ⟨hlt,hS,fun j hj=>?_⟩ (by omega)
   by_cases e:j=k
   subst e;exact he
   exact hno j (by omega)
 focus repeat'(first|refine W1 ?_|refine VG ?_ ?_<;>intro hg|refine VC ?_ ?_<;>intro hc)
 omega
 have hp0:(List.range ps.length).findSome? (Z5y ps)=none:=Z2F (fun j hj=>hno j (by omega))
 have hchk:chk ps ws=Z8z ps ws:=Zbn hp0
 rw [hchk]
 clear hchk hno hlt
 refine Zh (σ:=Nat) (fun k=>[(0,u),(1,v),(44,v),(45,.int .i64 ws.length),(46,.int .i64 k)]) (fun k w'=>k≤ws.length∧Stp [] w w'∧∀ j,j<k→Z4t ps ws j=none) (fun k=>ws.length - k) 0 ⟨rfl,rfl,rfl,rfl,rfl,trivial⟩ ⟨Xo _,hS,by omega⟩ ?_
 clear hS hk hps
 rintro m w2 ⟨hm,hS,hno⟩
 have hws:=hws0.up hS
 by_cases hlt:m<ws.length
 · repeat'(first|refine W1 ?_|refine VG ?_ ?_<;>intro hg|refine VC ?_ ?_<;>intro hc)
   rotate_left
   omega
   have ed:ws.getD m default=ws[m]:=by simp [List.getD,hlt]
   refine Z0 Z8 rfl ?_
   rintro _ w3 ⟨b,rfl,hb,hblk,hS3⟩
   refine W ?_
   refine Z1 (Z2 (us:=Z5.enc ws[m]) rfl rfl rfl rfl (Z5.one _) hblk rfl) ?_
   rintro _ w4 ⟨hS4,hblk⟩
   replace hS:=(hS.trans hS3).own hS4 (by simp;have:=hS.size;omega)
   have hps:=hps0.up hS
   refine W ?_
   refine CL rfl (Zb rfl rfl) rfl (Z3H 222 _ _ _ X u ps _ hps (Zhd b _ ws[m] _ hblk)) ?_
   rintro _ w5 ⟨rfl,hS5⟩
   replace hS:=hS.trans hS5
   replace hblk:=hblk.up hS5
   have hin:=Zdi (fun x:Pap=>decide (x.attempt=ws[m].attempt)) ps
   by_cases hneg:ps.any (fun x=>decide (x.attempt=ws[m].attempt))=false
   · have he:Z4t ps ws m=some 3:=by unfold Z4t;rw [ed];simp only [hneg,if_true]
     rw [Z6E hlt hno he]
     repeat'(first|refine W1 ?_|refine VG ?_ ?_<;>intro hg|refine VC ?_ ?_<;>intro hc)
     refine WR ?_
     exact .mk ⟨rfl,hS⟩
     all_goals exact absurd (hin.2 hneg) (by assumption)
   have hn2:¬ idx (fun x:Pap=>decide (x.attempt=ws[m].attempt)) ps<0:=fun h=>hneg (hin.1 h)
   generalize idx (fun x:Pap=>decide (x.attempt=ws[m].attempt)) ps=ix at *
   focus repeat'(first|refine W1 ?_|refine VG ?_ ?_<;>intro hg|refine VC ?_ ?_<;>intro hc)
   exact absurd (by assumption) hn2
   rcases Z8B ws[m] with ⟨hbad,hq⟩|⟨hok,h1,h2,h3⟩
   · have he:Z4t ps ws m=some 5:=by unfold Z4t;rw [ed];dsimp only;rw [if_neg hneg,hbad,if_pos rfl]
     rw [Z6E hlt hno he]
     rcases hq with h1|⟨h1,h2|⟨h2,h3⟩⟩
     all_goals (repeat'(first|(apply Z0I;exact rfl;exact rfl)|apply Z0h|(apply JC;exact rfl;exact rfl)|(apply Z39;first|refine JV rfl rfl (by assumption) (by rfl) rfl ?_|refine Z07 rfl rfl (by assumption) (by rfl) rfl ?_|refine Z0S rfl rfl (by assumption) (by assumption) (by rfl) (by rfl) rfl ?_|refine Z0v rfl rfl (by assumption) (by assumption) (by rfl) rfl ?_)|(apply Z02;exact rfl;exact rfl)|(apply Z22;first|refine Z0u rfl (SlV.isSome (by assumption) (by assumption)) rfl ?_)|(apply Z1Z;exact rfl;exact rfl)|(apply Z20;exact rfl;exact rfl)|(apply Z36;exact rfl;exact rfl)|(apply Z4P;exact rfl;exact rfl)|(apply Z21;exact rfl;exact rfl;exact rfl)|(apply Z1h;exact rfl;exact rfl;exact rfl)|(apply Z1i;exact rfl;exact rfl;exact rfl)|(apply Z03;exact rfl)|(apply Z04;exact rfl;exact rfl)|(apply Z05;exact rfl;exact rfl;exact rfl)|(apply Z06;exact rfl;exact rfl;exact rfl;exact rfl)|(apply Z4T;first|refine Z37 rfl (by assumption) rfl ?_|refine Z4R rfl rfl ?_)|(apply Z4S;first|refine Jr rfl (by assumption) rfl rfl (by assumption) rfl ?_|refine Jr rfl (by assumption) rfl rfl (by omega) rfl ?_|refine Jr rfl (by assumption) rfl (by assumption) (by first|assumption|omega) rfl ?_)|(apply Z4Q;exact rfl;exact rfl;(unfold I64;omega);exact rfl)|(apply Z77;exact rfl)|(apply Z34;exact rfl;exact rfl)|apply Z1c|apply Jm|apply Z1U|apply Z0Y|apply Z1u|apply Z32|(apply J1;exact rfl)|(apply ZS;exact rfl)|refine Z0p ?_|refine J0 ?_|refine Z00 ?_|refine JN ?_|refine Z0t rfl ?_|refine Z01 ?_|refine Z1T ?_|(refine Z0 (Ze rfl (Zb rfl rfl) (Z4D _ _ _ (by assumption) _)) rfl ?_;rintro _ w4 ⟨rfl,hS4⟩;replace hS:=hS.trans hS4;replace hblk:=hblk.up hS4)))
     all_goals (refine WR ?_)
     all_goals exact .mk ⟨rfl,hS⟩
   focus repeat'(first|(apply Z0I;exact rfl;exact rfl)|apply Z0h|(apply JC;exact rfl;exact rfl)|(apply Z39;first|refine JV rfl rfl (by assumption) (by rfl) rfl ?_|refine Z07 rfl rfl (by assumption) (by rfl) rfl ?_|refine Z0S rfl rfl (by assumption) (by assumption) (by rfl) (by rfl) rfl ?_|refine Z0v rfl rfl (by assumption) (by assumption) (by rfl) rfl ?_)|(apply Z02;exact rfl;exact rfl)|(apply Z22;first|refine Z0u rfl (SlV.isSome (by assumption) (by assumption)) rfl ?_)|(apply Z1Z;exact rfl;exact rfl)|(apply Z20;exact rfl;exact rfl)|(apply Z36;exact rfl;exact rfl)|(apply Z4P;exact rfl;exact rfl)|(apply Z21;exact rfl;exact rfl;exact rfl)|(apply Z1h;exact rfl;exact rfl;exact rfl)|(apply Z1i;exact rfl;exact rfl;exact rfl)|(apply Z03;exact rfl)|(apply Z04;exact rfl;exact rfl)|(apply Z05;exact rfl;exact rfl;exact rfl)|(apply Z06;exact rfl;exact rfl;exact rfl;exact rfl)|(apply Z4T;first|refine Z37 rfl (by assumption) rfl ?_|refine Z4R rfl rfl ?_)|(apply Z4S;first|refine Jr rfl (by assumption) rfl rfl (by assumption) rfl ?_|refine Jr rfl (by assumption) rfl rfl (by omega) rfl ?_|refine Jr rfl (by assumption) rfl (by assumption) (by first|assumption|omega) rfl ?_)|(apply Z4Q;exact rfl;exact rfl;(unfold I64;omega);exact rfl)|(apply Z77;exact rfl)|(apply Z34;exact rfl;exact rfl)|apply Z1c|apply Jm|apply Z1U|apply Z0Y|apply Z1u|apply Z32|(apply J1;exact rfl)|(apply ZS;exact rfl)|refine Z0p ?_|refine J0 ?_|refine Z00 ?_|refine JN ?_|refine Z0t rfl ?_|refine Z01 ?_|refine Z1T ?_|(refine Z0 (Ze rfl (Zb rfl rfl) (Z4D _ _ _ (by assumption) _)) rfl ?_;rintro _ w4 ⟨rfl,hS4⟩;replace hS:=hS.trans hS4;replace hblk:=hblk.up hS4))
   replace hws:=hws0.up hS
   refine CL rfl (Zb rfl rfl) rfl (Z9g 223 _ _ _ Y v ws _ hws (Zhe b _ ws[m] _ hblk)) ?_
   rintro _ w6 ⟨rfl,hS6⟩
   replace hS:=hS.trans hS6
   have hil:=Zbo (fun x:Wy=>decide (x.attempt=ws[m].attempt)) ws m hlt (by simp)
   have he:Z4t ps ws m=if (ws.take m).any (fun x=>decide (x.attempt=ws[m].attempt))=true then some 4 else none:=by unfold Z4t;rw [ed];dsimp only;rw [if_neg hneg,hok,if_neg (by simp)]
   focus repeat'(first|refine W1 ?_|refine VG ?_ ?_<;>intro hg|refine VC ?_ ?_<;>intro hc)
   refine WR ?_
   rename_i hc
   rw [if_pos (hil.1 hc)] at he
   rw [Z6E hlt hno he]
   exact .mk ⟨rfl,hS⟩
   rename_i hc
   rw [if_neg (fun h=>hc (hil.2 h))] at he
   refine Zd (m+1) ⟨rfl,rfl,rfl,rfl,rfl,trivial⟩ ⟨hlt,hS,fun j hj=>?_⟩ (by omega)
   by_cases e:j=m
   subst e;exact he
   exact hno j (by omega)
 focus repeat'(first|refine W1 ?_|refine VG ?_ ?_<;>intro hg|refine VC ?_ ?_<;>intro hc)
 omega
 refine WR ?_
 exact .mk ⟨by rw [Z9Q (fun j hj=>hno j (by omega))],hS⟩
def Zdj {α:Type} (lt:α→α→Bool) (l:List α) (d:α):List α:=l.takeWhile (fun x=>lt x d)++[d]++l.dropWhile (fun x=>lt x d)
structure Zhk {α:Type} (lt:α→α→Bool):Prop where
 asym:∀ a b,lt a b=true→lt b a=false
 trans:∀ a b d,lt b a=false→lt d b=false→lt d a=false
theorem Z5O {α:Type} (lt:α→α→Bool) (l:List α) (d:α):(Zdj lt l d).Perm (l++[d]):=by
 unfold Zdj
 rw [Xr,List.singleton_append]
 refine List.Perm.trans Yar ?_
 rw [List.takeWhile_append_dropWhile]
 exact (XY d l).symm
theorem Z4b {α:Type} {lt:α→α→Bool} (ho:Zhk lt) {l:List α} (d:α) (h:l.Pairwise (fun a b=>lt b a=false)):(Zdj lt l d).Pairwise (fun a b=>lt b a=false):=by
 unfold Zdj
 have ht:∀ a∈l.takeWhile (fun x=>lt x d),lt a d=true:=fun a ha=>XC.1 List.all_takeWhile a ha
 have hd:∀ a∈l.dropWhile (fun x=>lt x d),lt a d=false:=by
  have hp:(l.dropWhile (fun x=>lt x d)).Pairwise (fun a b=>lt b a=false):=h.sublist (List.dropWhile_sublist _)
  have hh:=List.head?_dropWhile_not (fun x=>lt x d) l
  cases hc:l.dropWhile (fun x=>lt x d) with
  | nil=>simp
  | cons y r=>
    rw [hc] at hp hh
    simp at hh
    intro a ha
    rcases Xd.1 ha with rfl|ha
    exact hh
    exact ho.trans _ _ _ hh ((Yaz.1 hp).1 a ha)
 rw [Xr,Yad]
 refine ⟨h.sublist (List.takeWhile_sublist _),?_,?_⟩
 rw [List.singleton_append,Yaz]
 exact ⟨fun a ha=>hd a ha,h.sublist (List.dropWhile_sublist _)⟩
 intro a ha b hb
 rcases Xd.1 hb with rfl|hb
 exact ho.asym _ _ (ht a ha)
 have:=h
 rw [← List.takeWhile_append_dropWhile (p:=fun x=>lt x d) (l:=l),Yad] at this
 exact this.2.2 a ha b hb
theorem Zjr:Zhk Z0f where
 asym:=fun a b=>by simp only [Z0f,decide_eq_true_eq,decide_eq_false_iff_not];omega
 trans:=fun a b d=>by simp only [Z0f,decide_eq_false_iff_not];omega
theorem Zbp (a b:Dlv) (h1:Z0f a b=false) (h2:Z0f b a=false):a.day=b.day∧a.attempt=b.attempt:=by
 simp only [Z0f,decide_eq_false_iff_not] at h1 h2;omega
theorem Zhl {xs ys:List Dlv} (h:JX Z6C xs ys):ys.Perm xs∧ys.Pairwise (fun a b=>Z0f b a=false):=
 ⟨h.1,h.2.imp (fun {a b} hab=>by rw [Z2p] at hab;simpa using hab)⟩
theorem Zjs {xs ys zs:List Dlv} (h1:ys.Perm xs) (h2:ys.Pairwise (fun a b=>Z0f b a=false)) (h3:zs.Perm xs) (h4:zs.Pairwise (fun a b=>Z0f b a=false)) (hd:∀ a∈xs,∀ b∈xs,a.day=b.day→a.attempt=b.attempt→a=b):ys=zs:=by
 refine List.Perm.eq_of_pairwise (fun a b ha hb e1 e2=>?_) h2 h4 (h1.trans h3.symm)
 obtain ⟨k1,k2⟩:=Zbp _ _ e1 e2
 exact (hd b (h3.subset hb) a (h1.subset ha) k1 k2).symm
theorem Zjt:Zhk JW where
 asym:=fun a b=>by simp only [JW,decide_eq_true_eq,decide_eq_false_iff_not];omega
 trans:=fun a b d=>by simp only [JW,decide_eq_false_iff_not];omega
theorem Zbq (a b:Rpt) (h1:JW a b=false) (h2:JW b a=false):a.day=b.day∧a.attempt=b.attempt:=by
 simp only [JW,decide_eq_false_iff_not] at h1 h2;omega
theorem Zhm {xs ys:List Rpt} (h:JX Z6D xs ys):ys.Perm xs∧ys.Pairwise (fun a b=>JW b a=false):=
 ⟨h.1,h.2.imp (fun {a b} hab=>by rw [Z2q] at hab;simpa using hab)⟩
theorem Zju {xs ys zs:List Rpt} (h1:ys.Perm xs) (h2:ys.Pairwise (fun a b=>JW b a=false)) (h3:zs.Perm xs) (h4:zs.Pairwise (fun a b=>JW b a=false)) (hd:∀ a∈xs,∀ b∈xs,a.day=b.day→a.attempt=b.attempt→a=b):ys=zs:=by
 refine List.Perm.eq_of_pairwise (fun a b ha hb e1 e2=>?_) h2 h4 (h1.trans h3.symm)
 obtain ⟨k1,k2⟩:=Zbq _ _ e1 e2
 exact (hd b (h3.subset hb) a (h1.subset ha) k1 k2).symm
def Z53 (ps:List Pap):Prop:=ps.Pairwise (fun a b=>a.attempt≠b.attempt)
theorem Z53.eq {ps:List Pap} (h:Z53 ps) {p q:Pap} (hp:p∈ps) (hq:q∈ps) (e:p.attempt=q.attempt):p=q:=by
 obtain ⟨i,hi,rfl⟩:=Xj hp
 obtain ⟨j,hj,rfl⟩:=Xj hq
 have h':=Yae.1 h
 rcases Nat.lt_trichotomy i j with h1|h1|h1
 exact absurd e (h' i j hi hj h1)
 subst h1;rfl
 exact absurd e.symm (h' j i hj hi h1)
theorem Z9m (ws:List Wy) (p:Pap):Z24 p (Z0A ws p.attempt)=Z24 p (Z2C ws p.attempt)∧Z13 p (Z0A ws p.attempt)=Z13 p (Z2C ws p.attempt)∧Z0k p (Z0A ws p.attempt)=Z0k p (Z2C ws p.attempt):=by
 unfold Z0A Z2C
 cases ws.find? (fun x=>decide (x.attempt=p.attempt)) with
 | some y=>exact ⟨rfl,rfl,rfl⟩
 | none=>exact ⟨rfl,rfl,rfl⟩
theorem Z7x {ws:List Wy} {ps:List Pap} {a:Dlv} (h:a∈Z0M ws ps):∃ p∈ps,a=Z24 p (Z0A ws p.attempt):=by
 unfold Z0M at h
 obtain ⟨p,hp,h⟩:=YaG.1 h
 split at h
 exact ⟨p,hp,by simpa using h⟩
 simp at h
theorem Z7y {ws:List Wy} {ps:List Pap} {a:Rpt} (h:a∈Z1B ws ps):∃ p∈ps,∃ i:Int,a=Z1Q p (Z0A ws p.attempt) i:=by
 unfold Z1B at h
 obtain ⟨p,hp,h⟩:=YaG.1 h
 unfold Z0k at h
 split at h
 simp at h
 split at h
 rcases Xd.1 h with rfl|h
 exact ⟨p,hp,1,rfl⟩
 exact ⟨p,hp,2,by simpa using h⟩
 exact ⟨p,hp,1,by simpa using h⟩
theorem Zlx {ws:List Wy} {ps:List Pap} (hd:Z53 ps) {a b:Dlv} (ha:a∈Z0M ws ps) (hb:b∈Z0M ws ps) (h1:a.day=b.day) (h2:a.attempt=b.attempt):a=b:=by
 obtain ⟨p,hp,rfl⟩:=Z7x ha
 obtain ⟨q,hq,rfl⟩:=Z7x hb
 have:p=q:=hd.eq hp hq h2
 rw [this]
theorem Zly {ws:List Wy} {ps:List Pap} (hd:Z53 ps) {a b:Rpt} (ha:a∈Z1B ws ps) (hb:b∈Z1B ws ps) (h1:a.day=b.day) (h2:a.attempt=b.attempt):a=b:=by
 obtain ⟨p,hp,i,rfl⟩:=Z7y ha
 obtain ⟨q,hq,j,rfl⟩:=Z7y hb
 have:p=q:=hd.eq hp hq h2
 subst this
 have:i=j:=by simp only [Z1Q] at h1;omega
 rw [this]
theorem Z3K (till:Int) (ws:List Wy):∀ (ps:List Pap) (acc:List Dlv),(ps.foldl (Z5K till ws) acc).Perm (acc++(Z0M ws ps).filter (fun x=>!decide (x.day > till)))
 | [],acc=>by simp [Z0M]
 | p :: ps, acc => by
   obtain ⟨e1,e2,_⟩:=Z9m ws p
   have ih:=Z3K till ws ps (Z5K till ws acc p)
   have hc:Z0M ws (p :: ps)=(if Z13 p (Z0A ws p.attempt) then [Z24 p (Z0A ws p.attempt)] else [])++Z0M ws ps:=by unfold Z0M;rw [Yab]
   rw [XT,hc,XG,← Xr]
   refine ih.trans (XN _ ?_)
   unfold Z5K
   rw [e1,e2]
   by_cases h1:Z13 p (Z2C ws p.attempt)=true
   by_cases h2:(Z24 p (Z2C ws p.attempt)).day≤till
   rw [if_pos ⟨h1,h2⟩,if_pos h1,List.filter_cons_of_pos (by simpa using h2)]
   exact Z5O Z0f acc _
   rw [if_neg (fun h=>h2 h.2),if_pos h1,List.filter_cons_of_neg (by simpa using h2)]
   simp
   rw [if_neg (fun h=>h1 h.1),if_neg h1]
   simp
theorem Z4c (till:Int) (ws:List Wy):∀ (ps:List Pap) (acc:List Dlv),acc.Pairwise (fun a b=>Z0f b a=false)→(ps.foldl (Z5K till ws) acc).Pairwise (fun a b=>Z0f b a=false)
 | [],acc,h=>h
 | p :: ps, acc, h => by
   rw [XT]
   refine Z4c till ws ps _ ?_
   unfold Z5K
   split
   exact Z4b Zjr _ h
   exact h
theorem Z5P (till:Int):∀ (l acc:List Rpt),(l.foldl (Zbj till) acc).Perm (acc++l.filter (fun x=>!decide (x.day > till)))
 | [],acc=>by simp
 | r :: l, acc => by
   rw [XT]
   refine (Z5P till l _).trans ?_
   unfold Zbj
   by_cases h2:r.day≤till
   rw [if_pos h2,List.filter_cons_of_pos (by simpa using h2)]
   refine (XN _ (Z5O JW acc r)).trans ?_
   simp
   rw [if_neg h2,List.filter_cons_of_neg (by simpa using h2)]
theorem Z4d (till:Int):∀ (l acc:List Rpt),acc.Pairwise (fun a b=>JW b a=false)→(l.foldl (Zbj till) acc).Pairwise (fun a b=>JW b a=false)
 | [],acc,h=>h
 | r :: l, acc, h => by
   rw [XT]
   refine Z4d till l _ ?_
   unfold Zbj
   split
   exact Z4b Zjt _ h
   exact h
theorem Z5Q (till:Int) (ws:List Wy):∀ (ps:List Pap) (acc:List Rpt),(ps.foldl (Z4Z till ws) acc).Perm (acc++(Z1B ws ps).filter (fun x=>!decide (x.day > till)))
 | [],acc=>by simp [Z1B]
 | p :: ps, acc => by
   obtain ⟨_,_,e3⟩:=Z9m ws p
   have ih:=Z5Q till ws ps (Z4Z till ws acc p)
   have hc:Z1B ws (p :: ps)=Z0k p (Z0A ws p.attempt)++Z1B ws ps:=by unfold Z1B;rw [Yab]
   rw [XT,hc,XG,← Xr]
   refine ih.trans (XN _ ?_)
   unfold Z4Z
   rw [e3]
   exact Z5P till _ _
theorem Z4e (till:Int) (ws:List Wy):∀ (ps:List Pap) (acc:List Rpt),acc.Pairwise (fun a b=>JW b a=false)→(ps.foldl (Z4Z till ws) acc).Pairwise (fun a b=>JW b a=false)
 | [],acc,h=>h
 | p :: ps, acc, h => by
   rw [XT]
   exact Z4e till ws ps _ (Z4d till _ _ h)
theorem Z8C {till:Int} {ws:List Wy} {ps:List Pap} {ds:List Dlv} (hd:Z53 ps) (h:JX Z6C ((Z0M ws ps).filter (fun x=>!decide (x.day > till))) ds):ds=Z3d till ws ps:=by
 obtain ⟨h1,h2⟩:=Zhl h
 refine Zjs h1 h2 (by have:=Z3K till ws ps [];rw [XK] at this;exact this) (Z4c till ws ps [] .nil) (fun a ha b hb=>?_)
 exact Zlx hd (X9.1 ha).1 (X9.1 hb).1
theorem Z8D {till:Int} {ws:List Wy} {ps:List Pap} {rs:List Rpt} (hd:Z53 ps) (h:JX Z6D ((Z1B ws ps).filter (fun x=>!decide (x.day > till))) rs):rs=Z3e till ws ps:=by
 obtain ⟨h1,h2⟩:=Zhm h
 refine Zju h1 h2 (by have:=Z5Q till ws ps [];rw [XK] at this;exact this) (Z4e till ws ps [] .nil) (fun a ha b hb=>?_)
 exact Zly hd (X9.1 ha).1 (X9.1 hb).1
theorem Z5z (l:List Int):Z53 (ZF l):=by
 unfold Z53 ZF
 rw [List.pairwise_map]
 refine List.pairwise_lt_range.imp (fun {i j} hij=>?_)
 simp only [Z49]
 omega
theorem Z6G (l:List Int):(ZF l).length≤8:=by simp [ZF];omega
theorem Z3f {l:List Int} {p:Pap} (h:p∈ZF l):0≤p.attempt∧p.attempt<24∧0≤p.party∧p.party<4∧0≤p.carrier∧p.carrier<3∧739616≤p.sent∧p.sent<739656:=by
 unfold ZF at h
 obtain ⟨i,hi,rfl⟩:=Yao.1 h
 simp only [YaN] at hi
 obtain ⟨h0,h1⟩:=Z0l (l.getD i 0) 1000000 (by omega)
 simp only [Z49]
 omega
theorem Z8E {ps:List Pap} {l:List Int} {y:Wy} (h:y∈Z1d ps l):0≤y.kind∧y.kind<6∧0≤y.days∧y.days<9∧0≤y.party∧y.party<4:=by
 unfold Z1d at h
 obtain ⟨i,hi,he⟩:=List.mem_filterMap.1 h
 obtain ⟨h0,h1⟩:=Z0l (l.getD i 0) 1000000 (by omega)
 unfold Z4Y at he
 dsimp only at he
 split at he
 cases he;dsimp only;omega
 cases he
theorem Z5R {ws:List Wy} {lo hi:Int} (h:∀ y∈ws,lo≤y.days∧y.days≤hi) (h1:lo≤1∧1≤hi) (z:Int):lo≤(Z0A ws z).days∧(Z0A ws z).days≤hi:=by
 unfold Z0A
 cases hf:ws.find? (fun x=>decide (x.attempt=z)) with
 | some y=>exact h y (List.mem_of_find?_eq_some hf)
 | none=>exact h1
structure Fit (ps:List Pap) (ws:List Wy):Prop where
 dist:Z53 ps
 len:ps.length≤9
 sent:∀ p∈ps,0≤p.sent∧p.sent≤4000000
 days:∀ y∈ws,0≤y.days∧y.days≤4000000
theorem Z6H (X Y Z:List Nat) (u v:Value) (ps:List Pap) (ws:List Wy) (till:Int) (w:World) (hX:∀ b∈X,b<w.heap.size) (hps:SlV Y w u ps) (hws:SlV Z w v ws) (hf:Fit ps ws) :
 CC 24 #[u,v,.int .i64 till] w fun r w'=>∃ a b,r=.tuple #[a,b]∧SlV X w' a (Z3d till ws ps)∧SlV X w' b (Z3e till ws ps)∧Stp [] w w':=by
 have h:=Zhj X Y Z u v ps ws till w hX hps hws hf.len (fun p hp=>by
  have h1:=hf.sent p hp
  have h2:=Z5R hf.days (by omega) p.attempt
  unfold I64;omega)
 refine h.mono ?_
 rintro r w' ⟨z,rfl,a,b,ds,rs,rfl,hd,hr,ha,hb,hS⟩
 rw [Z8C hf.dist hd] at ha
 rw [Z8D hf.dist hr] at hb
 exact ⟨_,rfl,a,b,rfl,ha,hb,hS⟩
theorem Zbr (a b:List Int):Fit (ZF a) (Z1d (ZF a) b) where
 dist:=Z5z a
 len:=by have:=Z6G a;omega
 sent:=fun p hp=>by have:=Z3f hp;omega
 days:=fun y hy=>by have:=Z8E hy;omega
def JU:Pap:=⟨0,3,1,100⟩
def Z4u (named d:Int):Rpt:=⟨0,d,1,1,named,named⟩
theorem Z1C (X Y Z:List Nat) (wv dv nv:Value) (ws:List Wy) (ds:List Dlv) (ns:List Int) (named:Int) (w:World) (hw:SlV X w wv ws) (hd:SlV Y w dv ds) (hn:SlV Z w nv ns)
 (hdays:∀ y∈ws,0≤y.days∧y.days≤4000000) (h1:chk [JU] ws=0) (h2:Z3d 200 ws [JU]=ds) (h3:Z3e 200 ws [JU]=ns.map (Z4u named)) :
 CC 75 #[wv,dv,nv,.int .i64 named] w fun r w'=>r=.bool true∧Stp [] w w':=by
 have hm:=hn.max
 have hfit:Fit [JU] ws:=⟨by simp [Z53],by simp,by simp [JU],hdays⟩
 refine cW4 57 Tryz.func75 ?_
 refine W ?_
 apply Za (vs:=[(0,.int .i64 0),(1,.int .i64 3),(2,.int .i64 1),(3,.int .i64 100)]) rfl (Z8u _ _ _ _) rfl
 refine Z0 (Z3 (vs:=[(0,agg (Pap.mk _ _ _ _))]) rfl (Z6B _)) rfl ?_
 rintro pv w1 hN
 have hp:SlV [] w1 pv [JU]:=hN.slv (by simp) rfl rfl (by simp [maxLen])
 have hS:=hN.choose_spec.2.2.2
 replace hw:=hw.up hS;replace hd:=hd.up hS;replace hn:=hn.up hS
 refine W ?_
 refine CL rfl (J7 rfl rfl rfl) rfl (Z6H [] [] X pv wv [JU] ws 200 _ (by simp) hp hw hfit) ?_
 rintro _ w2 ⟨a,b,rfl,ha,hb,hS2⟩
 replace hw:=hw.up hS2;replace hd:=hd.up hS2;replace hn:=hn.up hS2;replace hp:=hp.up hS2
 replace hS:=hS.trans hS2
 rw [h2] at ha
 rw [h3] at hb
 have hml:=hb.max
 refine W ?_
 refine CL rfl (Zb rfl rfl) rfl (Z9R [] X pv wv [JU] ws _ hp hw) ?_
 rintro _ w3 ⟨rfl,hS3⟩
 replace ha:=ha.up hS3;replace hb:=hb.up hS3;replace hd:=hd.up hS3;replace hn:=hn.up hS3
 replace hS:=hS.trans hS3
 rw [h1]
 refine W ?_
 refine CL rfl (Zb rfl rfl) rfl (Zjm [] Y a dv ds ds _ ha hd) ?_
 rintro _ w4 ⟨rfl,hS4⟩
 replace hb:=hb.up hS4;replace hn:=hn.up hS4
 replace hS:=hS.trans hS4
 rw [show decide (ds=ds)=true by simp]
 have hlen:(ns.map (Z4u named)).length=ns.length:=by simp
 have hget:∀ i (h:i<(ns.map (Z4u named)).length) (h':i<ns.length),(ns.map (Z4u named))[i]=Z4u named ns[i]:=fun i h h'=>by simp
 generalize ns.map (Z4u named)=rs at *
 repeat'(first|refine W1 ?_|refine VG ?_ ?_<;>intro hg|refine VC ?_ ?_<;>intro hc)
 omega
 have hb0:=hb
 have hn0:=hn
 have hSw:=hS
 refine Zh (σ:=Nat) (fun k=>[(2,nv),(3,.int .i64 named),(11,b),(12,.int .i64 k)]) (fun k w'=>k≤rs.length∧Stp [] w4 w') (fun k=>rs.length - k) 0 ⟨rfl,rfl,rfl,rfl,trivial⟩ ⟨Xo _,Stp.refl _ _⟩ ?_
 clear hb hn
 rintro k w5 ⟨hk,hS⟩
 have hb:=hb0.up hS
 have hn:=hn0.up hS
 by_cases hlt:k<rs.length
 · have hlt2:k<ns.length:=by omega
   repeat'(first|refine W1 ?_|refine VG ?_ ?_<;>intro hg|refine VC ?_ ?_<;>intro hc)
   rotate_left
   omega
   refine ZDr 13 [] [] [(0,0),(1,0),(2,0),(3,1),(4,0),(5,0),(6,0),(7,1),(8,0),(9,0),(10,0),(11,0),(12,0)] (fun w1 hS1=>?_)
   replace hb:=hb.up hS1;replace hn:=hn.up hS1
   replace hS:=hS.trans hS1
   repeat'(first|refine D1 ?_|omega|refine Zm rfl rfl rfl rfl (fun hg=>?_) (fun hg=>?_)|(refine Zi rfl rfl rfl rfl (fun hg=>?_) (fun hg=>?_)<;>refine D1 ?_)|fail)
   refine Z38 (vs:=[(0,.int .i64 1),(1,.int .i64 1),(2,.int .i64 named),(3,.int .i64 named)]) rfl trivial rfl (Z7t _ _ _ _) rfl ?_
   repeat'(first|refine D1 ?_|omega|refine Zm rfl rfl rfl rfl (fun hg=>?_) (fun hg=>?_)|(refine Zi rfl rfl rfl rfl (fun hg=>?_) (fun hg=>?_)<;>refine D1 ?_)|fail)
   refine Z38 (vs:=[(1,.int .i64 ns[k]),(2,.agg #[.int .i64 1,.int .i64 1,.int .i64 named,.int .i64 named])]) rfl trivial rfl (Zbi _ _ _ _ _) rfl ?_
   repeat'(first|refine D1 ?_|omega|refine Zm rfl rfl rfl rfl (fun hg=>?_) (fun hg=>?_)|(refine Zi rfl rfl rfl rfl (fun hg=>?_) (fun hg=>?_)<;>refine D1 ?_)|fail)
   refine Z9c rfl trivial rfl rfl (Zhg .neq _ _ _ _) (Zls rs[k] (Z4u named ns[k])) rfl ?_
   rw [show decide (¬ rs[k]=Z4u named ns[k])=false by rw [hget k hlt hlt2];simp]
   repeat'(first|refine D1 ?_|omega|refine Zm rfl rfl rfl rfl (fun hg=>?_) (fun hg=>?_)|(refine Zi rfl rfl rfl rfl (fun hg=>?_) (fun hg=>?_)<;>refine D1 ?_)|fail)
   repeat'(first|refine W1 ?_|refine VG ?_ ?_<;>intro hg|refine VC ?_ ?_<;>intro hc)
   exact Zd (k+1) ⟨rfl,rfl,rfl,rfl,trivial⟩ ⟨hlt,hS⟩ (by omega)
 focus repeat'(first|refine W1 ?_|refine VG ?_ ?_<;>intro hg|refine VC ?_ ?_<;>intro hc)
 omega
 refine WR ?_
 exact .mk ⟨rfl,hSw.trans hS⟩
theorem Z7z (a c:Int) (w:World):(Instr.build 137 #[(1,.int .i64 a),(2,.int .i64 c)]).run Tryz.prog w=.ok (agg (Wy.mk 0 a c 0)) w:=by kernel_rfl
theorem Zbs (a c:Int) (w:World):(Instr.build 137 #[(1,.int .i64 a),(3,.int .i64 c)]).run Tryz.prog w=.ok (agg (Wy.mk 0 a 0 c)) w:=by kernel_rfl
theorem Z3g (a c:Int) (w:World):(Instr.build 141 #[(1,.int .i64 a),(2,.int .i64 c)]).run Tryz.prog w=.ok (agg (Dlv.mk 0 a c)) w:=by kernel_rfl
example:Z3d 101 [] [JU]=[⟨0,3,101⟩]:=by decide
example:Z3e 101 [] [JU]=[]:=by decide
example:served [⟨0,3,101⟩] [JU] 0=(101,true):=by decide
example:served [⟨0,5,100⟩] [JU] 0=(0,false):=by decide
example:chk [JU] []=0:=by decide
example:Z3d 200 [] [JU]=[⟨0,3,101⟩]∧Z3e 200 [] [JU]=[102].map (Z4u 101):=by decide
example:chk [JU] [⟨0,3,4,0⟩]=0∧Z3d 200 [⟨0,3,4,0⟩] [JU]=[⟨0,3,104⟩]∧Z3e 200 [⟨0,3,4,0⟩] [JU]=[105,106].map (Z4u 104):=by decide
example:chk [JU] [⟨0,4,0,5⟩]=0∧Z3d 200 [⟨0,4,0,5⟩] [JU]=[⟨0,5,100⟩]∧Z3e 200 [⟨0,4,0,5⟩] [JU]=[101].map (Z4u 100):=by decide
example:chk [JU] [⟨0,5,2,0⟩]=0∧Z3d 200 [⟨0,5,2,0⟩] [JU]=[]∧Z3e 200 [⟨0,5,2,0⟩] [JU]=[103].map (Z4u 102):=by decide
theorem Z9S (w:World):CC 26 #[] w fun r w'=>r=.bool true∧Stp [] w w':=by
 refine cW0 81 Tryz.func26 ?_
 refine W ?_
 apply Za (vs:=[(0,.int .i64 0),(1,.int .i64 3),(2,.int .i64 1),(3,.int .i64 100)]) rfl (Z8u _ _ _ _) rfl
 refine W ?_
 refine Z0 (Z3 (vs:=[(0,agg (Pap.mk _ _ _ _))]) rfl (Z6B _)) rfl ?_
 rintro pv w1 hN
 have hp:SlV [] w1 pv [JU]:=hN.slv (by simp) rfl rfl (by simp [maxLen])
 have hS:=hN.choose_spec.2.2.2
 clear hN
 refine W ?_
 refine CL rfl (J7 rfl rfl rfl) rfl (Z6H [] [] [] pv _ [JU] [] 101 _ (by simp) hp (SlV.nilC _ _) ⟨by simp [Z53],by simp,by simp [JU],by simp⟩) ?_
 rintro _ w2 ⟨a,b,rfl,ha,hb,hS2⟩
 replace hp:=hp.up hS2
 replace hS:=hS.trans hS2
 rw [show Z3d 101 [] [JU]=[⟨0,3,101⟩] by decide] at ha
 rw [show Z3e 101 [] [JU]=[] by decide] at hb
 refine W ?_
 refine CL rfl (J7 rfl rfl rfl) rfl (Z2P [] [] a pv _ _ 0 _ ha hp) ?_
 rintro _ _ ⟨rfl,hS1⟩
 replace ha:=ha.up hS1;replace hb:=hb.up hS1;replace hp:=hp.up hS1
 replace hS:=hS.trans hS1
 clear hS1
 rw [show served [⟨0,3,101⟩] [JU] 0=(101,true) by decide]
 refine W ?_
 apply Za (vs:=[(1,.int .i64 5),(2,.int .i64 100)]) rfl (Z3g _ _) rfl
 refine W ?_
 refine Z0 (Z3 (vs:=[(0,agg (Dlv.mk 0 5 100))]) rfl (Z2o _)) rfl ?_
 rintro d5 _ hN
 have hd5:=hN.slv (X:=[]) (ys:=[Dlv.mk 0 5 100]) (by simp) rfl rfl (by simp [maxLen])
 have hS1:=hN.choose_spec.2.2.2
 clear hN
 replace ha:=ha.up hS1;replace hb:=hb.up hS1;replace hp:=hp.up hS1
 replace hS:=hS.trans hS1
 clear hS1
 refine W ?_
 refine CL rfl (J7 rfl rfl rfl) rfl (Z2P [] [] d5 pv _ _ 0 _ hd5 hp) ?_
 rintro _ _ ⟨rfl,hS1⟩
 replace ha:=ha.up hS1;replace hb:=hb.up hS1
 replace hS:=hS.trans hS1
 clear hS1
 rw [show served [⟨0,5,100⟩] [JU] 0=(0,false) by decide]
 refine W ?_
 apply Za (vs:=[(1,.int .i64 3),(2,.int .i64 101)]) rfl (Z3g _ _) rfl
 refine W ?_
 refine Z0 (Z3 (vs:=[(0,agg (Dlv.mk 0 3 101))]) rfl (Z2o _)) rfl ?_
 rintro e1 _ hN
 have he1:=hN.slv (X:=[]) (ys:=[Dlv.mk 0 3 101]) (by simp) rfl rfl (by simp [maxLen])
 have hS1:=hN.choose_spec.2.2.2
 clear hN
 replace ha:=ha.up hS1;replace hb:=hb.up hS1
 replace hS:=hS.trans hS1
 clear hS1
 refine W ?_
 refine Z0 (Z3 (vs:=[(0,.int .i64 102)]) rfl (Z3I _)) rfl ?_
 rintro n1 _ hN
 have hn1:=hN.slv (X:=[]) (ys:=[(102:Int)]) (by simp) rfl rfl (by simp [maxLen])
 have hS1:=hN.choose_spec.2.2.2
 clear hN
 replace ha:=ha.up hS1;replace hb:=hb.up hS1;replace he1:=he1.up hS1
 replace hS:=hS.trans hS1
 clear hS1
 refine W ?_
 refine CL rfl (Z2z rfl rfl rfl rfl) rfl (Z1C [] [] [] _ _ _ [] [Dlv.mk 0 3 101] [(102:Int)] 101 _ (SlV.nilC [] _) he1 hn1 (by simp) (by decide) (by decide) (by decide)) ?_
 rintro _ _ ⟨rfl,hS1⟩
 replace ha:=ha.up hS1;replace hb:=hb.up hS1
 replace hS:=hS.trans hS1
 clear hS1
 refine W ?_
 apply Za (vs:=[(1,.int .i64 3),(2,.int .i64 4)]) rfl (Z7z _ _) rfl
 refine W ?_
 refine Z0 (Z3 (vs:=[(0,agg (Wy.mk 0 3 4 0))]) rfl (Z4C _)) rfl ?_
 rintro y2 _ hN
 have hy2:=hN.slv (X:=[]) (ys:=[Wy.mk 0 3 4 0]) (by simp) rfl rfl (by simp [maxLen])
 have hS1:=hN.choose_spec.2.2.2
 clear hN
 replace ha:=ha.up hS1;replace hb:=hb.up hS1
 replace hS:=hS.trans hS1
 clear hS1
 refine W ?_
 apply Za (vs:=[(1,.int .i64 3),(2,.int .i64 104)]) rfl (Z3g _ _) rfl
 refine W ?_
 refine Z0 (Z3 (vs:=[(0,agg (Dlv.mk 0 3 104))]) rfl (Z2o _)) rfl ?_
 rintro e2 _ hN
 have he2:=hN.slv (X:=[]) (ys:=[Dlv.mk 0 3 104]) (by simp) rfl rfl (by simp [maxLen])
 have hS1:=hN.choose_spec.2.2.2
 clear hN
 replace ha:=ha.up hS1;replace hb:=hb.up hS1;replace hy2:=hy2.up hS1
 replace hS:=hS.trans hS1
 clear hS1
 refine W ?_
 refine Z0 (Z3 (vs:=[(0,.int .i64 105),(1,.int .i64 106)]) rfl (Z3J _ _)) rfl ?_
 rintro n2 _ hN
 have hn2:=hN.slv (X:=[]) (ys:=[(105:Int),(106:Int)]) (by simp) rfl rfl (by simp [maxLen])
 have hS1:=hN.choose_spec.2.2.2
 clear hN
 replace ha:=ha.up hS1;replace hb:=hb.up hS1;replace hy2:=hy2.up hS1;replace he2:=he2.up hS1
 replace hS:=hS.trans hS1
 clear hS1
 refine W ?_
 refine CL rfl (Z2z rfl rfl rfl rfl) rfl (Z1C [] [] [] _ _ _ [Wy.mk 0 3 4 0] [Dlv.mk 0 3 104] [(105:Int),(106:Int)] 104 _ hy2 he2 hn2 (by simp) (by decide) (by decide) (by decide)) ?_
 rintro _ _ ⟨rfl,hS1⟩
 replace ha:=ha.up hS1;replace hb:=hb.up hS1
 replace hS:=hS.trans hS1
 clear hS1
 refine W ?_
 apply Za (vs:=[(1,.int .i64 4),(3,.int .i64 5)]) rfl (Zbs _ _) rfl
 refine W ?_
 refine Z0 (Z3 (vs:=[(0,agg (Wy.mk 0 4 0 5))]) rfl (Z4C _)) rfl ?_
 rintro y3 _ hN
 have hy3:=hN.slv (X:=[]) (ys:=[Wy.mk 0 4 0 5]) (by simp) rfl rfl (by simp [maxLen])
 have hS1:=hN.choose_spec.2.2.2
 clear hN
 replace ha:=ha.up hS1;replace hb:=hb.up hS1
 replace hS:=hS.trans hS1
 clear hS1
 refine W ?_
 apply Za (vs:=[(1,.int .i64 5),(2,.int .i64 100)]) rfl (Z3g _ _) rfl
 refine W ?_
 refine Z0 (Z3 (vs:=[(0,agg (Dlv.mk 0 5 100))]) rfl (Z2o _)) rfl ?_
 rintro e3 _ hN
 have he3:=hN.slv (X:=[]) (ys:=[Dlv.mk 0 5 100]) (by simp) rfl rfl (by simp [maxLen])
 have hS1:=hN.choose_spec.2.2.2
 clear hN
 replace ha:=ha.up hS1;replace hb:=hb.up hS1;replace hy3:=hy3.up hS1
 replace hS:=hS.trans hS1
 clear hS1
 refine W ?_
 refine Z0 (Z3 (vs:=[(0,.int .i64 101)]) rfl (Z3I _)) rfl ?_
 rintro n3 _ hN
 have hn3:=hN.slv (X:=[]) (ys:=[(101:Int)]) (by simp) rfl rfl (by simp [maxLen])
 have hS1:=hN.choose_spec.2.2.2
 clear hN
 replace ha:=ha.up hS1;replace hb:=hb.up hS1;replace hy3:=hy3.up hS1;replace he3:=he3.up hS1
 replace hS:=hS.trans hS1
 clear hS1
 refine W ?_
 refine CL rfl (Z2z rfl rfl rfl rfl) rfl (Z1C [] [] [] _ _ _ [Wy.mk 0 4 0 5] [Dlv.mk 0 5 100] [(101:Int)] 100 _ hy3 he3 hn3 (by simp) (by decide) (by decide) (by decide)) ?_
 rintro _ _ ⟨rfl,hS1⟩
 replace ha:=ha.up hS1;replace hb:=hb.up hS1
 replace hS:=hS.trans hS1
 clear hS1
 refine W ?_
 apply Za (vs:=[(1,.int .i64 5),(2,.int .i64 2)]) rfl (Z7z _ _) rfl
 refine W ?_
 refine Z0 (Z3 (vs:=[(0,agg (Wy.mk 0 5 2 0))]) rfl (Z4C _)) rfl ?_
 rintro y4 _ hN
 have hy4:=hN.slv (X:=[]) (ys:=[Wy.mk 0 5 2 0]) (by simp) rfl rfl (by simp [maxLen])
 have hS1:=hN.choose_spec.2.2.2
 clear hN
 replace ha:=ha.up hS1;replace hb:=hb.up hS1
 replace hS:=hS.trans hS1
 clear hS1
 refine W ?_
 refine Z0 (Z3 (vs:=[(0,.int .i64 103)]) rfl (Z3I _)) rfl ?_
 rintro n4 _ hN
 have hn4:=hN.slv (X:=[]) (ys:=[(103:Int)]) (by simp) rfl rfl (by simp [maxLen])
 have hS1:=hN.choose_spec.2.2.2
 clear hN
 replace ha:=ha.up hS1;replace hb:=hb.up hS1;replace hy4:=hy4.up hS1
 replace hS:=hS.trans hS1
 clear hS1
 refine W ?_
 refine CL rfl (Z2z rfl rfl rfl rfl) rfl (Z1C [] [] [] _ _ _ [Wy.mk 0 5 2 0] [] [(103:Int)] 102 _ hy4 (SlV.nilC [] _) hn4 (by simp) (by decide) (by decide) (by decide)) ?_
 rintro _ _ ⟨rfl,hS1⟩
 replace ha:=ha.up hS1;replace hb:=hb.up hS1
 replace hS:=hS.trans hS1
 clear hS1
 refine W ?_
 refine WR ?_
 exact .mk ⟨rfl,hS⟩
end Go.Proofs.YtjdjdoefppebkaaGreatDoor
namespace Go.Eng
open Go Go.RowKit Go.Proofs
def PQ (n:Nat) (Q:Exit→Act→World→Prop):Exit→Act→World→Prop
 | .panic ch,a,w=>Has n [] a∧∀ a',Has n [] a'→Q (.panic ch) a' w
 | _,_,_=>False
theorem Has.put_back {n:Nat} {a:Act} {d:Option Nat} {v:Value} (h:Has n [] (a.put d v)):Has n [] a:=by
 cases d with
 | none=>exact h
 | some d=>exact ⟨h.defers,by simpa [Act.put] using h.size,fun t v hv=>by simp [look] at hv⟩
theorem Z8F {n:Nat} {Q:Exit→Act→World→Prop} (a:Act) (w:World):¬ PQ n Q .outgrown a w:=fun h=>h
theorem Zbt {n:Nat} {Q:Exit→Act→World→Prop} (ch:List PanicEntry) (a:Act) (d:Option Nat) (v:Value) (w:World) (h:PQ n Q (.panic ch) (a.put d v) w):PQ n Q (.panic ch) a w:=⟨h.1.put_back,h.2⟩
theorem Zhn {n:Nat} {Q:Exit→Act→World→Prop} (ex:Exit) (a:Act) (w:World) (h:PQ n Q ex a w):Q ex a w:=by
 cases ex<;>first|exact h.2 a h.1|exact h.elim
theorem Zho {P:Program} {o:Oper} {a:Act} {w:World} {K:Act→World→Prop} {X Q:Exit→Act→World→Prop} (hX0:∀ a w,¬ X .outgrown a w) (hX:∀ ex a w,X ex a w→Q ex a w) (h:o.wp P a w K X):o.wp P a w K Q:=by
 unfold Oper.wp at *
 generalize (execOp a.eval o).run P w=r at *
 cases r with
 | ok n w'=>
   cases n<;>simp only [Oper.upon] at h ⊢
   case enter f args=>
    refine Calls.mono h (fun e w'' he=>?_)
    cases e with
    | returned v=>exact he
    | panicked c=>exact hX _ _ _ he
    | outgrown=>obtain ⟨_,_,hf⟩:=he;exact (hX0 _ _ hf).elim
   all_goals exact h
 | halt x w'=>cases x<;>simp only [Oper.upon] at h ⊢;exact hX _ _ _ h
theorem Zbu {P:Program} {ops:Array Oper} {i:Nat} {K:Act→World→Prop} {X Q:Exit→Act→World→Prop} (hX0:∀ a w,¬ X .outgrown a w) (hX:∀ ex a w,X ex a w→Q ex a w) {a:Act} {w:World} (h:wpOp P ops X i K a w):wpOp P ops Q i K a w:=by
 unfold wpOp at *
 cases ho:ops[i]? with
 | none=>simp only [ho] at h ⊢;exact h
 | some o=>
   simp only [ho] at h ⊢
   split
   rename_i hw
   simp only [hw,if_true] at h
   rcases h with h|⟨_,_,_,hf⟩
   exact .inl (Zho hX0 hX h)
   exact (hX0 _ _ hf).elim
   rename_i hw;simp only [hw] at h;exact h
def Z0r (P:Program) (X:Exit→Act→World→Prop) (md:Region.Mode) (ops:Array Oper) (S:List Nat) (Lt:Nat→Bool) (Z:Act→World→Prop):Nat→Array Bool→Act→World→Prop
 | 0,listed,a,w=>Region.ready md ops listed=[]∧Z a w
 | fuel + 1, listed, a, w=>
   (Region.ready md ops listed=[]→Z a w)∧
   ∀ i∈Region.ready md ops listed,wpOp P ops X i (fun a' w'=>(Stp S w w'∨Lt i=true)∧Z0r P X md ops S Lt Z fuel (listed.setIfInBounds i true) a' w') a w
theorem Z4f {P:Program} {ops:Array Oper} {md:Region.Mode} {S:List Nat} {Lt:Nat→Bool} {X Q:Exit→Act→World→Prop} (hX0:∀ a w,¬ X .outgrown a w) (hX:∀ ex a w,X ex a w→Q ex a w) {Z:Act→World→Prop} (hZ:∀ a w,Z a w→Q .normal a w):∀ (fuel:Nat) (listed:Array Bool) (a:Act) (w:World),
 Z0r P X md ops S Lt Z fuel listed a w→wpAny P md ops Q fuel listed a w
 | 0,_,_,_,h=>⟨h.1,hZ _ _ h.2⟩
 | fuel+1,_,_,_,h=>⟨fun h0=>hZ _ _ (h.1 h0),fun i hi=>wpOp_mono (fun a' w' hk=>Z4f hX0 hX hZ fuel _ a' w' hk.2) (Zbu hX0 hX (h.2 i hi))⟩
section any
variable {P:Program} {ops:Array Oper} {md:Region.Mode} {S:List Nat} {Lt:Nat→Bool}
theorem Z7A {X:Exit→Act→World→Prop} (hX0:∀ a w,¬ X .outgrown a w) (hXp:∀ ch a d v w,X (.panic ch) (Act.put a d v) w→X (.panic ch) a w) {Z:Act→World→Prop} {R:World→World→Prop} (hR0:∀ w,R w w) (hRt:∀ a b c,R a b→R b c→R a c) {i:Nat} {oi:Oper} {v:Value} (hi:ops[i]?=some oi)
 (hRs:∀ j oj,ops[j]?=some oj→(∀ e∈oj.after,Region.binds md e=true→e.on≠i)→j≠i→∀ w w',(Stp S w w'∨Lt j=true)→R w w')
 (hsel:∀ (j:Nat) (o:Oper) cs b,ops[j]?=some o→o.op≠.select cs b) :
 ∀ (fuel : Nat) (listed : Array Bool) (a : Act) (w : World),
   (∀ j oj,ops[j]?=some oj→j≠i→listed.getD j true=false→(∀ e∈oj.after,Region.binds md e=true→e.on≠i)→oi.apart ops oj=true)→
   (Stp S w w∨Lt i=true→True)→i∈Region.ready md ops listed→YE P ops R oi v a w→
   Z0r P X md ops S Lt Z fuel (listed.setIfInBounds i true) (a.put oi.dst v) w→Z0r P X md ops S Lt Z (fuel+1) listed a w:=by
 have now:∀ (fuel:Nat) (listed:Array Bool) (a:Act) (w:World),YE P ops R oi v a w→Z0r P X md ops S Lt Z fuel (listed.setIfInBounds i true) (a.put oi.dst v) w→
  wpOp P ops X i (fun a' w'=>(Stp S w w'∨Lt i=true)∧Z0r P X md ops S Lt Z fuel (listed.setIfInBounds i true) a' w') a w:=by
  intro fuel listed a w hy H
  unfold wpOp
  simp only [hi]
  rcases hy with ⟨hw,hv⟩|⟨hw,rfl⟩
  simp only [hw,if_true,Oper.wp,hv w (hR0 w),Oper.upon];exact .inl ⟨.inl (Stp.refl _ _),H⟩
  simp only [hw,XF,if_false];exact ⟨.inl (Stp.refl _ _),H⟩
 intro fuel
 induction fuel with
 | zero=>
   intro listed a w _ _ hr hy H
   refine ⟨fun h=>(by rw [h] at hr;cases hr),fun j hj=>?_⟩
   by_cases hji:j=i
   subst hji;exact now _ _ _ _ hy H
   have:=ready_mono hj hji
   rw [H.1] at this
   cases this
 | succ fuel ih=>
   intro listed a w hfree hx hr hy H
   refine ⟨fun h=>(by rw [h] at hr;cases hr),fun j hj=>?_⟩
   by_cases hji:j=i
   subst hji;exact now _ _ _ _ hy H
   have h1:=H.2 j (ready_mono hj hji)
   obtain ⟨hjun,oj,hoj,hall⟩:=mem_ready.1 hj
   have hnot:∀ e∈oj.after,Region.binds md e=true→e.on≠i:=fun e he hb heq=>by
    have h1:=hall e he hb
    have h0:=(mem_ready.1 hr).1
    rw [heq] at h1
    rcases X2 i listed.size with h'|h'
    simp [h'] at h0 h1;rw [h0] at h1;cases h1
    simp [Array.getElem?_eq_none h'] at h1
   have hap:=hfree j oj hoj hji hjun hnot
   obtain ⟨p1,p2,p3⟩:=Oper.apart_spec hap
   have keep:∀ (a:Act),YE P ops R oi v a w→∀ u,YE P ops R oi v (a.put oj.dst u) w:=fun a hy u=>
    hy.same (execOp_put oi (fun cs b=>hsel i oi cs b hi) a oj.dst u p3) (wanted_put oi a oj.dst u p3)
   have keepD:∀ (a:Act) d,YE P ops R oi v a w→YE P ops R oi v { a with defers:=d :: a.defers } w:=fun a d hy=>hy.same rfl rfl
   have later:∀ (a:Act) w',(Stp S w w'∨Lt j=true)→YE P ops R oi v a w→YE P ops R oi v a w':=fun a w' hs hy=>by
    rcases hy with ⟨hw,hv⟩|hw
    exact .inl ⟨hw,fun w'' h''=>hv w'' (hRt _ _ _ (hRs j oj hoj hnot hji w w' hs) h'')⟩
    exact .inr hw
   have hfree':∀ k ok,ops[k]?=some ok→k≠i→(listed.setIfInBounds j true).getD k true=false→
    (∀ e∈ok.after,Region.binds md e=true→e.on≠i)→oi.apart ops ok=true:=fun k ok hk hki hun hno=>by
    refine hfree k ok hk hki ?_ hno
    by_cases hjk:j=k
    subst hjk;exact hjun
    rw [getD_set_ne true hjk] at hun;exact hun
   have fin:∀ a' w',YE P ops R oi v a' w→(Stp S w w'∨Lt j=true)∧Z0r P X md ops S Lt Z fuel ((listed.setIfInBounds i true).setIfInBounds j true) (a'.put oi.dst v) w'→
    (Stp S w w'∨Lt j=true)∧Z0r P X md ops S Lt Z (fuel+1) (listed.setIfInBounds j true) a' w':=by
    rintro a' w' hy' ⟨hs,hk⟩
    refine ⟨hs,ih _ a' w' hfree' (fun _=>trivial) (ready_mono hr (Ne.symm hji)) (later a' w' hs hy') ?_⟩
    rw [Array.setIfInBounds_comm _ _ hji]
    exact hk
   have hsj:∀ cs b,oj.op≠.select cs b:=fun cs b=>hsel j oj cs b hoj
   unfold wpOp at *
   simp only [hoj] at *
   rw [wanted_put oj a oi.dst v p1] at h1
   split
   · rename_i hw
     simp only [hw,if_true] at h1
     rcases h1 with h1|⟨_,_,_,hf⟩
     case inr=>exact (hX0 _ _ hf).elim
     refine .inl ?_
     unfold Oper.wp at *
     rw [execOp_put oj hsj a oi.dst v p1] at h1
     generalize (execOp a.eval oj).run P w=r at *
     cases r with
     | ok n w'=>
       cases n<;>simp only [Oper.upon] at h1 ⊢
       case value u=>exact fin _ _ (keep a hy u) (by rw [← Act.put_comm a v u p2];exact h1)
       case skip=>exact fin _ _ (keep a hy _) (by rw [← Act.put_comm a v undef p2];exact h1)
       case defer d=>
        refine fin _ _ (keep _ (keepD a d hy) _) ?_
        rw [← Act.put_comm _ v undef p2,← Act.put_defers]
        exact h1
       case enter f args=>
        refine Calls.mono h1 fun e w'' he=>?_
        cases e with
        | returned u=>exact fin _ _ (keep a hy u) (by rw [← Act.put_comm a v u p2];exact he)
        | panicked c=>exact hXp _ _ _ _ _ he
        | outgrown=>obtain ⟨_,_,hf⟩:=he;exact (hX0 _ _ hf).elim
       case row row args=>exact Rows.mono h1 fun u w'' he=>fin _ _ (keep a hy u) (by rw [← Act.put_comm a v u p2];exact he)
     | halt x w'=>
       cases x<;>simp only [Oper.upon] at h1 ⊢
       exact hXp _ _ _ _ _ h1
   rename_i hw
   simp only [hw] at h1
   exact fin _ _ (keep a hy _) (by rw [← Act.put_comm a v undef p2];exact h1)
end any
structure WDq (P:Program) (n:Nat) (ops:Array Oper) (S:List Nat) (Lt:List Nat) (Q:Exit→Act→World→Prop) (ord:List (Nat×Nat)) (e:Env) (w:World):Prop where
 h:∀ listed:Array Bool,Region.noSelect ops=true→Je ops Lt ord listed=true→∀ a,Has n e a→Z0r P (PQ n Q) .any ops S (fun j=>Lt.contains j) (fun a w=>Q .normal a w) (wt ord) listed a w
section rules
variable {P:Program} {n:Nat} {Q:Exit→Act→World→Prop} {e:Env} {w:World} {ops:Array Oper} {S:List Nat} {Lt:List Nat} {rest:List (Nat×Nat)}
theorem Z2r {id:Nat} {l:List Oper} (m:Nat) (S:List Nat) (Lt:List Nat) (ord:List (Nat×Nat)) (hlm:l.length=m) (hm:P.follows .mixedOrders=true) (hs:Region.noSelect l.toArray=true) (hl:Nat.beq (wt ord) l.length=true)
 (hB:Je l.toArray Lt ord (Array.replicate m false)=true)
 (h:∀ w',Stp [] w w'→WDq P n l.toArray S Lt Q ord e w'):WC P n (.region id l.toArray true) Q e w:=by
 subst hlm
 refine ⟨fun a ha=>wp_region_any hm ?_⟩
 have h1:=(h { w with drawn:=w.drawn+1 } (Stp.drew [] w)).h _ hs hB a ha
 have h2:=Z4f (X:=PQ n Q) (Q:=Q) Z8F Zhn (fun a w hz=>hz) _ _ _ _ h1
 rw [XP hl] at h2
 simpa using h2
theorem Z9T {i d:Nat} {o:Oper} {v:Value} (hi:ops[i]?=some o) (hd:o.dst=some d) (hY:∀ a,Has n e a→YE P ops (fun _ _=>True) o v a w) (hdn:Nat.blt d n=true)
 (k:WDq P n ops S Lt Q rest ((d,v) :: e) w):WDq P n ops S Lt Q ((i,0) :: rest) e w:=by
 refine ⟨fun listed hs hB a ha=>?_⟩
 simp only [Je,ZH,Xf] at hB
 obtain ⟨⟨h1,h2⟩,h3⟩:=hB
 have hk:=k.h _ hs h3 _ (ha.put (v:=v) hdn)
 rw [← hd] at hk
 rw [JO (by decide)]
 exact Z7A Z8F Zbt (R:=fun _ _=>True) (fun _=>trivial) (fun _ _ _ _ _=>trivial) hi (fun _ _ _ _ _ _ _ _=>trivial) (Region.noSelect_spec hs) _ _ _ _ (Region.free_spec hi h2) (fun _=>trivial) (by simpa using h1) (hY a ha) hk
theorem Z9U {i d:Nat} {o:Oper} {v:Value} (hi:ops[i]?=some o) (hd:o.dst=some d) (hY:∀ a,Has n e a→YE P ops (Stp S) o v a w) (hdn:Nat.blt d n=true)
 (k:WDq P n ops S Lt Q rest ((d,v) :: e) w):WDq P n ops S Lt Q ((i,1) :: rest) e w:=by
 refine ⟨fun listed hs hB a ha=>?_⟩
 simp only [Je,ZH,Xf] at hB
 obtain ⟨⟨⟨h1,h2⟩,hb⟩,h3⟩:=hB
 have hk:=k.h _ hs h3 _ (ha.put (v:=v) hdn)
 rw [← hd] at hk
 rw [JO (by decide)]
 refine Z7A Z8F Zbt (R:=Stp S) (fun w=>Stp.refl _ w) (fun _ _ _ h k=>h.trans k) hi (fun j oj hj hn hji w w' hs=>?_) (Region.noSelect_spec hs) _ _ _ _ (Region.free_spec hi h2) (fun _=>trivial) (by simpa using h1) (hY a ha) hk
 rcases hs with hs|hs
 exact hs
 rw [Z4M hb hj hn hji] at hs;cases hs
variable {i d:Nat} {op:Op} {ty:TypeId} {pos:String} {af:Array Edge} {gd:Option (Nat×Bool)} {v:Value}
theorem ZM (hi:ops[i]?=some ⟨some d,op,ty,pos,af,gd⟩) (hg:Zy ops e gd) (hp:∀ w',PR P n ⟨some d,op,ty,pos,af,gd⟩ e w' v) (hdn:Nat.blt d n=true)
 (k:WDq P n ops S Lt Q rest ((d,v) :: e) w):WDq P n ops S Lt Q ((i,0) :: rest) e w:=
 Z9T hi rfl (fun a ha=>.inl ⟨JB ha hg,fun w' _=>(hp w').h a ha⟩) hdn k
theorem Z1j (hi:ops[i]?=some ⟨some d,op,ty,pos,af,gd⟩) (hg:Zy ops e gd) (hp:∀ w',Stp S w w'→PR P n ⟨some d,op,ty,pos,af,gd⟩ e w' v) (hdn:Nat.blt d n=true)
 (k:WDq P n ops S Lt Q rest ((d,v) :: e) w):WDq P n ops S Lt Q ((i,1) :: rest) e w:=
 Z9U hi rfl (fun a ha=>.inl ⟨JB ha hg,fun w' hw=>(hp w' hw).h a ha⟩) hdn k
structure Zlz (P:Program) (n:Nat) (ops:Array Oper) (S:List Nat) (Lt:List Nat) (Q:Exit→Act→World→Prop) (i:Nat) (ord:List (Nat×Nat)) (e:Env) (w:World):Prop where
 h : ∀ listed : Array Bool, Region.noSelect ops = true → Je ops Lt ord (listed.setIfInBounds i true) = true → ∀ a, Has n e a→
   wpOp P ops (PQ n Q) i (fun a' w'=>(Stp S w w'∨Lt.contains i=true)∧Z0r P (PQ n Q) .any ops S (fun j=>Lt.contains j) (fun a w=>Q .normal a w) (wt ord) (listed.setIfInBounds i true) a' w') a w
theorem Z9n (h:Zlz P n ops S Lt Q i rest e w):WDq P n ops S Lt Q ((i,2) :: rest) e w:=by
 refine ⟨fun listed hs hB a ha=>?_⟩
 simp only [Je,ZH] at hB
 rw [if_neg (by simp)] at hB
 simp only [Xf,beq_iff_eq] at hB
 obtain ⟨h1,h3⟩:=hB
 rw [JO (by decide)]
 refine ⟨fun h0=>absurd (h1 ▸ h0) (by simp),fun j hj=>?_⟩
 rw [h1] at hj
 obtain rfl:j=i:=by simpa using hj
 exact h.h _ hs h3 a ha
end rules
structure OEP (P:Program) (n:Nat) (o:Oper) (e:Env) (w:World) (G:Value→World→Prop) (F:List PanicEntry→World→Prop):Prop where
 h:∀ a,Has n e a→∀ Q:Exit→Act→World→Prop,(∀ ch w',F ch w'→Q (.panic ch) a w')→o.wp P a w (fun a' w'=>∃ v,a'=a.put o.dst v∧G v w') Q
inductive Zhp (G:Value→World→Prop) (F:List PanicEntry→World→Prop):Ending→World→Prop
 | ret {v:Value} {w:World}:G v w→Zhp G F (.returned v) w
 | pan {ch:List PanicEntry} {w:World}:F ch w→Zhp G F (.panicked ch) w
section
variable {P:Program} {n:Nat} {Q:Exit→Act→World→Prop} {e:Env} {w:World} {ops:Array Oper} {S:List Nat} {Lt:List Nat} {rest:List (Nat×Nat)}
theorem Zbv {i d:Nat} {op:Op} {ty:TypeId} {pos:String} {af:Array Edge} {gd:Option (Nat×Bool)} {G:Value→World→Prop} {F:List PanicEntry→World→Prop} (hi:ops[i]?=some ⟨some d,op,ty,pos,af,gd⟩) (hg:Zy ops e gd)
 (hp:OEP P n ⟨some d,op,ty,pos,af,gd⟩ e w G F) (hG:∀ v w',G v w'→Stp S w w') (hdn:Nat.blt d n=true) (hF:∀ ch w',F ch w'→WQ n Q (.panic ch) [] w')
 (k:∀ v w',G v w'→WDq P n ops S Lt Q rest ((d,v) :: e) w'):WDq P n ops S Lt Q ((i,2) :: rest) e w:=by
 refine Z9n ⟨fun listed hs h3 a ha=>?_⟩
 unfold wpOp
 simp only [hi]
 rw [if_pos (JB (o:=⟨some d,op,ty,pos,af,gd⟩) ha hg)]
 have h0:Has n [] a:=⟨ha.defers,ha.size,fun t v hv=>by simp [look] at hv⟩
 refine .inl (Oper.wp_mono ?_ (hp.h a ha (PQ n Q) (fun ch w' h=>⟨h0,fun a' ha'=>(hF ch w' h).h a' ha'⟩)))
 rintro a' w' ⟨v,rfl,hG'⟩
 exact ⟨.inl (hG v w' hG'),(k v w' hG').h _ hs h3 _ (ha.put hdn)⟩
end
section
variable {P:Program} {n:Nat} {Q:Exit→Act→World→Prop} {e:Env} {w:World} {ops:Array Oper} {rest:List Oper} {d:Option Nat} {ty:TypeId} {pos:String} {af:Array Edge} {g:Option (Nat×Bool)}
theorem Z54 {f:Nat} {fn:Func} {xs:Array Operand} {ts:Array TypeId} {vs:Array Value} {G:Value→World→Prop} {F:List PanicEntry→World→Prop} {c:Operand} [hf:Fun P f fn] (hc:ev e c=some (.func (.func f) #[] #[]))
 (hv:∀ a,Has n e a→xs.map a.eval=vs) (h:Calls P f vs w (Zhp G F)) :
 OEP P n ⟨d,.call { callee:=.value c,args:=xs,argTypes:=ts },ty,pos,af,g⟩ e w G F:=
 ⟨fun a ha Q hQ => by
   have he:(execOp a.eval ⟨d,.call { callee:=.value c,args:=xs,argTypes:=ts },ty,pos,af,g⟩).run P w=.ok (.enter f vs) w:=by
    simp only [execOp,resolve,ha.ev hc,Deferred.ofValue,hv a ha]
    simp [invoke]
    exact hf.enters vs w
   unfold Oper.wp
   rw [he]
   simp only [Oper.upon]
   refine h.mono ?_
   intro r w' hr
   cases hr with
   | ret hg=>exact ⟨_,rfl,hg⟩
   | pan hp=>exact hQ _ _ hp⟩
theorem Z9o {d:Nat} {op:Op} {G:Value→World→Prop} {F:List PanicEntry→World→Prop} (hp:OEP P n ⟨some d,op,ty,pos,af,none⟩ e w G F) (hd:Nat.blt d n=true) (hF:∀ ch w',F ch w'→WQ n Q (.panic ch) e w')
 (k:∀ v w',G v w'→WL P n ops Q rest ((d,v) :: e) w'):WL P n ops Q (⟨some d,op,ty,pos,af,none⟩ :: rest) e w:=by
 refine ⟨fun a ha=>?_⟩
 refine wpList_plain rfl (fun K hK=>?_)
 refine Oper.wp_mono ?_ (hp.h a ha Q (fun ch w' h=>(hF ch w' h).h a ha))
 rintro a' w' ⟨v,rfl,hg⟩
 exact hK _ _ ((k v w' hg).h _ (ha.put hd))
theorem Zc {N:Act→World→Prop} {ch:List PanicEntry} (h:WQ n Q (.panic ch) e w):WQ n (Exit.then N Q) (.panic ch) e w:=⟨fun a ha=>h.h a ha⟩
theorem Z9 {i:Nat} {ch:List PanicEntry} (h:WQ n Q (.panic ch) e w):WQ n (Exit.inBlock i Q) (.panic ch) e w:=⟨fun a ha=>h.h a ha⟩
theorem Z9V {x:Exit} (h:WQ n Q x [] w):WQ n Q x e w:=⟨fun a ha=>h.h a ⟨ha.defers,ha.size,fun t v hv=>by simp [look] at hv⟩⟩
theorem Zn {fn:Func} {R:Ending→World→Prop} {ch:List PanicEntry} (h:R (.panicked ch) w):WQ n (bodyPost P fn R) (.panic ch) e w:=⟨fun a ha=>⟨ha.defers,h⟩⟩
end
theorem Z3L {P:Program} {n:Nat} {e:Env} {w:World} {d:Option Nat} {ty:TypeId} {pos:String} {af:Array Edge} {g:Option (Nat×Bool)} {t:TypeId} {x:Operand} {v:Value} {fs:Array Field} [hu:Und P t (.struct fs)] (hx:ev e x=some v):PR P n ⟨d,.makeInterface t x,ty,pos,af,g⟩ e w (.iface t v):=
 ⟨fun a ha=>by simp [execOp,ha.ev hx,Instr.makeInterface,run_underlying hu.h]⟩
theorem Z9W {P:Program} {n:Nat} {e:Env} {w:World} {d:Option Nat} {ty:TypeId} {pos:String} {af:Array Edge} {g:Option (Nat×Bool)} {x:Operand} {t:TypeId} {v:Value} (hx:ev e x=some (.iface t v)):∀ a,Has n e a→(execOp a.eval ⟨d,.panic x,ty,pos,af,g⟩).run P w=.halt (.panic (.iface t v)) w:=
 fun a ha=>by simp [execOp,ha.ev hx,Instr.panic]
theorem Z9X {P:Program} {n:Nat} {Q:Exit→Act→World→Prop} {e:Env} {w:World} {ops:Array Oper} {S:List Nat} {Lt:List Nat} {rest:List (Nat×Nat)} {i:Nat} {o:Oper} {v:Value} (hi:ops[i]?=some o) (hg:Zy ops e o.guard)
 (hp:∀ a,Has n e a→(execOp a.eval o).run P w=.halt (.panic v) w) (h:WQ n Q (.panic [{ v,recovered:=false }]) [] w):WDq P n ops S Lt Q ((i,2) :: rest) e w:=by
 refine Z9n ⟨fun listed hs h3 a ha=>?_⟩
 unfold wpOp
 simp only [hi]
 rw [if_pos (JB ha hg)]
 refine .inl ?_
 unfold Oper.wp
 rw [hp a ha]
 have h0:Has n [] a:=⟨ha.defers,ha.size,fun t v hv=>by simp [look] at hv⟩
 exact ⟨h0,fun a' ha'=>h.h a' ha'⟩
structure Tkn where
 kind:Int
 pos:Int
 text:Str
 num:Int
 deriving DecidableEq
instance:Inhabited Tkn:=⟨⟨0,0,[],0⟩⟩
instance:Z5 Tkn where
 k:=4
 enc:=fun t=>[.int .i64 t.kind,.int .i64 t.pos,str t.text,.int .i64 t.num]
 len:=fun _=>rfl
 one:=by intro x u hu;simp at hu;rcases hu with rfl|rfl|rfl|rfl<;>rfl
def cur (l:List Tkn) (i:Nat):Tkn:=l.getD i default
inductive Out (α:Type) where
 | err (a c:Int)
 | ok (x:α) (i o:Nat)
def Out.bind {α β:Type}:Out α→(α→Nat→Nat→Out β)→Out β
 | .err a c,_=>.err a c
 | .ok x i o,k=>k x i o
def Z1k {α:Type} (l:List Tkn) (i:Nat) (c:Int):Out α:=.err (cur l i).pos c
def Z0D (l:List Tkn) (s:Str) (i o:Nat):Out Unit:=if (cur l i).text=s then .ok () (i+1) o else Z1k l i 20
def Z2S (l:List Tkn) (k:Int) (i o:Nat):Out Tkn:=if (cur l i).kind=k then .ok (cur l i) (i+1) o else Z1k l i 20
def JJ (l:List Tkn) (s:Str) (i o:Nat):Out Unit:=if (cur l i).text=s then (if o=12 then Z1k l i 2 else .ok () (i+1) (o+1)) else Z1k l i 20
def JS (l:List Tkn) (s:Str) (i o:Nat):Out Unit:=(Z0D l s i o).bind fun _ i o=>.ok () i (o - 1)
def Z55:List Str:=[[100,97,121],[115,101,114,118,101,100],[101,120,116,114,97],[98,121],[116,111],[99,111,117,114,116],[97,109,111,117,110,116]]
def Z5S:List Str:=[[100,97,121,115],[119,101,101,107,115],[109,111,110,116,104,115],[99,111,117,114,116,100,97,121,115]]
def Z5T:List Str:=[[110,101,120,116],[112,114,101,118],[108,97,116,101,114],[101,97,114,108,105,101,114],[98,101,116,119,101,101,110]]
def Z3M (s:Str):Nat:=
 if s=[111,114] then 1 else if s=[97,110,100] then 2 else if s=[60]∨s=[60,61]∨s=[61]∨s=[33,61]∨s=[62]∨s=[62,61] then 4
 else if s=[43]∨s=[45] then 5 else if s=[42] then 6 else 0
def Z0g (s:Str):Nat:=if s=[110,101,120,116]∨s=[112,114,101,118] then 1 else 2
def JH (m:Nat→Nat→Option (Out Nd)) (sep:Nat→Nat→Nat→Out Unit):Nat→Nat→List Nd→Nat→Nat→Option (Out (List Nd))
 | 0,_,ks,i,o=>some (.ok ks i o)
 | n + 1, k, ks, i, o=>
   match sep k i o with
   | .err a c=>some (.err a c)
   | .ok _ i o=>
     match m i o with
     | none=>none
     | some (.err a c)=>some (.err a c)
     | some (.ok x i o)=>JH m sep n (k+1) (ks++[x]) i o
def Z0B (l:List Tkn) (k i o:Nat):Out Unit:=if 0<k then Z0D l [44] i o else .ok () i o
def Z56 (l:List Tkn) (k i o:Nat):Out Unit:=Z0D l (if k=0 then [116,104,101,110] else [101,108,115,101]) i o
inductive Call where
 | expr (level:Nat)
 | loop (level:Nat) (x:Nd)
 | prim
def Zp (l:List Tkn):Nat→Call→Nat→Nat→Option (Out Nd)
 | 0,_,_,_=>none
 | f + 1, .expr k, i, o=>
   if (k=3∧(cur l i).text=[110,111,116])∨(k=7∧(cur l i).text=[45]) then
    match JJ l (cur l i).text i o with
    | .err a c=>some (.err a c)
    | .ok _ i' o'=>
      match Zp l f (.expr k) i' o' with
      | none=>none
      | some (.err a c)=>some (.err a c)
      | some (.ok x i'' o'')=>some (.ok (.mk 5 0 (cur l i).text [x]) i'' (o'' - 1))
   else if k=8 then Zp l f .prim i o
   else
    match Zp l f (.expr (k+1)) i o with
    | none=>none
    | some (.err a c)=>some (.err a c)
    | some (.ok x i' o')=>Zp l f (.loop k x) i' o'
 | f + 1, .loop k x, i, o=>
   if Z3M (cur l i).text=k then
    match Zp l f (.expr (k+1)) (i+1) o with
    | none=>none
    | some (.err a c)=>some (.err a c)
    | some (.ok y i' o')=>
      if k=5∧(cur l i').text∈Z5S then Zp l f (.loop k (.mk (if (cur l i).text=[45] then 8 else 7) 0 (cur l i').text [x,y])) (i'+1) o'
      else if k=4 then some (.ok (.mk 6 0 (cur l i).text [x,y]) i' o')
      else Zp l f (.loop k (.mk 6 0 (cur l i).text [x,y])) i' o'
   else some (.ok x i o)
 | f + 1, .prim, i, o=>
   let t:=cur l i
   if t.kind=2 then some (.ok (.mk 1 t.num [] []) (i+1) o)
   else if t.kind=3 then some (.ok (.mk 3 t.num [] []) (i+1) o)
   else if t.text=[116,114,117,101] then some (.ok (.mk 2 1 [] []) (i+1) o)
   else if t.text=[102,97,108,115,101] then some (.ok (.mk 2 0 [] []) (i+1) o)
   else if t.text=[40] then
    match JJ l [40] i o with
    | .err a c=>some (.err a c)
    | .ok _ i' o'=>
      match Zp l f (.expr 1) i' o' with
      | none=>none
      | some (.err a c)=>some (.err a c)
      | some (.ok x i'' o'')=>
        match JS l [41] i'' o'' with
        | .err a c=>some (.err a c)
        | .ok _ i3 o3=>some (.ok x i3 o3)
   else if t.text=[105,102] then
    match JJ l [105,102] i o with
    | .err a c=>some (.err a c)
    | .ok _ i' o'=>
      match Zp l f (.expr 1) i' o' with
      | none=>none
      | some (.err a c)=>some (.err a c)
      | some (.ok x i'' o'')=>
        match JH (Zp l f (.expr 1)) (Z56 l) 2 0 [x] i'' o'' with
        | none=>none
        | some (.err a c)=>some (.err a c)
        | some (.ok ks i3 o3)=>
          match JS l [101,110,100] i3 o3 with
          | .err a c=>some (.err a c)
          | .ok _ i4 o4=>some (.ok (.mk 9 0 [] ks) i4 o4)
   else if t.text∈Z5T then
    match Z2S l 1 i o with
    | .err a c=>some (.err a c)
    | .ok _ i1 o1=>
      match JJ l [40] i1 o1 with
      | .err a c=>some (.err a c)
      | .ok _ i' o'=>
        match JH (Zp l f (.expr 1)) (Z0B l) (Z0g t.text) 0 [] i' o' with
        | none=>none
        | some (.err a c)=>some (.err a c)
        | some (.ok ks i3 o3)=>
          match JS l [41] i3 o3 with
          | .err a c=>some (.err a c)
          | .ok _ i4 o4=>some (.ok (.mk 10 0 t.text ks) i4 o4)
   else if t.text∈Z55 then some (.ok (.mk 4 0 t.text []) (i+1) o)
   else some (Z1k l i 20)
def Z7B (l:List Tkn) (i:Nat):Nat:=20 * (l.length - i)+20
def Z3N (l:List Tkn) (i o:Nat):Out Nd:=(Zp l (Z7B l i) (.expr 1) i o).getD (.err 0 0)
structure Z25 (l:List Tkn):Prop where
 pos:0<l.length
 last:(cur l (l.length - 1)).kind=0∧(cur l (l.length - 1)).text=[]
 body:∀ i,i+1<l.length→(cur l i).kind≠0∧(cur l i).text≠[]
 len:l.length≤4001
 sp:∀ i,∀ c∈(cur l i).text,c≠32
 tl:∀ i,(cur l i).text.length≤4000
theorem Z25.end_of {l:List Tkn} (h:Z25 l) {i:Nat} (hi:i<l.length) (ht:(cur l i).text≠[]):i+1<l.length:=by
 by_cases hl:i+1<l.length
 exact hl
 exfalso
 obtain rfl:i=l.length - 1:=by omega
 exact ht h.last.2
theorem Z25.end_of_kind {l:List Tkn} (h:Z25 l) {i:Nat} (hi:i<l.length) (ht:(cur l i).kind≠0):i+1<l.length:=by
 by_cases hl:i+1<l.length
 exact hl
 exfalso
 obtain rfl:i=l.length - 1:=by omega
 exact ht h.last.1
def JZ {β:Type} [Z5 β] (T:Nat) (w w':World) (v:Value) (xs:List β):Prop:=Row [] w' w.heap.size T v xs∧Stp [] w w'
section
variable {β:Type} [Z5 β] {T:Nat} {w w' w'':World} {v:Value} {xs ys:List β}
theorem Row.lower {α:Type} [Z4 α] {X:List Nat} {a b:Nat} {xs:List α} (h:Row X w b T v xs) (hab:a≤b):Row X w a T v xs:=by
 obtain ⟨css,h1,h2,h3,h4⟩:=h
 refine ⟨css,h1,h2,h3,h4.imp id ?_⟩
 rintro ⟨g,cap,cur,e1,e2,rest⟩
 exact ⟨g,cap,cur,e1,Xg hab e2,rest⟩
theorem JZ.nil:JZ (β:=β) T w w (.slice none 0 0) []:=⟨Row.nil,Stp.refl _ _⟩
theorem JZ.up (h:JZ T w w' v xs) (hS:Stp [] w' w''):JZ T w w'' v xs:=⟨h.1.up hS,h.2.trans hS⟩
theorem JZ.slv (h:JZ T w w' v xs) {X:List Nat} (hX:∀ b∈X,b<w.heap.size):SlV X w' v xs:=Row.slv (X:=X) h.1 hX
theorem JZ.ob_le (h:JZ T w w' v xs):∀ b∈ob v,w.heap.size≤b∧b<w'.heap.size:=h.1.ob_le
theorem JZ.step {S:List Nat} (h:JZ T w w' v xs) (hS:Stp S w' w'') (ho:∀ b∈S,b∈ob v):Stp [] w w'':=h.2.own hS (fun b hb=>.inr (h.ob_le b (ho b hb)).1)
section
variable {P:Program} {n:Nat} {e:Env} {d:Option Nat} {ty:TypeId} {pos:String} {af:Array Edge} {g:Option (Nat×Bool)}
theorem Z1D {x y:Operand} {t bytes:Nat} {u:Value} {z:Value} [ht:Und P t (.slice T)] [hk:Siz P T (Z4.k β)] [hb:Byt P T bytes] [hz:Zer P T z] (hzs:z.cells.size=Z4.k β) (hpos:0<Z4.k β)
 (hx:ev e x=some v) (hy:ev e y=some u) (h:JZ T w w' v xs) (hys:SlV (ob v) w' u ys) (hbytes:(xs.length+ys.length) * bytes≤140737488355328) (hlen:xs.length+ys.length≤maxLen) :
 OE P n ⟨d,.call { callee:=.builtin .append,args:=#[x,y],argTypes:=#[t,t] },ty,pos,af,g⟩ e w' (fun v' w''=>JZ T w w'' v' (xs++ys)∧Stp (ob v) w' w''∧∀ b∈ob v',b∈ob v∨w'.heap.size≤b):=by
 refine (Jn (X:=[]) (base:=w.heap.size) hzs hpos hx hy h.1 (by rw [XL];exact hys) hbytes hlen h.2.size).mono ?_
 rintro v' w2 ⟨h1,h2,h3⟩
 exact ⟨⟨h1,h.step h2 (fun _ hb=>hb)⟩,h2,h3⟩
end
end
structure Sl (α:Type) where
 l:List α
instance {α:Type} [Z4 α]:Z4 (Sl α) where
 k:=1
 rep:=fun X w x cs=>∃ v,cs=[v]∧SlV X w v x.l
 len:=by rintro X w x cs ⟨v,rfl,_⟩;rfl
 one:=by
  rintro X w x cs ⟨v,rfl,p,c,rfl,_⟩ u hu
  simp at hu
  subst hu
  rfl
 ext:=by
  rintro X S X' w w' x cs ⟨v,rfl,h⟩ hS h1 h2
  exact ⟨v,rfl,h.ext hS h1 h2⟩
section
variable {P:Program} {n:Nat} {Q:Exit→Act→World→Prop} {e:Env} {w:World}
theorem Z8G {o:Oper} {a:Act} {w:World} {K K':Act→World→Prop} {Q':Exit→Act→World→Prop} (h:∀ a w,K a w→K' a w) (hq:∀ ex a w,Q' ex a w→Q ex a w)
 (hh:o.wp P a w K Q'):o.wp P a w K' Q:=by
 unfold Oper.wp at *
 generalize (execOp a.eval o).run P w=r at *
 cases r with
 | ok n w'=>
   cases n<;>simp only [Oper.upon] at hh ⊢ <;>
    first
     | exact h _ _ hh
     | exact Calls.mono hh (fun e w'' he=>by cases e<;>first|exact h _ _ he|exact hq _ _ _ he|exact he.elim (fun a h=>h.elim (fun w h=>⟨a,w,hq _ _ _ h⟩)))
     | exact Rows.mono hh (fun _ _ he=>h _ _ he)
 | halt x w'=>cases x<;>simp only [Oper.upon] at hh ⊢<;>first|exact hq _ _ _ hh|exact hh
theorem Z1E {ops:Array Oper} {Q':Exit→Act→World→Prop} (hq:∀ ex a w,Q' ex a w→Q ex a w):∀ (l:List Oper) (a:Act) (w:World),wpList P ops Q' l a w→wpList P ops Q l a w
 | [],a,w,h=>hq _ _ _ h
 | o :: rest, a, w, h => by
   unfold wpList at h ⊢
   split
   rename_i hw
   rw [if_pos hw] at h
   rcases h with h|⟨h1,a',w',h2⟩
   exact .inl (Z8G (fun a w h=>Z1E hq rest a w h) hq h)
   exact .inr ⟨h1,a',w',hq _ _ _ h2⟩
   rename_i hw
   rw [if_neg hw] at h
   exact Z1E hq rest _ _ h
theorem Zdk {y:Code} {σ:Type} {ops:Array Oper} {l:List Oper} (env:σ→Env) (I:σ→World→Prop)
 (h:WL P n ops (Exit.then (fun a w=>∃ s,Has n (env s) a∧I s w) Q) l e w) (k:∀ s w,I s w→WC P n y Q (env s) w):WL P n ops (Exit.then (fun a w=>y.wp P Q a w) Q) l e w:=
 ⟨fun a ha => Z1E (fun ex a w hq => by
   cases ex with
   | normal=>obtain ⟨s,h1,h2⟩:=hq;exact (k s w h2).h a h1
   | _=>exact hq) l a w (h.h a ha)⟩
end
open Go Go.RowKit Go.Proofs Go.ChangeShapes Go.WideShapes Go.Deep
section
variable {H:Type} {enc:TypeId×Value→H} {P:Program} {w:World} {base:Nat} {spare:Nat→Bool} {held:Bool}
theorem Z7C (b o n:Nat):(⟨b,o,none⟩:Addr).add n=⟨b,o+n,none⟩:=by
 unfold Addr.add
 split
 rename_i h;subst h;rfl
 rfl
def Zhq:DataW H→Nat
 | .slice els _=>els.length
 | _=>0
theorem Z7D {α:Type} [Z5 α] {ok:α→Prop} {t e:TypeId} {fuel:Nat} {cs:List Value} {x:DataW H×List MemPlace} (ht:P.underlying t=some (.slice e)) (hC:P.cellsOf e=Z5.k α) (hpos:0<Z5.k α)
 (hread:∀ n cs' y,cs'.length=Z5.k α→DataW.trod enc P w base spare held n e cs'=some y→∃ a:α,cs'=Z5.enc a∧ok a)
 (h:DataW.trod enc P w base spare held fuel t cs=some x):∃ (v:Value) (xs:List α),cs=[v]∧SlV [] w v xs∧(∀ a∈xs,ok a)∧Zhq x.1=xs.length:=by
 rcases open_slice ht h with ⟨rfl,rfl⟩|⟨a,len,cap,m,n,D,Pl,rfl,hb,hl,hm,hmm,hx,hi⟩
 exact ⟨_,[],rfl,⟨none,0,rfl,Xk _,by simp [maxLen],fun _=>rfl,fun i h=>absurd h (Xs _)⟩,by simp,rfl⟩
 have hlm:len≤m:=by rw [hmm];split<;>omega
 have hne:∀ y:α,∃ u,(Z5.enc y)[0]?=some u:=fun y=>⟨_,List.getElem?_eq_getElem (by rw [Z5.len y];exact hpos)⟩
 have hall:∀ i:Fin len,∃ y:α,ok y∧∀ j u,(Z5.enc y)[j]?=some u→w.cell? (a.add (i * Z5.k α+j))=some u:=by
  intro i
  obtain ⟨cs',hc,htr⟩:=hi i (by omega)
  rw [hC] at hc
  obtain ⟨_,hcl,hat⟩:=World.cells?_some hc
  obtain ⟨y,rfl,hok⟩:=hread n cs' _ hcl htr
  refine ⟨y,hok,fun j u hu=>?_⟩
  have hj:j<Z5.k α:=by
   have:=(List.getElem?_eq_some_iff.1 hu).1
   rw [Z5.len] at this;exact this
  have:=hat j hj
  rw [hu] at this
  rw [← this,Go.Deep.add_add]
 let f:Fin len→α:=fun i=>(hall i).choose
 have hf:∀ i:Fin len,ok (f i)∧∀ j u,(Z5.enc (f i))[j]?=some u→w.cell? (a.add (i * Z5.k α+j))=some u:=fun i=>(hall i).choose_spec
 refine ⟨_,List.ofFn f,rfl,⟨some a,cap,by simp,by simpa using hl,hm,by simp,fun i hi'=>?_⟩,fun y hy=>?_,by rw [hx];simp [Zhq]⟩
 have hi'':i<len:=by simpa using hi'
 have hfi:=(hf ⟨i,hi''⟩).2
 obtain ⟨u1,hu1⟩:∃ u,(Z5.enc (f ⟨0,by omega⟩))[0]?=some u:=hne _
 have hc1:=(hf ⟨0,by omega⟩).2 0 u1 hu1
 obtain ⟨u0,hu0⟩:∃ u,(Z5.enc (f ⟨i,hi''⟩))[0]?=some u:=hne _
 have hc0:=hfi 0 u0 hu0
 have hsp:a.spot=none:=by
  have e0:a.add ((⟨0,by omega⟩:Fin len).val * Z5.k α+0)=a:=by simp [Addr.add]
  rw [e0] at hc1
  unfold World.cell? at hc1
  split at hc1
  · cases hs:a.spot with
    | none=>rfl
    | some s=>simp [hs] at hc1
  cases hc1
 obtain ⟨b,o,sp⟩:=a
 cases hsp
 refine ⟨b,o,Z5.enc (f ⟨i,hi''⟩),rfl,?_,by simp,?_,fun j u hu=>?_⟩
 have:=block_lt_of_cell (a:=(⟨b,o,none⟩:Addr).add (i * Z5.k α+0)) hc0
 simpa [Z7C] using this
 simp;rfl
 have:=hfi j u hu
 rw [Z7C] at this
 rw [show o+i * Z4.k α+j=o+(i * Z5.k α+j) from YaC _ _ _]
 exact this
 obtain ⟨i,rfl⟩:=List.mem_ofFn.1 hy
 exact (hf i).1
theorem Z7E {t e:TypeId} {fuel:Nat} {cs:List Value} {x:DataW H×List MemPlace} (ht:P.underlying t=some (.slice e)) (hC:P.cellsOf e=1) (he:P.underlying e=some (.int .i64))
 (h:DataW.trod enc P w base spare held fuel t cs=some x):∃ (v:Value) (xs:List Int),cs=[v]∧SlV [] w v xs∧(∀ a∈xs,I64 a)∧Zhq x.1=xs.length:=
 Z7D (α:=Int) ht hC (by decide) (fun n cs' y hl hy=>by
  obtain ⟨z,rfl,_,hw⟩:=DataW.trod_int he hy
  exact ⟨z,rfl,by simpa [I64,Lit.wf,IntKind.min,IntKind.max,IntKind.signed,IntKind.bits] using hw⟩) h
end
section
variable {H:Type} {enc:TypeId×Value→H} {P:Program}
def Z9p (P:Program) (ts:List TypeId):Bool:=ts.all fun t=>P.readableRec t && decide (t<P.types.size)
theorem Z2G (hl:laidOutB P=true) {W W':World} (hb:Below W.heap.size W W') {sp:Nat→Bool}:∀ {ts:List TypeId} {vs:List Value} {ds:List (DataW H)} {ps:List MemPlace},Z9p P ts=true→
 DataW.TrodAll enc P W 0 (fun _=>true) true ts vs ds ps→(∀ x∈ps,x.block<W.heap.size)→(∀ x∈ps,sp x.block=true)→DataW.TrodAll enc P W' 0 sp true ts vs ds ps
 | [],[],[],_,_,h,_,_=>h
 | t :: ts, v :: vs, d :: ds, ps, hr, h, hlt, hs => by
   obtain ⟨p,q,h1,h2,rfl⟩:=h
   simp only [Z9p,Yai,Xf,decide_eq_true_eq] at hr
   obtain ⟨⟨r1,r2⟩,r3⟩:=hr
   exact ⟨p,q,WideElems.Trod_stays hl r1 r2 h1 (fun x hx=>hb.same (hlt x (by simp [hx]))) (fun x hx=>hs x (by simp [hx])),Z2G hl hb (by simpa [Z9p] using r3) h2 (fun x hx=>hlt x (by simp [hx])) (fun x hx=>hs x (by simp [hx])),rfl⟩
 | [],_ :: _,_,_,_,h,_,_=>h.elim
 | [],[],_ :: _,_,_,h,_,_=>h.elim
 | _ :: _,[],_,_,_,h,_,_=>h.elim
 | _ :: _,_ :: _,[],_,_,h,_,_=>h.elim
section
variable {f:Func} {s:ChangeSpec} {apart fresh handsOn again:Bool} {W W':World} {args:Array Value} {v:Value} {ds gs:List (DataW H)} {before pa pv:List MemPlace}
theorem Z5A
 (hW:DataW.Whole enc P f.params.toList s.vars apart W args.toList ds gs before)
 (hres:∀ (b:Nat) (sp:Nat→Bool) (hd:Bool),DataW.TrodAll enc P W' b sp hd f.resultTypes.toList (v.resultList f.resultTypes.size) (s.fn H (ds++gs)).results [])
 (hargs:∀ sp:Nat→Bool,(∀ p∈before,sp p.block=true)→DataW.TrodAll enc P W' 0 sp true f.params.toList args.toList (s.fn H (ds++gs)).args pa)
 (hvars:∀ sp:Nat→Bool,(∀ p∈before,sp p.block=true)→DataW.TrodVars enc P W' sp s.vars (s.fn H (ds++gs)).vars pv)
 (hps:before=pa++pv) (hb:Below W.heap.size W W')
 (hok:∀ (j:Nat) (t:TypeId) (r:Value),f.resultTypes[j]?=some t→(v.resultList f.resultTypes.size)[j]?=some r→Value.okWide P W' .any 0 t r) :
 s.post enc P f apart fresh handsOn again W args v W':=by
 have hlt:∀ p∈before,p.block<W.heap.size:=fun p hp=>hW.lt p hp
 have hold:∀ p∈before,(fun b=>decide (b<W.heap.size)) p.block=true:=fun p hp=>by simpa using hlt p hp
 refine ⟨ds,gs,before,[],pa,pv,hW,hres _ _ _,hargs _ hold,hvars _ hold,World.keptBut_mono (fun p hp=>⟨hp,?_⟩) (hb.frame (·∈before)),fun _=>?_⟩
 rw [hps,Xt] at hp
 exact Or.inr hp
 obtain ⟨_,_,_,_,_,hz,hn⟩:=hW
 refine ⟨hok,_,_,([]++pa)++pv,⟨[]++pa,pv,trodAll_append (hargs _ (fun _ _=>rfl)) (hres _ _ _),hvars _ (fun _ _=>rfl),rfl,?_,?_⟩,?_⟩
 intro b off hp
 have hin:MemPlace.cell b off∈before:=by rw [hps];simpa using hp
 rw [hb.frozen (hlt _ hin)]
 exact hz b off hin
 intro ha
 have:=hn ha
 rw [hps] at this
 simpa using this
 intro p hp _
 rw [hps]
 simpa using hp
end
def Zdl (s:ChangeSpec) (k:Nat):Prop:=s.vars=[]∧∀ (H:Type) (ds:List (DataW H)),ds.length=k→(s.fn H ds).results=[.lit (.bool true)]∧(s.fn H ds).args=ds∧(s.fn H ds).vars=[]
theorem Z4g {W:World} {base:Nat} {sp:Nat→Bool} {hd:Bool}:∀ {ts:List TypeId} {vs:List Value} {ds:List (DataW H)} {ps:List MemPlace},DataW.TrodAll enc P W base sp hd ts vs ds ps→ds.length=ts.length
 | [],[],[],_,_=>rfl
 | t :: ts, v :: vs, d :: ds, ps, h => by
   obtain ⟨p,q,h1,h2,rfl⟩:=h
   simp [Z4g h2]
 | [],_ :: _,_,_,h=>h.elim
 | [],[],_ :: _,_,h=>h.elim
 | _ :: _,[],_,_,h=>h.elim
 | _ :: _,_ :: _,[],_,h=>h.elim
theorem Zjv {fn:Func} {K tb:Nat} {s:ChangeSpec} {fresh handsOn again:Bool} {W:World} {args:Array Value} {ds gs:List (DataW H)} {before:List MemPlace} (hl:laidOutB P=true) (hr:Z9p P fn.params.toList=true)
 (hres:fn.resultTypes=#[tb]) (hb:P.underlying tb=some .bool) (hs:Zdl s fn.params.size)
 (hW:DataW.Whole enc P fn.params.toList s.vars false W args.toList ds gs before) (hc:Calls P K args W (Ret fun r w'=>r=.bool true∧Stp [] W w')) :
 Calls P K args W fun e W'=>∃ v,e=.returned v∧s.post enc P fn false fresh handsOn again W args v W':=by
 refine hc.mono ?_
 rintro _ w' ⟨_,rfl,rfl,hS⟩
 refine ⟨_,rfl,?_⟩
 have hW':=hW
 obtain ⟨p,q,hA,hV,hpq,hfz,hnd⟩:=hW
 rw [hs.1] at hV
 obtain ⟨rfl,rfl⟩:=trodVars_none hV
 have hlen:(ds++[]).length=fn.params.size:=by simpa using Z4g hA
 obtain ⟨s1,s2,s3⟩:=hs.2 H (ds++[]) hlen
 have hlt:∀ x∈before,x.block<W.heap.size:=fun x hx=>hW'.lt x hx
 refine Z5A (pa:=p) (pv:=[]) hW' (fun b sp hd=>?_) (fun sp hsp=>?_) (fun sp _=>?_) hpq hS.below ?_
 rw [s1,hres]
 exact trodAll_mk1 ⟨1,by simp [DataW.trod,Value.cells,hb]⟩
 rw [s2]
 simp only [XL] at hpq ⊢
 subst hpq
 exact Z2G hl hS.below hr hA hlt hsp
 rw [s3,hs.1]
 rfl
 exact ok_one hres rfl (by simp [Value.okWide,hb,Cell.okWide,Cell.ok])
end
section
variable {H:Type} {enc:TypeId×Value→H}
theorem Zbw {a:Assume} {C:Checked} {os:Os} {f:FuncId} {fn:Func} {s:ChangeSpec} {conds:List PathCond} {apart fresh handsOn again:Bool} {X:World→Array Value→Prop}
 (hX:∀ (w w':World) (args:Array Value),w.heap=w'.heap→X w args→X w' args)
 (own:ownKnob C.prog.godebug=none) (started:os.Started) (noInit:C.prog.inits.idxOf? f=none) (hfn:C.prog.funcs[f]?=some fn)
 (witness : ∃ (w : World) (tape : Tape) (i : Input), w.os = os ∧ (w.forCall tape i).Shaped C.prog ∧ i.vars = [] ∧ Input.okWide C.prog (w.forCall tape i) .any w.heap.size f i∧
   ((s.pre enc C.prog fn conds apart (w.forCall tape i).memory i.args∧X (w.forCall tape i).memory i.args)∧sizedMet enc C.prog fn (OpenSpec.ofChange s) apart (w.forCall tape i).memory i.args)∧a.holds C.prog (lone (Frame.enter C.prog f i.args .normal) [] (w.forCall tape i)))
 (contract : ∀ (W : World) (base : Nat) (args : Array Value) (ds gs : List (DataW H)) (before : List MemPlace),
   (∀ (j:Nat) t v,fn.params[j]?=some t→args[j]?=some v→Value.okWide C.prog W .any base t v)→
   DataW.Whole enc C.prog fn.params.toList s.vars apart W args.toList ds gs before→
   (DataW.weightsEach C.prog (fn.params.toList++s.plain.varTypes C.prog) (ds++gs)).all (·≤reachBytes)=true→X W args→W.ShapedOpen C.prog→
   Calls C.prog f args W fun e W'=>∃ v,e=.returned v∧s.post enc C.prog fn apart fresh handsOn again W args v W') :
 ReturnsInHanded a C os f .any (fun w args=>(s.pre enc C.prog fn conds apart w args∧X w args)∧sizedMet enc C.prog fn (OpenSpec.ofChange s) apart w args) (s.post enc C.prog fn apart fresh handsOn again):=by
 refine returnsInHanded_of_calls own started noInit witness ?_
 intro w tape i _ hsh _ hok hpre hholds
 obtain ⟨_,_,_,fn',hfn',_,_,_,_,hval⟩:=hok
 have e:fn'=fn:=XJ (hfn'.symm.trans hfn)
 subst e
 obtain ⟨⟨⟨ds,gs,before,hw,hc⟩,hx⟩,hz⟩:=hpre
 have hw':=DataW.Whole.of_heap (w':=w.forCall tape i) (by rfl) hw
 refine (contract (w.forCall tape i) w.heap.size i.args ds gs before hval hw' (hz.weights hw) (hX _ _ _ (by rfl) hx) hsh).mono fun e W' ⟨v,he,hp⟩=>?_
 subst he
 exact ChangeSpec.post_blind hp
end
instance:Z5 UInt8 where
 k:=1
 enc:=fun b=>[.int .u8 (b.toNat:Int)]
 len:=fun _=>rfl
 one:=by intro x u hu;simp at hu;subst hu;rfl
section
variable {P:Program} {n:Nat} {e:Env} {w:World} {d:Option Nat} {ty:TypeId} {pos:String} {af:Array Edge} {g:Option (Nat×Bool)}
theorem Zbx {src dst el:TypeId} {x:Operand} {s:Str} [hs:Und P src .string] [hd:Und P dst (.slice el)] [he:Und P el (.int .u8)] (hx:ev e x=some (str s)) (hl:s.length≤1000000) :
 OE P n ⟨d,.convert src dst x,ty,pos,af,g⟩ e w (fun v w'=>(∀ X:List Nat,(∀ b∈X,b<w.heap.size)→SlV X w' v s)∧Stp [] w w'):=by
 refine Jj (v:=.slice (some ⟨w.heap.size,0,none⟩) s.length (grownCap w s.length 0 el)) (w':=Go.Lib.bytesWorld w el ⟨s.toArray⟩) (fun a ha=>?_) ⟨fun X hX=>?_,?_⟩
 have h:=Go.Lib.run_convert_string_bytes (P:=P) w src dst el ⟨s.toArray⟩ hs.h hd.h he.h
 simp only [Jw] at h
 simp [execOp,ha.ev hx,h]
 refine ⟨some ⟨w.heap.size,0,none⟩,_,rfl,grownCap_ge w _ _ _,grownCap_le_maxLen w _ _ _ (by simp [maxLen];omega),(fun h=>by cases h),fun i hi=>⟨w.heap.size,0,Z5.enc s[i],rfl,?_,fun h=>by have:=hX _ h;omega,rfl,fun j u hu=>?_⟩⟩
 rw [Go.Lib.bytesWorld_size];omega
 have hj:j=0:=by
  have:=(List.getElem?_eq_some_iff.1 hu).1
  simp [Z5.enc] at this
  exact this
 subst hj
 have hc:=Go.Lib.bytesWorld_cell w el ⟨s.toArray⟩ i (by rw [Jw];exact hi)
 simp only [Z5.enc,List.getElem?_cons_zero,Xc] at hu
 subst hu
 have e1:(0+i * Z4.k UInt8+0)=i:=by show 0+i * 1+0=i;omega
 rw [e1,hc]
 simp [List.getD,hi]
 refine ⟨rfl,rfl,rfl,?_,fun b hb _=>Go.Lib.bytesWorld_at_old w el _ b hb⟩
 rw [Go.Lib.bytesWorld_size];omega
end
end Go.Eng
namespace Go.Proofs
open Go.Shelf
def Tryz.lays119_ren:Go.Shelf.Ren:=⟨fun|119=>300|n=>n,fun|21=>21|4=>4|n=>n,fun|n=>n⟩
theorem Tryz.lays119:Go.Proofs.Lays.n119 Tryz.prog Tryz.lays119_ren:={
 mixed:=by kernel_rfl
 f119:=Tryz.func300.trans (congrArg some (by kernel_rfl))
 t4:=Tryz.underlying4
 a4:=Tryz.isAgg4
 z4:=Tryz.sizeOf4
 v4:=Tryz.zeroValue4
 t21:=Tryz.underlying21
 a21:=Tryz.isAgg21
 z21:=Tryz.sizeOf21
 v21:=Tryz.zeroValue21 }
theorem Tryz.utf8_ValidRune (r:Int) (w:World) :
 Calls Tryz.prog 300 #[.int .i32 r] w fun e w'=>e=.returned (.bool (Lib.validRune r))∧w'=w:=Any.utf8_ValidRune Tryz.lays119 r w
def Tryz.lays137_ren:Go.Shelf.Ren:=⟨fun|137=>268|217=>299|266=>319|n=>n,fun|9=>9|5=>5|3=>3|n=>n,fun|n=>n⟩
theorem Tryz.lays137:Go.Proofs.Lays.n137 Tryz.prog Tryz.lays137_ren:={
 mixed:=by kernel_rfl
 f137:=Tryz.func268.trans (congrArg some (by kernel_rfl))
 f217:=Tryz.func299.trans (congrArg some (by kernel_rfl))
 f266:=Tryz.func319.trans (congrArg some (by kernel_rfl))
 t3:=Tryz.underlying3
 a3:=Tryz.isAgg3
 z3:=Tryz.sizeOf3
 v3:=Tryz.zeroValue3
 t5:=Tryz.underlying5
 a5:=Tryz.isAgg5
 z5:=Tryz.sizeOf5
 v5:=Tryz.zeroValue5
 t9:=Tryz.underlying9
 a9:=Tryz.isAgg9
 z9:=Tryz.sizeOf9
 v9:=Tryz.zeroValue9 }
open Go.RowKit in
theorem Tryz.strings_IndexByte (s:ByteArray) (c:Int) (w:World) :
 Calls Tryz.prog 268 #[.string s,.int .u8 c] w fun e w'=>e=.returned (.int .i64 (Lib.indexByte s.data.toList c.toNat.toUInt8))∧w'=w:=Any.strings_IndexByte Tryz.lays137 s c w
def Tryz.lays172_ren:Go.Shelf.Ren:=⟨fun|172=>271|244=>303|245=>304|247=>320|279=>321|280=>322|281=>323|282=>324|287=>334|316=>335|171=>337|205=>336|321=>351|322=>352|243=>353|246=>358|283=>361|284=>362|285=>363|286=>364|129=>250|317=>366|318=>367|319=>368|320=>369|337=>370|338=>371|n=>n,fun|9=>9|3=>3|75=>303|76=>304|4=>4|5=>5|167=>332|37=>238|0=>0|85=>333|2=>2|168=>335|53=>289|175=>350|46=>230|210=>354|127=>359|145=>362|143=>360|21=>21|171=>366|173=>368|212=>370|51=>287|20=>20|213=>371|232=>372|233=>373|80=>232|n=>n,fun|15=>4|16=>5|17=>6|18=>7|19=>8|n=>n⟩
def Tryz.laysC172_ren:Go.Shelf.Ren:=⟨fun|172=>271|244=>303|245=>304|247=>320|279=>321|280=>322|281=>323|282=>324|287=>334|316=>335|171=>337|205=>336|321=>351|322=>352|243=>353|246=>358|283=>361|284=>362|285=>363|286=>364|129=>250|317=>366|318=>367|319=>368|320=>369|337=>370|338=>371|n=>n,fun|9=>9|3=>3|75=>303|76=>304|4=>4|5=>5|167=>332|37=>238|0=>0|85=>333|2=>2|168=>335|53=>289|175=>350|46=>230|210=>354|127=>359|145=>362|143=>360|21=>21|171=>366|173=>368|212=>370|51=>287|20=>20|213=>371|232=>372|233=>373|80=>232|n=>n,fun|15=>4|16=>5|17=>6|18=>7|19=>8|n=>n⟩
theorem Tryz.laysC172:Go.Proofs.LaysC.n172 Tryz.prog Tryz.laysC172_ren:={
 mixed:=by kernel_rfl
 f129:=Tryz.func250.trans (congrArg some (by kernel_rfl))
 f171:=Tryz.func337.trans (congrArg some (by kernel_rfl))
 f172:=Tryz.func271.trans (congrArg some (by kernel_rfl))
 f205:=Tryz.func336.trans (congrArg some (by kernel_rfl))
 f243:=Tryz.func353.trans (congrArg some (by kernel_rfl))
 f244:=Tryz.func303.trans (congrArg some (by kernel_rfl))
 f245:=Tryz.func304.trans (congrArg some (by kernel_rfl))
 f246:=Tryz.func358.trans (congrArg some (by kernel_rfl))
 f247:=Tryz.func320.trans (congrArg some (by kernel_rfl))
 f279:=Tryz.func321.trans (congrArg some (by kernel_rfl))
 f280:=Tryz.func322.trans (congrArg some (by kernel_rfl))
 f281:=Tryz.func323.trans (congrArg some (by kernel_rfl))
 f282:=Tryz.func324.trans (congrArg some (by kernel_rfl))
 f283:=Tryz.func361.trans (congrArg some (by kernel_rfl))
 f284:=Tryz.func362.trans (congrArg some (by kernel_rfl))
 f285:=Tryz.func363.trans (congrArg some (by kernel_rfl))
 f286:=Tryz.func364.trans (congrArg some (by kernel_rfl))
 f287:=Tryz.func334.trans (congrArg some (by kernel_rfl))
 f316:=Tryz.func335.trans (congrArg some (by kernel_rfl))
 f317:=Tryz.func366.trans (congrArg some (by kernel_rfl))
 f318:=Tryz.func367.trans (congrArg some (by kernel_rfl))
 f319:=Tryz.func368.trans (congrArg some (by kernel_rfl))
 f320:=Tryz.func369.trans (congrArg some (by kernel_rfl))
 f321:=Tryz.func351.trans (congrArg some (by kernel_rfl))
 f322:=Tryz.func352.trans (congrArg some (by kernel_rfl))
 f337:=Tryz.func370.trans (congrArg some (by kernel_rfl))
 f338:=Tryz.func371.trans (congrArg some (by kernel_rfl))
 t0:=Tryz.underlying0
 a0:=Tryz.isAgg0
 z0:=Tryz.sizeOf0
 v0:=Tryz.zeroValue0
 t2:=Tryz.underlying2
 a2:=Tryz.isAgg2
 z2:=Tryz.sizeOf2
 v2:=Tryz.zeroValue2
 t3:=Tryz.underlying3
 a3:=Tryz.isAgg3
 z3:=Tryz.sizeOf3
 v3:=Tryz.zeroValue3
 t4:=Tryz.underlying4
 a4:=Tryz.isAgg4
 z4:=Tryz.sizeOf4
 v4:=Tryz.zeroValue4
 t5:=Tryz.underlying5
 a5:=Tryz.isAgg5
 z5:=Tryz.sizeOf5
 v5:=Tryz.zeroValue5
 t9:=Tryz.underlying9
 a9:=Tryz.isAgg9
 z9:=Tryz.sizeOf9
 v9:=Tryz.zeroValue9
 t20:=Tryz.underlying20
 a20:=Tryz.isAgg20
 z20:=Tryz.sizeOf20
 v20:=Tryz.zeroValue20
 t21:=Tryz.underlying21
 a21:=Tryz.isAgg21
 z21:=Tryz.sizeOf21
 v21:=Tryz.zeroValue21
 t37:=Tryz.underlying238
 a37:=Tryz.isAgg238
 z37:=Tryz.sizeOf238
 v37:=Tryz.zeroValue238
 t46:=Tryz.underlying230
 a46:=Tryz.isAgg230
 z46:=Tryz.sizeOf230
 v46:=Tryz.zeroValue230
 t51:=Tryz.underlying287
 a51:=Tryz.isAgg287
 z51:=Tryz.sizeOf287
 v51:=Tryz.zeroValue287
 t53:=Tryz.underlying289
 a53:=Tryz.isAgg289
 z53:=Tryz.sizeOf289
 v53:=Tryz.zeroValue289
 t75:=Tryz.underlying303
 a75:=Tryz.isAgg303
 z75:=Tryz.sizeOf303
 v75:=Tryz.zeroValue303
 t76:=Tryz.underlying304
 a76:=Tryz.isAgg304
 z76:=Tryz.sizeOf304
 v76:=Tryz.zeroValue304
 t85:=Tryz.underlying333
 a85:=Tryz.isAgg333
 z85:=Tryz.sizeOf333
 v85:=Tryz.zeroValue333
 t127:=Tryz.underlying359
 a127:=Tryz.isAgg359
 z127:=Tryz.sizeOf359
 v127:=Tryz.zeroValue359
 t143:=Tryz.underlying360
 a143:=Tryz.isAgg360
 z143:=Tryz.sizeOf360
 v143:=Tryz.zeroValue360
 t145:=Tryz.underlying362
 a145:=Tryz.isAgg362
 z145:=Tryz.sizeOf362
 v145:=Tryz.zeroValue362
 t167:=Tryz.underlying332
 a167:=Tryz.isAgg332
 z167:=Tryz.sizeOf332
 v167:=Tryz.zeroValue332
 t168:=Tryz.underlying335
 a168:=Tryz.isAgg335
 z168:=Tryz.sizeOf335
 v168:=Tryz.zeroValue335
 t171:=Tryz.underlying366
 a171:=Tryz.isAgg366
 z171:=Tryz.sizeOf366
 v171:=Tryz.zeroValue366
 t173:=Tryz.underlying368
 a173:=Tryz.isAgg368
 z173:=Tryz.sizeOf368
 v173:=Tryz.zeroValue368
 t175:=Tryz.underlying350
 a175:=Tryz.isAgg350
 z175:=Tryz.sizeOf350
 v175:=Tryz.zeroValue350
 t210:=Tryz.underlying354
 a210:=Tryz.isAgg354
 z210:=Tryz.sizeOf354
 v210:=Tryz.zeroValue354
 t212:=Tryz.underlying370
 a212:=Tryz.isAgg370
 z212:=Tryz.sizeOf370
 v212:=Tryz.zeroValue370
 t213:=Tryz.underlying371
 a213:=Tryz.isAgg371
 z213:=Tryz.sizeOf371
 t232:=Tryz.underlying372
 a232:=Tryz.isAgg372
 z232:=Tryz.sizeOf372
 v232:=Tryz.zeroValue372
 t233:=Tryz.underlying373
 a233:=Tryz.isAgg373
 z233:=Tryz.sizeOf373
 v233:=Tryz.zeroValue373
 g15:=by kernel_rfl
 g16:=by kernel_rfl
 g17:=by kernel_rfl
 g18:=by kernel_rfl
 g19:=by kernel_rfl
 t80:=Tryz.underlying232
 a80:=Tryz.isAgg232
 z80:=Tryz.sizeOf232
 v80:=Tryz.zeroValue232
 i0:=by kernel_rfl
 i2:=by kernel_rfl
 i3:=by kernel_rfl
 i4:=by kernel_rfl
 i5:=by kernel_rfl
 i9:=by kernel_rfl
 i20:=by kernel_rfl
 i21:=by kernel_rfl
 i37:=by kernel_rfl
 i46:=by kernel_rfl
 i51:=by kernel_rfl
 i53:=by kernel_rfl
 i75:=by kernel_rfl
 i76:=by kernel_rfl
 i80:=by kernel_rfl
 i85:=by kernel_rfl
 i127:=by kernel_rfl
 i143:=by kernel_rfl
 i145:=by kernel_rfl
 i167:=by kernel_rfl
 i168:=by kernel_rfl
 i171:=by kernel_rfl
 i173:=by kernel_rfl
 i175:=by kernel_rfl
 i210:=by kernel_rfl
 i212:=by kernel_rfl
 i232:=by kernel_rfl
 i233:=by kernel_rfl
 m15:=by kernel_rfl
 m16:=by kernel_rfl
 m17:=by kernel_rfl
 m18:=by kernel_rfl
 m19:=by kernel_rfl
 c0:=by kernel_rfl
 c2:=by kernel_rfl
 c3:=by kernel_rfl
 c4:=by kernel_rfl
 c5:=by kernel_rfl
 c9:=by kernel_rfl
 c20:=by kernel_rfl
 c21:=by kernel_rfl
 c37:=by kernel_rfl
 c46:=by kernel_rfl
 c51:=by kernel_rfl
 c53:=by kernel_rfl
 c75:=by kernel_rfl
 c76:=by kernel_rfl
 c80:=by kernel_rfl
 c85:=by kernel_rfl
 c127:=by kernel_rfl
 c143:=by kernel_rfl
 c145:=by kernel_rfl
 c167:=by kernel_rfl
 c168:=by kernel_rfl
 c171:=by kernel_rfl
 c173:=by kernel_rfl
 c175:=by kernel_rfl
 c210:=by kernel_rfl
 c212:=by kernel_rfl
 c213:=by kernel_rfl
 c232:=by kernel_rfl
 c233:=by kernel_rfl }
open Go.RowKit in
theorem Tryz.strconv_Atoi_ok (s:ByteArray) (hmax:s.size≤9223372036854775806) (v:Int) (h:Lib.atoiAll s.data.toList=.ok v) (w:World) :
 Calls Tryz.prog 271 #[.string s] w fun e w'=>e=.returned (.tuple #[.int .i64 v,.nilIface])∧(w'=w∨∃ t,w'=Lib.bytesWorld w 5 t):=Any.strconv_Atoi_ok Tryz.laysC172 s hmax v h w
open Go.RowKit in
theorem Tryz.strconv_Atoi_range (s:ByteArray) (hlim:s.size≤281474976710656) (h:Lib.atoiAll s.data.toList=.range) (ev:Value) (w:World) (hv:w.cell? ⟨5,0,none⟩=some ev) (hev:ev=.nilIface∨∃ te pe,ev=.iface te pe) :
 Calls Tryz.prog 271 #[.string s] w fun e w'=>∃ N,e=.returned (.tuple #[.int .i64 (Lib.atoiSat s.data.toList),.iface 335 (.pointer (some ⟨N,0,none⟩))])∧w.heap.size≤N∧w'.heap[N]?=some (.cells #[.string ⟨#[65,116,111,105]⟩,.string s,ev] 354 (0,0))∧Below w.heap.size w w':=Any.strconv_Atoi_range Tryz.laysC172 s hlim h ev w hv hev
def Tryz.lays219_ren:Go.Shelf.Ren:=⟨fun|219=>295|217=>299|225=>302|224=>301|267=>315|266=>319|314=>332|n=>n,fun|9=>9|3=>3|4=>4|5=>5|46=>230|146=>348|51=>287|n=>n,fun|1=>2|n=>n⟩
def Tryz.lays144_ren:Go.Shelf.Ren:=⟨fun|144=>176|143=>259|219=>295|217=>299|225=>302|224=>301|267=>315|266=>319|314=>332|n=>n,fun|9=>9|4=>4|3=>3|5=>5|46=>230|146=>348|51=>287|n=>n,fun|1=>2|n=>n⟩
theorem Tryz.lays144:Go.Proofs.Lays.n144 Tryz.prog Tryz.lays144_ren:={
 mixed:=by kernel_rfl
 f143:=Tryz.func259.trans (congrArg some (by kernel_rfl))
 f144:=Tryz.func176.trans (congrArg some (by kernel_rfl))
 f217:=Tryz.func299.trans (congrArg some (by kernel_rfl))
 f219:=Tryz.func295.trans (congrArg some (by kernel_rfl))
 f224:=Tryz.func301.trans (congrArg some (by kernel_rfl))
 f225:=Tryz.func302.trans (congrArg some (by kernel_rfl))
 f266:=Tryz.func319.trans (congrArg some (by kernel_rfl))
 f267:=Tryz.func315.trans (congrArg some (by kernel_rfl))
 f314:=Tryz.func332.trans (congrArg some (by kernel_rfl))
 t3:=Tryz.underlying3
 a3:=Tryz.isAgg3
 z3:=Tryz.sizeOf3
 v3:=Tryz.zeroValue3
 t4:=Tryz.underlying4
 a4:=Tryz.isAgg4
 z4:=Tryz.sizeOf4
 v4:=Tryz.zeroValue4
 t5:=Tryz.underlying5
 a5:=Tryz.isAgg5
 z5:=Tryz.sizeOf5
 v5:=Tryz.zeroValue5
 t9:=Tryz.underlying9
 a9:=Tryz.isAgg9
 z9:=Tryz.sizeOf9
 v9:=Tryz.zeroValue9
 t46:=Tryz.underlying230
 a46:=Tryz.isAgg230
 z46:=Tryz.sizeOf230
 v46:=Tryz.zeroValue230
 t51:=Tryz.underlying287
 a51:=Tryz.isAgg287
 z51:=Tryz.sizeOf287
 v51:=Tryz.zeroValue287
 t146:=Tryz.underlying348
 a146:=Tryz.isAgg348
 z146:=Tryz.sizeOf348
 v146:=Tryz.zeroValue348
 g1:=by kernel_rfl }
open Go.RowKit Go.Lib in
theorem Tryz.strings_Contains (s sub:ByteArray) (m:Int) (w:World) (hs:s.size<4294967281) (hm:w.cell? ⟨2,0,none⟩=some (.int .i64 m)) :
 Calls Tryz.prog 176 #[.string s,.string sub] w fun e w'=>e=.returned (.bool (Lib.contains s.data.toList sub.data.toList))∧w'=w:=Any.strings_Contains Tryz.lays144 s sub m w hs hm
def Tryz.laysM144_ren:Go.Shelf.Ren:=⟨fun|144=>176|143=>259|219=>295|217=>299|225=>302|224=>301|267=>315|266=>319|314=>332|n=>n,fun|9=>9|4=>4|3=>3|5=>5|46=>230|146=>348|51=>287|n=>n,fun|1=>2|n=>n⟩
theorem Tryz.laysM144:Go.Proofs.LaysM.n144 Tryz.prog Tryz.laysM144_ren:={
 mixed:=by kernel_rfl
 f143:=Tryz.func259.trans (congrArg some (by kernel_rfl))
 f144:=Tryz.func176.trans (congrArg some (by kernel_rfl))
 f217:=Tryz.func299.trans (congrArg some (by kernel_rfl))
 f219:=Tryz.func295.trans (congrArg some (by kernel_rfl))
 f224:=Tryz.func301.trans (congrArg some (by kernel_rfl))
 f225:=Tryz.func302.trans (congrArg some (by kernel_rfl))
 f266:=Tryz.func319.trans (congrArg some (by kernel_rfl))
 f267:=Tryz.func315.trans (congrArg some (by kernel_rfl))
 f314:=Tryz.func332.trans (congrArg some (by kernel_rfl))
 t3:=Tryz.underlying3
 a3:=Tryz.isAgg3
 z3:=Tryz.sizeOf3
 v3:=Tryz.zeroValue3
 t4:=Tryz.underlying4
 a4:=Tryz.isAgg4
 z4:=Tryz.sizeOf4
 v4:=Tryz.zeroValue4
 t5:=Tryz.underlying5
 a5:=Tryz.isAgg5
 z5:=Tryz.sizeOf5
 v5:=Tryz.zeroValue5
 t9:=Tryz.underlying9
 a9:=Tryz.isAgg9
 z9:=Tryz.sizeOf9
 v9:=Tryz.zeroValue9
 t46:=Tryz.underlying230
 a46:=Tryz.isAgg230
 z46:=Tryz.sizeOf230
 v46:=Tryz.zeroValue230
 t51:=Tryz.underlying287
 a51:=Tryz.isAgg287
 z51:=Tryz.sizeOf287
 v51:=Tryz.zeroValue287
 t146:=Tryz.underlying348
 a146:=Tryz.isAgg348
 z146:=Tryz.sizeOf348
 v146:=Tryz.zeroValue348
 g1:=by kernel_rfl
 i3:=by kernel_rfl
 i4:=by kernel_rfl
 i5:=by kernel_rfl
 i9:=by kernel_rfl
 i46:=by kernel_rfl
 i51:=by kernel_rfl
 i146:=by kernel_rfl
 m1:=by kernel_rfl
 s1_3:=fun w h=>Go.Proofs.cell_of_shapedOpen_int (zero:=#[.int .i64 0]) (t:=3) h (of_decide_eq_true (by kernel_rfl)) (by kernel_rfl) rfl (by kernel_rfl) (by kernel_rfl) Tryz.underlying3 }
def Tryz.lays189_ren:Go.Shelf.Ren:=⟨fun|189=>82|125=>163|257=>162|128=>249|129=>250|294=>240|295=>241|296=>242|297=>243|298=>244|299=>245|216=>246|300=>247|301=>248|328=>287|329=>288|330=>289|331=>290|332=>291|215=>217|343=>313|n=>n,fun|28=>22|3=>3|46=>230|0=>0|51=>287|53=>289|4=>4|183=>281|182=>280|131=>73|5=>5|9=>9|218=>314|222=>318|228=>330|229=>214|n=>n,fun|n=>n⟩
theorem Tryz.lays189:Go.Proofs.Lays.n189 Tryz.prog Tryz.lays189_ren:={
 mixed:=by kernel_rfl
 f125:=Tryz.func163.trans (congrArg some (by kernel_rfl))
 f128:=Tryz.func249.trans (congrArg some (by kernel_rfl))
 f129:=Tryz.func250.trans (congrArg some (by kernel_rfl))
 f189:=Tryz.func82.trans (congrArg some (by kernel_rfl))
 f215:=Tryz.func217.trans (congrArg some (by kernel_rfl))
 f216:=Tryz.func246.trans (congrArg some (by kernel_rfl))
 f257:=Tryz.func162.trans (congrArg some (by kernel_rfl))
 f294:=Tryz.func240.trans (congrArg some (by kernel_rfl))
 f295:=Tryz.func241.trans (congrArg some (by kernel_rfl))
 f296:=Tryz.func242.trans (congrArg some (by kernel_rfl))
 f297:=Tryz.func243.trans (congrArg some (by kernel_rfl))
 f298:=Tryz.func244.trans (congrArg some (by kernel_rfl))
 f299:=Tryz.func245.trans (congrArg some (by kernel_rfl))
 f300:=Tryz.func247.trans (congrArg some (by kernel_rfl))
 f301:=Tryz.func248.trans (congrArg some (by kernel_rfl))
 f328:=Tryz.func287.trans (congrArg some (by kernel_rfl))
 f329:=Tryz.func288.trans (congrArg some (by kernel_rfl))
 f330:=Tryz.func289.trans (congrArg some (by kernel_rfl))
 f331:=Tryz.func290.trans (congrArg some (by kernel_rfl))
 f332:=Tryz.func291.trans (congrArg some (by kernel_rfl))
 f343:=Tryz.func313.trans (congrArg some (by kernel_rfl))
 t0:=Tryz.underlying0
 a0:=Tryz.isAgg0
 z0:=Tryz.sizeOf0
 v0:=Tryz.zeroValue0
 t3:=Tryz.underlying3
 a3:=Tryz.isAgg3
 z3:=Tryz.sizeOf3
 v3:=Tryz.zeroValue3
 t4:=Tryz.underlying4
 a4:=Tryz.isAgg4
 z4:=Tryz.sizeOf4
 v4:=Tryz.zeroValue4
 t5:=Tryz.underlying5
 a5:=Tryz.isAgg5
 z5:=Tryz.sizeOf5
 v5:=Tryz.zeroValue5
 t9:=Tryz.underlying9
 a9:=Tryz.isAgg9
 z9:=Tryz.sizeOf9
 v9:=Tryz.zeroValue9
 t28:=Tryz.underlying22
 a28:=Tryz.isAgg22
 z28:=Tryz.sizeOf22
 v28:=Tryz.zeroValue22
 t46:=Tryz.underlying230
 a46:=Tryz.isAgg230
 z46:=Tryz.sizeOf230
 v46:=Tryz.zeroValue230
 t51:=Tryz.underlying287
 a51:=Tryz.isAgg287
 z51:=Tryz.sizeOf287
 v51:=Tryz.zeroValue287
 t53:=Tryz.underlying289
 a53:=Tryz.isAgg289
 z53:=Tryz.sizeOf289
 v53:=Tryz.zeroValue289
 t131:=Tryz.underlying73
 a131:=Tryz.isAgg73
 z131:=Tryz.sizeOf73
 v131:=Tryz.zeroValue73
 t182:=Tryz.underlying280
 a182:=Tryz.isAgg280
 z182:=Tryz.sizeOf280
 v182:=Tryz.zeroValue280
 t183:=Tryz.underlying281
 a183:=Tryz.isAgg281
 z183:=Tryz.sizeOf281
 v183:=Tryz.zeroValue281
 t218:=Tryz.underlying314
 a218:=Tryz.isAgg314
 z218:=Tryz.sizeOf314
 v218:=Tryz.zeroValue314
 t222:=Tryz.underlying318
 a222:=Tryz.isAgg318
 z222:=Tryz.sizeOf318
 v222:=Tryz.zeroValue318
 t228:=Tryz.underlying330
 a228:=Tryz.isAgg330
 z228:=Tryz.sizeOf330
 v228:=Tryz.zeroValue330
 t229:=Tryz.underlying214
 a229:=Tryz.isAgg214
 z229:=Tryz.sizeOf214
 v229:=Tryz.zeroValue214 }
open Go.Sort Go.RowKit in
theorem Tryz.slices_Sort_int (blk off cap:Nat) (zs:List Int) (w:World) (hH:Holds (Value.int .i64) w blk off zs.toArray) (hblk:blk<w.heap.size) (hsz:zs.length<4611686018427387904) :
 Calls Tryz.prog 82 #[.slice (some ⟨blk,off,none⟩) zs.length cap] w fun e w'=>
  e=.returned (.tuple #[])∧∃ n os,w'=grow (putRow (Value.int .i64) (Sort.ahead w n) blk off (zs.mergeSort fun x y=>decide (x≤y)).toArray) os:=Any.slices_Sort_int Tryz.lays189 blk off cap zs w hH hblk hsz
def Tryz.lays206_ren:Go.Shelf.Ren:=⟨fun|206=>298|n=>n,fun|9=>9|4=>4|3=>3|n=>n,fun|n=>n⟩
def Tryz.lays99_ren:Go.Shelf.Ren:=⟨fun|99=>267|206=>298|n=>n,fun|9=>9|4=>4|3=>3|n=>n,fun|n=>n⟩
theorem Tryz.lays99:Go.Proofs.Lays.n99 Tryz.prog Tryz.lays99_ren:={
 mixed:=by kernel_rfl
 f99:=Tryz.func267.trans (congrArg some (by kernel_rfl))
 f206:=Tryz.func298.trans (congrArg some (by kernel_rfl))
 t3:=Tryz.underlying3
 a3:=Tryz.isAgg3
 z3:=Tryz.sizeOf3
 v3:=Tryz.zeroValue3
 t4:=Tryz.underlying4
 a4:=Tryz.isAgg4
 z4:=Tryz.sizeOf4
 v4:=Tryz.zeroValue4
 t9:=Tryz.underlying9
 a9:=Tryz.isAgg9
 z9:=Tryz.sizeOf9
 v9:=Tryz.zeroValue9 }
open Go.RowKit Go.Lib in
theorem Tryz.strings_HasPrefix (s p:ByteArray) (w:World) :
 Calls Tryz.prog 267 #[.string s,.string p] w fun e w'=>e=.returned (.bool (Lib.hasPrefix s.data.toList p.data.toList))∧w'=w:=Any.strings_HasPrefix Tryz.lays99 s p w
def Tryz.lays151_ren:Go.Shelf.Ren:=⟨fun|151=>204|152=>269|137=>268|119=>300|224=>301|225=>302|217=>299|266=>319|n=>n,fun|9=>9|21=>21|4=>4|3=>3|5=>5|0=>0|46=>230|n=>n,fun|n=>n⟩
theorem Tryz.lays151:Go.Proofs.Lays.n151 Tryz.prog Tryz.lays151_ren:={
 mixed:=by kernel_rfl
 f119:=Tryz.func300.trans (congrArg some (by kernel_rfl))
 f137:=Tryz.func268.trans (congrArg some (by kernel_rfl))
 f151:=Tryz.func204.trans (congrArg some (by kernel_rfl))
 f152:=Tryz.func269.trans (congrArg some (by kernel_rfl))
 f217:=Tryz.func299.trans (congrArg some (by kernel_rfl))
 f224:=Tryz.func301.trans (congrArg some (by kernel_rfl))
 f225:=Tryz.func302.trans (congrArg some (by kernel_rfl))
 f266:=Tryz.func319.trans (congrArg some (by kernel_rfl))
 t0:=Tryz.underlying0
 a0:=Tryz.isAgg0
 z0:=Tryz.sizeOf0
 v0:=Tryz.zeroValue0
 t3:=Tryz.underlying3
 a3:=Tryz.isAgg3
 z3:=Tryz.sizeOf3
 v3:=Tryz.zeroValue3
 t4:=Tryz.underlying4
 a4:=Tryz.isAgg4
 z4:=Tryz.sizeOf4
 v4:=Tryz.zeroValue4
 t5:=Tryz.underlying5
 a5:=Tryz.isAgg5
 z5:=Tryz.sizeOf5
 v5:=Tryz.zeroValue5
 t9:=Tryz.underlying9
 a9:=Tryz.isAgg9
 z9:=Tryz.sizeOf9
 v9:=Tryz.zeroValue9
 t21:=Tryz.underlying21
 a21:=Tryz.isAgg21
 z21:=Tryz.sizeOf21
 v21:=Tryz.zeroValue21
 t46:=Tryz.underlying230
 a46:=Tryz.isAgg230
 z46:=Tryz.sizeOf230
 v46:=Tryz.zeroValue230 }
open Go.RowKit Go.Lib in
theorem Tryz.strings_ContainsRune_ascii (s:ByteArray) (r:Int) (w:World) (h0:0≤r) (h1:r<128) :
 Calls Tryz.prog 204 #[.string s,.int .i32 r] w fun e w'=>e=.returned (.bool (decide (0≤Lib.indexByte s.data.toList r.toNat.toUInt8)))∧w'=w:=Any.strings_ContainsRune_ascii Tryz.lays151 s r w h0 h1
def Tryz.laysNm220_ren:Go.Shelf.Ren:=⟨fun|20=>83|n=>n,fun|22=>22|3=>3|4=>4|0=>0|n=>n,fun|n=>n⟩
theorem Tryz.laysNm220:Go.Proofs.Lays2.n20 Tryz.prog Tryz.laysNm220_ren:={
 mixed:=by kernel_rfl
 f20:=Tryz.func83.trans (congrArg some (by kernel_rfl))
 t0:=Tryz.underlying0
 a0:=Tryz.isAgg0
 z0:=Tryz.sizeOf0
 v0:=Tryz.zeroValue0
 t3:=Tryz.underlying3
 a3:=Tryz.isAgg3
 z3:=Tryz.sizeOf3
 v3:=Tryz.zeroValue3
 t4:=Tryz.underlying4
 a4:=Tryz.isAgg4
 z4:=Tryz.sizeOf4
 v4:=Tryz.zeroValue4
 t22:=Tryz.underlying22
 a22:=Tryz.isAgg22
 z22:=Tryz.sizeOf22
 v22:=Tryz.zeroValue22
 i3:=by kernel_rfl }
open Go.RowKit Go.Lib Go.Sort in
theorem Tryz.slices_Compact_int (blk off cap:Nat) (zs:List Int) (w:World) (hH:Holds (Value.int .i64) w blk off zs.toArray) (hsz:zs.length≤9223372036854775807) (hcap:zs.length≤cap) :
 Calls Tryz.prog 83 #[.slice (some ⟨blk,off,none⟩) zs.length cap] w fun e w'=>e=.returned (.slice (some ⟨blk,off,none⟩) (Lib.compact zs).length cap)∧∃ q,w'=putRow (Value.int .i64) (Sort.ahead w q) blk off (Lib.compact zs++List.replicate (zs.length - (Lib.compact zs).length) 0).toArray:=Any.slices_Compact_int Tryz.laysNm220 blk off cap zs w hH hsz hcap
open Go.RowKit Go.Lib Go.Sort in
theorem Tryz.slices_Compact_int_empty (a:Option Addr) (cap:Nat) (w:World) :
 Calls Tryz.prog 83 #[.slice a 0 cap] w fun e w'=>e=.returned (.slice a 0 cap)∧w'=w:=Any.slices_Compact_int_empty Tryz.laysNm220 a cap w
open Go.RowKit Go.Sort in
theorem Tryz.slices_Sort_int_none (p:Option Addr) (cap:Nat) (w:World) :
 Calls Tryz.prog 82 #[.slice p 0 cap] w fun e w'=>e=.returned (.tuple #[])∧w'=w:=Any.slices_Sort_int_none Tryz.lays189 p cap w
end Go.Proofs
namespace Go.Proofs.YtjdjdoefppebkaaGreatDoor
open Go Go.Eng Go.RowKit
def ZlA:List (Str×List Int):=[([43],[5]),([42],[7]),([110,111,116],[12]),([60],[9]),([60,61],[10]),([61],[11]),([62],[10,12]),([62,61],[9,12]),([33,61],[11,12]),([100,97,121,115],[15]),([119,101,101,107,115],[16]),([109,111,110,116,104,115],[17]),([99,111,117,114,116,100,97,121,115],[18]),([110,101,120,116],[19]),([112,114,101,118],[20]),([108,97,116,101,114],[21]),([101,97,114,108,105,101,114],[22]),([98,101,116,119,101,101,110],[23])]
def opF (s:Str):List Int:=match ZlA.find? (fun p=>decide (p.1=s)) with|some p=>p.2|none=>[]
def ZlB (l:List Int):List Ins:=l.map (fun o=>⟨o,0⟩)
end Go.Proofs.YtjdjdoefppebkaaGreatDoor
namespace Go.Eng
open Go Go.RowKit Go.Proofs
theorem ZA.slvG {α:Type} [Z4 α] {w w':World} {X:List Nat} {T len:Nat} {cs:List Value} {v:Value} {ys:List α} {css:List (List Value)} (h:ZA w T len cs v w') (hX:∀ b∈X,b<w.heap.size) (hl:len=ys.length) (hcl:css.length=ys.length)
 (hc:cs=css.flatten) (hr:∀ i (hi:i<ys.length) (hi':i<css.length),Z4.rep X w ys[i] css[i]) (hm:ys.length≤maxLen):SlV X w' v ys:=by
 obtain ⟨b,rfl,hb,hblk,hS⟩:=h
 subst hl
 subst hc
 have hk:∀ c∈css,c.length=Z4.k α:=by
  intro c hc
  obtain ⟨i,hi,rfl⟩:=Xj hc
  exact Z4.len (hr i (by omega) hi)
 refine ⟨some ⟨b,0,none⟩,ys.length,rfl,Xk _,hm,fun h=>by simp at h,fun i hi=>⟨b,0,css[i]'(by omega),rfl,hblk.lt,fun hx=>by have:=hX b hx;omega,Z4.ext (hr i hi (by omega)) hS (by simp) (fun b hb=>.inl hb),fun j u hu=>?_⟩⟩
 refine hblk.cell ?_
 have:=Z0i css hk i (by omega) j u hu
 rw [X8]
 exact this
theorem SlV.wk {α:Type} [Z4 α] {X X':List Nat} {w:World} {v:Value} {l:List α} (h:SlV X w v l) (hs:∀ b∈X',b∈X):SlV X' w v l:=h.ext (Stp.refl [] w) (by simp) (fun b hb=>.inl (hs b hb))
end Go.Eng
namespace Go.Proofs.YtjdjdoefppebkaaGreatDoor
open Go Go.Eng Go.RowKit
theorem Z26 (k n:Int) (s:Str) (p:Option Addr) (l c:Nat) (w:World):(Instr.buildSlice 25 1 #[(0,.agg #[.int .i64 k,.int .i64 n,str s,.slice p l c])]).run Tryz.prog w=.ok (.slice (some ⟨w.heap.size,0,none⟩) 1 1) (w.alloc (.cells #[.int .i64 k,.int .i64 n,str s,.slice p l c] 27)):=by kernel_rfl
theorem Z5U:∀ (s sub:List UInt8),0≤Lib.index s sub↔∃ i,i≤s.length∧sub.isPrefixOf (s.drop i)=true
 | [], sub => by
   unfold Lib.index
   cases sub with
   | nil=>simp
   | cons a l=>simp
 | b :: l, sub => by
   have ih:=Z5U l sub
   have hge:=Lib.index_ge l sub
   unfold Lib.index
   by_cases hp:sub.isPrefixOf (b :: l)=true
   rw [if_pos hp]
   exact ⟨fun _=>⟨0,by omega,hp⟩,fun _=>by omega⟩
   rw [if_neg hp]
   have e:(0:Int)≤(if (Lib.index l sub == -1)=true then -1 else Lib.index l sub+1)↔0≤Lib.index l sub:=by
    by_cases h1:Lib.index l sub=-1
    rw [if_pos (by simpa using h1)];omega
    rw [if_neg (by simpa using h1)];omega
   rw [e,ih]
   constructor
   rintro ⟨i,hi,h⟩
   exact ⟨i+1,by simpa using hi,h⟩
   · rintro ⟨i,hi,h⟩
     cases i with
     | zero=>exact absurd h hp
     | succ i=>exact ⟨i,by simpa using hi,h⟩
theorem Z5V:∀ (t r:List UInt8),(∀ c∈t,c≠32)→(t++[32]).isPrefixOf r=true→r.takeWhile (fun c=>decide (c≠32))=t
 | [], r, _, h => by
   cases r with
   | nil=>simp at h
   | cons a l=>
     simp [List.isPrefixOf] at h
     subst h
     rfl
 | c :: t, r, hc, h => by
   cases r with
   | nil=>simp at h
   | cons a l=>
     simp only [XI,List.isPrefixOf,Xf,beq_iff_eq] at h
     obtain ⟨rfl,h⟩:=h
     have h1:=hc c (by simp)
     rw [List.takeWhile_cons_of_pos (by simpa using h1),Z5V t l (fun x hx=>hc x (by simp [hx])) h]
theorem Z6I (a b:Str) (m:Int) (w:World) (ha:a.length<4294967281) (hm:w.cell? ⟨2,0,none⟩=some (.int .i64 m)) :
 CC 176 #[str a,str b] w fun r w'=>r=.bool (Lib.contains a b)∧Stp [] w w':=by
 refine (Tryz.strings_Contains ⟨a.toArray⟩ ⟨b.toArray⟩ m w (by rw [Jw];exact ha) hm).mono ?_
 rintro e w' ⟨rfl,rfl⟩
 exact .mk ⟨rfl,Stp.refl _ _⟩
open Go Go.Eng Go.RowKit Go.Proofs
theorem Z3O {l:List Tkn} {i:Nat} (h:i<l.length):cur l i=l[i]:=by simp [cur,List.getD,h]
def Pd (w:World) (b:Nat) (tv:Value) (l:List Tkn) (i o:Nat):Prop:=Blk w b 170 [tv,.int .i64 i,.int .i64 o]∧SlV [b] w tv l∧i<l.length∧l.length≤1000000∧o≤12
theorem Pd.up {w w':World} {b i o:Nat} {tv:Value} {l:List Tkn} (h:Pd w b tv l i o) (hS:Stp [] w w'):Pd w' b tv l i o:=by
 obtain ⟨h1,h2,h3⟩:=h
 exact ⟨h1.up hS,h2.up hS,h3⟩
theorem Pd.lt {w:World} {b i o:Nat} {tv:Value} {l:List Tkn} (h:Pd w b tv l i o):b<w.heap.size:=by
 obtain ⟨h1,_⟩:=h
 exact h1.lt
theorem Pd.i_lt {w:World} {b i o:Nat} {tv:Value} {l:List Tkn} (h:Pd w b tv l i o):i<l.length:=by
 obtain ⟨_,_,h1,_⟩:=h
 exact h1
def Z2H (a c:Int):Value:=.iface 210 (.agg #[.int .i64 a,.int .i64 c])
def PE {α:Type} (r:Out α) (G:α→Nat→Nat→Value→World→Prop) (F:World→Prop) (e:Ending) (w':World):Prop:=
 match r with
 | .err a c=>e=.panicked [⟨Z2H a c,false,false⟩]∧F w'
 | .ok x i o=>Ret (G x i o) e w'
theorem Zt {P:Program} {n:Nat} {Q:Exit→Act→World→Prop} {e:Env} {w:World} {ops:Array Oper} {rest:List Oper} {d:Nat} {ty:TypeId} {pos:String} {af:Array Edge} {f:Nat} {fn:Func} {xs:Array Operand} {ts:Array TypeId} {vs:Array Value} {c:Operand} {ch:List PanicEntry} {F:World→Prop} [hf:Fun P f fn]
 (hc:ev e c=some (.func (.func f) #[] #[])) (hv:∀ a,Has n e a→xs.map a.eval=vs) (h:Calls P f vs w (fun e w'=>e=.panicked ch∧F w')) (hd:Nat.blt d n=true) (k:∀ w',F w'→WQ n Q (.panic ch) [] w') :
 WL P n ops Q (⟨some d,.call { callee:=.value c,args:=xs,argTypes:=ts },ty,pos,af,none⟩ :: rest) e w:=
 Z9o (G:=fun _ _=>False) (F:=fun ch' w'=>ch'=ch∧F w') (Z54 hc hv (h.mono fun e w' ⟨h1,h2⟩=>by rw [h1];exact .pan ⟨rfl,h2⟩)) hd (fun ch' w' ⟨h1,h2⟩=>by subst h1;exact Z9V (k w' h2)) (fun _ _ h=>h.elim)
theorem Zhr (a c:Int) (w:World):(Instr.build 210 #[(0,.int .i64 a),(1,.int .i64 c)]).run Tryz.prog w=.ok (.agg #[.int .i64 a,.int .i64 c]) w:=by kernel_rfl
theorem Jl (b:Nat) (tv:Value) (l:List Tkn) (i o:Nat) (w:World) (hp:Pd w b tv l i o) :
 CC 168 #[.pointer (some ⟨b,0,none⟩)] w fun r w'=>r=str (cur l i).text∧Stp [] w w':=by
 obtain ⟨hb,hs,hi,hl,ho⟩:=hp
 rw [Z3O hi]
 refine cW1 14 Tryz.func168 ?_
 refine W ?_
 refine ZDr 12 [] [] [(0,0),(1,0),(2,0),(3,1),(4,0),(5,0),(6,0),(7,1),(8,0),(9,0),(10,1),(11,0)] (fun w1 hS1=>?_)
 replace hb:=hb.up hS1
 replace hs:=hs.up hS1
 refine D ?_
 refine W ?_
 refine WR ?_
 exact .mk ⟨rfl,hS1⟩
theorem Z7F (b:Nat) (tv:Value) (l:List Tkn) (i o:Nat) (c:Int) (w:World) (hp:Pd w b tv l i o) :
 Calls Tryz.prog 119 #[.pointer (some ⟨b,0,none⟩),.int .i64 c] w (fun e w'=>e=.panicked [⟨Z2H (cur l i).pos c,false,false⟩]∧Stp [] w w'):=by
 obtain ⟨hb,hs,hi,hl,ho⟩:=hp
 rw [Z3O hi]
 refine cW2 18 Tryz.func119 ?_
 refine W ?_
 refine Z2r 15 ([]) [] [(0,0),(1,0),(2,0),(3,1),(4,0),(5,0),(6,0),(7,1),(8,0),(9,0),(10,1),(11,0),(12,0),(13,0),(14,2)] rfl mixed (by kernel_rfl) (by kernel_rfl) (by kernel_rfl) (fun w1 hS1=>?_)
 replace hb:=hb.up hS1
 replace hs:=hs.up hS1
 refine ZM rfl trivial (fun _=>J2 rfl) rfl ?_
 refine ZM rfl trivial (fun _=>Z10 rfl) rfl ?_
 refine ZM rfl trivial (fun _=>J3 rfl) rfl ?_
 refine Z1j rfl trivial (fun w' hw=>ZT rfl rfl (hb.up hw) rfl) rfl ?_
 refine ZM rfl trivial (fun _=>J2 rfl) rfl ?_
 refine ZM rfl trivial (fun _=>Z10 rfl) rfl ?_
 refine ZM rfl trivial (fun _=>J3 rfl) rfl ?_
 refine Z1j rfl trivial (fun w' hw=>ZT rfl rfl (hb.up hw) rfl) rfl ?_
 refine ZM rfl trivial (fun _=>Z8k rfl hs rfl rfl hi) rfl ?_
 refine ZM rfl trivial (fun _=>Z1W rfl (SlV.isSome hs hi)) rfl ?_
 refine Z1j rfl trivial (fun w' hw=>Z2J (u:=.int .i64 l[i].pos) rfl rfl (hs.up hw) hi rfl rfl) rfl ?_
 refine ZM rfl trivial (fun _=>J2 rfl) rfl ?_
 refine ZM rfl trivial (fun _=>Z1g (vs:=[(0,.int .i64 l[i].pos),(1,.int .i64 c)]) rfl (Zhr _ _)) rfl ?_
 refine ZM rfl trivial (fun _=>Z3L rfl) rfl ?_
 refine Z9X rfl trivial (Z9W rfl) ?_
 refine Zn ?_
 exact ⟨rfl,hS1⟩
theorem Z57 (b:Nat) (tv:Value) (l:List Tkn) (s:Str) (i o:Nat) (w:World) (hp:Pd w b tv l i o) (hn:(cur l i).text=s→i+1<l.length) :
 CC 251 #[.pointer (some ⟨b,0,none⟩),str s] w fun r w'=>r=.bool (decide ((cur l i).text=s))∧Pd w' b tv l (if (cur l i).text=s then i+1 else i) o∧Stp [b] w w':=by
 refine cW2 16 Tryz.func251 ?_
 refine W ?_
 refine CL rfl (Zk rfl) rfl (Jl b tv l i o _ hp) ?_
 rintro _ w1 ⟨rfl,hS1⟩
 replace hp:=hp.up hS1
 obtain ⟨hb,hs,hi,hl,ho⟩:=hp
 have hmax:=hs.max
 by_cases h:(cur l i).text=s
 have hi1:=hn h
 focus repeat'(first|refine W1 ?_|omega|refine VG ?_ ?_<;>intro hg|refine VC ?_ ?_<;>intro hc)
 exact absurd h (by assumption)
 refine Z1 (Zg (u:=.int .i64 ((i+1:Nat):Int)) rfl (by show some _=some _;simp) rfl rfl hb (by simp)) ?_
 rintro _ w2 ⟨hT,hb2⟩
 refine W ?_
 refine WR ?_
 rw [decide_eq_true h,if_pos h]
 exact .mk ⟨rfl,⟨hb2,hs.ext hT (fun c hc=>hc) (fun c hc=>.inl hc),hi1,hl,ho⟩,(hS1.mono (by simp)).trans hT⟩
 focus repeat'(first|refine W1 ?_|omega|refine VG ?_ ?_<;>intro hg|refine VC ?_ ?_<;>intro hc)
 refine WR ?_
 rw [decide_eq_false h,if_neg h]
 exact .mk ⟨rfl,⟨hb,hs,hi,hl,ho⟩,hS1.mono (by simp)⟩
 exact absurd h (by assumption)
def PC {α:Type} (b:Nat) (w:World) (tv:Value) (l:List Tkn) (r:Out α) (G:α→Value→World→Prop) (e:Ending) (w':World):Prop:=
 PE r (fun x i o v w'=>G x v w'∧Pd w' b tv l i o∧Stp [b] w w') (fun w'=>Stp [b] w w') e w'
theorem PC.ok {α:Type} {b:Nat} {w w':World} {tv:Value} {l:List Tkn} {x:α} {i o:Nat} {G:α→Value→World→Prop} {v:Value} (hG:G x v w') (hp:Pd w' b tv l i o) (hS:Stp [b] w w'):PC b w tv l (.ok x i o) G (.returned v) w':=⟨v,rfl,hG,hp,hS⟩
theorem PC.err {α:Type} {b:Nat} {w w':World} {tv:Value} {l:List Tkn} {a c:Int} {G:α→Value→World→Prop} (hS:Stp [b] w w'):PC b w tv l (.err a c) G (.panicked [⟨Z2H a c,false,false⟩]) w':=⟨rfl,hS⟩
theorem PC.fail {α:Type} {b:Nat} {w w':World} {tv:Value} {l:List Tkn} {i:Nat} {c:Int} {G:α→Value→World→Prop} (hS:Stp [b] w w'):PC b w tv l (Z1k l i c) G (.panicked [⟨Z2H (cur l i).pos c,false,false⟩]) w':=⟨rfl,hS⟩
theorem Z7G (b:Nat) (tv:Value) (l:List Tkn) (i o:Nat) (c:Int) (w w0:World) (hp:Pd w b tv l i o) (hS:Stp [b] w0 w) :
 Calls Tryz.prog 119 #[.pointer (some ⟨b,0,none⟩),.int .i64 c] w (fun e w'=>e=.panicked [⟨Z2H (cur l i).pos c,false,false⟩]∧Stp [b] w0 w'):=
 (Z7F b tv l i o c w hp).mono fun e w' ⟨h1,h2⟩=>⟨h1,hS.trans (h2.mono (by simp))⟩
theorem PC.goes {α:Type} {b f:Nat} {args:Array Value} {w:World} {tv:Value} {l:List Tkn} {x:α} {i o:Nat} {r:Out α} {G:α→Value→World→Prop} (h:Calls Tryz.prog f args w (PC b w tv l r G)) (hr:r=.ok x i o):CC f args w fun v w'=>G x v w'∧Pd w' b tv l i o∧Stp [b] w w':=by
 subst hr;exact h
theorem PC.falls {α:Type} {b f:Nat} {args:Array Value} {w w0:World} {tv:Value} {l:List Tkn} {a c:Int} {r:Out α} {G:α→Value→World→Prop} (h:Calls Tryz.prog f args w (PC b w tv l r G)) (hr:r=.err a c) (hS:Stp [b] w0 w):Calls Tryz.prog f args w (fun e w'=>e=.panicked [⟨Z2H a c,false,false⟩]∧Stp [b] w0 w'):=by
 subst hr;exact h.mono fun e w' ⟨h1,h2⟩=>⟨h1,hS.trans h2⟩
theorem Z0Q (b:Nat) (tv:Value) (l:List Tkn) (hL:Z25 l) (s:Str) (hs0:s≠[]) (i o:Nat) (w:World) (hp:Pd w b tv l i o) :
 Calls Tryz.prog 165 #[.pointer (some ⟨b,0,none⟩),str s] w (PC b w tv l (Z0D l s i o) (fun _ v _=>v=.tuple #[])):=by
 have hn:(cur l i).text=s→i+1<l.length:=fun h=>hL.end_of hp.i_lt (by rw [h];exact hs0)
 unfold Z0D
 refine cW2 10 Tryz.func165 ?_
 refine W ?_
 refine CL rfl (Zb rfl rfl) rfl (Z57 b tv l s i o _ hp hn) ?_
 rintro _ w1 ⟨rfl,hp1,hS1⟩
 by_cases h:(cur l i).text=s
 rw [if_pos h] at hp1 ⊢
 rw [decide_eq_true h]
 refine W ?_
 refine WR ?_
 exact PC.ok rfl hp1 hS1
 rw [if_neg h] at hp1 ⊢
 rw [decide_eq_false h]
 refine W ?_
 refine Zt rfl (Zb rfl rfl) (Z7G b tv l i o 20 _ w hp1 hS1) rfl ?_
 intro w2 hw2
 focus repeat'(first|refine Zc ?_|refine Z9 ?_)
 refine Zn ?_
 exact PC.fail hw2
theorem Z3P (C:Str) (W:List Str) (h1:∀ i∈List.range (C.length+1),(C.drop i).head?=some 32→(C.drop (i+1)).takeWhile (fun c=>decide (c≠32))∈W∨(C.drop (i+1)).takeWhile (fun c=>decide (c≠32))=[])
 (h2:∀ t∈W,Lib.contains C (32 :: t++[32])=true) {t:Str} (h0:t≠[]) (hc:∀ c∈t,c≠32):Lib.contains C (32 :: t++[32])=decide (t∈W):=by
 by_cases ht:t∈W
 rw [h2 t ht,decide_eq_true ht]
 · rw [decide_eq_false ht]
   unfold Lib.contains
   rw [decide_eq_false_iff_not,Z5U]
   rintro ⟨i,hi,h⟩
   cases hd:C.drop i with
   | nil=>rw [hd] at h;simp at h
   | cons a l=>
     rw [hd] at h
     simp only [XI,List.isPrefixOf,Xf,beq_iff_eq] at h
     obtain ⟨rfl,h⟩:=h
     have hl:C.drop (i+1)=l:=by
      have:=congrArg List.tail hd
      simpa [List.tail_drop] using this
     have hw:=Z5V t l hc h
     have:=h1 i (YaN.2 (by omega)) (by rw [hd];rfl)
     rw [hl,hw] at this
     exact this.elim ht h0
def Z7H:Str:=[32,100,97,121,115,32,119,101,101,107,115,32,109,111,110,116,104,115,32,99,111,117,114,116,100,97,121,115,32]
def Z6J:Str:=[32,100,97,121,32,115,101,114,118,101,100,32,101,120,116,114,97,32,98,121,32,116,111,32,99,111,117,114,116,32,97,109,111,117,110,116,32]
def Z9q:Str:=[32,110,101,120,116,32,112,114,101,118,32,108,97,116,101,114,32,101,97,114,108,105,101,114,32,98,101,116,119,101,101,110,32]
theorem Zby {t:Str} (h0:t≠[]) (hc:∀ c∈t,c≠32):Lib.contains Z7H (32 :: t++[32])=decide (t∈Z5S):=Z3P Z7H _ (by decide +kernel) (by decide +kernel) h0 hc
theorem Z9Y {t:Str} (h0:t≠[]) (hc:∀ c∈t,c≠32):Lib.contains Z6J (32 :: t++[32])=decide (t∈Z55):=Z3P Z6J _ (by decide +kernel) (by decide +kernel) h0 hc
theorem Zbz {t:Str} (h0:t≠[]) (hc:∀ c∈t,c≠32):Lib.contains Z9q (32 :: t++[32])=decide (t∈Z5T):=Z3P Z9q _ (by decide +kernel) (by decide +kernel) h0 hc
theorem Z2T (C:Str) (ws:List Str) (hW:[]∉ws) (t:Str) (m:Int) (w:World) (hm:w.cell? ⟨2,0,none⟩=some (.int .i64 m)) (hC:C.length≤1000000) (htl:t.length≤4000)
 (hiff:t≠[]→Lib.contains C (32 :: t++[32])=decide (t∈ws)) :
 CC 215 #[str C,str t] w fun r w'=>r=.bool (decide (t∈ws))∧Stp [] w w':=by
 refine cW2 14 Tryz.func215 ?_
 by_cases h:t=[]
 · subst h
   repeat'(first|refine W1 ?_|omega|refine VG ?_ ?_<;>intro hg|refine VC ?_ ?_<;>intro hc)
   all_goals
    refine WR ?_
    rw [decide_eq_false hW]
    exact .mk ⟨rfl,Stp.refl _ _⟩
 · have e1:Lib.contains C ([32]++t++[32])=decide (t∈ws):=hiff h
   repeat'(first|refine W1 ?_|omega|refine VG ?_ ?_<;>intro hg|refine VC ?_ ?_<;>intro hc)
   rotate_left
   exact absurd h (by assumption)
   refine Z6v rfl rfl (by simp;omega) rfl ?_
   repeat'(first|refine W1 ?_|omega|refine VG ?_ ?_<;>intro hg|refine VC ?_ ?_<;>intro hc)
   refine Z6v rfl rfl (by simp;omega) rfl ?_
   repeat'(first|refine W1 ?_|omega|refine VG ?_ ?_<;>intro hg|refine VC ?_ ?_<;>intro hc)
   refine CL rfl (Zb rfl rfl) rfl (Z6I C ([32]++t++[32]) m _ (by omega) hm) ?_
   rintro _ w1 ⟨rfl,hS1⟩
   rw [e1]
   refine W ?_
   refine WR ?_
   exact .mk ⟨rfl,hS1⟩
theorem Z5W (b:Nat) (tv:Value) (l:List Tkn) (hL:Z25 l) (k:Int) (hk:k≠0) (i o:Nat) (w:World) (hp:Pd w b tv l i o) :
 Calls Tryz.prog 167 #[.pointer (some ⟨b,0,none⟩),.int .i64 k] w (PC b w tv l (Z2S l k i o) (fun t v _=>v=.agg (Z5.enc t).toArray)):=by
 obtain ⟨hb,hs,hi,hl,ho⟩:=id hp
 have hn:(cur l i).kind=k→i+1<l.length:=fun h=>hL.end_of_kind hi (by rw [h];exact hk)
 have hmax:=hs.max
 have hs0:=hs
 unfold Z2S
 rw [Z3O hi] at hn ⊢
 refine cW2 30 Tryz.func167 ?_
 refine W ?_
 refine Z0 Z8 rfl ?_
 rintro _ w0 ⟨b4,rfl,hb4,e4,hS0⟩
 have n4:b4≠b:=by have:=hb.lt;omega
 replace hb:=hb.up hS0
 replace hs:=hs.up hS0
 refine W ?_
 refine ZDr 12 [] [11] [(0,0),(1,0),(2,0),(3,1),(4,0),(5,0),(6,0),(7,1),(8,0),(9,1),(10,2),(11,2)] (fun w1 hS1=>?_)
 replace hb:=hb.up hS1
 replace hs:=hs.up hS1
 replace e4:=e4.up hS1
 replace hS0:=hS0.trans hS1
 clear hS1
 refine D ?_
 refine ZC rfl trivial Z8 (fun _ _ ⟨_,_,_,_,h⟩=>h) rfl ?_
 rintro _ w2 ⟨b5,rfl,hb5,e5,hS2⟩
 have n5:b5≠b:=by have:=hb.lt;omega
 have n54:b5≠b4:=by have:=e4.lt;omega
 refine ZU rfl trivial (Z2 (us:=Z5.enc l[i]) rfl rfl rfl rfl (Z5.one _) e5 rfl) rfl ?_
 rintro _ w3 ⟨hT,e5⟩
 have hT0:=hS2.own hT (fun c hc=>.inr (by simp at hc;omega))
 clear hT hS2
 replace hb:=hb.up hT0
 replace hs:=hs.up hT0
 replace e4:=e4.up hT0
 replace hS0:=hS0.trans hT0
 clear hT0 hb5
 refine D ?_
 refine W ?_
 have hp3:Pd w3 b tv l i o:=⟨hb,hs,hi,hl,ho⟩
 by_cases h:l[i].kind=k
 rw [if_pos h]
 have hi1:=hn h
 focus repeat'(first|refine W1 ?_|omega|refine VG ?_ ?_<;>intro hg|refine VC ?_ ?_<;>intro hc)
 refine Z1 (Zg (u:=.int .i64 ((i+1:Nat):Int)) rfl (by show some _=some _;simp) rfl rfl hb (by simp)) ?_
 rintro _ w4 ⟨hT,hb2⟩
 replace e4:=e4.ext hT (by simpa using n4)
 replace e5:=e5.ext hT (by simpa using n5)
 replace hs:=hs.ext (X':=[b]) hT (fun c hc=>hc) (fun c hc=>.inl hc)
 refine W ?_
 refine Z1 (Z2 (us:=Z5.enc l[i]) rfl rfl rfl rfl (Z5.one _) e4 rfl) ?_
 rintro _ w5 ⟨hT5,e4⟩
 refine W ?_
 refine ZW (cs:=Z5.enc l[i]) rfl rfl rfl e4 rfl ?_
 have hTT:=((hS0.mono (by simp)).trans hT).own hT5 (fun c hc=>.inr (by simp at hc;omega))
 exact PC.ok rfl ⟨hb2.ext hT5 (by simpa using n4.symm),hs0.ext hTT (fun c hc=>hc) (fun c hc=>.inl hc),hi1,hl,ho⟩ hTT
 rw [if_neg h]
 focus repeat'(first|refine W1 ?_|omega|refine VG ?_ ?_<;>intro hg|refine VC ?_ ?_<;>intro hc)
 refine Zt rfl (Zb rfl rfl) (Z7G b tv l i o 20 _ w hp3 (hS0.mono (by simp))) rfl ?_
 intro w2 hw2
 focus repeat'(first|refine Zc ?_|refine Z9 ?_)
 refine Zn ?_
 exact PC.fail hw2
end Go.Proofs.YtjdjdoefppebkaaGreatDoor
namespace Go.Eng
open Go Go.RowKit Go.Proofs
abbrev bts (s:Str):ByteArray:=⟨s.toArray⟩
def Itr (w:World) (b:Nat) (s:Str) (p:Nat):Prop:=w.heap[b]?=some (.stringIter (bts s) p)
theorem Itr.lt {w:World} {b p:Nat} {s:Str} (h:Itr w b s p):b<w.heap.size:=(Array.getElem?_eq_some_iff.1 h).1
def dec (s:Str) (p:Nat):Nat×Nat:=Utf8.decode (bts s) p
theorem Z3h (s:Str):(bts s).size=s.length:=by simp [ByteArray.size]
theorem Z2s {s:Str} {p:Nat} (h:p<s.length) (ha:(s[p]).toNat<128):dec s p=((s[p]).toNat,1):=by
 have h1:p<(bts s).size:=by rw [Z3h];exact h
 have e:(bts s)[p]'h1=s[p]:=by simp [bts,ByteArray.getElem_eq_getElem_data]
 have:=decode_ascii (bts s) p h1 (by rw [e];exact ha)
 rw [e] at this
 exact this
theorem Z7I {s:Str} {p:Nat} (h:p<s.length) (ha:128≤(s[p]).toNat):128≤(dec s p).1∧1≤(dec s p).2:=by
 have h1:p<(bts s).size:=by rw [Z3h];exact h
 have e:(bts s)[p]'h1=s[p]:=by simp [bts,ByteArray.getElem_eq_getElem_data]
 exact decode_high (bts s) p h1 (by rw [e];exact ha)
theorem Zdm {s:Str} {p:Nat} (h:p<s.length):1≤(dec s p).2:=by
 by_cases ha:(s[p]).toNat<128
 rw [Z2s h ha];exact Xk _
 exact (Z7I h (by omega)).2
section
variable {P:Program} {n:Nat} {e:Env} {w:World} {d:Option Nat} {ty:TypeId} {pos:String} {af:Array Edge} {g:Option (Nat×Bool)}
theorem Z7J {x:Operand} {t:TypeId} {s:Str} [hu:Und P t .string] (hx:ev e x=some (str s)):OE P n ⟨d,.range t x,ty,pos,af,g⟩ e w (fun v w'=>∃ b,v=.pointer (some ⟨b,0,none⟩)∧w.heap.size≤b∧Itr w' b s 0∧Stp [] w w'):=
 Jj (v:=.pointer (some ⟨w.heap.size,0,none⟩)) (w':=w.iter (bts s) 0) (fun a ha=>by
  have:=run_range_string (P:=P) w t (bts s) hu.h
  simp [execOp,ha.ev hx,this]) ⟨w.heap.size,rfl,Xk _,World.iter_heap _ _ _,Stp.alloc _ _ _⟩
theorem Z9r {x:Operand} {s:Str} {b p:Nat} (hx:ev e x=some (.pointer (some ⟨b,0,none⟩))) (hI:Itr w b s p) (hp:p<s.length) :
 OE P n ⟨d,.next x true,ty,pos,af,g⟩ e w (fun v w'=>v=.tuple #[.bool true,.int .i64 p,.int .i32 ((dec s p).1:Int)]∧Itr w' b s (p+(dec s p).2)∧Stp [b] w w'):=by
 have hlt:=hI.lt
 have hp':p<(bts s).size:=by rw [Z3h];exact hp
 unfold Itr at hI
 refine Jj (v:=.tuple #[.bool true,.int .i64 p,.int .i32 ((dec s p).1:Int)]) (w':={ w with heap:=w.heap.setIfInBounds b (.stringIter (bts s) (p+(dec s p).2)) }) (fun a ha=>?_) ⟨rfl,?_,⟨rfl,rfl,rfl,by simp,fun k hk hn=>?_⟩⟩
 · simp [execOp,ha.ev hx,Instr.next,getObj,setObj,Sem.run,hI,hp',goInt,dec]
 show (w.heap.setIfInBounds b _)[b]?=_
 simp [hlt]
 show (w.heap.setIfInBounds b _)[k]?=_
 exact Array.getElem?_setIfInBounds_ne (by simpa using fun h=>hn (by simp [h]))
theorem Z58 {x:Operand} {s:Str} {b p:Nat} (hx:ev e x=some (.pointer (some ⟨b,0,none⟩))) (hI:Itr w b s p) (hp:¬ p<s.length) :
 OE P n ⟨d,.next x true,ty,pos,af,g⟩ e w (fun v w'=>v=.tuple #[.bool false]∧w'=w):=by
 have hp':¬ p<(bts s).size:=by rw [Z3h];exact hp
 unfold Itr at hI
 refine Jj (v:=.tuple #[.bool false]) (w':=w) (fun a ha=>?_) ⟨rfl,rfl⟩
 simp [execOp,ha.ev hx,Instr.next,getObj,Sem.run,hI,hp']
theorem ZbA {x:Operand} {t:TypeId} {i:Nat} {u v:Value} (hx:ev e x=some u) (hb:∀ w,(Instr.field t u i).run P w=.ok v w):PR P n ⟨d,.field t x i,ty,pos,af,g⟩ e w v:=
 ⟨fun a ha=>by simp [execOp,ha.ev hx,hb]⟩
end
end Go.Eng
