/-
Merged by program out of own texts: Vmw4, Vmr1, Vev1, Vmr2, Vev2, Vev3, Eng28, Vev4, Vev5, Vev6, Vev7, Cru1, Arg20, Arg21, Gos1, Cru2.
-/
import Derived.Test.YtjdjdoefppebkaaGreatDoorM4
import Derived.JoinedOf
import Derived.Lib.SmallJoins
set_option linter.unusedVariables false
set_option linter.unusedSimpArgs false
namespace Go.Proofs.YtjdjdoefppebkaaGreatDoor
open Go Go.Eng Go.RowKit
theorem ZdU (a b:Int) (w:World):(Instr.build 111 #[(0,.int .i64 a),(1,.int .i64 b)]).run Tryz.prog w=.ok (agg ((a,b):Spn)) w:=by kernel_rfl
theorem Zcc (d:Spn) (w:World):(Instr.buildSlice 45 1 #[(0,agg d)]).run Tryz.prog w=.ok (.slice (some ⟨w.heap.size,0,none⟩) 1 1) (w.alloc (.cells (Z5.enc d).toArray 111)):=by kernel_rfl
section
variable {K:MK} {w w':World} {sv pv:Value} {st:List Int} {sp:List Spn} {at_ er:Int} {dn:Bool}
theorem Mch.cal (hK:KOk K) (h:Mch K w sv pv st sp at_ er dn):Z4v w K.c K.hv K.cv K.zo K.zs K.hr:=
 ⟨(h.hols hK).ext (Stp.refl [] w) (by simp) (by simp),(h.clos hK).ext (Stp.refl [] w) (by simp) (by simp),h.len hK,h.mov hK,hK.cal⟩
theorem Mch.spans (hK:KOk K) (h:Mch K w sv pv st sp at_ er dn) {bs:Nat} (hk:K.nk=some bs) {pv':Value} {sp':List Spn} {w2:World} (hS:Stp (ob pv) w w') (hr:Row [] w' K.w0.heap.size 111 pv' sp') (ho:∀ b∈ob pv',b∈ob pv∨w.heap.size≤b)
 (hS2:Stp [bs] w' w2) (hb:Blk w2 bs 45 [pv']):Mch K w2 sv pv' st sp' at_ er dn:=by
 have hbm:=hK.bml
 have hn:=hK.nkl bs hk
 obtain ⟨h1,h2⟩:=h.nt bs hk
 have hge:=fun b hb=>(hr.ob_le b hb).1
 have hge0:=fun b hb=>(h2.ob_le b hb).1
 have hges:=fun b hb=>(h.row.ob_le b hb).1
 have hlts:=fun b hb=>(h.row.ob_le b hb).2
 refine ⟨(h.blk.ext hS (fun hx=>by have:=hge0 _ hx;omega)).ext hS2 (by have:=hn.2;simp;exact fun e=>this e.symm),(h.row.keep hS (fun b hb hp=>h.ap b hp hb)).keep hS2 (fun b hb hx=>by have:=hges _ hx;simp at hb;omega),fun bs' hbs=>?_,(fun h0=>by rw [hk] at h0;cases h0),fun b hb hp=>?_,?_,fun p hp=>?_⟩
 have hbs:bs'=bs:=by rw [hk] at hbs;exact (XJ hbs).symm
 subst hbs
 exact ⟨hb,hr.keep hS2 (fun b hb hx=>by have:=hge _ hx;simp at hb;omega)⟩
 rcases ho b hp with h3|h3
 exact h.ap b hb h3
 have:=hlts b hb
 omega
 exact (h.stp.own (S':=ob pv) hS (fun b hb=>.inr (hge0 b hb))).trans (hS2.mono (by simp [MK.own,hk]))
 obtain ⟨a,b,c,d⟩:=h.prot p hp
 have hlt:=(Array.getElem?_eq_some_iff.1 a).1
 have a2:=(hS.block p.1 hlt d).trans a
 have a3:=(hS2.block p.1 (Array.getElem?_eq_some_iff.1 a2).1 (fun e=>b (by simp at e;rw [e];simp [MK.own,hk]))).trans a2
 exact ⟨a3,b,c,fun h3=>(ho _ h3).elim d (fun h4=>by omega)⟩
theorem Zar (a b:Int) (w:World):CC 57 #[.int .i64 a,.int .i64 b] w fun r w'=>r=.tuple #[]∧w'=w:=by
 refine cW2 4 Tryz.func57 ?_
 refine W ?_
 refine WR ?_
 exact .mk ⟨rfl,rfl⟩
theorem Zas (hK:KOk K) (h:Mch K w sv pv st sp at_ er dn) {bs:Nat} (hk:K.nk=some bs) (a b:Int) (hl:sp.length≤100000) :
 CC 78 #[.int .i64 a,.int .i64 b,.pointer (some ⟨bs,0,none⟩)] w fun r w'=>r=.tuple #[]∧∃ pv',Mch K w' sv pv' st (sp++[(a,b)]) at_ er dn:=by
 obtain ⟨hblk,hrow⟩:=h.nt bs hk
 have hn:=hK.nkl bs hk
 have hge0:=fun b hb=>(hrow.ob_le b hb).1
 refine cW3 11 Tryz.func78 ?_
 refine W ?_
 refine Za (vs:=[(0,.int .i64 a),(1,.int .i64 b)]) rfl (ZdU _ _) rfl ?_
 refine Z0 (Z3 (vs:=[(0,agg ((a,b):Spn))]) rfl (Zcc _)) rfl ?_
 rintro bv w1 hN
 have hS1:=ZA.stp hN
 have hbv:SlV (ob pv++[]) w1 bv [((a,b):Spn)]:=hN.slv (fun b hb=>by simp at hb;exact (hrow.ob_le b hb).2) rfl rfl (by simp [maxLen])
 replace h:=h.up hS1
 replace hrow:=hrow.up hS1
 replace hblk:=hblk.up hS1
 refine Z0 (Jn rfl (by decide) rfl rfl hrow hbv (by simp;omega) (by simp [maxLen];omega) (h.stp.size)) rfl ?_
 rintro pv' w2 ⟨hr2,hS2,ho⟩
 have hblk2:=hblk.ext hS2 (fun hx=>by have:=hge0 _ hx;omega)
 refine W ?_
 have h1:=hr2.slv (X:=[]) (by simp)
 refine Z1 (Zg (u:=pv') rfl rfl h1.cells h1.one hblk2 (by simp)) ?_
 rintro _ w3 ⟨hS3,hblk3⟩
 refine W ?_
 refine WR ?_
 exact .mk ⟨rfl,pv',h.spans hK hk hS2 hr2 ho hS3 hblk3⟩
theorem Z4G {P:Nat} {e:Env} {d:Option Nat} {ty:TypeId} {pos:String} {af:Array Edge} {g:Option (Nat×Bool)} {x y z:Operand} {ts:Array TypeId} (hK:KOk K) (h:Mch K w sv pv st sp at_ er dn) {a b:Int} (hl:sp.length≤100000)
 (hx:ev e x=some (Zec K.nk)) (hy:ev e y=some (.int .i64 a)) (hz:ev e z=some (.int .i64 b)) :
 OE Tryz.prog P ⟨d,.call { callee:=.value x,args:=#[y,z],argTypes:=ts },ty,pos,af,g⟩ e w (fun v w'=>v=.tuple #[]∧∃ pv',Mch K w' sv pv' st (sp++[(a,b)]) at_ er dn):=by
 cases hk:K.nk with
 | none=>
   rw [hk] at hx
   refine (Ze (f:=57) hx (Zb hy hz) (Zar a b w)).mono ?_
   rintro _ w' ⟨rfl,rfl⟩
   refine ⟨rfl,pv,h.blk,h.row,fun bs hbs=>?_,h.nt0,h.ap,h.stp,h.prot⟩
   rw [hk] at hbs
   cases hbs
 | some bs=>
   rw [hk] at hx
   exact ZK (f:=78) hx (Zb hy hz) rfl (Zas hK h hk a b hl)
theorem Res.err {r:Int×Int} {st':List Int} {sp':List Spn} (h:Res K w st sp at_ r) (he:¬ r.2=0):Res K w st' sp' at_ r:=by
 obtain ⟨a,b,c,d,h1,h2⟩:=h
 exact ⟨a,b,c,d,h1,fun h0=>absurd h0 he⟩
theorem ZdV (hK:KOk K) {a b:Int} (h:Mch K w sv pv (st++[a,b]) sp at_ 0 false) (hl:st.length≤100000) (n:Int) (hr:Zv a=true) :
 CC 151 #[mP K,.int .i64 n] w fun r w'=>r=.tuple #[]∧Res K w' st sp at_ (Z83 a b):=by
 obtain ⟨d0,d1⟩:=Zx.1 hr
 refine cW2 18 Tryz.func151 ?_
 refine W ?_
 refine CL rfl (Zk rfl) rfl (Jb hK h) ?_
 rintro _ w1 ⟨rfl,sv1,h1⟩
 refine W ?_
 refine CL rfl (Zb rfl rfl) rfl (Z5G a b _ (h1.len hK) d0 d1) ?_
 rintro _ w2 ⟨rfl,hS⟩
 replace h1:=h1.up hS
 refine W ?_
 refine CL rfl (J7 rfl rfl rfl) rfl (Js hK h1 hl _ _) ?_
 rintro _ w3 ⟨rfl,h2⟩
 refine W ?_
 refine WR ?_
 exact .mk ⟨rfl,h2⟩
theorem ZjY (hK:KOk K) {b:Int} (h:Mch K w sv pv (st++[b]) sp at_ 0 false) (hl:st.length≤100000) (hlp:sp.length≤100000) (n:Int) :
 CC 153 #[mP K,.int .i64 n] w fun r w'=>r=.tuple #[]∧Res K w' st (sp++[(b,(ZV (Zo K.c K.kn) 1 b).1)]) at_ (ZV (Zo K.c K.kn) (1) b):=by
 refine cW2 35 Tryz.func153 ?_
 refine W ?_
 refine CL rfl (Zk rfl) rfl (Z0s hK h) ?_
 rintro _ w1 ⟨rfl,sv1,h1⟩
 refine W ?_
 refine ZDr 15 [] [] [(0,0),(1,0),(2,0),(3,1),(4,0),(5,0),(6,0),(7,0),(8,1),(9,2),(10,0),(11,0),(12,0),(13,0),(14,0)] (fun w1 hS1=>?_)
 replace h1:=h1.up hS1
 have hblk:=h1.blk
 unfold Z0C at hblk
 refine D ?_
 refine JR rfl trivial (fun w' hS'=>Z0F (us:=Z0d K.c K.hv K.cv K.zo K.zs K.hr) rfl rfl (hblk.up hS') rfl rfl) rfl ?_
 refine D ?_
 refine ZC rfl trivial (Ze rfl (J7 rfl rfl rfl) (Zaq b K.kn K.c K.hv K.cv K.zo K.zs K.hr _ (h1.cal hK))) (fun _ _ h=>h.2) rfl ?_
 rintro _ w2 ⟨rfl,hS2⟩
 replace h1:=h1.up hS2
 replace hblk:=hblk.up hS2
 refine D ?_
 by_cases he:(ZV (Zo K.c K.kn) (1) b).2=0
 focus repeat'(first|refine W1 ?_|omega|refine VG ?_ ?_<;>intro hg|refine VC ?_ ?_<;>intro hc)
 refine Z0 (Z4G hK h1 hlp rfl rfl rfl) rfl ?_
 rintro _ w3 ⟨rfl,pv1,h2⟩
 refine W ?_
 refine CL rfl (J7 rfl rfl rfl) rfl (Js hK h2 hl _ _) ?_
 rintro _ w4 ⟨rfl,h3⟩
 refine W ?_
 refine WR ?_
 exact .mk ⟨rfl,h3⟩
 focus repeat'(first|refine W1 ?_|omega|refine VG ?_ ?_<;>intro hg|refine VC ?_ ?_<;>intro hc)
 refine CL rfl (J7 rfl rfl rfl) rfl (Js hK h1 hl _ _) ?_
 rintro _ w4 ⟨rfl,h3⟩
 refine W ?_
 refine WR ?_
 exact .mk ⟨rfl,h3.err he⟩
theorem ZjZ (hK:KOk K) {b:Int} (h:Mch K w sv pv (st++[b]) sp at_ 0 false) (hl:st.length≤100000) (hlp:sp.length≤100000) (n:Int) :
 CC 154 #[mP K,.int .i64 n] w fun r w'=>r=.tuple #[]∧Res K w' st (sp++[((ZV (Zo K.c K.kn) (-1) b).1,b)]) at_ (ZV (Zo K.c K.kn) (-1) b):=by
 refine cW2 35 Tryz.func154 ?_
 refine W ?_
 refine CL rfl (Zk rfl) rfl (Z0s hK h) ?_
 rintro _ w1 ⟨rfl,sv1,h1⟩
 refine W ?_
 refine ZDr 15 [] [] [(0,0),(1,0),(2,0),(3,1),(4,0),(5,0),(6,0),(7,0),(8,1),(9,2),(10,0),(11,0),(12,0),(13,0),(14,0)] (fun w1 hS1=>?_)
 replace h1:=h1.up hS1
 have hblk:=h1.blk
 unfold Z0C at hblk
 refine D ?_
 refine JR rfl trivial (fun w' hS'=>Z0F (us:=Z0d K.c K.hv K.cv K.zo K.zs K.hr) rfl rfl (hblk.up hS') rfl rfl) rfl ?_
 refine D ?_
 refine ZC rfl trivial (Ze rfl (J7 rfl rfl rfl) (Z5F b K.kn K.c K.hv K.cv K.zo K.zs K.hr _ (h1.cal hK))) (fun _ _ h=>h.2) rfl ?_
 rintro _ w2 ⟨rfl,hS2⟩
 replace h1:=h1.up hS2
 replace hblk:=hblk.up hS2
 refine D ?_
 by_cases he:(ZV (Zo K.c K.kn) (-1) b).2=0
 focus repeat'(first|refine W1 ?_|omega|refine VG ?_ ?_<;>intro hg|refine VC ?_ ?_<;>intro hc)
 refine Z0 (Z4G hK h1 hlp rfl rfl rfl) rfl ?_
 rintro _ w3 ⟨rfl,pv1,h2⟩
 refine W ?_
 refine CL rfl (J7 rfl rfl rfl) rfl (Js hK h2 hl _ _) ?_
 rintro _ w4 ⟨rfl,h3⟩
 refine W ?_
 refine WR ?_
 exact .mk ⟨rfl,h3⟩
 focus repeat'(first|refine W1 ?_|omega|refine VG ?_ ?_<;>intro hg|refine VC ?_ ?_<;>intro hc)
 refine CL rfl (J7 rfl rfl rfl) rfl (Js hK h1 hl _ _) ?_
 rintro _ w4 ⟨rfl,h3⟩
 refine W ?_
 refine WR ?_
 exact .mk ⟨rfl,h3.err he⟩
theorem ZhJ (hK:KOk K) {a b:Int} (h:Mch K w sv pv (st++[a,b]) sp at_ 0 false) (hl:st.length≤100000) (hlp:sp.length≤100000) (n:Int) (hr:Zv a=true) :
 CC 152 #[mP K,.int .i64 n] w fun r w'=>r=.tuple #[]∧Res K w' st (sp++JI 18 a b (Z3Z (Zo K.c K.kn) a b).1) at_ (Z3Z (Zo K.c K.kn) a b):=by
 obtain ⟨d0,d1⟩:=Zx.1 hr
 refine cW2 57 Tryz.func152 ?_
 refine W ?_
 refine CL rfl (Zk rfl) rfl (Jb hK h) ?_
 rintro _ w1 ⟨rfl,sv1,h1⟩
 refine W ?_
 refine ZDr 16 [] [] [(0,0),(1,0),(2,0),(3,1),(4,0),(5,0),(6,0),(7,0),(8,0),(9,1),(10,2),(11,0),(12,0),(13,0),(14,0),(15,0)] (fun w1 hS1=>?_)
 replace h1:=h1.up hS1
 have hblk:=h1.blk
 unfold Z0C at hblk
 refine D ?_
 refine JR rfl trivial (fun w' hS'=>Z0F (us:=Z0d K.c K.hv K.cv K.zo K.zs K.hr) rfl rfl (hblk.up hS') rfl rfl) rfl ?_
 refine D ?_
 refine ZC rfl trivial (Ze rfl (Z2z rfl rfl rfl rfl) (ZdT a b K.kn K.c K.hv K.cv K.zo K.zs K.hr _ (h1.cal hK))) (fun _ _ h=>h.2) rfl ?_
 rintro _ w2 ⟨rfl,hS2⟩
 replace h1:=h1.up hS2
 replace hblk:=hblk.up hS2
 refine D ?_
 have hsp:JI 18 a b (Z3Z (Zo K.c K.kn) a b).1=if 0<b then [(a+1,(Z3Z (Zo K.c K.kn) a b).1)] else if b<0 then [((Z3Z (Zo K.c K.kn) a b).1,a - 1)] else []:=rfl
 rw [hsp]
 by_cases he:(Z3Z (Zo K.c K.kn) a b).2=0
 by_cases hb0:b=0
 rw [if_neg (by omega),if_neg (by omega),XL]
 focus repeat'(first|refine W1 ?_|omega|refine VG ?_ ?_<;>intro hg|refine VC ?_ ?_<;>intro hc)
 refine CL rfl (J7 rfl rfl rfl) rfl (Js hK h1 hl _ _) ?_
 rintro _ w4 ⟨rfl,h3⟩
 refine W ?_
 refine WR ?_
 exact .mk ⟨rfl,h3⟩
 by_cases hb1:0<b
 rw [if_pos hb1]
 focus repeat'(first|refine W1 ?_|omega|refine VG ?_ ?_<;>intro hg|refine VC ?_ ?_<;>intro hc)
 refine Z0 (Z4G hK h1 hlp rfl rfl rfl) rfl ?_
 rintro _ w3 ⟨rfl,pv1,h2⟩
 refine W ?_
 refine CL rfl (J7 rfl rfl rfl) rfl (Js hK h2 hl _ _) ?_
 rintro _ w4 ⟨rfl,h3⟩
 refine W ?_
 refine WR ?_
 exact .mk ⟨rfl,h3⟩
 rw [if_neg hb1,if_pos (by omega)]
 focus repeat'(first|refine W1 ?_|omega|refine VG ?_ ?_<;>intro hg|refine VC ?_ ?_<;>intro hc)
 refine Z0 (Z4G hK h1 hlp rfl rfl rfl) rfl ?_
 rintro _ w3 ⟨rfl,pv1,h2⟩
 refine W ?_
 refine CL rfl (J7 rfl rfl rfl) rfl (Js hK h2 hl _ _) ?_
 rintro _ w4 ⟨rfl,h3⟩
 refine W ?_
 refine WR ?_
 exact .mk ⟨rfl,h3⟩
 focus repeat'(first|refine W1 ?_|omega|refine VG ?_ ?_<;>intro hg|refine VC ?_ ?_<;>intro hc)
 refine CL rfl (J7 rfl rfl rfl) rfl (Js hK h1 hl _ _) ?_
 rintro _ w4 ⟨rfl,h3⟩
 refine W ?_
 refine WR ?_
 exact .mk ⟨rfl,h3.err he⟩
end
abbrev Z8Z:List (Int×Value):=[(1,fnV 109),(2,fnV 109),(3,fnV 109),(4,fnV 110),
 (5,fnV 139),(6,fnV 140),(7,fnV 141),(8,fnV 142),
 (9,fnV 143),(10,fnV 144),(11,fnV 145),(12,fnV 146),
 (13,fnV 147),(14,fnV 148),(15,fnV 149),(16,fnV 150),
 (17,fnV 151),(18,fnV 152),(19,fnV 153),(20,fnV 154),
 (21,fnV 155),(22,fnV 156),(23,fnV 157),(24,fnV 158)]
theorem Z90 {x:Ins} {s nx:Shp} {st:List Int} (hn:Z2d x s=some nx) (hs:Ja s st):(JK x).2.2.2=true∧∃ st0 vs ts,st=st0++vs∧(ts=(JK x).1∨(JK x).2.1≠[]∧ts=(JK x).2.1)∧Ja ts vs:=by
 unfold Z2d at hn
 dsimp only at hn
 split at hn
 rename_i hc
 obtain ⟨c1,c2,c3,c4⟩:=hc
 exact ⟨c1,st.take (s.length - (JK x).1.length),st.drop (s.length - (JK x).1.length),_,(Xq _ _).symm,c3,hs.drop _⟩
 cases hn
def Jt (K:MK) (w:World) (x:Ins) (st:List Int) (sp:List Spn) (sv pv:Value) (at_:Int):Prop:=
 if x.op=24 then Mch K w sv pv st sp at_ 0 true
 else if x.op=13 then Mch K w sv pv st sp x.n 0 false
 else if x.op=14 then ∃ sv',Mch K w sv' pv st.dropLast sp (if JQ st 0=0 then x.n else at_) 0 false
 else Res K w (st.take (st.length - arM x.op)) (sp++JI x.op (JQ st 1) (JQ st 0) (ZY (Zo K.c K.kn) K.ev x (JQ st 1) (JQ st 0)).1) at_ (ZY (Zo K.c K.kn) K.ev x (JQ st 1) (JQ st 0))
theorem Z3w {t v:Int} (h:vOk t v):-2147483647≤v∧v≤2147483647:=by unfold vOk at h;omega
theorem Zmq {t u a b:Int} (ha:vOk t a) (hb:vOk u b):I64 (a * b):=by
 have h1:=Z3w ha
 have h2:=Z3w hb
 have h3:(a * b).natAbs≤2147483647 * 2147483647:=by rw [Int.natAbs_mul];exact Nat.mul_le_mul (by omega) (by omega)
 unfold I64
 omega
section
variable {K:MK} {w w':World} {sv pv:Value} {st:List Int} {sp:List Spn} {at_ er:Int} {dn:Bool}
set_option maxHeartbeats 2000000 in
theorem ZdW {P:Nat} {e:Env} {d:Option Nat} {ty:TypeId} {pos:String} {af:Array Edge} {g:Option (Nat×Bool)} {y1 y2 y3:Operand} {ts:Array TypeId} (hK:KOk K) {x:Ins} {s nx:Shp}
 (h:Mch K w sv pv st sp at_ 0 false) (hn:Z2d x s=some nx) (hs:Ja s st) (hl:st.length≤100000) (hlp:sp.length≤100000)
 (hx:ev e y1=some (Z3E Z8Z x.op .nilFunc)) (hy:ev e y2=some (mP K)) (hz:ev e y3=some (.int .i64 x.n)) :
 OE Tryz.prog P ⟨d,.call { callee:=.value y1,args:=#[y2,y3],argTypes:=ts },ty,pos,af,g⟩ e w (fun v w'=>v=.tuple #[]∧Jt K w' x st sp sv pv at_):=by
 obtain ⟨hx1,st0,vs,ts',rfl,hts,hvs⟩:=Z90 hn hs
 have hr:=Z5p hx1
 obtain ⟨op,n⟩:=x
 dsimp only at *
 have hl0:st0.length≤100000:=by rw [Xh] at hl;omega
 have hop:op=1∨op=2∨op=3∨op=4∨op=5∨op=6∨op=7∨op=8∨op=9∨op=10∨op=11∨op=12∨op=13∨op=14∨op=15∨op=16∨op=17∨op=18∨op=19∨op=20∨op=21∨op=22∨op=23∨op=24:=by omega
 rcases hop with rfl|rfl|rfl|rfl|rfl|rfl|rfl|rfl|rfl|rfl|rfl|rfl|rfl|rfl|rfl|rfl|rfl|rfl|rfl|rfl|rfl|rfl|rfl|rfl
 all_goals (simp [JK] at hx1 hts)
 all_goals (try subst hts)
 case inl|inr.inl|inr.inr.inl=>
  refine (Ze (f:=109) hx (Zb hy hz) (ZbZ hK h hl n)).mono ?_
  rintro v w' ⟨rfl,hres⟩
  refine ⟨rfl,?_⟩
  unfold Jt
  have et:List.take (st0.length+vs.length) (st0++vs)=st0++vs:=Xn (by simp)
  simpa [arM,JI,ZY,et] using hres
 case inr.inr.inr.inl=>
  refine (Ze (f:=110) hx (Zb hy hz) (Zc2 hK h hl n (by omega) (by omega))).mono ?_
  rintro v w' ⟨rfl,hres⟩
  refine ⟨rfl,?_⟩
  unfold Jt
  have et:List.take (st0.length+vs.length) (st0++vs)=st0++vs:=Xn (by simp)
  simpa [arM,JI,ZY,et] using hres
 case inr.inr.inr.inr.inl=>
  obtain ⟨a,b,rfl,ha,hb⟩:=hvs.two_inv
  refine (Ze (f:=139) hx (Zb hy hz) (Zmk hK h hl0 n (by have:=Z3w ha;have:=Z3w hb;unfold I64;omega))).mono ?_
  rintro v w' ⟨rfl,hres⟩
  refine ⟨rfl,?_⟩
  unfold Jt
  simpa [arM,JI,ZY,ZI,Zw] using hres
 case inr.inr.inr.inr.inr.inl=>
  obtain ⟨a,b,rfl,ha,hb⟩:=hvs.two_inv
  refine (Ze (f:=140) hx (Zb hy hz) (Zml hK h hl0 n (by have:=Z3w ha;have:=Z3w hb;unfold I64;omega))).mono ?_
  rintro v w' ⟨rfl,hres⟩
  refine ⟨rfl,?_⟩
  unfold Jt
  simpa [arM,JI,ZY,ZI,Zw] using hres
 case inr.inr.inr.inr.inr.inr.inl=>
  obtain ⟨a,b,rfl,ha,hb⟩:=hvs.two_inv
  refine (Ze (f:=141) hx (Zb hy hz) (Zmm hK h hl0 n (Zmq ha hb))).mono ?_
  rintro v w' ⟨rfl,hres⟩
  refine ⟨rfl,?_⟩
  unfold Jt
  simpa [arM,JI,ZY,ZI,Zw] using hres
 case inr.inr.inr.inr.inr.inr.inr.inr.inl=>
  obtain ⟨a,b,rfl⟩:∃ a b,vs=[a,b]:=by
   rcases hts with rfl|rfl
   all_goals
    obtain ⟨a,b,h1,-⟩:=hvs.two_inv
    exact ⟨a,b,h1⟩
  refine (Ze (f:=143) hx (Zb hy hz) (ltV hK h hl0 n trivial)).mono ?_
  rintro v w' ⟨rfl,hres⟩
  refine ⟨rfl,?_⟩
  unfold Jt
  simpa [arM,JI,ZY,ZI,Zw] using hres
 case inr.inr.inr.inr.inr.inr.inr.inr.inr.inl=>
  obtain ⟨a,b,rfl⟩:∃ a b,vs=[a,b]:=by
   rcases hts with rfl|rfl
   all_goals
    obtain ⟨a,b,h1,-⟩:=hvs.two_inv
    exact ⟨a,b,h1⟩
  refine (Ze (f:=144) hx (Zb hy hz) (leV hK h hl0 n trivial)).mono ?_
  rintro v w' ⟨rfl,hres⟩
  refine ⟨rfl,?_⟩
  unfold Jt
  simpa [arM,JI,ZY,ZI,Zw] using hres
 case inr.inr.inr.inr.inr.inr.inr.inr.inr.inr.inl=>
  obtain ⟨a,b,rfl⟩:∃ a b,vs=[a,b]:=by
   rcases hts with rfl|rfl
   all_goals
    obtain ⟨a,b,h1,-⟩:=hvs.two_inv
    exact ⟨a,b,h1⟩
  refine (Ze (f:=145) hx (Zb hy hz) (eqV hK h hl0 n trivial)).mono ?_
  rintro v w' ⟨rfl,hres⟩
  refine ⟨rfl,?_⟩
  unfold Jt
  simpa [arM,JI,ZY,ZI,Zw] using hres
 case inr.inr.inr.inr.inr.inr.inr.inr.inr.inr.inr.inr.inr.inr.inl=>
  obtain ⟨a,b,rfl,ha,hb⟩:=hvs.two_inv
  refine (Ze (f:=149) hx (Zb hy hz) (ZjQ hK h hl0 n (by have:=Z3w ha;have:=Z3w hb;unfold I64;omega))).mono ?_
  rintro v w' ⟨rfl,hres⟩
  refine ⟨rfl,?_⟩
  unfold Jt
  simpa [arM,JI,ZY,ZI,Zw] using hres
 case inr.inr.inr.inr.inr.inr.inr.inr.inr.inr.inr.inr.inr.inr.inr.inl=>
  obtain ⟨a,b,rfl,ha,hb⟩:=hvs.two_inv
  refine (Ze (f:=150) hx (Zb hy hz) (ZhF hK h hl0 n (by have:=Z3w ha;have:=Z3w hb;unfold I64;omega))).mono ?_
  rintro v w' ⟨rfl,hres⟩
  refine ⟨rfl,?_⟩
  unfold Jt
  simpa [arM,JI,ZY,ZI,Zw] using hres
 case inr.inr.inr.inr.inr.inr.inr.inr.inr.inr.inr.inr.inr.inr.inr.inr.inl=>
  obtain ⟨a,b,rfl,ha,hb⟩:=hvs.two_inv
  refine (Ze (f:=151) hx (Zb hy hz) (ZdV hK h hl0 n (Zx.2 ha.d))).mono ?_
  rintro v w' ⟨rfl,hres⟩
  refine ⟨rfl,?_⟩
  unfold Jt
  simpa [arM,JI,ZY,ZI,Zw] using hres
 case inr.inr.inr.inr.inr.inr.inr.inr.inr.inr.inr.inr.inr.inr.inr.inr.inr.inl=>
  obtain ⟨a,b,rfl,ha,hb⟩:=hvs.two_inv
  refine (Ze (f:=152) hx (Zb hy hz) (ZhJ hK h hl0 hlp n (Zx.2 ha.d))).mono ?_
  rintro v w' ⟨rfl,hres⟩
  refine ⟨rfl,?_⟩
  unfold Jt
  simpa [arM,JI,ZY,ZI,Zw] using hres
 case inr.inr.inr.inr.inr.inr.inr.inr.inr.inr.inr.inr.inr.inr.inr.inr.inr.inr.inr.inr.inl=>
  obtain ⟨a,b,rfl,ha,hb⟩:=hvs.two_inv
  refine (Ze (f:=155) hx (Zb hy hz) (ZhG hK h hl0 n trivial)).mono ?_
  rintro v w' ⟨rfl,hres⟩
  refine ⟨rfl,?_⟩
  unfold Jt
  simpa [arM,JI,ZY,ZI,Zw] using hres
 case inr.inr.inr.inr.inr.inr.inr.inr.inr.inr.inr.inr.inr.inr.inr.inr.inr.inr.inr.inr.inr.inl=>
  obtain ⟨a,b,rfl,ha,hb⟩:=hvs.two_inv
  refine (Ze (f:=156) hx (Zb hy hz) (Zc0 hK h hl0 n trivial)).mono ?_
  rintro v w' ⟨rfl,hres⟩
  refine ⟨rfl,?_⟩
  unfold Jt
  simpa [arM,JI,ZY,ZI,Zw] using hres
 case inr.inr.inr.inr.inr.inr.inr.inr.inr.inr.inr.inr.inr.inr.inr.inr.inr.inr.inr.inr.inr.inr.inl=>
  obtain ⟨a,b,rfl,ha,hb⟩:=hvs.two_inv
  refine (Ze (f:=157) hx (Zb hy hz) (Zc1 hK h hl0 n (by have:=Z3w ha;have:=Z3w hb;unfold I64;omega))).mono ?_
  rintro v w' ⟨rfl,hres⟩
  refine ⟨rfl,?_⟩
  unfold Jt
  have e:Z1N (b - a)=(b - a,0):=by
   have:=ha.d;have:=hb.d
   unfold Z1N
   rw [if_neg (by omega)]
  rw [e] at hres
  simpa [arM,JI,ZY,ZI,Zw] using hres
 case inr.inr.inr.inr.inr.inr.inr.inl=>
  obtain ⟨b,rfl,hb⟩:=hvs.one_inv
  refine (Ze (f:=142) hx (Zb hy hz) (Zmn hK h hl0 n (by have:=Z3w hb;unfold I64;omega))).mono ?_
  rintro v w' ⟨rfl,hres⟩
  refine ⟨rfl,?_⟩
  unfold Jt
  have e:Z1N (-b)=(-b,0):=by
   have:=Z3w hb
   unfold Z1N
   rw [if_neg (by omega)]
  rw [e] at hres
  simpa [arM,JI,ZY,Z1p,Z0n] using hres
 case inr.inr.inr.inr.inr.inr.inr.inr.inr.inr.inr.inl=>
  obtain ⟨b,rfl,hb⟩:=hvs.one_inv
  refine (Ze (f:=146) hx (Zb hy hz) (Zmo hK h hl0 n)).mono ?_
  rintro v w' ⟨rfl,hres⟩
  refine ⟨rfl,?_⟩
  unfold Jt
  have e:ZQ (decide (b=0))=1 - b:=by
   rcases hb.b with rfl|rfl<;>rfl
  rw [e] at hres
  simpa [arM,JI,ZY,Z1p,Z0n] using hres
 case inr.inr.inr.inr.inr.inr.inr.inr.inr.inr.inr.inr.inr.inr.inr.inr.inr.inr.inl=>
  obtain ⟨b,rfl,hb⟩:=hvs.one_inv
  refine (Ze (f:=153) hx (Zb hy hz) (ZjY hK h hl0 hlp n)).mono ?_
  rintro v w' ⟨rfl,hres⟩
  refine ⟨rfl,?_⟩
  unfold Jt
  simpa [arM,JI,ZY,Z1p,Z0n] using hres
 case inr.inr.inr.inr.inr.inr.inr.inr.inr.inr.inr.inr.inr.inr.inr.inr.inr.inr.inr.inl=>
  obtain ⟨b,rfl,hb⟩:=hvs.one_inv
  refine (Ze (f:=154) hx (Zb hy hz) (ZjZ hK h hl0 hlp n)).mono ?_
  rintro v w' ⟨rfl,hres⟩
  refine ⟨rfl,?_⟩
  unfold Jt
  simpa [arM,JI,ZY,Z1p,Z0n] using hres
 case inr.inr.inr.inr.inr.inr.inr.inr.inr.inr.inr.inr.inl=>
  refine (Ze (f:=147) hx (Zb hy hz) (ZjR hK h n)).mono ?_
  rintro v w' ⟨rfl,hres⟩
  refine ⟨rfl,?_⟩
  unfold Jt
  simpa using hres
 case inr.inr.inr.inr.inr.inr.inr.inr.inr.inr.inr.inr.inr.inl=>
  obtain ⟨b,rfl,hb⟩:=hvs.one_inv
  refine (Ze (f:=148) hx (Zb hy hz) (ZdJ hK h n)).mono ?_
  rintro v w' ⟨rfl,hres⟩
  refine ⟨rfl,?_⟩
  unfold Jt
  simpa [Z0n] using hres
 case inr.inr.inr.inr.inr.inr.inr.inr.inr.inr.inr.inr.inr.inr.inr.inr.inr.inr.inr.inr.inr.inr.inr=>
  refine (Ze (f:=158) hx (Zb hy hz) (ZjS hK h n)).mono ?_
  rintro v w' ⟨rfl,hres⟩
  refine ⟨rfl,?_⟩
  unfold Jt
  simpa using hres
end
structure FId where
 f:Nat
deriving DecidableEq
instance:Z5 FId where
 k:=1
 enc:=fun x=>[fnV x.f]
 len:=fun _=>rfl
 one:=by intro x u hu;simp at hu;subst hu;rfl
def Z73 {β:Type} [Z5 β] (X:List Nat) (w:World) (r:Nat) (es:List (Str×List β)):Prop:=
 ∃ l:List (Str×Value),Z0e str w r l∧l.length=es.length∧∀ i (h:i<l.length) (h':i<es.length),l[i].1=es[i].1∧SlV (r :: X) w l[i].2 es[i].2
theorem Z73.up {β:Type} [Z5 β] {X:List Nat} {w w':World} {r:Nat} {es:List (Str×List β)} (h:Z73 X w r es) (hS:Stp [] w w'):Z73 X w' r es:=by
 obtain ⟨l,h1,h2,h3⟩:=h
 exact ⟨l,h1.up hS,h2,fun i h h'=>⟨(h3 i h h').1,(h3 i h h').2.up hS⟩⟩
theorem ZN {β:Type} [Z5 β] {P:Program} {n:Nat} {e:Env} {w:World} {d:Option Nat} {ty:TypeId} {pos:String} {af:Array Edge} {g:Option (Nat×Bool)} {mt kt et r:Nat} {x y z:Operand} [hm:Und P mt (.map kt et)] [hk:Und P kt .string] {X:List Nat} {es:List (Str×List β)} {a:Str} {v:Value} {xs:List β} (hx:ev e x=some (.map (some r))) (hy:ev e y=some (str a)) (hz:ev e z=some v)
 (hr:Z73 X w r es) (hv:SlV (r :: X) w v xs) (hn:∀ p∈es,¬ p.1=a):OE P n ⟨d,.insert mt x y z,ty,pos,af,g⟩ e w (fun _ w'=>Z73 X w' r (es++[(a,xs)])∧Stp [r] w w'):=by
 obtain ⟨l,h1,h2,h3⟩:=hr
 have hfr:∀ p∈l,¬ p.1=a:=by
  intro p hp
  obtain ⟨i,hi,rfl⟩:=Xj hp
  rw [(h3 i hi (by omega)).1]
  exact hn _ (Xm _)
 refine (JD (K:=inferInstance) hx hy hz h1 hfr).mono ?_
 rintro _ w' ⟨g1,g2⟩
 refine ⟨⟨_,g1,by simp [h2],fun i h h'=>?_⟩,g2⟩
 by_cases hi:i<l.length
 have hi':i<es.length:=by omega
 rw [XB hi,XB hi']
 exact ⟨(h3 i hi hi').1,(h3 i hi hi').2.on g2 (by simp)⟩
 have hil:i=l.length:=by simp at h;omega
 subst hil
 rw [Xz (Xk _),Xz (by omega)]
 simp only [Nat.sub_self,h2,List.getElem_cons_zero]
 exact ⟨trivial,hv.on g2 (by simp)⟩
def ZhK {β:Type} (es:List (Str×List β)) (s:Str):List β:=match es.find? (fun p=>decide (p.1=s)) with|some p=>p.2|none=>[]
theorem Z73.get {β:Type} [Z5 β] {X:List Nat} {w:World} {m:Nat} {es:List (Str×List β)} (h:Z73 X w m es) (s:Str):∃ l:List (Str×Value),Z0e str w m l∧SlV X w (Z3E l s (.slice none 0 0)) (ZhK es s):=by
 obtain ⟨l,h1,h2,h3⟩:=h
 refine ⟨l,h1,?_⟩
 unfold Z3E ZhK
 have hf:(l.find? (fun p=>decide (p.1=s))=none∧es.find? (fun p=>decide (p.1=s))=none)∨∃ i,∃ (h:i<l.length) (h':i<es.length),l.find? (fun p=>decide (p.1=s))=some l[i]∧es.find? (fun p=>decide (p.1=s))=some es[i]:=by
  cases hq:l.find? (fun p=>decide (p.1=s)) with
  | none=>
    left
    refine ⟨rfl,?_⟩
    rw [List.find?_eq_none]
    intro p hp
    obtain ⟨i,hi,rfl⟩:=Xj hp
    have:=List.find?_eq_none.1 hq l[i] (Xm (by omega))
    rwa [(h3 i (by omega) hi).1] at this
  | some p=>
    right
    obtain ⟨hp,i,hi,rfl,hb⟩:=List.find?_eq_some_iff_getElem.1 hq
    refine ⟨i,hi,by omega,rfl,?_⟩
    rw [List.find?_eq_some_iff_getElem]
    refine ⟨by rw [← (h3 i hi (by omega)).1];exact hp,i,by omega,rfl,fun j hj=>?_⟩
    rw [← (h3 j (by omega) (by omega)).1]
    exact hb j hj
 rcases hf with ⟨e1,e2⟩|⟨i,h,h',e1,e2⟩
 rw [e1,e2]
 exact ⟨none,0,rfl,Xk _,by simp [maxLen],fun _=>rfl,fun i h=>absurd h (Xs _)⟩
 rw [e1,e2]
 exact (h3 i h h').2.ext (Stp.refl [] w) (by simp) (fun b hb=>.inl (XH _ hb))
theorem J4 (f:Nat) (w:World):(Instr.buildSlice 204 1 #[(0,fnV f)]).run Tryz.prog w=.ok (.slice (some ⟨w.heap.size,0,none⟩) 1 1) (w.alloc (.cells #[fnV f] 159)):=by kernel_rfl
theorem Z3x (f g:Nat) (w:World):(Instr.buildSlice 204 2 #[(0,fnV f),(1,fnV g)]).run Tryz.prog w=.ok (.slice (some ⟨w.heap.size,0,none⟩) 2 2) (w.alloc (.cells #[fnV f,fnV g] 159)):=by kernel_rfl
def Zk0:List (Str×List FId):=[([43],[⟨139⟩]),([45],[⟨140⟩]),([42],[⟨141⟩]),([60],[⟨143⟩]),([60,61],[⟨144⟩]),([61],[⟨145⟩]),([62],[⟨144⟩,⟨146⟩]),([62,61],[⟨143⟩,⟨146⟩]),([33,61],[⟨145⟩,⟨146⟩]),([110,101,120,116],[⟨153⟩]),([112,114,101,118],[⟨154⟩]),([108,97,116,101,114],[⟨155⟩]),([101,97,114,108,105,101,114],[⟨156⟩]),([98,101,116,119,101,101,110],[⟨157⟩])]
def Zcd:List (Str×Value):=[([100,97,121,115],fnV 149),([119,101,101,107,115],fnV 150),([109,111,110,116,104,115],fnV 151),([99,111,117,114,116,100,97,121,115],fnV 152)]
def Z8c (s:Str):Nat:=if s=[100,97,121,115] then 149 else if s=[119,101,101,107,115] then 150 else if s=[109,111,110,116,104,115] then 151 else 152
theorem Z8d (s:Str) (hs:s∈Z2A):Z3E Zcd s .nilFunc=fnV (Z8c s):=by
 simp only [Z2A,Xd,Xv,or_false] at hs
 rcases hs with rfl|rfl|rfl|rfl<;>rfl
def Z74 (k:Int) (s:Str):List FId:=if k=7∨k=8 then (if k=8 then [⟨142⟩,⟨Z8c s⟩] else [⟨Z8c s⟩]) else if k=5 then [if s=[110,111,116] then ⟨146⟩ else ⟨142⟩] else ZhK Zk0 s
set_option maxHeartbeats 1000000 in
theorem Z5u (X:List Nat) (k n:Int) (s:Str) (kv:Value) (w:World) (hX:∀ b∈X,b<w.heap.size) (hu:k=7∨k=8→s∈Z2A) :
 CC 112 #[.agg #[.int .i64 k,.int .i64 n,str s,kv]] w fun r w'=>SlV X w' r (Z74 k s)∧Stp [] w w':=by
 refine cW1 47 Tryz.func112 ?_
 refine W ?_
 refine Z0 (Zl rfl) rfl ?_
 rintro _ w1 ⟨b1,rfl,hb1,hblk,hS⟩
 replace hblk:Blk w1 b1 27 [.int .i64 k,.int .i64 n,str s,kv]:=hblk
 unfold Z74
 by_cases h78:k=7∨k=8
 rw [if_pos h78]
 have hsu:=hu h78
 rcases h78 with rfl|rfl
 rw [(if_neg (by decide))]
 refine W ?_
 refine Z0 (Z2O str) rfl ?_
 rintro _ w2 ⟨m,rfl,hm,hmap,hS2⟩
 have hmb:b1<m:=by have:=hblk.lt;omega
 replace hblk:=hblk.up hS2
 have hmw:w.heap.size≤m:=by have:=hS.size;omega
 replace hS:=hS.trans hS2
 clear hS2
 refine Z1 (JD (a:=[100,97,121,115]) rfl rfl rfl hmap (by decide)) ?_
 clear hmap
 rintro _ w3 ⟨hmap,hT⟩
 replace hblk:=hblk.ext hT (by simp;omega)
 replace hS:=hS.own hT (fun c hc=>.inr (by simp at hc;omega))
 clear hT
 refine Z1 (JD (a:=[119,101,101,107,115]) rfl rfl rfl hmap (by decide)) ?_
 clear hmap
 rintro _ w3 ⟨hmap,hT⟩
 replace hblk:=hblk.ext hT (by simp;omega)
 replace hS:=hS.own hT (fun c hc=>.inr (by simp at hc;omega))
 clear hT
 refine Z1 (JD (a:=[109,111,110,116,104,115]) rfl rfl rfl hmap (by decide)) ?_
 clear hmap
 rintro _ w3 ⟨hmap,hT⟩
 replace hblk:=hblk.ext hT (by simp;omega)
 replace hS:=hS.own hT (fun c hc=>.inr (by simp at hc;omega))
 clear hT
 refine Z1 (JD (a:=[99,111,117,114,116,100,97,121,115]) rfl rfl rfl hmap (by decide)) ?_
 clear hmap
 rintro _ w3 ⟨hmap,hT⟩
 replace hblk:=hblk.ext hT (by simp;omega)
 replace hS:=hS.own hT (fun c hc=>.inr (by simp at hc;omega))
 clear hT
 have hmap2:Z0e str w3 m Zcd:=hmap
 refine W ?_
 refine Z7 (Z3F rfl rfl hmap2) rfl ?_
 rw [Z8d s hsu]
 refine W ?_
 have hz:=hS.size
 refine Z0 (Z3 (vs:=[(0,fnV (Z8c s))]) rfl (J4 _)) rfl ?_
 rintro bv w4 hN
 refine W ?_
 refine WR ?_
 exact .mk ⟨hN.slv (fun b hb=>by have:=hX b hb;omega) rfl rfl (by simp [maxLen]),hS.trans (ZA.stp hN)⟩
 rw [(if_pos rfl)]
 refine W ?_
 refine Z0 (Z2O str) rfl ?_
 rintro _ w2 ⟨m,rfl,hm,hmap,hS2⟩
 have hmb:b1<m:=by have:=hblk.lt;omega
 replace hblk:=hblk.up hS2
 have hmw:w.heap.size≤m:=by have:=hS.size;omega
 replace hS:=hS.trans hS2
 clear hS2
 refine Z1 (JD (a:=[100,97,121,115]) rfl rfl rfl hmap (by decide)) ?_
 clear hmap
 rintro _ w3 ⟨hmap,hT⟩
 replace hblk:=hblk.ext hT (by simp;omega)
 replace hS:=hS.own hT (fun c hc=>.inr (by simp at hc;omega))
 clear hT
 refine Z1 (JD (a:=[119,101,101,107,115]) rfl rfl rfl hmap (by decide)) ?_
 clear hmap
 rintro _ w3 ⟨hmap,hT⟩
 replace hblk:=hblk.ext hT (by simp;omega)
 replace hS:=hS.own hT (fun c hc=>.inr (by simp at hc;omega))
 clear hT
 refine Z1 (JD (a:=[109,111,110,116,104,115]) rfl rfl rfl hmap (by decide)) ?_
 clear hmap
 rintro _ w3 ⟨hmap,hT⟩
 replace hblk:=hblk.ext hT (by simp;omega)
 replace hS:=hS.own hT (fun c hc=>.inr (by simp at hc;omega))
 clear hT
 refine Z1 (JD (a:=[99,111,117,114,116,100,97,121,115]) rfl rfl rfl hmap (by decide)) ?_
 clear hmap
 rintro _ w3 ⟨hmap,hT⟩
 replace hblk:=hblk.ext hT (by simp;omega)
 replace hS:=hS.own hT (fun c hc=>.inr (by simp at hc;omega))
 clear hT
 have hmap2:Z0e str w3 m Zcd:=hmap
 refine W ?_
 refine Z7 (Z3F rfl rfl hmap2) rfl ?_
 rw [Z8d s hsu]
 refine W ?_
 have hz:=hS.size
 refine Z0 (Z3 (vs:=[(0,fnV 142),(1,fnV (Z8c s))]) rfl (Z3x _ _)) rfl ?_
 rintro bv w4 hN
 refine W ?_
 refine WR ?_
 exact .mk ⟨hN.slv (fun b hb=>by have:=hX b hb;omega) rfl rfl (by simp [maxLen]),hS.trans (ZA.stp hN)⟩
 rw [if_neg h78]
 by_cases h5:k=5
 rw [if_pos h5]
 subst h5
 have hz:=hS.size
 by_cases hs:s=[110,111,116]
 rw [if_pos hs]
 subst hs
 refine W ?_
 refine Z0 (Z3 (vs:=[(0,fnV 146)]) rfl (J4 _)) rfl ?_
 rintro bv w4 hN
 refine W ?_
 refine WR ?_
 exact .mk ⟨hN.slv (fun b hb=>by have:=hX b hb;omega) rfl rfl (by simp [maxLen]),hS.trans (ZA.stp hN)⟩
 rw [if_neg hs]
 have hd:decide (s=[110,111,116])=false:=decide_eq_false hs
 refine W ?_
 rw [hd]
 refine W ?_
 refine Z0 (Z3 (vs:=[(0,fnV 142)]) rfl (J4 _)) rfl ?_
 rintro bv w4 hN
 refine W ?_
 refine WR ?_
 exact .mk ⟨hN.slv (fun b hb=>by have:=hX b hb;omega) rfl rfl (by simp [maxLen]),hS.trans (ZA.stp hN)⟩
 rw [if_neg h5]
 repeat'(first|refine W1 ?_|omega|refine VG ?_ ?_<;>intro hg|refine VC ?_ ?_<;>intro hc)
 refine Z0 (Z2O str) rfl ?_
 rintro _ w2 ⟨m,rfl,hm,hmap,hS2⟩
 have hmp:Z73 X w2 m ([]:List (Str×List FId)):=⟨[],hmap,rfl,fun i h=>absurd h (Xs _)⟩
 have hml:=hmap.lt
 have hmb:b1<m:=by have:=hblk.lt;omega
 have hmw:w.heap.size≤m:=by have:=hS.size;omega
 have hXw:∀ b∈m :: X,b≤m:=fun b hb=>(Xd.1 hb).elim (fun h=>by omega) (fun h=>by have:=hX b h;omega)
 clear hmap
 replace hblk:=hblk.up hS2
 replace hS:=hS.trans hS2
 clear hS2
 refine Z0 (Z3 (vs:=[(0,fnV 139)]) rfl (J4 _)) rfl ?_
 rintro bv w2 hN
 have hbv:SlV (m :: X) w2 bv [(⟨139⟩:FId)]:=hN.slv (fun b hb=>by have:=hXw b hb;omega) rfl rfl (by simp [maxLen])
 have hS2:=ZA.stp hN
 clear hN
 replace hmp:=hmp.up hS2
 have hml2:=hS2.size
 refine Z1 (ZN (a:=[43]) rfl rfl rfl hmp hbv (by decide)) ?_
 clear hmp
 rintro _ w3 ⟨hmp,hS3⟩
 have hml3:=hS3.size
 replace hml:=Xb (Xb hml hml2) hml3
 replace hblk:=(hblk.up hS2).ext hS3 (by simp;omega)
 replace hS:=(hS.trans hS2).own hS3 (fun b hb=>.inr (by simp at hb;omega))
 clear hS2 hS3 hbv hml2 hml3
 refine Z0 (Z3 (vs:=[(0,fnV 140)]) rfl (J4 _)) rfl ?_
 rintro bv w2 hN
 have hbv:SlV (m :: X) w2 bv [(⟨140⟩:FId)]:=hN.slv (fun b hb=>by have:=hXw b hb;omega) rfl rfl (by simp [maxLen])
 have hS2:=ZA.stp hN
 clear hN
 replace hmp:=hmp.up hS2
 have hml2:=hS2.size
 refine Z1 (ZN (a:=[45]) rfl rfl rfl hmp hbv (by decide)) ?_
 clear hmp
 rintro _ w3 ⟨hmp,hS3⟩
 have hml3:=hS3.size
 replace hml:=Xb (Xb hml hml2) hml3
 replace hblk:=(hblk.up hS2).ext hS3 (by simp;omega)
 replace hS:=(hS.trans hS2).own hS3 (fun b hb=>.inr (by simp at hb;omega))
 clear hS2 hS3 hbv hml2 hml3
 refine Z0 (Z3 (vs:=[(0,fnV 141)]) rfl (J4 _)) rfl ?_
 rintro bv w2 hN
 have hbv:SlV (m :: X) w2 bv [(⟨141⟩:FId)]:=hN.slv (fun b hb=>by have:=hXw b hb;omega) rfl rfl (by simp [maxLen])
 have hS2:=ZA.stp hN
 clear hN
 replace hmp:=hmp.up hS2
 have hml2:=hS2.size
 refine Z1 (ZN (a:=[42]) rfl rfl rfl hmp hbv (by decide)) ?_
 clear hmp
 rintro _ w3 ⟨hmp,hS3⟩
 have hml3:=hS3.size
 replace hml:=Xb (Xb hml hml2) hml3
 replace hblk:=(hblk.up hS2).ext hS3 (by simp;omega)
 replace hS:=(hS.trans hS2).own hS3 (fun b hb=>.inr (by simp at hb;omega))
 clear hS2 hS3 hbv hml2 hml3
 refine Z0 (Z3 (vs:=[(0,fnV 143)]) rfl (J4 _)) rfl ?_
 rintro bv w2 hN
 have hbv:SlV (m :: X) w2 bv [(⟨143⟩:FId)]:=hN.slv (fun b hb=>by have:=hXw b hb;omega) rfl rfl (by simp [maxLen])
 have hS2:=ZA.stp hN
 clear hN
 replace hmp:=hmp.up hS2
 have hml2:=hS2.size
 refine Z1 (ZN (a:=[60]) rfl rfl rfl hmp hbv (by decide)) ?_
 clear hmp
 rintro _ w3 ⟨hmp,hS3⟩
 have hml3:=hS3.size
 replace hml:=Xb (Xb hml hml2) hml3
 replace hblk:=(hblk.up hS2).ext hS3 (by simp;omega)
 replace hS:=(hS.trans hS2).own hS3 (fun b hb=>.inr (by simp at hb;omega))
 clear hS2 hS3 hbv hml2 hml3
 refine Z0 (Z3 (vs:=[(0,fnV 144)]) rfl (J4 _)) rfl ?_
 rintro bv w2 hN
 have hbv:SlV (m :: X) w2 bv [(⟨144⟩:FId)]:=hN.slv (fun b hb=>by have:=hXw b hb;omega) rfl rfl (by simp [maxLen])
 have hS2:=ZA.stp hN
 clear hN
 replace hmp:=hmp.up hS2
 have hml2:=hS2.size
 refine Z1 (ZN (a:=[60,61]) rfl rfl rfl hmp hbv (by decide)) ?_
 clear hmp
 rintro _ w3 ⟨hmp,hS3⟩
 have hml3:=hS3.size
 replace hml:=Xb (Xb hml hml2) hml3
 replace hblk:=(hblk.up hS2).ext hS3 (by simp;omega)
 replace hS:=(hS.trans hS2).own hS3 (fun b hb=>.inr (by simp at hb;omega))
 clear hS2 hS3 hbv hml2 hml3
 refine Z0 (Z3 (vs:=[(0,fnV 145)]) rfl (J4 _)) rfl ?_
 rintro bv w2 hN
 have hbv:SlV (m :: X) w2 bv [(⟨145⟩:FId)]:=hN.slv (fun b hb=>by have:=hXw b hb;omega) rfl rfl (by simp [maxLen])
 have hS2:=ZA.stp hN
 clear hN
 replace hmp:=hmp.up hS2
 have hml2:=hS2.size
 refine Z1 (ZN (a:=[61]) rfl rfl rfl hmp hbv (by decide)) ?_
 clear hmp
 rintro _ w3 ⟨hmp,hS3⟩
 have hml3:=hS3.size
 replace hml:=Xb (Xb hml hml2) hml3
 replace hblk:=(hblk.up hS2).ext hS3 (by simp;omega)
 replace hS:=(hS.trans hS2).own hS3 (fun b hb=>.inr (by simp at hb;omega))
 clear hS2 hS3 hbv hml2 hml3
 refine Z0 (Z3 (vs:=[(0,fnV 144),(1,fnV 146)]) rfl (Z3x _ _)) rfl ?_
 rintro bv w2 hN
 have hbv:SlV (m :: X) w2 bv [(⟨144⟩:FId),(⟨146⟩:FId)]:=hN.slv (fun b hb=>by have:=hXw b hb;omega) rfl rfl (by simp [maxLen])
 have hS2:=ZA.stp hN
 clear hN
 replace hmp:=hmp.up hS2
 have hml2:=hS2.size
 refine Z1 (ZN (a:=[62]) rfl rfl rfl hmp hbv (by decide)) ?_
 clear hmp
 rintro _ w3 ⟨hmp,hS3⟩
 have hml3:=hS3.size
 replace hml:=Xb (Xb hml hml2) hml3
 replace hblk:=(hblk.up hS2).ext hS3 (by simp;omega)
 replace hS:=(hS.trans hS2).own hS3 (fun b hb=>.inr (by simp at hb;omega))
 clear hS2 hS3 hbv hml2 hml3
 refine Z0 (Z3 (vs:=[(0,fnV 143),(1,fnV 146)]) rfl (Z3x _ _)) rfl ?_
 rintro bv w2 hN
 have hbv:SlV (m :: X) w2 bv [(⟨143⟩:FId),(⟨146⟩:FId)]:=hN.slv (fun b hb=>by have:=hXw b hb;omega) rfl rfl (by simp [maxLen])
 have hS2:=ZA.stp hN
 clear hN
 replace hmp:=hmp.up hS2
 have hml2:=hS2.size
 refine Z1 (ZN (a:=[62,61]) rfl rfl rfl hmp hbv (by decide)) ?_
 clear hmp
 rintro _ w3 ⟨hmp,hS3⟩
 have hml3:=hS3.size
 replace hml:=Xb (Xb hml hml2) hml3
 replace hblk:=(hblk.up hS2).ext hS3 (by simp;omega)
 replace hS:=(hS.trans hS2).own hS3 (fun b hb=>.inr (by simp at hb;omega))
 clear hS2 hS3 hbv hml2 hml3
 refine Z0 (Z3 (vs:=[(0,fnV 145),(1,fnV 146)]) rfl (Z3x _ _)) rfl ?_
 rintro bv w2 hN
 have hbv:SlV (m :: X) w2 bv [(⟨145⟩:FId),(⟨146⟩:FId)]:=hN.slv (fun b hb=>by have:=hXw b hb;omega) rfl rfl (by simp [maxLen])
 have hS2:=ZA.stp hN
 clear hN
 replace hmp:=hmp.up hS2
 have hml2:=hS2.size
 refine Z1 (ZN (a:=[33,61]) rfl rfl rfl hmp hbv (by decide)) ?_
 clear hmp
 rintro _ w3 ⟨hmp,hS3⟩
 have hml3:=hS3.size
 replace hml:=Xb (Xb hml hml2) hml3
 replace hblk:=(hblk.up hS2).ext hS3 (by simp;omega)
 replace hS:=(hS.trans hS2).own hS3 (fun b hb=>.inr (by simp at hb;omega))
 clear hS2 hS3 hbv hml2 hml3
 refine Z0 (Z3 (vs:=[(0,fnV 153)]) rfl (J4 _)) rfl ?_
 rintro bv w2 hN
 have hbv:SlV (m :: X) w2 bv [(⟨153⟩:FId)]:=hN.slv (fun b hb=>by have:=hXw b hb;omega) rfl rfl (by simp [maxLen])
 have hS2:=ZA.stp hN
 clear hN
 replace hmp:=hmp.up hS2
 have hml2:=hS2.size
 refine Z1 (ZN (a:=[110,101,120,116]) rfl rfl rfl hmp hbv (by decide)) ?_
 clear hmp
 rintro _ w3 ⟨hmp,hS3⟩
 have hml3:=hS3.size
 replace hml:=Xb (Xb hml hml2) hml3
 replace hblk:=(hblk.up hS2).ext hS3 (by simp;omega)
 replace hS:=(hS.trans hS2).own hS3 (fun b hb=>.inr (by simp at hb;omega))
 clear hS2 hS3 hbv hml2 hml3
 refine Z0 (Z3 (vs:=[(0,fnV 154)]) rfl (J4 _)) rfl ?_
 rintro bv w2 hN
 have hbv:SlV (m :: X) w2 bv [(⟨154⟩:FId)]:=hN.slv (fun b hb=>by have:=hXw b hb;omega) rfl rfl (by simp [maxLen])
 have hS2:=ZA.stp hN
 clear hN
 replace hmp:=hmp.up hS2
 have hml2:=hS2.size
 refine Z1 (ZN (a:=[112,114,101,118]) rfl rfl rfl hmp hbv (by decide)) ?_
 clear hmp
 rintro _ w3 ⟨hmp,hS3⟩
 have hml3:=hS3.size
 replace hml:=Xb (Xb hml hml2) hml3
 replace hblk:=(hblk.up hS2).ext hS3 (by simp;omega)
 replace hS:=(hS.trans hS2).own hS3 (fun b hb=>.inr (by simp at hb;omega))
 clear hS2 hS3 hbv hml2 hml3
 refine Z0 (Z3 (vs:=[(0,fnV 155)]) rfl (J4 _)) rfl ?_
 rintro bv w2 hN
 have hbv:SlV (m :: X) w2 bv [(⟨155⟩:FId)]:=hN.slv (fun b hb=>by have:=hXw b hb;omega) rfl rfl (by simp [maxLen])
 have hS2:=ZA.stp hN
 clear hN
 replace hmp:=hmp.up hS2
 have hml2:=hS2.size
 refine Z1 (ZN (a:=[108,97,116,101,114]) rfl rfl rfl hmp hbv (by decide)) ?_
 clear hmp
 rintro _ w3 ⟨hmp,hS3⟩
 have hml3:=hS3.size
 replace hml:=Xb (Xb hml hml2) hml3
 replace hblk:=(hblk.up hS2).ext hS3 (by simp;omega)
 replace hS:=(hS.trans hS2).own hS3 (fun b hb=>.inr (by simp at hb;omega))
 clear hS2 hS3 hbv hml2 hml3
 refine Z0 (Z3 (vs:=[(0,fnV 156)]) rfl (J4 _)) rfl ?_
 rintro bv w2 hN
 have hbv:SlV (m :: X) w2 bv [(⟨156⟩:FId)]:=hN.slv (fun b hb=>by have:=hXw b hb;omega) rfl rfl (by simp [maxLen])
 have hS2:=ZA.stp hN
 clear hN
 replace hmp:=hmp.up hS2
 have hml2:=hS2.size
 refine Z1 (ZN (a:=[101,97,114,108,105,101,114]) rfl rfl rfl hmp hbv (by decide)) ?_
 clear hmp
 rintro _ w3 ⟨hmp,hS3⟩
 have hml3:=hS3.size
 replace hml:=Xb (Xb hml hml2) hml3
 replace hblk:=(hblk.up hS2).ext hS3 (by simp;omega)
 replace hS:=(hS.trans hS2).own hS3 (fun b hb=>.inr (by simp at hb;omega))
 clear hS2 hS3 hbv hml2 hml3
 refine Z0 (Z3 (vs:=[(0,fnV 157)]) rfl (J4 _)) rfl ?_
 rintro bv w2 hN
 have hbv:SlV (m :: X) w2 bv [(⟨157⟩:FId)]:=hN.slv (fun b hb=>by have:=hXw b hb;omega) rfl rfl (by simp [maxLen])
 have hS2:=ZA.stp hN
 clear hN
 replace hmp:=hmp.up hS2
 have hml2:=hS2.size
 refine Z1 (ZN (a:=[98,101,116,119,101,101,110]) rfl rfl rfl hmp hbv (by decide)) ?_
 clear hmp
 rintro _ w3 ⟨hmp,hS3⟩
 have hml3:=hS3.size
 replace hml:=Xb (Xb hml hml2) hml3
 replace hblk:=(hblk.up hS2).ext hS3 (by simp;omega)
 replace hS:=(hS.trans hS2).own hS3 (fun b hb=>.inr (by simp at hb;omega))
 clear hS2 hS3 hbv hml2 hml3
 have hmp2:Z73 X w3 m Zk0:=hmp
 obtain ⟨l,hl,hsl⟩:=hmp2.get s
 refine W ?_
 refine Z7 (Z3F rfl rfl hl) rfl ?_
 refine W ?_
 refine WR ?_
 exact .mk ⟨hsl,hS⟩
theorem Zce (a b c d e f g:Str) (w:World):(Instr.buildSlice 119 7 #[(0,str a),(1,str b),(2,str c),(3,str d),(4,str e),(5,str f),(6,str g)]).run Tryz.prog w=.ok (.slice (some ⟨w.heap.size,0,none⟩) 7 7) (w.alloc (.cells #[str a,str b,str c,str d,str e,str f,str g] 9)):=by kernel_rfl
theorem Zcf:∀ i,i<7→∀ j,j<i→Zj.getD j []≠Zj.getD i []:=by decide +kernel
theorem Z8e (i:Nat) (hi:i<Zj.length):Zj[i]=Zj.getD i []:=by simp [List.getD,hi]
theorem Z4x (i:Nat) (hi:i<7) (w:World):CC 111 #[str (Zj.getD i [])] w fun r w'=>r=.int .i64 (i:Int)∧Stp [] w w':=by
 have hl7:Zj.length=7:=rfl
 refine cW1 17 Tryz.func111 ?_
 refine W ?_
 refine Z0 (Z3 (vs:=[(0,str [100,97,121]),(1,str [115,101,114,118,101,100]),(2,str [101,120,116,114,97]),(3,str [98,121]),(4,str [116,111]),(5,str [99,111,117,114,116]),(6,str [97,109,111,117,110,116])]) rfl (Zce _ _ _ _ _ _ _)) rfl ?_
 rintro sv w1 hN
 have hsv:SlV [] w1 sv Zj:=hN.slv (by simp) rfl rfl (by simp [maxLen,hl7])
 have hS:=ZA.stp hN
 clear hN
 refine W ?_
 refine Zh (σ:=Nat) (fun q=>[(0,str (Zj.getD i [])),(5,sv),(6,.int .i64 (Zj.length:Int)),(7,.int .i64 (q:Int))]) (fun q w'=>q≤i∧w'=w1) (fun q=>7 - q) 0 ⟨rfl,rfl,rfl,rfl,trivial⟩ ⟨Xo _,rfl⟩ ?_
 rintro q _ ⟨hq,rfl⟩
 have hql:q<Zj.length:=by omega
 have hqi:(q:Int)<(Zj.length:Int):=by omega
 by_cases hqe:q=i
 subst hqe
 focus repeat'(first|refine W1 ?_|omega|refine VG ?_ ?_<;>intro hg|refine VC ?_ ?_<;>intro hc)
 refine WR ?_
 exact .mk ⟨rfl,hS⟩
 rename_i hc
 exact absurd (Z8e q hql) hc
 focus repeat'(first|refine W1 ?_|omega|refine VG ?_ ?_<;>intro hg|refine VC ?_ ?_<;>intro hc)
 rename_i hc
 exact absurd ((Z8e q hql).symm.trans hc) (Zcf i hi q (by omega))
 exact Zd (q+1) ⟨rfl,rfl,rfl,rfl,trivial⟩ ⟨by omega,rfl⟩ (by omega)
abbrev ZdX (ev:List Int):Value:=.agg (evC ev).toArray
theorem ZdY (ev:List Int) (c:Cal) (hv cv zo zs hr:Value) (kn:Int) (w:World) :
 (Instr.build 126 #[(0, ZdX ev), (1, Z4w c hv cv zo zs hr), (2, .int .i64 kn), (7, .func (.func 57) #[] #[])]).run Tryz.prog w
   = .ok (.agg (evC ev++Z0d c hv cv zo zs hr++([.int .i64 kn,.slice none 0 0,.int .i64 0,.int .i64 0,.bool false,.func (.func 57) #[] #[]]:List Value)).toArray) w:=by kernel_rfl
theorem OE_prV {P:Program} {n:Nat} {o:Oper} {e:Env} {w:World} {v:Value} (hp:PR P n o e w v):OE P n o e w (fun u w'=>u=v∧w'=w):=Jj (fun a ha=>hp.h a ha) ⟨rfl,rfl⟩
def MK.keep (K:MK) (b:Nat) (o:Obj):MK:={ K with pr:=(b,o) :: K.pr }
section
variable {K:MK} {w w':World} {sv pv:Value} {st:List Int} {sp:List Spn} {at_ er:Int} {dn:Bool} {b:Nat} {o:Obj}
theorem KOk.keep (h:KOk K):KOk (K.keep b o):=⟨h.hols,h.clos,h.ozo,h.ozs,h.ohr,h.len,h.mov,h.bml,h.nkl,h.gl,h.cal,h.ev⟩
theorem Mch.keep (h:Mch K w sv pv st sp at_ er dn) (hb:w.heap[b]?=some o) (h1:b∉K.own) (h2:b∉ob sv) (h3:b∉ob pv):Mch (K.keep b o) w sv pv st sp at_ er dn:=
 ⟨h.blk, h.row, h.nt, h.nt0, h.ap, h.stp, fun p hp => by
   rcases Xd.1 hp with rfl|hp
   exact ⟨hb,h1,h2,h3⟩
   exact h.prot p hp⟩
theorem Mch.unkeep (h:Mch (K.keep b o) w sv pv st sp at_ er dn):Mch K w sv pv st sp at_ er dn:=
 ⟨h.blk,h.row,h.nt,h.nt0,h.ap,h.stp,fun p hp=>h.prot p (XH _ hp)⟩
theorem Mch.kept (h:Mch (K.keep b o) w sv pv st sp at_ er dn):w.heap[b]?=some o:=(h.prot (b,o) YaA).1
theorem Mch.nosp (hk:K.nk=none) (h:Mch K w sv pv st sp at_ er dn) {sp':List Spn}:Mch K w sv pv st sp' at_ er dn:=
 ⟨h.blk,h.row,(fun bs hb=>by rw [hk] at hb;cases hb),h.nt0,h.ap,h.stp,h.prot⟩
def Jz (K:MK) (w:World) (st:List Int) (at_:Int) (r:Int×Int):Prop:=∃ sv pv st2,Mch K w sv pv st2 [] at_ r.2 (decide (¬ r.2=0))∧(r.2=0→st2=st++[r.1])
theorem Jz.un {r:Int×Int} (h:Jz (K.keep b o) w st at_ r):Jz K w st at_ r:=by
 obtain ⟨sv,pv,st2,h1,h2⟩:=h
 exact ⟨sv,pv,st2,h1.unkeep,h2⟩
theorem Res.toE {r:Int×Int} (hk:K.nk=none) (h:Res K w st sp at_ r):Jz K w st at_ r:=by
 obtain ⟨sv,pv,st2,sp2,h1,h2⟩:=h
 exact ⟨sv,pv,st2,h1.nosp hk,fun h0=>(h2 h0).1⟩
theorem Jz.go {r:Int×Int} (h:Jz K w st at_ r) (he:r.2=0):∃ sv pv,Mch K w sv pv (st++[r.1]) [] at_ 0 false:=by
 obtain ⟨sv,pv,st2,h1,h2⟩:=h
 have:=h2 he
 subst this
 rw [he] at h1
 exact ⟨sv,pv,h1⟩
theorem Jz.stop {r:Int×Int} (h:Jz K w st at_ r) (he:¬ r.2=0):∃ sv pv st2,Mch K w sv pv st2 [] at_ r.2 true:=by
 obtain ⟨sv,pv,st2,h1,h2⟩:=h
 have hd:decide (¬ r.2=0)=true:=decide_eq_true he
 rw [hd] at h1
 exact ⟨sv,pv,st2,h1⟩
theorem Jz.of {v e:Int} (he:¬ e=0) {st2:List Int} (h:Mch K w sv pv st2 [] at_ e true):Jz K w st at_ (v,e):=by
 have hd:decide (¬ e=0)=true:=decide_eq_true he
 refine ⟨sv,pv,st2,?_,fun h0=>absurd h0 he⟩
 dsimp only
 rw [hd]
 exact h
end
theorem Zed {X:List Nat} {w0 w:World} {v:Value} {l:List Nd} {i:Nat} (h:SlV X w0 v l) (hi:i<l.length) (hS:Stp X w0 w) :
 ∃ kv,SlV X w0 kv l[i].kids∧∀ w',Stp X w0 w'→∀ j u,[Value.int .i64 l[i].kind,.int .i64 l[i].num,str l[i].word,kv][j]?=some u→w'.cell? (Zq v i 4 j)=some u:=by
 obtain ⟨kv,h1,h2⟩:=h.nd hi
 refine ⟨kv,h1,fun w' hS' j u hu=>?_⟩
 have hc:=h2 j u hu
 obtain ⟨p,c,rfl,hl,hm,hn,hcell⟩:=id h
 obtain ⟨b,o,cs,rfl,hb,hx,-⟩:=hcell i hi
 exact hS'.cell hx hc
def OVR (r:Z86):Prop:=(Z74 r.k r.s).length=r.L.length∧(r.k=7∨r.k=8→r.s∈Z2A)∧∀ i,i<r.L.length→((Z74 r.k r.s).map fun x=>fnV x.f)[i]?=some (Z3E Z8Z (r.L.getD i 0) .nilFunc)
theorem Zmr:OVR ⟨5,[45],[1],1,[8]⟩:=by
 refine ⟨by kernel_rfl,fun h=>by exfalso;revert h;decide,fun i hi=>?_⟩
 obtain rfl:i=0:=by have:i<1:=hi;omega
 kernel_rfl
theorem Zms:OVR ⟨5,[110,111,116],[2],2,[12]⟩:=by
 refine ⟨by kernel_rfl,fun h=>by exfalso;revert h;decide,fun i hi=>?_⟩
 obtain rfl:i=0:=by have:i<1:=hi;omega
 kernel_rfl
theorem Zmt:OVR ⟨10,[110,101,120,116],[3],3,[19]⟩:=by
 refine ⟨by kernel_rfl,fun h=>by exfalso;revert h;decide,fun i hi=>?_⟩
 obtain rfl:i=0:=by have:i<1:=hi;omega
 kernel_rfl
theorem Zmu:OVR ⟨10,[112,114,101,118],[3],3,[20]⟩:=by
 refine ⟨by kernel_rfl,fun h=>by exfalso;revert h;decide,fun i hi=>?_⟩
 obtain rfl:i=0:=by have:i<1:=hi;omega
 kernel_rfl
theorem Zmv:OVR ⟨10,[108,97,116,101,114],[3,3],3,[21]⟩:=by
 refine ⟨by kernel_rfl,fun h=>by exfalso;revert h;decide,fun i hi=>?_⟩
 obtain rfl:i=0:=by have:i<1:=hi;omega
 kernel_rfl
theorem Zmw:OVR ⟨10,[101,97,114,108,105,101,114],[3,3],3,[22]⟩:=by
 refine ⟨by kernel_rfl,fun h=>by exfalso;revert h;decide,fun i hi=>?_⟩
 obtain rfl:i=0:=by have:i<1:=hi;omega
 kernel_rfl
theorem Zmx:OVR ⟨10,[98,101,116,119,101,101,110],[3,3],1,[23]⟩:=by
 refine ⟨by kernel_rfl,fun h=>by exfalso;revert h;decide,fun i hi=>?_⟩
 obtain rfl:i=0:=by have:i<1:=hi;omega
 kernel_rfl
theorem Zmy:OVR ⟨7,[100,97,121,115],[3,1],3,[15]⟩:=by
 refine ⟨by kernel_rfl,fun _=>by decide +kernel,fun i hi=>?_⟩
 obtain rfl:i=0:=by have:i<1:=hi;omega
 kernel_rfl
theorem Zmz:OVR ⟨7,[119,101,101,107,115],[3,1],3,[16]⟩:=by
 refine ⟨by kernel_rfl,fun _=>by decide +kernel,fun i hi=>?_⟩
 obtain rfl:i=0:=by have:i<1:=hi;omega
 kernel_rfl
theorem ZmA:OVR ⟨7,[109,111,110,116,104,115],[3,1],3,[17]⟩:=by
 refine ⟨by kernel_rfl,fun _=>by decide +kernel,fun i hi=>?_⟩
 obtain rfl:i=0:=by have:i<1:=hi;omega
 kernel_rfl
theorem Zk1:OVR ⟨7,[99,111,117,114,116,100,97,121,115],[3,1],3,[18]⟩:=by
 refine ⟨by kernel_rfl,fun _=>by decide +kernel,fun i hi=>?_⟩
 obtain rfl:i=0:=by have:i<1:=hi;omega
 kernel_rfl
theorem Zk2:OVR ⟨8,[100,97,121,115],[3,1],3,[8,15]⟩:=by
 refine ⟨by kernel_rfl,fun _=>by decide +kernel,fun i hi=>?_⟩
 have hi2:i=0∨i=1:=by have:i<2:=hi;omega
 rcases hi2 with rfl|rfl
 show _=_
 kernel_rfl
 show _=_
 kernel_rfl
theorem Zk3:OVR ⟨8,[119,101,101,107,115],[3,1],3,[8,16]⟩:=by
 refine ⟨by kernel_rfl,fun _=>by decide +kernel,fun i hi=>?_⟩
 have hi2:i=0∨i=1:=by have:i<2:=hi;omega
 rcases hi2 with rfl|rfl
 show _=_
 kernel_rfl
 show _=_
 kernel_rfl
theorem Zk4:OVR ⟨8,[109,111,110,116,104,115],[3,1],3,[8,17]⟩:=by
 refine ⟨by kernel_rfl,fun _=>by decide +kernel,fun i hi=>?_⟩
 have hi2:i=0∨i=1:=by have:i<2:=hi;omega
 rcases hi2 with rfl|rfl
 show _=_
 kernel_rfl
 show _=_
 kernel_rfl
theorem Zk5:OVR ⟨8,[99,111,117,114,116,100,97,121,115],[3,1],3,[8,18]⟩:=by
 refine ⟨by kernel_rfl,fun _=>by decide +kernel,fun i hi=>?_⟩
 have hi2:i=0∨i=1:=by have:i<2:=hi;omega
 rcases hi2 with rfl|rfl
 show _=_
 kernel_rfl
 show _=_
 kernel_rfl
theorem Zk6:OVR ⟨6,[43],[1,1],1,[5]⟩:=by
 refine ⟨by kernel_rfl,fun h=>by exfalso;revert h;decide,fun i hi=>?_⟩
 obtain rfl:i=0:=by have:i<1:=hi;omega
 kernel_rfl
theorem Zk7:OVR ⟨6,[45],[1,1],1,[6]⟩:=by
 refine ⟨by kernel_rfl,fun h=>by exfalso;revert h;decide,fun i hi=>?_⟩
 obtain rfl:i=0:=by have:i<1:=hi;omega
 kernel_rfl
theorem Zk8:OVR ⟨6,[42],[1,1],1,[7]⟩:=by
 refine ⟨by kernel_rfl,fun h=>by exfalso;revert h;decide,fun i hi=>?_⟩
 obtain rfl:i=0:=by have:i<1:=hi;omega
 kernel_rfl
theorem Zk9:OVR ⟨6,[60],[1,1],2,[9]⟩:=by
 refine ⟨by kernel_rfl,fun h=>by exfalso;revert h;decide,fun i hi=>?_⟩
 obtain rfl:i=0:=by have:i<1:=hi;omega
 kernel_rfl
theorem Zka:OVR ⟨6,[60,61],[1,1],2,[10]⟩:=by
 refine ⟨by kernel_rfl,fun h=>by exfalso;revert h;decide,fun i hi=>?_⟩
 obtain rfl:i=0:=by have:i<1:=hi;omega
 kernel_rfl
theorem Zkb:OVR ⟨6,[61],[1,1],2,[11]⟩:=by
 refine ⟨by kernel_rfl,fun h=>by exfalso;revert h;decide,fun i hi=>?_⟩
 obtain rfl:i=0:=by have:i<1:=hi;omega
 kernel_rfl
theorem Zkc:OVR ⟨6,[33,61],[1,1],2,[11,12]⟩:=by
 refine ⟨by kernel_rfl,fun h=>by exfalso;revert h;decide,fun i hi=>?_⟩
 have hi2:i=0∨i=1:=by have:i<2:=hi;omega
 rcases hi2 with rfl|rfl
 show _=_
 kernel_rfl
 show _=_
 kernel_rfl
theorem Zkd:OVR ⟨6,[62],[1,1],2,[10,12]⟩:=by
 refine ⟨by kernel_rfl,fun h=>by exfalso;revert h;decide,fun i hi=>?_⟩
 have hi2:i=0∨i=1:=by have:i<2:=hi;omega
 rcases hi2 with rfl|rfl
 show _=_
 kernel_rfl
 show _=_
 kernel_rfl
theorem Zke:OVR ⟨6,[62,61],[1,1],2,[9,12]⟩:=by
 refine ⟨by kernel_rfl,fun h=>by exfalso;revert h;decide,fun i hi=>?_⟩
 have hi2:i=0∨i=1:=by have:i<2:=hi;omega
 rcases hi2 with rfl|rfl
 show _=_
 kernel_rfl
 show _=_
 kernel_rfl
theorem Zkf:OVR ⟨6,[60],[3,3],2,[9]⟩:=by
 refine ⟨by kernel_rfl,fun h=>by exfalso;revert h;decide,fun i hi=>?_⟩
 obtain rfl:i=0:=by have:i<1:=hi;omega
 kernel_rfl
theorem Zkg:OVR ⟨6,[60,61],[3,3],2,[10]⟩:=by
 refine ⟨by kernel_rfl,fun h=>by exfalso;revert h;decide,fun i hi=>?_⟩
 obtain rfl:i=0:=by have:i<1:=hi;omega
 kernel_rfl
theorem Zkh:OVR ⟨6,[61],[3,3],2,[11]⟩:=by
 refine ⟨by kernel_rfl,fun h=>by exfalso;revert h;decide,fun i hi=>?_⟩
 obtain rfl:i=0:=by have:i<1:=hi;omega
 kernel_rfl
theorem Zki:OVR ⟨6,[33,61],[3,3],2,[11,12]⟩:=by
 refine ⟨by kernel_rfl,fun h=>by exfalso;revert h;decide,fun i hi=>?_⟩
 have hi2:i=0∨i=1:=by have:i<2:=hi;omega
 rcases hi2 with rfl|rfl
 show _=_
 kernel_rfl
 show _=_
 kernel_rfl
theorem Zkj:OVR ⟨6,[62],[3,3],2,[10,12]⟩:=by
 refine ⟨by kernel_rfl,fun h=>by exfalso;revert h;decide,fun i hi=>?_⟩
 have hi2:i=0∨i=1:=by have:i<2:=hi;omega
 rcases hi2 with rfl|rfl
 show _=_
 kernel_rfl
 show _=_
 kernel_rfl
theorem Zkk:OVR ⟨6,[62,61],[3,3],2,[9,12]⟩:=by
 refine ⟨by kernel_rfl,fun h=>by exfalso;revert h;decide,fun i hi=>?_⟩
 have hi2:i=0∨i=1:=by have:i<2:=hi;omega
 rcases hi2 with rfl|rfl
 show _=_
 kernel_rfl
 show _=_
 kernel_rfl
theorem Zcg:∀ r∈Z1s,OVR r:=by
 unfold Z1s
 refine Xa.2 ⟨Zmr,?_⟩
 refine Xa.2 ⟨Zms,?_⟩
 refine Xa.2 ⟨Zmt,?_⟩
 refine Xa.2 ⟨Zmu,?_⟩
 refine Xa.2 ⟨Zmv,?_⟩
 refine Xa.2 ⟨Zmw,?_⟩
 refine Xa.2 ⟨Zmx,?_⟩
 refine Xa.2 ⟨Zmy,?_⟩
 refine Xa.2 ⟨Zmz,?_⟩
 refine Xa.2 ⟨ZmA,?_⟩
 refine Xa.2 ⟨Zk1,?_⟩
 refine Xa.2 ⟨Zk2,?_⟩
 refine Xa.2 ⟨Zk3,?_⟩
 refine Xa.2 ⟨Zk4,?_⟩
 refine Xa.2 ⟨Zk5,?_⟩
 refine Xa.2 ⟨Zk6,?_⟩
 refine Xa.2 ⟨Zk7,?_⟩
 refine Xa.2 ⟨Zk8,?_⟩
 refine Xa.2 ⟨Zk9,?_⟩
 refine Xa.2 ⟨Zka,?_⟩
 refine Xa.2 ⟨Zkb,?_⟩
 refine Xa.2 ⟨Zkc,?_⟩
 refine Xa.2 ⟨Zkd,?_⟩
 refine Xa.2 ⟨Zke,?_⟩
 refine Xa.2 ⟨Zkf,?_⟩
 refine Xa.2 ⟨Zkg,?_⟩
 refine Xa.2 ⟨Zkh,?_⟩
 refine Xa.2 ⟨Zki,?_⟩
 refine Xa.2 ⟨Zkj,?_⟩
 refine Xa.2 ⟨Zkk,?_⟩
 intro r h
 cases h
def ZR (x:Nd):Prop:=∀ (K:MK) (nv:Value) (w:World) (sv pv:Value) (st:List Int) (s:Shp) (at_:Int),KOk K→K.nk=none→NdV K.own K.w0 nv x→Zr x≠0→Mch K w sv pv st [] at_ 0 false→Ja s st→s.length+ZE x≤16→
 CC 58 #[mP K,nv] w fun r w'=>r=.tuple #[]∧Jz K w' st at_ (Z6 (Zo K.c K.kn) K.ev x)
abbrev ndO (k n:Int) (s:Str) (kv:Value):Obj:=.cells [.int .i64 k,.int .i64 n,str s,kv].toArray 27
theorem ZR.kid {l:List Nd} {K:MK} {kv:Value} (hK:KOk K) (hk:K.nk=none) (hs:SlV K.own K.w0 kv l) {i:Nat} (hi:i<l.length) (ih:ZR l[i]) (ht:Zr l[i]≠0) :
 ∃ kv2 : Value, (∀ w', Stp K.own K.w0 w' → ∀ j u, [Value.int .i64 l[i].kind, .int .i64 l[i].num, str l[i].word, kv2][j]? = some u → w'.cell? (Zq kv i 4 j) = some u)∧
   ∀ (w : World) (sv pv : Value) (st : List Int) (s : Shp) (at_ : Int), Mch K w sv pv st [] at_ 0 false → Ja s st → s.length + ZE l[i] ≤ 16→
     CC 58 #[mP K,.agg #[.int .i64 l[i].kind,.int .i64 l[i].num,str l[i].word,kv2]] w fun r w'=>r=.tuple #[]∧Jz K w' st at_ (Z6 (Zo K.c K.kn) K.ev l[i]):=by
 obtain ⟨kv2,h1,h2⟩:=Zed hs hi (Stp.refl _ _)
 exact ⟨kv2,h2,fun w sv pv st s at_ hM hst hb=>ih K _ w sv pv st s at_ hK hk ⟨kv2,rfl,h1⟩ ht hM hst hb⟩
set_option maxHeartbeats 1000000 in
theorem Zat {k n:Int} {s:Str} (hlf:ZhC k n s (Zr (.mk k n s []))):ZR (.mk k n s []):=by
 intro K nv w sv pv st sh at_ hK hk hx ht hM hst hb
 obtain ⟨kv,rfl,hs⟩:=hx
 have hev2:Z6 (Zo K.c K.kn) K.ev (.mk k n s [])=Zf (Zo K.c K.kn) K.ev k n s []:=Z1q _ _ _
 have hl:st.length≤100000:=by rw [← hst.1];omega
 simp only [Nd.kind,Nd.num,Nd.word]
 rw [hev2]
 refine cW2 132 Tryz.func58 ?_
 refine W ?_
 refine Z0 (Zl rfl) rfl ?_
 rintro _ w1 ⟨b3,rfl,hb3,hblk,hS⟩
 replace hblk:Blk w1 b3 27 [.int .i64 k,.int .i64 n,str s,kv]:=hblk
 replace hM:=hM.up hS
 rcases hlf with ⟨hk3,-,hv⟩|⟨rfl,i,hi,rfl,hf,-⟩
 · have e:Zf (Zo K.c K.kn) K.ev k n s []=(n,0):=by unfold Zf;rw [if_pos hk3]
   rw [e]
   rcases hk3 with rfl|rfl|rfl
   all_goals
    refine W ?_
    refine CL rfl (Zb rfl rfl) rfl (ZbZ hK hM hl n) ?_
    rintro _ w2 ⟨rfl,hres⟩
    refine W ?_
    refine WR ?_
    exact .mk ⟨rfl,hres.toE hk⟩
 have e:Zf (Zo K.c K.kn) K.ev 4 n (Zj.getD i []) []=Z40 K.ev (i:Int):=by
  unfold Zf
  rw [if_neg (by decide),if_pos rfl,hf]
 rw [e]
 refine W ?_
 refine CL rfl (Zk rfl) rfl (Z4x i hi _) ?_
 rintro _ w2 ⟨rfl,hS2⟩
 replace hM:=hM.up hS2
 refine W ?_
 refine CL rfl (Zb rfl rfl) rfl (Zc2 hK hM hl (i:Int) (by omega) (by omega)) ?_
 rintro _ w3 ⟨rfl,hres⟩
 refine W ?_
 refine WR ?_
 exact .mk ⟨rfl,hres.toE hk⟩
end Go.Proofs.YtjdjdoefppebkaaGreatDoor
namespace Go.Eng
open Go Go.RowKit Go.Proofs
structure WT (P:Program) (n:Nat) (ops:Array Oper) (S:List Nat) (Lt:List Nat) (Q:Exit→Act→World→Prop) (listed:Array Bool) (fuel:Nat) (e:Env) (w:World):Prop where
 h:∀ a,Has n e a→Z0z P .any ops S (fun j=>Lt.contains j) (fun a w=>Q .normal a w) fuel listed a w
structure WT1 (P:Program) (n:Nat) (ops:Array Oper) (S:List Nat) (Lt:List Nat) (Q:Exit→Act→World→Prop) (i:Nat) (listed:Array Bool) (fuel:Nat) (e:Env) (w:World):Prop where
 h:∀ a,Has n e a→wpOp P ops (fun _ _ _=>False) i (fun a' w'=>(Stp S w w'∨Lt.contains i=true)∧Z0z P .any ops S (fun j=>Lt.contains j) (fun a w=>Q .normal a w) fuel (listed.setIfInBounds i true) a' w') a w
section rules
variable {P:Program} {n:Nat} {Q:Exit→Act→World→Prop} {e:Env} {w:World} {ops:Array Oper} {S:List Nat} {Lt:List Nat} {listed:Array Bool} {fuel:Nat}
theorem Z6e {id:Nat} {l:List Oper} (m:Nat) (S:List Nat) (Lt:List Nat) (hlm:l.length=m) (hm:P.follows .mixedOrders=true)
 (h:∀ w',Stp [] w w'→WT P n l.toArray S Lt Q (Array.replicate m false) m e w'):WC P n (.region id l.toArray true) Q e w:=by
 subst hlm
 refine ⟨fun a ha=>wp_region_any hm ?_⟩
 have h1:=(h { w with drawn:=w.drawn+1 } (Stp.drew [] w)).h a ha
 have h2:=Z1w (Q:=Q) (fun a w hz=>hz) _ _ _ _ h1
 simpa using h2
theorem ZdZ (ord:List (Nat×Nat)) (hs:Region.noSelect ops=true) (hB:Je ops Lt ord listed=true) (hl:Nat.beq (wt ord) fuel=true) (h:WD P n ops S Lt Q ord e w):WT P n ops S Lt Q listed fuel e w:=by
 have:=XP hl
 subst this
 exact ⟨fun a ha=>h.h _ hs hB a ha⟩
theorem Zch (i q:Nat) (hr:(Region.ready .any ops listed == [i,q])=true) (h1:WT1 P n ops S Lt Q i listed fuel e w) (h2:WT1 P n ops S Lt Q q listed fuel e w):WT P n ops S Lt Q listed (fuel+1) e w:=by
 have hr:=beq_iff_eq.1 hr
 refine ⟨fun a ha=>⟨fun h0=>absurd (hr ▸ h0) (by simp),fun j hj=>?_⟩⟩
 rw [hr] at hj
 have hj':j=i∨j=q:=by simpa using hj
 rcases hj' with rfl|rfl
 exact h1.h a ha
 exact h2.h a ha
variable {i d:Nat} {op:Op} {ty:TypeId} {pos:String} {af:Array Edge} {gd:Option (Nat×Bool)} {v:Value}
theorem ZhL {o:Oper} {dst:Option Nat} {G:Value→World→Prop} (hi:ops[i]?=some o) (hdst:o.dst=dst) (hg:Zy ops e o.guard) (hp:OE P n o e w (fun v w'=>(Stp S w w'∨Lt.contains i=true)∧G v w'))
 (k:∀ v w' a',G v w'→∀ a,Has n e a→a'=a.put dst v→∃ e',Has n e' a'∧WT P n ops S Lt Q (listed.setIfInBounds i true) fuel e' w'):WT1 P n ops S Lt Q i listed fuel e w:=by
 refine ⟨fun a ha=>?_⟩
 unfold wpOp
 simp only [hi]
 rw [if_pos (JB ha hg)]
 refine .inl (Oper.wp_mono ?_ (hp.h a ha _))
 rintro a' w' ⟨v,rfl,hs',hG⟩
 obtain ⟨e',he',hk⟩:=k v w' (a.put o.dst v) hG a ha (by rw [hdst])
 exact ⟨hs',hk.h _ he'⟩
theorem Z4H {G:Value→World→Prop} (hi:ops[i]?=some ⟨some d,op,ty,pos,af,gd⟩) (hg:Zy ops e gd) (hp:OE P n ⟨some d,op,ty,pos,af,gd⟩ e w G) (hG:∀ v w',G v w'→Stp S w w') (hdn:Nat.blt d n=true)
 (k:∀ v w',G v w'→WT P n ops S Lt Q (listed.setIfInBounds i true) fuel ((d,v) :: e) w'):WT1 P n ops S Lt Q i listed fuel e w:=
 ZhL (G:=G) hi rfl hg (hp.mono fun v w' h=>⟨.inl (hG v w' h),h⟩) (fun v w' a' h a ha e=>⟨_,by rw [e];exact ha.put hdn,k v w' h⟩)
theorem Zci (i:Nat) {o:Oper} (hi:ops[i]?=some o) (hd:o.dst=some d) (hY:∀ a,Has n e a→YE P ops (fun _ _=>True) o v a w) (hdn:Nat.blt d n=true) (hs:Region.noSelect ops=true)
 (hB:((Region.ready .any ops listed).contains i && Region.free .any ops listed i)=true)
 (k:WT P n ops S Lt Q (listed.setIfInBounds i true) fuel ((d,v) :: e) w):WT P n ops S Lt Q listed (fuel+1) e w:=by
 refine ⟨fun a ha=>?_⟩
 simp only [Xf] at hB
 have hk:=k.h _ (ha.put (v:=v) hdn)
 rw [← hd] at hk
 exact Z6r (R:=fun _ _=>True) (fun _=>trivial) (fun _ _ _ _ _=>trivial) hi (fun _ _ _ _ _ _ _ _=>trivial) (Region.noSelect_spec hs) _ _ _ _ (Region.free_spec hi hB.2) (fun _=>trivial) (by simpa using hB.1) (hY a ha) hk
theorem Z1b (i:Nat) (hi:ops[i]?=some ⟨some d,op,ty,pos,af,gd⟩) (hg:Zy ops e gd) (hp:∀ w',PR P n ⟨some d,op,ty,pos,af,gd⟩ e w' v) (hdn:Nat.blt d n=true) (hs:Region.noSelect ops=true)
 (hB:((Region.ready .any ops listed).contains i && Region.free .any ops listed i)=true)
 (k:WT P n ops S Lt Q (listed.setIfInBounds i true) fuel ((d,v) :: e) w):WT P n ops S Lt Q listed (fuel+1) e w:=
 Zci i hi rfl (fun a ha=>.inl ⟨JB ha hg,fun w' _=>(hp w').h a ha⟩) hdn hs hB k
end rules
end Go.Eng
namespace Go.Proofs.YtjdjdoefppebkaaGreatDoor
open Go Go.Eng Go.RowKit
set_option maxHeartbeats 2000000 in
theorem Ze0 {n:Int} {s:Str} {a b c:Nd} (iha:ZR a) (ihb:ZR b) (ihc:ZR c) (ta:Zr a=2) (tb:Zr b≠0) (tc:Zr c≠0):ZR (.mk 9 n s [a,b,c]):=by
 intro K0 nv w sv pv st sh at_ hK0 hk0 hx ht hM hst hb
 obtain ⟨kv,rfl,hs⟩:=hx
 have na:ZE a<ZE (.mk 9 n s [a,b,c]):=Z0x (x:=.mk 9 n s [a,b,c]) (by simp [Nd.kids])
 have nb:ZE b<ZE (.mk 9 n s [a,b,c]):=Z0x (x:=.mk 9 n s [a,b,c]) (by simp [Nd.kids])
 have nc:ZE c<ZE (.mk 9 n s [a,b,c]):=Z0x (x:=.mk 9 n s [a,b,c]) (by simp [Nd.kids])
 have hev2:∀ opn ev,Z6 opn ev (.mk 9 n s [a,b,c])=Zf opn ev 9 n s [Z6 opn ev a,Z6 opn ev b,Z6 opn ev c]:=fun opn ev=>Z1q _ _ _
 simp only [Nd.kind,Nd.num,Nd.word,Nd.kids] at hs ⊢
 have hbm:=hM.blk.lt
 have hobs:=fun x hx=>(hM.row.ob_le x hx).2
 have hpv:=hM.nt0 hk0
 have howl:∀ x∈K0.own,x<w.heap.size:=fun x hx=>Xb (Mch.own_lt hK0 x hx) hM.stp.size
 refine cW2 132 Tryz.func58 ?_
 refine W ?_
 refine Z0 (Zl rfl) rfl ?_
 rintro _ w1 ⟨b3,rfl,hb3,hblk,hS⟩
 replace hblk:w1.heap[b3]?=some (ndO 9 n s kv):=hblk
 replace hM:=(hM.up hS).keep hblk (fun h=>by have:=howl _ h;omega) (fun h=>by have:=hobs _ h;omega) (by rw [hpv];simp [ob])
 have hK:=hK0.keep (b:=b3) (o:=ndO 9 n s kv)
 have e0:K0.bm=(K0.keep b3 (ndO 9 n s kv)).bm:=rfl
 rw [show mP K0=mP (K0.keep b3 (ndO 9 n s kv)) from rfl]
 have hs':SlV (K0.keep b3 (ndO 9 n s kv)).own (K0.keep b3 (ndO 9 n s kv)).w0 kv [a,b,c]:=hs
 have hk:(K0.keep b3 (ndO 9 n s kv)).nk=none:=hk0
 have hun:∀ w' r,Jz (K0.keep b3 (ndO 9 n s kv)) w' st at_ r→Jz K0 w' st at_ r:=fun w' r h=>h.un
 have hcE:K0.c=(K0.keep b3 (ndO 9 n s kv)).c:=rfl
 have hkE:K0.kn=(K0.keep b3 (ndO 9 n s kv)).kn:=rfl
 have heE:K0.ev=(K0.keep b3 (ndO 9 n s kv)).ev:=rfl
 rw [hcE,hkE,heE]
 have hkept:∀ {w:World} {sv pv:Value} {st:List Int} {sp:List Spn} {at_ er:Int} {dn:Bool},Mch (K0.keep b3 (ndO 9 n s kv)) w sv pv st sp at_ er dn→Blk w b3 27 [.int .i64 9,.int .i64 n,str s,kv]:=fun h=>h.kept
 have hne:b3≠(K0.keep b3 (ndO 9 n s kv)).bm:=by show b3≠K0.bm;omega
 generalize K0.keep b3 (ndO 9 n s kv)=K at *
 clear e0 hs hK0 hk0 howl hcE hkE heE
 generalize hopn:Zo K.c K.kn=opn
 generalize hevv:K.ev=ev
 have l0:0 < [a,b,c].length:=by simp
 have l1:1 < [a,b,c].length:=by simp
 have l2:2 < [a,b,c].length:=by simp
 obtain ⟨ka,ca,da⟩:=ZR.kid hK hk hs' l0 iha (by show Zr a≠0;omega)
 obtain ⟨kb,cb,db⟩:=ZR.kid hK hk hs' l1 ihb tb
 obtain ⟨kc,cc,dc⟩:=ZR.kid hK hk hs' l2 ihc tc
 rw [hopn,hevv] at da db dc
 have hblkN:=hkept hM
 have hsl:=hs'.ext (X':=[]) hM.stp (fun b hb=>hb) (by simp)
 refine W ?_
 apply Z7 (Jp rfl rfl hsl l0 (ca _ hM.stp)) rfl
 refine CL rfl (Zb rfl rfl) rfl (da _ _ _ _ _ _ hM hst (by show sh.length+ZE a≤16;omega)) ?_
 rintro _ w2 ⟨rfl,hres⟩
 change Jz K w2 st at_ (Z6 opn ev a) at hres
 have e9:Zf opn ev 9 n s [Z6 opn ev a,Z6 opn ev b,Z6 opn ev c]=if ¬ (Z6 opn ev a).2=0 then (0,(Z6 opn ev a).2) else [Z6 opn ev a,Z6 opn ev b,Z6 opn ev c].getD (2 - (Z6 opn ev a).1).toNat (0,0):=by
  unfold Zf
  rw [if_neg (by decide),if_neg (by decide)]
  simp only [XV]
  rfl
 rw [hev2,e9]
 by_cases he:(Z6 opn ev a).2=0
 rw [if_neg (fun h=>h he)]
 obtain ⟨sv1,pv1,hM1⟩:=hres.go he
 have hva:=Z2i opn ev (by rw [← hevv];exact hK.ev) a (by omega) he
 rw [ta] at hva
 have hblkM:=hM1.blk
 have hblkN1:=hkept hM1
 unfold Z0C at hblkM
 refine W ?_
 generalize (Z6 opn ev a).1=v at hva hM1 ⊢
 have hv01:v=0∨v=1:=hva.b
 rcases hv01 with rfl|rfl
 refine Z6e 9 [K.bm] [8] rfl mixed (fun w3 hS3=>?_)
 replace hM1:=hM1.up hS3
 have hblkN3:=hkept hM1
 refine Z1b 0 rfl trivial (fun w'=>J2 rfl) rfl (by kernel_rfl) (by kernel_rfl) ?_
 refine Z1b 1 rfl trivial (fun w'=>J3 rfl) rfl (by kernel_rfl) (by kernel_rfl) ?_
 refine Z1b 3 rfl trivial (fun w'=>J2 rfl) rfl (by kernel_rfl) (by kernel_rfl) ?_
 refine Zch 2 4 (by kernel_rfl) ?_ ?_
 refine Z4H rfl trivial (OE_prV (ZT rfl rfl hblkN3 rfl)) (fun _ _ h=>by rw [h.2];exact Stp.refl _ _) rfl ?_
 rintro u wx ⟨hu,hw⟩
 rw [hu,hw]
 clear hu hw
 refine ZdZ [(4,2),(5,0),(6,0),(7,1),(8,2)] (by kernel_rfl) (by kernel_rfl) (by kernel_rfl) ?_
 refine ZC rfl trivial (Ze rfl (Zk rfl) (Z2j hK hM1)) (fun _ _ h=>h.2.2) rfl ?_
 rintro _ w4 ⟨rfl,⟨sv4,hM4⟩,hS4⟩
 refine Z0w rfl (Z8p trivial rfl rfl (by unfold I64;omega) rfl ?_)
 refine Z0w rfl (Z09 (i:=2) trivial rfl hsl rfl (by rfl) l2 rfl ?_)
 have hT4:∀ w',Stp [K.bm] w4 w'→Stp K.own K.w0 w':=fun w' hS'=>hM4.stp.trans (hS'.mono (by simp [MK.own]))
 refine JR rfl trivial (fun w' hS'=>Jp rfl rfl (hs'.ext (X':=[]) (hT4 w' hS') (fun b hb=>hb) (by simp)) l2 (cc _ (hT4 w' hS'))) rfl ?_
 refine Z4B rfl trivial (Ze rfl (Zb rfl rfl) (dc _ _ _ _ _ _ hM4 hst (by show sh.length+ZE c≤16;omega))) rfl rfl ?_
 rintro _ w6 ⟨rfl,hres6⟩
 refine Z1x ?_
 refine W ?_
 refine WR ?_
 exact .mk ⟨rfl,hun _ _ hres6⟩
 refine Z4H rfl trivial (Ze rfl (Zk rfl) (Z2j hK hM1)) (fun _ _ h=>h.2.2) rfl ?_
 rintro _ w4 ⟨rfl,⟨sv4,hM4⟩,hS4⟩
 have hblkN4:=hkept hM4
 refine Z1b 5 rfl trivial (fun w'=>Z6j rfl rfl (by unfold I64;omega)) rfl (by kernel_rfl) (by kernel_rfl) ?_
 refine ZdZ [(2,2),(6,0),(7,1),(8,2)] (by kernel_rfl) (by kernel_rfl) (by kernel_rfl) ?_
 refine ZC rfl trivial (OE_prV (ZT rfl rfl hblkN4 rfl)) (fun _ _ h=>by rw [h.2];exact Stp.refl _ _) rfl ?_
 rintro u wx ⟨hu,hw⟩
 rw [hu,hw]
 clear hu hw
 refine Z0w rfl (Z09 (i:=2) trivial rfl hsl rfl (by rfl) l2 rfl ?_)
 have hT4:∀ w',Stp [K.bm] w4 w'→Stp K.own K.w0 w':=fun w' hS'=>hM4.stp.trans (hS'.mono (by simp [MK.own]))
 refine JR rfl trivial (fun w' hS'=>Jp rfl rfl (hs'.ext (X':=[]) (hT4 w' hS') (fun b hb=>hb) (by simp)) l2 (cc _ (hT4 w' hS'))) rfl ?_
 refine Z4B rfl trivial (Ze rfl (Zb rfl rfl) (dc _ _ _ _ _ _ hM4 hst (by show sh.length+ZE c≤16;omega))) rfl rfl ?_
 rintro _ w6 ⟨rfl,hres6⟩
 refine Z1x ?_
 refine W ?_
 refine WR ?_
 exact .mk ⟨rfl,hun _ _ hres6⟩
 refine Z6e 9 [K.bm] [8] rfl mixed (fun w3 hS3=>?_)
 replace hM1:=hM1.up hS3
 have hblkN3:=hkept hM1
 refine Z1b 0 rfl trivial (fun w'=>J2 rfl) rfl (by kernel_rfl) (by kernel_rfl) ?_
 refine Z1b 1 rfl trivial (fun w'=>J3 rfl) rfl (by kernel_rfl) (by kernel_rfl) ?_
 refine Z1b 3 rfl trivial (fun w'=>J2 rfl) rfl (by kernel_rfl) (by kernel_rfl) ?_
 refine Zch 2 4 (by kernel_rfl) ?_ ?_
 refine Z4H rfl trivial (OE_prV (ZT rfl rfl hblkN3 rfl)) (fun _ _ h=>by rw [h.2];exact Stp.refl _ _) rfl ?_
 rintro u wx ⟨hu,hw⟩
 rw [hu,hw]
 clear hu hw
 refine ZdZ [(4,2),(5,0),(6,0),(7,1),(8,2)] (by kernel_rfl) (by kernel_rfl) (by kernel_rfl) ?_
 refine ZC rfl trivial (Ze rfl (Zk rfl) (Z2j hK hM1)) (fun _ _ h=>h.2.2) rfl ?_
 rintro _ w4 ⟨rfl,⟨sv4,hM4⟩,hS4⟩
 refine Z0w rfl (Z8p trivial rfl rfl (by unfold I64;omega) rfl ?_)
 refine Z0w rfl (Z09 (i:=1) trivial rfl hsl rfl (by rfl) l1 rfl ?_)
 have hT4:∀ w',Stp [K.bm] w4 w'→Stp K.own K.w0 w':=fun w' hS'=>hM4.stp.trans (hS'.mono (by simp [MK.own]))
 refine JR rfl trivial (fun w' hS'=>Jp rfl rfl (hs'.ext (X':=[]) (hT4 w' hS') (fun b hb=>hb) (by simp)) l1 (cb _ (hT4 w' hS'))) rfl ?_
 refine Z4B rfl trivial (Ze rfl (Zb rfl rfl) (db _ _ _ _ _ _ hM4 hst (by show sh.length+ZE b≤16;omega))) rfl rfl ?_
 rintro _ w6 ⟨rfl,hres6⟩
 refine Z1x ?_
 refine W ?_
 refine WR ?_
 exact .mk ⟨rfl,hun _ _ hres6⟩
 refine Z4H rfl trivial (Ze rfl (Zk rfl) (Z2j hK hM1)) (fun _ _ h=>h.2.2) rfl ?_
 rintro _ w4 ⟨rfl,⟨sv4,hM4⟩,hS4⟩
 have hblkN4:=hkept hM4
 refine Z1b 5 rfl trivial (fun w'=>Z6j rfl rfl (by unfold I64;omega)) rfl (by kernel_rfl) (by kernel_rfl) ?_
 refine ZdZ [(2,2),(6,0),(7,1),(8,2)] (by kernel_rfl) (by kernel_rfl) (by kernel_rfl) ?_
 refine ZC rfl trivial (OE_prV (ZT rfl rfl hblkN4 rfl)) (fun _ _ h=>by rw [h.2];exact Stp.refl _ _) rfl ?_
 rintro u wx ⟨hu,hw⟩
 rw [hu,hw]
 clear hu hw
 refine Z0w rfl (Z09 (i:=1) trivial rfl hsl rfl (by rfl) l1 rfl ?_)
 have hT4:∀ w',Stp [K.bm] w4 w'→Stp K.own K.w0 w':=fun w' hS'=>hM4.stp.trans (hS'.mono (by simp [MK.own]))
 refine JR rfl trivial (fun w' hS'=>Jp rfl rfl (hs'.ext (X':=[]) (hT4 w' hS') (fun b hb=>hb) (by simp)) l1 (cb _ (hT4 w' hS'))) rfl ?_
 refine Z4B rfl trivial (Ze rfl (Zb rfl rfl) (db _ _ _ _ _ _ hM4 hst (by show sh.length+ZE b≤16;omega))) rfl rfl ?_
 rintro _ w6 ⟨rfl,hres6⟩
 refine Z1x ?_
 refine W ?_
 refine WR ?_
 exact .mk ⟨rfl,hun _ _ hres6⟩
 rw [if_pos he]
 obtain ⟨sv1,pv1,st1,hM1⟩:=hres.stop he
 have hblkM:=hM1.blk
 unfold Z0C at hblkM
 refine W ?_
 refine WR ?_
 exact .mk ⟨rfl,hun _ _ (Jz.of he hM1)⟩
set_option maxHeartbeats 2000000 in
theorem Zcj {n:Int} {a b:Nd} (iha:ZR a) (ihb:ZR b) (ta:Zr a=2) (tb:Zr b=2):ZR (.mk 6 n ([97,110,100]:Str) [a,b]):=by
 intro K0 nv w sv pv st sh at_ hK0 hk0 hx ht hM hst hb
 obtain ⟨kv,rfl,hs⟩:=hx
 have na:ZE a<ZE (.mk 6 n ([97,110,100]:Str) [a,b]):=Z0x (x:=.mk 6 n ([97,110,100]:Str) [a,b]) (by simp [Nd.kids])
 have nb:ZE b<ZE (.mk 6 n ([97,110,100]:Str) [a,b]):=Z0x (x:=.mk 6 n ([97,110,100]:Str) [a,b]) (by simp [Nd.kids])
 have hev2:∀ opn ev,Z6 opn ev (.mk 6 n ([97,110,100]:Str) [a,b])=Zf opn ev 6 n ([97,110,100]:Str) [Z6 opn ev a,Z6 opn ev b]:=fun opn ev=>Z1q _ _ _
 simp only [Nd.kind,Nd.num,Nd.word,Nd.kids] at hs ⊢
 have hbm:=hM.blk.lt
 have hobs:=fun x hx=>(hM.row.ob_le x hx).2
 have hpv:=hM.nt0 hk0
 have howl:∀ x∈K0.own,x<w.heap.size:=fun x hx=>Xb (Mch.own_lt hK0 x hx) hM.stp.size
 refine cW2 132 Tryz.func58 ?_
 refine W ?_
 refine Z0 (Zl rfl) rfl ?_
 rintro _ w1 ⟨b3,rfl,hb3,hblk,hS⟩
 replace hblk:w1.heap[b3]?=some (ndO 6 n ([97,110,100]:Str) kv):=hblk
 replace hM:=(hM.up hS).keep hblk (fun h=>by have:=howl _ h;omega) (fun h=>by have:=hobs _ h;omega) (by rw [hpv];simp [ob])
 have hK:=hK0.keep (b:=b3) (o:=ndO 6 n ([97,110,100]:Str) kv)
 have e0:K0.bm=(K0.keep b3 (ndO 6 n ([97,110,100]:Str) kv)).bm:=rfl
 rw [show mP K0=mP (K0.keep b3 (ndO 6 n ([97,110,100]:Str) kv)) from rfl]
 have hs':SlV (K0.keep b3 (ndO 6 n ([97,110,100]:Str) kv)).own (K0.keep b3 (ndO 6 n ([97,110,100]:Str) kv)).w0 kv [a,b]:=hs
 have hk:(K0.keep b3 (ndO 6 n ([97,110,100]:Str) kv)).nk=none:=hk0
 have hun:∀ w' r,Jz (K0.keep b3 (ndO 6 n ([97,110,100]:Str) kv)) w' st at_ r→Jz K0 w' st at_ r:=fun w' r h=>h.un
 have hcE:K0.c=(K0.keep b3 (ndO 6 n ([97,110,100]:Str) kv)).c:=rfl
 have hkE:K0.kn=(K0.keep b3 (ndO 6 n ([97,110,100]:Str) kv)).kn:=rfl
 have heE:K0.ev=(K0.keep b3 (ndO 6 n ([97,110,100]:Str) kv)).ev:=rfl
 rw [hcE,hkE,heE]
 have hkept:∀ {w:World} {sv pv:Value} {st:List Int} {sp:List Spn} {at_ er:Int} {dn:Bool},Mch (K0.keep b3 (ndO 6 n ([97,110,100]:Str) kv)) w sv pv st sp at_ er dn→Blk w b3 27 [.int .i64 6,.int .i64 n,str ([97,110,100]:Str),kv]:=fun h=>h.kept
 have hne:b3≠(K0.keep b3 (ndO 6 n ([97,110,100]:Str) kv)).bm:=by show b3≠K0.bm;omega
 generalize K0.keep b3 (ndO 6 n ([97,110,100]:Str) kv)=K at *
 clear e0 hs hK0 hk0 howl hcE hkE heE
 generalize hopn:Zo K.c K.kn=opn
 generalize hevv:K.ev=ev
 have l0:0 < [a,b].length:=by simp
 have l1:1 < [a,b].length:=by simp
 obtain ⟨ka,ca,da⟩:=ZR.kid hK hk hs' l0 iha (by show Zr a≠0;omega)
 obtain ⟨kb,cb,db⟩:=ZR.kid hK hk hs' l1 ihb (by show Zr b≠0;omega)
 rw [hopn,hevv] at da db
 have hblkN:=hkept hM
 have hsl:=hs'.ext (X':=[]) hM.stp (fun b hb=>hb) (by simp)
 refine W ?_
 apply Z7 (Jp rfl rfl hsl l0 (ca _ hM.stp)) rfl
 refine CL rfl (Zb rfl rfl) rfl (da _ _ _ _ _ _ hM hst (by show sh.length+ZE a≤16;omega)) ?_
 rintro _ w2 ⟨rfl,hres⟩
 change Jz K w2 st at_ (Z6 opn ev a) at hres
 have e9:Zf opn ev 6 n ([97,110,100]:Str) [Z6 opn ev a,Z6 opn ev b]=if ¬ (Z6 opn ev a).2=0 then (0,(Z6 opn ev a).2) else if (Z6 opn ev a).1=0 then ((Z6 opn ev a).1,0) else if ¬ (Z6 opn ev b).2=0 then (0,(Z6 opn ev b).2) else ((Z6 opn ev b).1,0):=by
  unfold Zf
  rw [if_neg (by decide),if_neg (by decide)]
  have e0:[Z6 opn ev a,Z6 opn ev b].getD 0 (0,0)=Z6 opn ev a:=rfl
  have e1:[Z6 opn ev a,Z6 opn ev b].getD 1 (0,0)=Z6 opn ev b:=rfl
  rw [e0,e1]
  have hc:((6:Int)=6∧(([97,110,100]:Str)=[97,110,100]∧(Z6 opn ev a).1=0∨([97,110,100]:Str)=[111,114]∧(Z6 opn ev a).1=1))↔(Z6 opn ev a).1=0:=by
   constructor
   rintro ⟨-,(⟨h1,h2⟩|⟨h1,h2⟩)⟩
   first|exact h2|exact absurd h1 (by decide)
   first|exact h2|exact absurd h1 (by decide)
   intro h
   exact ⟨rfl,.inl ⟨rfl,h⟩⟩
  have hl1:¬ [Z6 opn ev a,Z6 opn ev b].length=1:=by simp
  by_cases h0:(Z6 opn ev a).2=0
  have nh0:¬ ¬ (Z6 opn ev a).2=0:=fun h=>h h0
  rw [if_neg nh0,if_neg (by decide),if_neg (by decide),if_neg hl1]
  by_cases hv:(Z6 opn ev a).1=0
  rw [if_pos (hc.2 hv),if_neg nh0,if_pos hv]
  rw [if_neg (fun h=>hv (hc.1 h))]
  by_cases h1:(Z6 opn ev b).2=0
  have nh1:¬ ¬ (Z6 opn ev b).2=0:=fun h=>h h1
  rw [if_neg nh1,if_neg (by decide),if_neg (by decide),if_neg (by decide),if_neg nh0,if_neg hv,if_neg nh1]
  rfl
  rw [if_pos h1,if_neg nh0,if_neg hv,if_pos h1]
  rw [if_pos h0,if_pos h0]
 rw [hev2,e9]
 by_cases he:(Z6 opn ev a).2=0
 rw [if_neg (fun h=>h he)]
 obtain ⟨sv1,pv1,hM1⟩:=hres.go he
 have hva:=Z2i opn ev (by rw [← hevv];exact hK.ev) a (by omega) he
 rw [ta] at hva
 generalize (Z6 opn ev a).1=v at hva hM1 ⊢
 have hv01:v=0∨v=1:=hva.b
 have hlen:(st++[v]).length=st.length+1:=by simp
 have hz:((st++[v]).length:Int) - 1=(st.length:Int):=by rw [hlen];simp
 have hil:st.length<(st++[v]).length:=by rw [hlen];omega
 have hat:(st++[v])[st.length]=v:=by simp
 have hmx:=(hM1.row.slv (X:=[]) (by simp)).max
 rcases hv01 with rfl|rfl
 refine W ?_
 refine ZDr 23 [] [] [(0,0),(1,0),(2,0),(3,1),(4,0),(5,0),(6,0),(7,0),(8,1),(9,0),(10,0),(11,0),(12,1),(13,0),(14,0),(15,0),(16,1),(17,0),(18,0),(19,1),(20,0),(21,0),(22,0)] (fun w1 hS1=>?_)
 replace hM1:=hM1.up hS1
 have hblkM:=hM1.blk
 have hblkN1:=hkept hM1
 have hsv:=hM1.row.slv (X:=[]) (by simp)
 unfold Z0C at hblkM
 refine D ?_
 try refine Z0w rfl (Z09 (i:=st.length) rfl rfl hsv rfl hz hil rfl ?_)
 refine D ?_
 try rw [hat]
 refine D ?_
 refine W ?_
 rw [if_pos rfl]
 refine WR ?_
 exact .mk ⟨rfl,hun _ _ ⟨sv1,pv1,_,hM1,fun _=>rfl⟩⟩
 refine W ?_
 refine ZDr 23 [] [] [(0,0),(1,0),(2,0),(3,1),(4,0),(5,0),(6,0),(7,0),(8,1),(9,0),(10,0),(11,0),(12,1),(13,0),(14,0),(15,0),(16,1),(17,0),(18,0),(19,1),(20,0),(21,0),(22,0)] (fun w1 hS1=>?_)
 replace hM1:=hM1.up hS1
 have hblkM:=hM1.blk
 have hblkN1:=hkept hM1
 have hsv:=hM1.row.slv (X:=[]) (by simp)
 unfold Z0C at hblkM
 refine D ?_
 try refine Z0w rfl (Z09 (i:=st.length) rfl rfl hsv rfl hz hil rfl ?_)
 refine D ?_
 try rw [hat]
 refine D ?_
 refine W ?_
 rw [if_neg (by decide)]
 refine CL rfl (Zk rfl) rfl (Z0s hK hM1) ?_
 rintro _ w4 ⟨rfl,sv4,hM4⟩
 have hblkN4:=hkept hM4
 have hsl4:=hs'.ext (X':=[]) hM4.stp (fun b hb=>hb) (by simp)
 refine W ?_
 apply Z7 (Jp rfl rfl hsl4 l1 (cb _ hM4.stp)) rfl
 refine CL rfl (Zb rfl rfl) rfl (db _ _ _ _ _ _ hM4 hst (by show sh.length+ZE b≤16;omega)) ?_
 rintro _ w6 ⟨rfl,hres6⟩
 change Jz K w6 st at_ (Z6 opn ev b) at hres6
 refine W ?_
 refine WR ?_
 refine .mk ⟨rfl,hun _ _ ?_⟩
 by_cases h1:(Z6 opn ev b).2=0
 rw [if_neg (fun h=>h h1)]
 obtain ⟨sv6,pv6,hM6⟩:=hres6.go h1
 exact ⟨sv6,pv6,_,hM6,fun _=>rfl⟩
 rw [if_pos h1]
 obtain ⟨sv6,pv6,st6,hM6⟩:=hres6.stop h1
 exact Jz.of h1 hM6
 rw [if_pos he]
 obtain ⟨sv1,pv1,st1,hM1⟩:=hres.stop he
 refine W ?_
 refine ZDr 23 [] [] [(0,0),(1,0),(2,0),(3,1),(4,0),(5,0),(6,0),(7,0),(8,1),(9,0),(10,0),(11,0),(12,1),(13,0),(14,0),(15,0),(16,1),(17,0),(18,0),(19,1),(20,0),(21,0),(22,0)] (fun w1 hS1=>?_)
 replace hM1:=hM1.up hS1
 have hblkM:=hM1.blk
 have hblkN1:=hkept hM1
 unfold Z0C at hblkM
 refine D ?_
 refine W ?_
 refine WR ?_
 exact .mk ⟨rfl,hun _ _ (Jz.of he hM1)⟩
set_option maxHeartbeats 2000000 in
theorem Ze1 {n:Int} {a b:Nd} (iha:ZR a) (ihb:ZR b) (ta:Zr a=2) (tb:Zr b=2):ZR (.mk 6 n ([111,114]:Str) [a,b]):=by
 intro K0 nv w sv pv st sh at_ hK0 hk0 hx ht hM hst hb
 obtain ⟨kv,rfl,hs⟩:=hx
 have na:ZE a<ZE (.mk 6 n ([111,114]:Str) [a,b]):=Z0x (x:=.mk 6 n ([111,114]:Str) [a,b]) (by simp [Nd.kids])
 have nb:ZE b<ZE (.mk 6 n ([111,114]:Str) [a,b]):=Z0x (x:=.mk 6 n ([111,114]:Str) [a,b]) (by simp [Nd.kids])
 have hev2:∀ opn ev,Z6 opn ev (.mk 6 n ([111,114]:Str) [a,b])=Zf opn ev 6 n ([111,114]:Str) [Z6 opn ev a,Z6 opn ev b]:=fun opn ev=>Z1q _ _ _
 simp only [Nd.kind,Nd.num,Nd.word,Nd.kids] at hs ⊢
 have hbm:=hM.blk.lt
 have hobs:=fun x hx=>(hM.row.ob_le x hx).2
 have hpv:=hM.nt0 hk0
 have howl:∀ x∈K0.own,x<w.heap.size:=fun x hx=>Xb (Mch.own_lt hK0 x hx) hM.stp.size
 refine cW2 132 Tryz.func58 ?_
 refine W ?_
 refine Z0 (Zl rfl) rfl ?_
 rintro _ w1 ⟨b3,rfl,hb3,hblk,hS⟩
 replace hblk:w1.heap[b3]?=some (ndO 6 n ([111,114]:Str) kv):=hblk
 replace hM:=(hM.up hS).keep hblk (fun h=>by have:=howl _ h;omega) (fun h=>by have:=hobs _ h;omega) (by rw [hpv];simp [ob])
 have hK:=hK0.keep (b:=b3) (o:=ndO 6 n ([111,114]:Str) kv)
 have e0:K0.bm=(K0.keep b3 (ndO 6 n ([111,114]:Str) kv)).bm:=rfl
 rw [show mP K0=mP (K0.keep b3 (ndO 6 n ([111,114]:Str) kv)) from rfl]
 have hs':SlV (K0.keep b3 (ndO 6 n ([111,114]:Str) kv)).own (K0.keep b3 (ndO 6 n ([111,114]:Str) kv)).w0 kv [a,b]:=hs
 have hk:(K0.keep b3 (ndO 6 n ([111,114]:Str) kv)).nk=none:=hk0
 have hun:∀ w' r,Jz (K0.keep b3 (ndO 6 n ([111,114]:Str) kv)) w' st at_ r→Jz K0 w' st at_ r:=fun w' r h=>h.un
 have hcE:K0.c=(K0.keep b3 (ndO 6 n ([111,114]:Str) kv)).c:=rfl
 have hkE:K0.kn=(K0.keep b3 (ndO 6 n ([111,114]:Str) kv)).kn:=rfl
 have heE:K0.ev=(K0.keep b3 (ndO 6 n ([111,114]:Str) kv)).ev:=rfl
 rw [hcE,hkE,heE]
 have hkept:∀ {w:World} {sv pv:Value} {st:List Int} {sp:List Spn} {at_ er:Int} {dn:Bool},Mch (K0.keep b3 (ndO 6 n ([111,114]:Str) kv)) w sv pv st sp at_ er dn→Blk w b3 27 [.int .i64 6,.int .i64 n,str ([111,114]:Str),kv]:=fun h=>h.kept
 have hne:b3≠(K0.keep b3 (ndO 6 n ([111,114]:Str) kv)).bm:=by show b3≠K0.bm;omega
 generalize K0.keep b3 (ndO 6 n ([111,114]:Str) kv)=K at *
 clear e0 hs hK0 hk0 howl hcE hkE heE
 generalize hopn:Zo K.c K.kn=opn
 generalize hevv:K.ev=ev
 have l0:0 < [a,b].length:=by simp
 have l1:1 < [a,b].length:=by simp
 obtain ⟨ka,ca,da⟩:=ZR.kid hK hk hs' l0 iha (by show Zr a≠0;omega)
 obtain ⟨kb,cb,db⟩:=ZR.kid hK hk hs' l1 ihb (by show Zr b≠0;omega)
 rw [hopn,hevv] at da db
 have hblkN:=hkept hM
 have hsl:=hs'.ext (X':=[]) hM.stp (fun b hb=>hb) (by simp)
 refine W ?_
 apply Z7 (Jp rfl rfl hsl l0 (ca _ hM.stp)) rfl
 refine CL rfl (Zb rfl rfl) rfl (da _ _ _ _ _ _ hM hst (by show sh.length+ZE a≤16;omega)) ?_
 rintro _ w2 ⟨rfl,hres⟩
 change Jz K w2 st at_ (Z6 opn ev a) at hres
 have e9:Zf opn ev 6 n ([111,114]:Str) [Z6 opn ev a,Z6 opn ev b]=if ¬ (Z6 opn ev a).2=0 then (0,(Z6 opn ev a).2) else if (Z6 opn ev a).1=1 then ((Z6 opn ev a).1,0) else if ¬ (Z6 opn ev b).2=0 then (0,(Z6 opn ev b).2) else ((Z6 opn ev b).1,0):=by
  unfold Zf
  rw [if_neg (by decide),if_neg (by decide)]
  have e0:[Z6 opn ev a,Z6 opn ev b].getD 0 (0,0)=Z6 opn ev a:=rfl
  have e1:[Z6 opn ev a,Z6 opn ev b].getD 1 (0,0)=Z6 opn ev b:=rfl
  rw [e0,e1]
  have hc:((6:Int)=6∧(([111,114]:Str)=[97,110,100]∧(Z6 opn ev a).1=0∨([111,114]:Str)=[111,114]∧(Z6 opn ev a).1=1))↔(Z6 opn ev a).1=1:=by
   constructor
   rintro ⟨-,(⟨h1,h2⟩|⟨h1,h2⟩)⟩
   first|exact h2|exact absurd h1 (by decide)
   first|exact h2|exact absurd h1 (by decide)
   intro h
   exact ⟨rfl,.inr ⟨rfl,h⟩⟩
  have hl1:¬ [Z6 opn ev a,Z6 opn ev b].length=1:=by simp
  by_cases h0:(Z6 opn ev a).2=0
  have nh0:¬ ¬ (Z6 opn ev a).2=0:=fun h=>h h0
  rw [if_neg nh0,if_neg (by decide),if_neg (by decide),if_neg hl1]
  by_cases hv:(Z6 opn ev a).1=1
  rw [if_pos (hc.2 hv),if_neg nh0,if_pos hv]
  rw [if_neg (fun h=>hv (hc.1 h))]
  by_cases h1:(Z6 opn ev b).2=0
  have nh1:¬ ¬ (Z6 opn ev b).2=0:=fun h=>h h1
  rw [if_neg nh1,if_neg (by decide),if_neg (by decide),if_neg (by decide),if_neg nh0,if_neg hv,if_neg nh1]
  rfl
  rw [if_pos h1,if_neg nh0,if_neg hv,if_pos h1]
  rw [if_pos h0,if_pos h0]
 rw [hev2,e9]
 by_cases he:(Z6 opn ev a).2=0
 rw [if_neg (fun h=>h he)]
 obtain ⟨sv1,pv1,hM1⟩:=hres.go he
 have hva:=Z2i opn ev (by rw [← hevv];exact hK.ev) a (by omega) he
 rw [ta] at hva
 generalize (Z6 opn ev a).1=v at hva hM1 ⊢
 have hv01:v=0∨v=1:=hva.b
 have hlen:(st++[v]).length=st.length+1:=by simp
 have hz:((st++[v]).length:Int) - 1=(st.length:Int):=by rw [hlen];simp
 have hil:st.length<(st++[v]).length:=by rw [hlen];omega
 have hat:(st++[v])[st.length]=v:=by simp
 have hmx:=(hM1.row.slv (X:=[]) (by simp)).max
 rcases hv01 with rfl|rfl
 refine W ?_
 refine ZDr 23 [] [] [(0,0),(1,0),(2,0),(3,1),(4,0),(5,0),(6,0),(7,0),(8,1),(9,0),(10,0),(11,0),(12,1),(13,0),(14,0),(15,0),(16,1),(17,0),(18,0),(19,1),(20,0),(21,0),(22,0)] (fun w1 hS1=>?_)
 replace hM1:=hM1.up hS1
 have hblkM:=hM1.blk
 have hblkN1:=hkept hM1
 have hsv:=hM1.row.slv (X:=[]) (by simp)
 unfold Z0C at hblkM
 refine D ?_
 try refine Z0w rfl (Z09 (i:=st.length) rfl rfl hsv rfl hz hil rfl ?_)
 refine D ?_
 try rw [hat]
 refine D ?_
 refine W ?_
 rw [if_neg (by decide)]
 refine CL rfl (Zk rfl) rfl (Z0s hK hM1) ?_
 rintro _ w4 ⟨rfl,sv4,hM4⟩
 have hblkN4:=hkept hM4
 have hsl4:=hs'.ext (X':=[]) hM4.stp (fun b hb=>hb) (by simp)
 refine W ?_
 apply Z7 (Jp rfl rfl hsl4 l1 (cb _ hM4.stp)) rfl
 refine CL rfl (Zb rfl rfl) rfl (db _ _ _ _ _ _ hM4 hst (by show sh.length+ZE b≤16;omega)) ?_
 rintro _ w6 ⟨rfl,hres6⟩
 change Jz K w6 st at_ (Z6 opn ev b) at hres6
 refine W ?_
 refine WR ?_
 refine .mk ⟨rfl,hun _ _ ?_⟩
 by_cases h1:(Z6 opn ev b).2=0
 rw [if_neg (fun h=>h h1)]
 obtain ⟨sv6,pv6,hM6⟩:=hres6.go h1
 exact ⟨sv6,pv6,_,hM6,fun _=>rfl⟩
 rw [if_pos h1]
 obtain ⟨sv6,pv6,st6,hM6⟩:=hres6.stop h1
 exact Jz.of h1 hM6
 refine W ?_
 refine ZDr 23 [] [] [(0,0),(1,0),(2,0),(3,1),(4,0),(5,0),(6,0),(7,0),(8,1),(9,0),(10,0),(11,0),(12,1),(13,0),(14,0),(15,0),(16,1),(17,0),(18,0),(19,1),(20,0),(21,0),(22,0)] (fun w1 hS1=>?_)
 replace hM1:=hM1.up hS1
 have hblkM:=hM1.blk
 have hblkN1:=hkept hM1
 have hsv:=hM1.row.slv (X:=[]) (by simp)
 unfold Z0C at hblkM
 refine D ?_
 try refine Z0w rfl (Z09 (i:=st.length) rfl rfl hsv rfl hz hil rfl ?_)
 refine D ?_
 try rw [hat]
 refine D ?_
 refine W ?_
 rw [if_pos rfl]
 refine WR ?_
 exact .mk ⟨rfl,hun _ _ ⟨sv1,pv1,_,hM1,fun _=>rfl⟩⟩
 rw [if_pos he]
 obtain ⟨sv1,pv1,st1,hM1⟩:=hres.stop he
 refine W ?_
 refine ZDr 23 [] [] [(0,0),(1,0),(2,0),(3,1),(4,0),(5,0),(6,0),(7,0),(8,1),(9,0),(10,0),(11,0),(12,1),(13,0),(14,0),(15,0),(16,1),(17,0),(18,0),(19,1),(20,0),(21,0),(22,0)] (fun w1 hS1=>?_)
 replace hM1:=hM1.up hS1
 have hblkM:=hM1.blk
 have hblkN1:=hkept hM1
 unfold Z0C at hblkM
 refine D ?_
 refine W ?_
 refine WR ?_
 exact .mk ⟨rfl,hun _ _ (Jz.of he hM1)⟩
theorem SlV.keepC {α:Type} [Z5 α] {X:List Nat} {w w':World} {v:Value} {xs:List α} (h:SlV X w v xs) (hb:∀ b∈ob v,w'.heap[b]?=w.heap[b]?):SlV [] w' v xs:=by
 obtain ⟨p,c,rfl,hl,hm,hn,hc⟩:=h
 refine ⟨p,c,rfl,hl,hm,hn,fun i hi=>?_⟩
 obtain ⟨b,o,cs,rfl,hbl,hx,hr,hcell⟩:=hc i hi
 have e:=hb b (by simp [ob])
 rw [Array.getElem?_eq_getElem hbl] at e
 exact ⟨b,o,cs,rfl,(Array.getElem?_eq_some_iff.1 e).1,by simp,hr,fun j u hu=>(World.cell?_of_block (a:=⟨b,_,none⟩) (hb b (by simp [ob]))).trans (hcell j u hu)⟩
theorem ZR.kid2 {l:List Nd} {K:MK} {kv:Value} (hK:KOk K) (hk:K.nk=none) (hs:SlV K.own K.w0 kv l) {i:Nat} (hi:i<l.length) (ih:ZR l[i]) (ht:Zr l[i]≠0) :
 ∃ kv2 : Value, kv2.oneCell' = true ∧ (∀ w', Stp K.own K.w0 w' → ∀ j u, [Value.int .i64 l[i].kind, .int .i64 l[i].num, str l[i].word, kv2][j]? = some u → w'.cell? (Zq kv i 4 j) = some u)∧
   ∀ (w : World) (sv pv : Value) (st : List Int) (s : Shp) (at_ : Int), Mch K w sv pv st [] at_ 0 false → Ja s st → s.length + ZE l[i] ≤ 16→
     CC 58 #[mP K,.agg #[.int .i64 l[i].kind,.int .i64 l[i].num,str l[i].word,kv2]] w fun r w'=>r=.tuple #[]∧Jz K w' st at_ (Z6 (Zo K.c K.kn) K.ev l[i]):=by
 obtain ⟨kv2,h1,h2⟩:=Zed hs hi (Stp.refl _ _)
 exact ⟨kv2,h1.one,h2,fun w sv pv st s at_ hM hst hb=>ih K _ w sv pv st s at_ hK hk ⟨kv2,rfl,h1⟩ ht hM hst hb⟩
theorem Zkl:∀ r∈Z1s,(r.L.length=1∨(r.L.length=2∧(r.L.getD 0 0=8∨r.L.getD 0 0=9∨r.L.getD 0 0=10∨r.L.getD 0 0=11)))∧(∀ o∈r.L,o≠24∧o≠13∧o≠14):=by decide +kernel
theorem Zck (r:Z86) (hr:r∈Z1s):Z4m 2 (r.L.map fun o=>⟨o,0⟩) r.ts=some [r.t]:=by
 have hb:=XC.1 ZhB r hr
 simp only [Xf] at hb
 exact (ZbV hb.1.2).2.2
theorem Zau {opn:Int→Bool} {ev:List Int} {o a b:Int} (h:o=8∨o=9∨o=10∨o=11):(ZY opn ev ⟨o,0⟩ a b).2=0:=by
 rcases h with rfl|rfl|rfl|rfl<;>rfl
theorem Z91 {b:Nat} {x:Ins} {L:List Ins} {s r:Shp} (h:Z4m b (x :: L) s=some r):∃ nx,Z2d x s=some nx∧nx.length≤b∧Z4m b L nx=some r:=by
 rw [Z4m] at h
 cases hx:Z2d x s with
 | none=>rw [hx] at h;cases h
 | some s1=>
   rw [hx] at h
   simp only at h
   split at h
   rename_i hl
   exact ⟨s1,rfl,hl,h⟩
   cases h
theorem Z92 {a b:List (Int×Int)} (ha:∀ x∈a,x.2=0):JM (a++b)=JM b:=by
 induction a with
 | nil=>rfl
 | cons x r ih=>
   rw [XI,JM,if_pos (ha x (by simp))]
   exact ih (fun y hy=>ha y (by simp [hy]))
set_option maxHeartbeats 4000000 in
theorem Z93 {r:Z86} {n:Int} {l:List Nd} (hr:r∈Z1s) (hts:l.map Zr=r.ts) (ih:∀ y∈l,ZR y) (hkid:∀ y∈l,Zr y≠0):ZR (.mk r.k n r.s l):=by
 intro K0 nv w sv pv st sh at_ hK0 hk0 hx ht hM hst hb
 obtain ⟨kv,rfl,hs⟩:=hx
 have hnk:∀ y∈l,ZE y<ZE (.mk r.k n r.s l):=fun y hy=>Z0x (x:=.mk r.k n r.s l) hy
 have hev2:∀ opn ev,Z6 opn ev (.mk r.k n r.s l)=Zf opn ev r.k n r.s (l.map (Z6 opn ev)):=fun opn ev=>Z1q _ _ _
 obtain ⟨⟨hk123,hk4,hk9⟩,hao,hlen12⟩:=Zeb r hr
 obtain ⟨hL12,hLo⟩:=Zkl r hr
 have hfold:=Zck r hr
 obtain ⟨ov1,ov2,ov3⟩:=Zcg r hr
 have hll:l.length=r.ts.length:=by rw [← hts];simp
 simp only [Nd.kind,Nd.num,Nd.word,Nd.kids] at hs ⊢
 have hbm:=hM.blk.lt
 have hobs:=fun x hx=>(hM.row.ob_le x hx).2
 have hpv:=hM.nt0 hk0
 have howl:∀ x∈K0.own,x<w.heap.size:=fun x hx=>Xb (Mch.own_lt hK0 x hx) hM.stp.size
 refine cW2 132 Tryz.func58 ?_
 refine W ?_
 refine Z0 (Zl rfl) rfl ?_
 rintro _ w1 ⟨b3,rfl,hb3,hblk,hS⟩
 replace hblk:w1.heap[b3]?=some (ndO r.k n r.s kv):=hblk
 replace hM:=(hM.up hS).keep hblk (fun h=>by have:=howl _ h;omega) (fun h=>by have:=hobs _ h;omega) (by rw [hpv];simp [ob])
 have hK:=hK0.keep (b:=b3) (o:=ndO r.k n r.s kv)
 have e0:K0.bm=(K0.keep b3 (ndO r.k n r.s kv)).bm:=rfl
 rw [show mP K0=mP (K0.keep b3 (ndO r.k n r.s kv)) from rfl]
 have hs':SlV (K0.keep b3 (ndO r.k n r.s kv)).own (K0.keep b3 (ndO r.k n r.s kv)).w0 kv l:=hs
 have hk:(K0.keep b3 (ndO r.k n r.s kv)).nk=none:=hk0
 have hun:∀ w' (z:Int×Int),Jz (K0.keep b3 (ndO r.k n r.s kv)) w' st at_ z→Jz K0 w' st at_ z:=fun w' z h=>h.un
 have hcE:K0.c=(K0.keep b3 (ndO r.k n r.s kv)).c:=rfl
 have hkE:K0.kn=(K0.keep b3 (ndO r.k n r.s kv)).kn:=rfl
 have heE:K0.ev=(K0.keep b3 (ndO r.k n r.s kv)).ev:=rfl
 rw [hcE,hkE,heE]
 have hkept:∀ {w:World} {sv pv:Value} {st:List Int} {sp:List Spn} {at_ er:Int} {dn:Bool},Mch (K0.keep b3 (ndO r.k n r.s kv)) w sv pv st sp at_ er dn→Blk w b3 27 [.int .i64 r.k,.int .i64 n,str r.s,kv]:=fun h=>h.kept
 have hne:b3≠(K0.keep b3 (ndO r.k n r.s kv)).bm:=by show b3≠K0.bm;omega
 generalize K0.keep b3 (ndO r.k n r.s kv)=K at *
 clear e0 hs hK0 hk0 howl hcE hkE heE
 generalize hopn:Zo K.c K.kn=opn
 generalize hevv:K.ev=ev
 have hevo:Z84 ev:=by rw [← hevv];exact hK.ev
 have hblkN:=hkept hM
 have hsl:=hs'.ext (X':=[]) hM.stp (fun b hb=>hb) (by simp)
 have h1:r.k≠1∧r.k≠2∧r.k≠3:=by omega
 have hs1:r.k=6→¬ r.s=[97,110,100]:=fun h6 h=>hao ⟨h6,.inl h⟩
 have hs2:r.k=6→¬ r.s=[111,114]:=fun h6 h=>hao ⟨h6,.inr h⟩
 have hmax:=hsl.max
 have k6:r.k=6∨r.k≠6:=by omega
 rcases k6 with k6|k6
 all_goals repeat'(first|refine W1 ?_|omega|(exfalso;exact hs1 k6 (by assumption))|(exfalso;exact hs2 k6 (by assumption))|refine VG ?_ ?_<;>intro hg|refine VC ?_ ?_<;>intro hc)
 all_goals
  refine Z6h (σ:=Unit) (fun _=>[(0,mP K),(3,.pointer (some ⟨b3,0,none⟩))])
   (fun _ w'=>(∃ sv pv,Mch K w' sv pv (st++l.map fun y=>(Z6 opn ev y).1) [] at_ 0 false)∧∀ y∈l,(Z6 opn ev y).2=0) ?_ ?_
  refine Zh (σ:=Nat) (fun j=>[(0,mP K),(3,.pointer (some ⟨b3,0,none⟩)),(9,kv),(10,.int .i64 (l.length:Int)),(11,.int .i64 (j:Int))])
   (fun j w'=>j≤l.length∧(∃ sv pv,Mch K w' sv pv (st++(l.take j).map fun y=>(Z6 opn ev y).1) [] at_ 0 false)∧∀ y∈l.take j,(Z6 opn ev y).2=0) (fun j=>l.length - j) 0 ⟨rfl,rfl,rfl,rfl,rfl,trivial⟩ ⟨Xo _,⟨_,_,by simpa using hM⟩,by simp⟩ ?_
  rintro j w2 ⟨hj,⟨sv1,pv1,hM1⟩,hok⟩
  have hsl1:=hs'.ext (X':=[]) hM1.stp (fun b hb=>hb) (by simp)
  by_cases hlt:j<l.length
  have hmem:=Xm hlt
  obtain ⟨kj,oj,cj,dj⟩:=ZR.kid2 hK hk hs' hlt (ih _ hmem) (hkid _ hmem)
  rw [hopn,hevv] at dj
  have hn1:=hnk _ hmem
  have hstj:Ja (sh++(l.take j).map Zr) (st++(l.take j).map fun y=>(Z6 opn ev y).1):=by
   refine hst.app ⟨by simp,fun i h h'=>?_⟩
   simp only [YaH]
   have hi:i<(l.take j).length:=by simpa using h
   have hmi:=Xm hi
   exact Z2i opn ev hevo _ (hkid _ (Yas hmi)) (hok _ hmi)
  have hbj:(sh++(l.take j).map Zr).length+ZE l[j]≤16:=by
   rw [Xh,Yaw,Xu]
   omega
  have htk:l.take (j+1)=l.take j++[l[j]]:=Xl hlt
  focus repeat'(first|refine W1 ?_|omega|refine VG ?_ ?_<;>intro hg|refine VC ?_ ?_<;>intro hc)
  apply Z7 (Jp rfl rfl hsl1 hlt (cj _ hM1.stp)) rfl
  refine Z0 Z8 rfl ?_
  rintro _ w3 ⟨b5,rfl,hb5,e5,hS3⟩
  refine W ?_
  refine Z1 (Z2 (us:=[.int .i64 l[j].kind,.int .i64 l[j].num,str l[j].word,kj]) rfl rfl rfl rfl (by intro u hu;simp at hu;rcases hu with rfl|rfl|rfl|rfl;exact rfl;exact rfl;exact rfl;exact oj) e5 rfl) ?_
  rintro _ w4 ⟨hT,k5⟩
  replace hM1:=hM1.up (hS3.own hT (fun c hc=>.inr (by simp at hc;omega)))
  clear e5 hT hS3
  refine W ?_
  refine CL rfl (Zb rfl rfl) rfl (dj _ _ _ _ _ _ hM1 hstj hbj) ?_
  rintro _ w5 ⟨rfl,hres⟩
  by_cases he:(Z6 opn ev l[j]).2=0
  obtain ⟨sv2,pv2,hM2⟩:=hres.go he
  have hblkM:=hM2.blk
  unfold Z0C at hblkM
  refine W ?_
  refine Zd (j+1) ⟨rfl,rfl,rfl,rfl,rfl,trivial⟩ ⟨hlt,⟨sv2,pv2,?_⟩,?_⟩ (by omega)
  rw [htk,Yal,← Xr]
  exact hM2
  intro y hy
  rw [htk,Xt] at hy
  rcases hy with hy|hy
  exact hok y hy
  obtain rfl:y=l[j]:=by simpa using hy
  exact he
  obtain ⟨sv2,pv2,st2,hM2⟩:=hres.stop he
  have hblkM:=hM2.blk
  unfold Z0C at hblkM
  refine W ?_
  refine WR ?_
  refine .mk ⟨rfl,hun _ _ ?_⟩
  have hfe:JM (l.map (Z6 opn ev))=(Z6 opn ev l[j]).2:=by
   conv=>lhs;rw [← Xq j l,Yal,XA hlt]
   rw [Z92 (by intro x hx;obtain ⟨y,hy,rfl⟩:=Yao.1 hx;exact hok y hy)]
   rw [Xy,JM,if_neg he]
  rw [hev2,Z6d opn ev n _ r hr (by rw [← hll];simp) (by rw [hfe];exact he),hfe]
  exact Jz.of he hM2
  obtain rfl:j=l.length:=by omega
  rw [Xw] at hM1 hok
  focus repeat'(first|refine W1 ?_|omega|refine VG ?_ ?_<;>intro hg|refine VC ?_ ?_<;>intro hc)
  exact ZJ () ⟨rfl,rfl,trivial⟩ ⟨⟨sv1,pv1,hM1⟩,hok⟩
  rintro _ w2 ⟨⟨sv1,pv1,hM1⟩,hok⟩
  have hblk2:=hkept hM1
  have hvs:l.map (Z6 opn ev)=okv (l.map fun y=>(Z6 opn ev y).1):=by
   unfold okv
   rw [YaI]
   exact List.map_congr_left (fun y hy=>Prod.ext rfl (hok y hy))
  have hstv:Ja r.ts (l.map fun y=>(Z6 opn ev y).1):=by
   rw [← hts]
   refine ⟨by simp,fun i h h'=>?_⟩
   simp only [YaH]
   have hi:i<l.length:=by simpa using h
   have hmi:=Xm hi
   exact Z2i opn ev hevo _ (hkid _ hmi) (hok _ hmi)
  have hline:=Z8R opn ev n st (l.map fun y=>(Z6 opn ev y).1) r hr hstv
  rw [← hvs] at hline
  rw [hev2]
  generalize Zf opn ev r.k n r.s (l.map (Z6 opn ev))=R at hline ⊢
  generalize (l.map fun y=>(Z6 opn ev y).1)=vs at hstv hline hM1
  obtain ⟨hl1,hl2⟩:=hline
  have hXlt:∀ b∈K.own++ob sv1++ob pv1,b<w2.heap.size:=by
   intro b hb
   simp only [Xt] at hb
   rcases hb with (hb|hb)|hb
   exact Xb (Mch.own_lt hK b hb) hM1.stp.size
   exact (hM1.row.ob_le b hb).2
   rw [hM1.nt0 hk] at hb;simp [ob] at hb
  refine W ?_
  refine CL rfl (Zk rfl) rfl (Z5u (K.own++ob sv1++ob pv1) r.k n r.s kv _ hXlt ov2) ?_
  rintro rv w3 ⟨hrv,hS3⟩
  replace hM1:=hM1.up hS3
  have hLpos:0<(Z74 r.k r.s).length:=by rw [ov1];omega
  have hrv0:=hrv.ext (X':=[]) (Stp.refl [] _) (by simp) (by simp)
  obtain ⟨bq,oo,hoo,hbq,hq1,hq2,hq3⟩:∃ bq oo,w3.heap[bq]?=some oo∧(∀ b∈ob rv,b=bq)∧bq∉K.own∧bq∉ob sv1∧bq∉ob pv1:=by
   obtain ⟨p,c,rfl,-,-,-,hcell⟩:=id hrv
   obtain ⟨bq,oq,csq,rfl,hbq,hxq,-⟩:=hcell 0 hLpos
   simp only [Xt,not_or] at hxq
   exact ⟨bq,_,Array.getElem?_eq_getElem hbq,by simp [ob],hxq.1.1,hxq.1.2,hxq.2⟩
  have hM2:=hM1.keep hoo hq1 hq2 hq3
  have hK2:=hK.keep (b:=bq) (o:=oo)
  have hk2:(K.keep bq oo).nk=none:=hk
  have hrvK:∀ {w:World} {sv pv:Value} {st:List Int} {sp:List Spn} {at_ er:Int} {dn:Bool},Mch (K.keep bq oo) w sv pv st sp at_ er dn→SlV [] w rv (Z74 r.k r.s):=fun h=>SlV.keepC hrv (fun b hb=>by rw [hbq b hb];exact h.kept.trans hoo.symm)
  have hun2:∀ w' (z:Int×Int),Jz (K.keep bq oo) w' st at_ z→Jz K0 w' st at_ z:=fun w' z h=>hun w' z h.un
  rw [show mP K=mP (K.keep bq oo) from rfl]
  have ho2:Zo (K.keep bq oo).c (K.keep bq oo).kn=opn:=hopn
  have he2:(K.keep bq oo).ev=ev:=hevv
  generalize K.keep bq oo=K2 at *
  refine W ?_
  refine Zh (σ:=Nat) (fun i=>[(0,mP K2),(24,rv),(25,.int .i64 ((Z74 r.k r.s).length:Int)),(26,.int .i64 (i:Int))])
   (fun i w'=>(i<r.L.length∧∃ sv pv st' ts',ts'.length≤2∧Mch K2 w' sv pv st' [] at_ 0 false∧Ja (sh++ts') st'∧Z4m 2 ((r.L.drop i).map fun o=>⟨o,0⟩) ts'=some [r.t]∧Z3r opn ev (r.L.drop i) st'=Z3r opn ev r.L (st++vs))∨(i=r.L.length∧Jz K2 w' st at_ R)) (fun i=>r.L.length - i) 0 ⟨rfl,rfl,rfl,rfl,trivial⟩
   (.inl ⟨by omega,sv1,pv1,_,r.ts,by omega,hM2,hst.app hstv,hfold,rfl⟩) ?_
  rintro i w4 (⟨hi,sv2,pv2,st',ts',ht2,hM4,hst4,hf4,hr4⟩|⟨rfl,hres⟩)
  have hrv4:=hrvK hM4
  have hio:i<(Z74 r.k r.s).length:=by omega
  have hdrop:r.L.drop i=r.L.getD i 0 :: r.L.drop (i+1):=by
   rw [XA hi]
   congr 1
   simp [List.getD,hi]
  have hop:=hLo (r.L.getD i 0) (by simp [List.getD,hi])
  rw [hdrop,Xy] at hf4
  obtain ⟨nx,hn1,hn2,hn3⟩:=Z91 hf4
  have hx1:1≤ZE (.mk r.k n r.s l):=by rw [Z4X];omega
  have hx2:2≤ZE (.mk r.k n r.s l):=by
   have:0<l.length:=by omega
   have:=hnk _ (Xm this)
   have h9:1≤ZE l[0]:=by rw [Z4X];omega
   omega
  have hnf:=Z8Q (s:=sh) hn1 (by omega)
  have hget:=ov3 i hi
  rw [List.getElem?_map,List.getElem?_eq_getElem hio] at hget
  have hget2:fnV (Z74 r.k r.s)[i].f=Z3E Z8Z (r.L.getD i 0) .nilFunc:=by simpa using hget
  have hst16:st'.length≤100000:=by
   have h7:=hst4.1
   rw [Xh] at h7
   omega
  focus repeat'(first|refine W1 ?_|omega|refine VG ?_ ?_<;>intro hg|refine VC ?_ ?_<;>intro hc)
  refine Z0 (ZdW (x:=⟨r.L.getD i 0,0⟩) hK2 hM4 hnf hst4 hst16 (by simp) (by show some _=some _;rw [← hget2]) rfl rfl) rfl ?_
  rintro _ w5 ⟨rfl,hstep⟩
  unfold Jt at hstep
  rw [if_neg hop.1,if_neg hop.2.1,if_neg hop.2.2,ho2,he2] at hstep
  rw [hdrop,Z3r] at hr4
  obtain ⟨sv6,pv6,st6,sp6,hM6,hok6⟩:=hstep
  replace hM6:=hM6.nosp hk2 (sp':=[])
  by_cases hlast:i+1=r.L.length
  have hd0:r.L.drop (i+1)=[]:=by rw [hlast];simp
  rw [hd0] at hr4
  refine W ?_
  refine Zd (i+1) ⟨rfl,rfl,rfl,rfl,trivial⟩ (.inr ⟨hlast,?_⟩) (by omega)
  by_cases he:(ZY opn ev ⟨r.L.getD i 0,0⟩ (JQ st' 1) (JQ st' 0)).2=0
  rw [if_pos he] at hr4
  rw [← hr4] at hl1 hl2
  obtain ⟨e1,e2⟩:=hok6 he
  rw [he] at hM6
  have hR0:R.2=0:=hl1.symm
  refine ⟨sv6,pv6,st6,by rw [hR0];exact hM6,fun _=>?_⟩
  rw [e1]
  exact hl2 hR0
  rw [if_neg he] at hr4
  rw [← hr4] at hl1 hl2
  have hR0:R.2=(ZY opn ev ⟨r.L.getD i 0,0⟩ (JQ st' 1) (JQ st' 0)).2:=hl1.symm
  refine ⟨sv6,pv6,st6,by rw [hR0];exact hM6,fun h0=>absurd h0 (by rw [hR0];exact he)⟩
  have hi0:i=0∧r.L.length=2:=by omega
  have hfst:(ZY opn ev ⟨r.L.getD i 0,0⟩ (JQ st' 1) (JQ st' 0)).2=0:=by
   rw [hi0.1]
   rcases hL12 with h|⟨-,h⟩
   omega
   exact Zau h
  rw [if_pos hfst] at hr4
  obtain ⟨e1,e2⟩:=hok6 hfst
  rw [hfst] at hM6
  have hvs4:=ZbW (opn:=opn) hevo hnf (by exact hop.1) (by exact hop.2.1) (by exact hop.2.2) hst4 hfst
  refine W ?_
  refine Zd (i+1) ⟨rfl,rfl,rfl,rfl,trivial⟩ (.inl ⟨by omega,sv6,pv6,st6,nx,hn2,hM6,?_,hn3,?_⟩) (by omega)
  rw [e1];exact hvs4
  rw [e1];exact hr4
  focus repeat'(first|refine W1 ?_|omega|refine VG ?_ ?_<;>intro hg|refine VC ?_ ?_<;>intro hc)
  refine WR ?_
  exact .mk ⟨rfl,hun2 _ _ hres⟩
theorem Zcl (x:Nd):Zr x≠0→ZR x:=by
 induction x using Nd.ind with
 | h k n s l ih=>
 intro ht
 have hkid:∀ y∈l,Zr y≠0:=fun y hy=>Z6b (x:=.mk k n s l) ht hy
 rcases Z5q ht with ⟨rfl,hlf⟩|⟨rfl,a,b,c,rfl,ta,tb,tc⟩|⟨rfl,hs,a,b,rfl,ta,tb,ht2⟩|⟨r,hr,rfl,rfl,hts,htt⟩
 exact Zat hlf
 exact Ze0 (ih a (by simp) (hkid a (by simp))) (ih b (by simp) (hkid b (by simp))) (ih c (by simp) (hkid c (by simp))) ta (hkid b (by simp)) (hkid c (by simp))
 rcases hs with rfl|rfl
 exact Zcj (ih a (by simp) (hkid a (by simp))) (ih b (by simp) (hkid b (by simp))) ta tb
 exact Ze1 (ih a (by simp) (hkid a (by simp))) (ih b (by simp) (hkid b (by simp))) ta tb
 exact Z93 hr hts (fun y hy=>ih y hy (hkid y hy)) hkid
theorem Z6f (nv:Value) (x:Nd) (kn:Int) (ev:List Int) (c:Cal) (hv cv zo zs hr:Value) (w:World) (hx:NdV [] w nv x) (ht:Zr x≠0) (hnest:ZE x≤16) (hcal:Z4v w c hv cv zo zs hr) (hev:Z84 ev) (ho:zo.oneCell'=true∧zs.oneCell'=true∧hr.oneCell'=true) :
 CC 20 #[nv,ZdX ev,Z4w c hv cv zo zs hr,.int .i64 kn] w fun r w'=>r=.tuple #[.int .i64 (if (Z6 (Zo c kn) ev x).2=0 then (Z6 (Zo c kn) ev x).1 else 0),.int .i64 (Z6 (Zo c kn) ev x).2]∧Stp [] w w':=by
 obtain ⟨kv,rfl,hsk⟩:=hx
 have hone:=hsk.one
 refine cW4 30 Tryz.func20 ?_
 refine W ?_
 refine Z0 (Zl rfl) rfl ?_
 rintro _ w1 ⟨b4,rfl,hb4,k4,hS⟩
 replace k4:Blk w1 b4 27 [.int .i64 x.kind,.int .i64 x.num,str x.word,kv]:=k4
 refine Z0 (Zl rfl) rfl ?_
 rintro _ w2 ⟨b5,rfl,hb5,k5,hS2⟩
 replace k5:Blk w2 b5 29 (evC ev):=k5
 replace k4:=k4.up hS2
 replace hS:=hS.trans hS2
 refine Z0 (Zl rfl) rfl ?_
 rintro _ w3 ⟨b6,rfl,hb6,k6,hS3⟩
 replace k6:Blk w3 b6 37 (Z0d c hv cv zo zs hr):=k6
 replace k4:=k4.up hS3
 replace k5:=k5.up hS3
 replace hS:=hS.trans hS3
 clear hS2 hS3
 refine W ?_
 refine Za (vs:=[(0,ZdX ev),(1,Z4w c hv cv zo zs hr),(2,.int .i64 kn),(7,.func (.func 57) #[] #[])]) rfl (ZdY ev c hv cv zo zs hr kn) rfl ?_
 refine Z0 (Zl rfl) rfl ?_
 rintro _ w4 ⟨bm,rfl,hbm,km,hS4⟩
 replace km:Blk w4 bm 126 (evC ev++Z0d c hv cv zo zs hr++([.int .i64 kn,.slice none 0 0,.int .i64 0,.int .i64 0,.bool false,.func (.func 57) #[] #[]]:List Value)):=km
 have hbmw:w.heap.size≤bm:=Xg hS.size hbm
 replace k4:=k4.up hS4
 replace hS:=hS.trans hS4
 clear k5 k6 hS4
 obtain ⟨K,e1,e2,hk,e4,e5,e6,e7,e8,e9,e10,e11,e12⟩:∃ K:MK,K.w0=w4∧K.bm=bm∧K.nk=none∧K.ev=ev∧K.c=c∧K.kn=kn∧K.hv=hv∧K.cv=cv∧K.zo=zo∧K.zs=zs∧K.hr=hr∧K.pr=[]:=⟨⟨w4,bm,none,ev,c,kn,hv,cv,zo,zs,hr,[]⟩,rfl,rfl,rfl,rfl,rfl,rfl,rfl,rfl,rfl,rfl,rfl,rfl⟩
 subst e1 e2 e4 e5 e6 e7 e8 e9 e10 e11
 have own_eq:K.own=[K.bm]:=by simp [MK.own,hk]
 have own_ge:∀ b∈K.own,w.heap.size≤b:=fun b hb=>by rw [own_eq] at hb;simp at hb;omega
 have hcw:=hcal.up hS
 have g1:1<w.heap.size:=by have:=block_lt_of_cell (hcal.len 0 0 rfl);simpa using this
 have g2:3<w.heap.size:=by have:=block_lt_of_cell (hcal.mov 0 0 rfl);simpa using this
 have hK:KOk K:=
  { hols := hcal.hols.ext hS (by simp) (fun b hb => .inr (own_ge b hb))
    clos:=hcal.clos.ext hS (by simp) (fun b hb=>.inr (own_ge b hb))
    ozo:=ho.1,ozs:=ho.2.1,ohr:=ho.2.2
    len:=hcw.len,mov:=hcw.mov
    bml:=km.lt
    nkl:=fun b hb=>by rw [hk] at hb;cases hb
    gl:=fun b hb=>by have:=own_ge b hb;omega
    cal:=hcal.ok
    ev:=hev }
 have hM:Mch K K.w0 (.slice none 0 0) (.slice none 0 0) [] [] 0 0 false:=
  { blk := by unfold Z0C; rw [hk]; exact km
    row:=Row.nil
    nt:=fun b hb=>by rw [hk] at hb;cases hb
    nt0:=fun _=>rfl
    ap:=by simp [ob]
    stp:=Stp.refl _ _
    prot:=fun p hp=>by rw [e12] at hp;cases hp }
 have hx0:SlV K.own K.w0 kv x.kids:=hsk.ext hS (by simp) (fun b hb=>.inr (own_ge b hb))
 refine W ?_
 refine CL rfl (Zb rfl rfl) rfl (Zcl x ht K _ _ _ _ [] [] 0 hK hk ⟨kv,rfl,hx0⟩ ht hM Ja.nil (by simpa using hnest)) ?_
 rintro _ w5 ⟨rfl,hres⟩
 have fin:∀ w',Stp K.own K.w0 w'→Stp [] w w':=fun w' h=>hS.own h (fun b hb=>.inr (own_ge b hb))
 by_cases he:(Z6 (Zo K.c K.kn) K.ev x).2=0
 rw [if_pos he]
 obtain ⟨sv,pv,hM5⟩:=hres.go he
 have hblk:=hM5.blk
 unfold Z0C at hblk
 refine W ?_
 refine CL rfl (Zk rfl) rfl (Z0s hK hM5) ?_
 rintro _ w6 ⟨rfl,sv6,hM6⟩
 refine W ?_
 refine WR ?_
 exact .mk ⟨by rw [he],fin _ hM6.stp⟩
 rw [if_neg he]
 obtain ⟨sv,pv,st2,hM5⟩:=hres.stop he
 have hblk:=hM5.blk
 unfold Z0C at hblk
 focus repeat'(first|refine W1 ?_|omega|refine VG ?_ ?_<;>intro hg|refine VC ?_ ?_<;>intro hc)
 refine ZDr 6 [] [] [(0,0),(1,0),(2,0),(3,1),(4,0),(5,0)] (fun w1 hS1=>?_)
 replace hM5:=hM5.up hS1
 replace hblk:=hblk.up hS1
 refine D ?_
 refine W ?_
 refine WR ?_
 exact .mk ⟨rfl,fin _ hM5.stp⟩
open Go Go.Eng Go.RowKit Go.Proofs
def Zkm:Str:=[115,101,114,118,101,100,32,43,32,101,120,116,114,97,32,100,97,121,115]
def Z3y:Nd:=.mk 7 0 [100,97,121,115] [.mk 4 0 [115,101,114,118,101,100] [],.mk 4 0 [101,120,116,114,97] []]
theorem Zav:Z1f Zkm=.ok Z3y:=by kernel_rfl
def Zcm:Cal:=⟨[false,false,false,false,false,false,false],[],[]⟩
abbrev ZmB:Value:=Z4w Zcm (.slice none 0 0) (.slice none 0 0) (.int .i64 0) (.slice none 0 0) (.int .i64 0)
theorem Z6g (w:World):(Instr.build 37 #[]).run Tryz.prog w=.ok ZmB w:=by kernel_rfl
theorem Z9D (a x t:Int) (w:World):(Instr.build 29 #[(0,.int .i64 a),(1,.int .i64 (-1)),(2,.int .i64 x),(4,.int .i64 t)]).run Tryz.prog w=.ok (ZdX [a,-1,x,0,t,0,0]) w:=by kernel_rfl
theorem evO (ev:List Int):∀ u∈evC ev,u.oneCell'=true:=by
 intro u hu
 unfold evC at hu
 simp only [Xd,Xv,or_false] at hu
 rcases hu with rfl|rfl|rfl|rfl|rfl|rfl|rfl<;>rfl
theorem Z8f:Zr Z3y=3:=by
 simp only [Z3y,Zr,Xy,XQ]
 kernel_rfl
theorem Z8g:ZE Z3y=2:=by
 simp only [Z3y,ZE,Xy,XQ]
 kernel_rfl
theorem Zcn {a s x t:Int} (h1:0≤a∧a≤3652058) (h2:-1≤s∧s≤3652058) (h3:0≤x∧x≤1000) (h4:0≤t∧t≤1000):Z84 [a,s,x,0,t,0,0]:=by
 refine ⟨rfl,by simpa using h1,by simpa using h2,fun i g2 g7=>?_⟩
 have:i=2∨i=3∨i=4∨i=5∨i=6:=by omega
 rcases this with rfl|rfl|rfl|rfl|rfl<;>simp<;>omega
theorem Zco (opn:Int→Bool) (a x b t:Int):Z6 opn [a,-1,x,b,t,0,0] Z3y=(0,32):=by
 simp only [Z3y,Z6,Xy,XQ]
 kernel_rfl
theorem Zcp (opn:Int→Bool) (a s x b t:Int) (hs:0≤s) (hx:0≤x) (hsx:s+x≤3652058):Z6 opn [a,s,x,b,t,0,0] Z3y=(s+x,0):=by
 have e1:Zf opn [a,s,x,b,t,0,0] 4 0 [115,101,114,118,101,100] []=(s,0):=by
  show Z40 [a,s,x,b,t,0,0] 1=_
  unfold Z40
  rw [if_neg (by simp;omega)]
  rfl
 have e2:Zf opn [a,s,x,b,t,0,0] 4 0 [101,120,116,114,97] []=(x,0):=by kernel_rfl
 simp only [Z3y,Z6,Xy,XQ]
 rw [e1,e2]
 show Z5E (s+x)=_
 unfold Z5E
 rw [if_neg (by omega)]
theorem Zcq {till:Int} {ws:List Wy} {ps:List Pap} {d:Dlv} (h:d∈Z3d till ws ps):d.day≤till∧∃ p∈ps,d.day=p.sent+(Z0A ws p.attempt).days:=by
 have:=(Z3K till ws ps []).mem_iff.1 h
 rw [XK,X9] at this
 obtain ⟨h1,h2⟩:=this
 refine ⟨by simpa using h2,?_⟩
 unfold Z0M at h1
 obtain ⟨p,hp,hd⟩:=YaG.1 h1
 refine ⟨p,hp,?_⟩
 split at hd
 simp only [Xp] at hd
 subst hd;rfl
 cases hd
theorem Z94 {till:Int} {ws:List Wy} {ps:List Pap} {z d:Int} (hf:Fit ps ws) (h:served (Z3d till ws ps) ps z=(d,true)):0≤d∧d≤till:=by
 unfold served at h
 split at h
 cases h
 · rename_i p _
   cases hq:(Z3d till ws ps).find? (fun x=>decide (x.attempt=z∧x.party=p.party)) with
   | none=>rw [hq] at h;cases h
   | some x=>
     rw [hq] at h
     obtain ⟨h1,q,hq1,h2⟩:=Zcq (List.mem_of_find?_eq_some hq)
     have h3:=hf.sent q hq1
     have h4:=Z5R hf.days (by omega) q.attempt
     simp only [Z9h,Prod.mk.injEq] at h
     omega
theorem ZaI (va vb:Value) (a b:List Int) (n z:Int) (er:Value) (m:Int) (w:World) (ha:SlV [] w va a) (hb:SlV [] w vb b) (hia:∀ x∈a,I64 x) (hib:∀ x∈b,I64 x) (hn:I64 n) (hz:I64 z)
 (hL:Z0b w) (hM:Z31 w) (hm:w.cell? ⟨2,0,none⟩=some (.int .i64 m)) (hv4:w.cell? ⟨5,0,none⟩=some er) (hev4:er=.nilIface∨∃ te pe,er=.iface te pe) :
 CC 6 #[.agg #[va,vb,.int .i64 n],.int .i64 z] w fun r w'=>r=.bool true∧Stp [] w w':=by
 obtain ⟨pa,ca,rfl⟩:=ha.len
 obtain ⟨pb,cb,rfl⟩:=hb.len
 refine cW2 106 Tryz.func6 ?_
 refine W ?_
 refine Z0 (Zl rfl) rfl ?_
 rintro _ w1 ⟨q,rfl,hq,hblk,hS⟩
 replace hblk:Blk w1 q _ [.slice pa a.length ca,.slice pb b.length cb,.int .i64 n]:=hblk
 replace ha:=ha.up hS;replace hb:=hb.up hS
 refine W ?_
 refine CL rfl (Zk rfl) rfl (Zd8 [] [] [] _ _ a b n _ (by simp) ha hb hia hib hn) ?_
 rintro _ w2 ⟨u,v,rfl,hrow,-,hwrow,-,hT⟩
 have hps:SlV [] w2 u (ZF a):=hrow.slv (by simp)
 have hws:SlV [] w2 v (Z1d (ZF a) b):=hwrow.slv (by simp)
 have hfit:=Zbr a b
 have hlen:=hfit.len
 have hmem:=fun p hp=>Z3f (l:=a) (p:=p) hp
 replace hS:=hS.trans hT
 clear hT hrow hwrow hblk ha hb
 generalize ZF a=ps at *
 generalize Z1d ps b=ws at *
 have hun:=Z0l n 60 (by omega)
 generalize hud:739616+ZL n 60=ud
 refine W ?_
 refine CL rfl (Zk rfl) rfl (Zac [] Zkm er m _ (by simp) (hL.up hS) (hS.cell (by simp) hm) (hS.cell (by simp) hv4) hev4 (by decide)) ?_
 rintro r w3 ⟨hr,hT⟩
 rw [Zav] at hr
 obtain ⟨kv,rfl,hkv⟩:∃ kv,r=.tuple #[.agg (ndC Z3y kv).toArray,.int .i64 0,.int .i64 0]∧SlV [] w3 kv Z3y.kids:=hr
 replace hps:=hps.up hT;replace hws:=hws.up hT
 replace hS:=hS.trans hT
 clear hT
 refine W ?_
 refine Z0 Z8 rfl ?_
 rintro _ w4 ⟨b8,rfl,hb8,e8,hA⟩
 refine Z1 (Z2 (us:=ndC Z3y kv) rfl rfl rfl rfl (ZD hkv) e8 rfl) ?_
 rintro _ w5 ⟨hT,e8⟩
 replace hA:=hA.own hT (fun c hc=>.inr (by simp at hc;omega))
 replace hps:=hps.up hA;replace hws:=hws.up hA;replace hkv:=hkv.up hA
 replace hS:=hS.trans hA
 clear hA hT
 repeat'(first|refine W1 ?_|omega|refine VG ?_ ?_<;>intro hg|refine VC ?_ ?_<;>intro hc)
 refine CL rfl (J7 rfl rfl rfl) rfl (Z6H [] [] [] u v ps ws ud _ (by simp) hps hws hfit) ?_
 rintro _ w6 ⟨dv,rv,rfl,hdv,-,hT⟩
 replace hps:=hps.up hT;replace hkv:=hkv.up hT;replace e8:=e8.up hT
 replace hS:=hS.trans hT
 clear hT hws
 refine W ?_
 have hps0:=hps
 have hdv0:=hdv
 have hkv0:=hkv
 have e80:=e8
 have hS0:=hS
 refine Zh (σ:=Nat) (fun k=>[(1,.int .i64 z),(5,u),(7,.int .i64 ud),(8,.pointer (some ⟨b8,0,none⟩)),(11,dv),(13,.int .i64 k)]) (fun k w'=>k≤ps.length∧Stp [] w6 w') (fun k=>ps.length - k) 0 ⟨rfl,rfl,rfl,rfl,rfl,rfl,trivial⟩ ⟨by omega,Stp.refl _ _⟩ ?_
 clear hps hdv hkv e8 hS
 rintro k w7 ⟨hk,hS⟩
 have hps:=hps0.up hS
 have hdv:=hdv0.up hS
 have hkv:=hkv0.up hS
 have e8:=e80.up hS
 have hSw:=hS0.trans hS
 by_cases hlt:k<ps.length
 have hp:=hmem _ (Xm hlt)
 have hx:=Z0l z 1000 (by omega)
 focus repeat'(first|refine W1 ?_|omega|refine VG ?_ ?_<;>intro hg|refine VC ?_ ?_<;>intro hc)
 refine Z33 (σ:=Nat) (fun c=>[(1,.int .i64 z),(5,u),(7,.int .i64 ud),(8,.pointer (some ⟨b8,0,none⟩)),(11,dv),(13,.int .i64 k),(14,.pointer (some ⟨c,0,none⟩))])
  (fun c w'=>w7.heap.size≤c∧Stp [] w7 w'∧Blk w' c 29 (evC [ps[k].sent,-1,ZL z 1000,0,ps[k].party,0,0])) ?_ ?_
 refine ZDr 15 [] [14] [(0,0),(1,0),(2,0),(3,0),(4,1),(5,0),(7,0),(8,0),(9,0),(10,0),(11,1),(6,16),(12,0),(13,2),(14,2)] (fun w1 hS1=>?_)
 have hB:=hS1
 replace hps:=hps.up hS1;replace hdv:=hdv.up hS1
 refine D ?_
 apply ZgJ rfl
 refine Z9a rfl trivial (Ze rfl (Zb rfl rfl) (Z0T z 1000 hz (by omega) _)) (fun _ _ h=>h.2) rfl ?_
 rintro _ wb ⟨rfl,hT⟩
 replace hB:=hB.trans hT
 refine ZB rfl trivial (fun w'=>Z1g (vs:=[(0,.int .i64 ps[k].sent),(1,.int .i64 (-1)),(2,.int .i64 (ZL z 1000)),(4,.int .i64 ps[k].party)]) rfl (fun w=>Z9D _ _ _ w)) rfl ?_
 have hSb:=hB
 refine ZC rfl trivial Z8 (fun _ _ h=>h.choose_spec.2.2.2) rfl ?_
 rintro _ wa ⟨c,rfl,hc,ec,hT⟩
 replace hB:=hB.trans hT
 have gc:w7.heap.size≤c:=Xg hSb.size hc
 refine ZU rfl trivial (Z2 (us:=evC [ps[k].sent,-1,ZL z 1000,0,ps[k].party,0,0]) rfl rfl rfl rfl (evO _) ec rfl) rfl ?_
 rintro _ wc ⟨hT,ec⟩
 refine Z1x ?_
 exact ZJ c ⟨rfl,rfl,rfl,rfl,rfl,rfl,rfl,trivial⟩ ⟨gc,hB.own hT (fun b hb=>.inr (by simp at hb;omega)),ec⟩
 have hSb:=hB
 refine Z9a rfl trivial Z8 (fun _ _ h=>h.choose_spec.2.2.2) rfl ?_
 rintro _ wa ⟨c,rfl,hc,ec,hT⟩
 replace hB:=hB.trans hT
 have gc:w7.heap.size≤c:=Xg hSb.size hc
 refine ZC rfl trivial (Ze rfl (Zb rfl rfl) (Z0T z 1000 hz (by omega) _)) (fun _ _ h=>h.2) rfl ?_
 rintro _ wb ⟨rfl,hT⟩
 replace hB:=hB.trans hT
 replace ec:=ec.up hT
 refine ZB rfl trivial (fun w'=>Z1g (vs:=[(0,.int .i64 ps[k].sent),(1,.int .i64 (-1)),(2,.int .i64 (ZL z 1000)),(4,.int .i64 ps[k].party)]) rfl (fun w=>Z9D _ _ _ w)) rfl ?_
 refine ZU rfl trivial (Z2 (us:=evC [ps[k].sent,-1,ZL z 1000,0,ps[k].party,0,0]) rfl rfl rfl rfl (evO _) ec rfl) rfl ?_
 rintro _ wc ⟨hT,ec⟩
 refine Z1x ?_
 exact ZJ c ⟨rfl,rfl,rfl,rfl,rfl,rfl,rfl,trivial⟩ ⟨gc,hB.own hT (fun b hb=>.inr (by simp at hb;omega)),ec⟩
 · rintro c w8 ⟨gc,hT,ec⟩
   have g7:=hS.size
   have g7w:=hSw.size
   replace hps:=hps.up hT;replace hdv:=hdv.up hT;replace hkv:=hkv.up hT;replace e8:=e8.up hT
   replace hS:=hS.trans hT
   replace hSw:=hSw.trans hT
   clear hT
   repeat'(first|refine W1 ?_|omega|refine VG ?_ ?_<;>intro hg|refine VC ?_ ?_<;>intro hc)
   refine CL rfl (J7 rfl rfl rfl) rfl (Z2P [] [] dv u (Z3d ud ws ps) ps ps[k].attempt _ hdv hps) ?_
   rintro _ w9 ⟨rfl,hT⟩
   replace hps:=hps.up hT;replace hdv:=hdv.up hT;replace hkv:=hkv.up hT;replace e8:=e8.up hT;replace ec:=ec.up hT
   replace hS:=hS.trans hT
   replace hSw:=hSw.trans hT
   clear hT
   have hev0:=hmem _ (Xm hlt)
   generalize hsv:served (Z3d ud ws ps) ps ps[k].attempt=sv
   obtain ⟨s1,s2⟩:=sv
   cases s2 with
   | false=>
     dsimp only
     repeat'(first|refine W1 ?_|omega|refine VG ?_ ?_<;>intro hg|refine VC ?_ ?_<;>intro hc)
     refine Za (vs:=[]) rfl Z6g rfl ?_
     refine CL rfl (Z2z rfl rfl rfl rfl) rfl (Z6f _ Z3y 0 [ps[k].sent,-1,ZL z 1000,0,ps[k].party,0,0] Zcm (.slice none 0 0) (.slice none 0 0) (.int .i64 0) (.slice none 0 0) (.int .i64 0) _ ⟨kv,rfl,hkv⟩ (by rw [Z8f];decide) (by rw [Z8g];decide) ⟨SlV.nilC _ _,SlV.nilC _ _,hL.up hSw,hM.up hSw,⟨rfl,by simp [Zcm],by decide⟩⟩ (Zcn (by omega) (by omega) (by omega) (by omega)) ⟨rfl,rfl,rfl⟩) ?_
     rintro _ w10 ⟨rfl,hT⟩
     rw [Zco]
     dsimp only
     replace ec:=ec.up hT
     replace hS:=hS.trans hT
     clear hT
     repeat'(first|refine W1 ?_|omega|refine VG ?_ ?_<;>intro hg|refine VC ?_ ?_<;>intro hc)
     exact Zd (k+1) ⟨rfl,rfl,rfl,rfl,rfl,rfl,trivial⟩ ⟨by omega,hS⟩ (by omega)
   | true=>
     obtain ⟨hd0,hd1⟩:=Z94 hfit hsv
     dsimp only
     repeat'(first|refine W1 ?_|omega|refine VG ?_ ?_<;>intro hg|refine VC ?_ ?_<;>intro hc)
     refine Z1 (Zg (u:=.int .i64 s1) rfl rfl rfl rfl ec (by simp [evC])) ?_
     rintro _ wz ⟨hT,ec'⟩
     replace ec:Blk wz c 29 (evC [ps[k].sent,s1,ZL z 1000,0,ps[k].party,0,0]):=ec'
     clear ec'
     replace hS:=hS.own hT (fun b hb=>.inr (by simp at hb;omega))
     replace hSw:=hSw.own hT (fun b hb=>.inr (by simp at hb;omega))
     clear hT
     replace e8:=e80.up hS
     replace hkv:=hkv0.up hS
     repeat'(first|refine W1 ?_|omega|refine VG ?_ ?_<;>intro hg|refine VC ?_ ?_<;>intro hc)
     refine Za (vs:=[]) rfl Z6g rfl ?_
     refine CL rfl (Z2z rfl rfl rfl rfl) rfl (Z6f _ Z3y 0 [ps[k].sent,s1,ZL z 1000,0,ps[k].party,0,0] Zcm (.slice none 0 0) (.slice none 0 0) (.int .i64 0) (.slice none 0 0) (.int .i64 0) _ ⟨kv,rfl,hkv⟩ (by rw [Z8f];decide) (by rw [Z8g];decide) ⟨SlV.nilC _ _,SlV.nilC _ _,hL.up hSw,hM.up hSw,⟨rfl,by simp [Zcm],by decide⟩⟩ (Zcn (by omega) (by omega) (by omega) (by omega)) ⟨rfl,rfl,rfl⟩) ?_
     rintro _ w10 ⟨rfl,hT⟩
     rw [Zcp _ _ _ _ _ _ (by omega) (by omega) (by omega)]
     dsimp only
     replace ec:=ec.up hT
     replace hS:=hS.trans hT
     clear hT
     rw [if_pos rfl]
     repeat'(first|refine W1 ?_|omega|refine VG ?_ ?_<;>intro hg|refine VC ?_ ?_<;>intro hc)
     refine Z7 (Z6i (a:=s1) (b:=ZL z 1000) rfl rfl (by unfold I64;omega)) rfl ?_
     repeat'(first|refine W1 ?_|omega|refine VG ?_ ?_<;>intro hg|refine VC ?_ ?_<;>intro hc)
     exact Zd (k+1) ⟨rfl,rfl,rfl,rfl,rfl,rfl,trivial⟩ ⟨by omega,hS⟩ (by omega)
 focus repeat'(first|refine W1 ?_|omega|refine VG ?_ ?_<;>intro hg|refine VC ?_ ?_<;>intro hc)
 refine CL rfl ZhN rfl (Z9S _) ?_
 rintro _ wl ⟨rfl,hT⟩
 refine W ?_
 refine WR ?_
 exact .mk ⟨rfl,hSw.trans hT⟩
end Go.Proofs.YtjdjdoefppebkaaGreatDoor
namespace Go.Eng
open Go Go.RowKit Go.Proofs
def Z8h (P:Program) (w:World) (n:String) (d:DataW Unit):Prop:=∃ g t cs fuel p,P.globalNamed n=some g∧(P.globals[g]?).map (·.type)=some t∧w.var? P n=some cs∧DataW.trod (fun _=>()) P w 0 (fun _=>true) false fuel t cs.toList=some (d,p)
theorem Z3z {P:Program} {w:World}:∀ (l:List (String×DataW Unit)) (ps:List MemPlace),DataW.LaidVars P w l ps→∀ (n:String) (d:DataW Unit),(n,d)∈l→Z8h P w n d
 | [],_,_,n,d,h=>by simp at h
 | (n0, d0) :: r, ps, hl, n, d, h => by
   obtain ⟨g,t,cs,fuel,p,q,h1,h2,h3,h4,h5,_⟩:=hl
   rcases Xd.1 h with h|h
   cases h
   exact ⟨g,t,cs,fuel,p,h1,h2,h3,h4⟩
   exact Z3z r q h5 n d h
theorem Zaw {P:Program} {w:World} {name:String} {g t e n:Nat} {k:IntKind} {zs:List Int} (h:Z8h P w name (Lib.tabData k zs)) (hg:P.globalNamed name=some g) (hty:(P.globals[g]?).map (·.type)=some t) (ht:P.underlying t=some (.array n e)) (he:P.underlying e=some (.int k)) (hce:P.cellsOf e=1) (hct:P.cellsOf t=n):Lib.TabIs P w name k zs:=by
 obtain ⟨g',t',cs,fuel,p,hg',ht',hvar,hd⟩:=h
 obtain rfl:=XJ (hg.symm.trans hg')
 obtain rfl:=XJ (hty.symm.trans ht')
 unfold Lib.TabIs
 rw [hvar,← Lib.cells_of_tab ht he hce hct hd]
theorem Z8i {P:Program} {W:World} {name:String} {g t:Nat} {ms:Array (String×TypeId)} {d:DataW Unit} (hg:P.globalNamed name=some g) (ht:(P.globals[g]?).map (·.type)=some t) (hu:P.underlying t=some (.interface ms)) (h:Z8h P W name d) :
 ∃ er,W.cell? ⟨g,0,none⟩=some er∧(er=.nilIface∨∃ te pe,er=.iface te pe):=by
 obtain ⟨g0,t0,cs0,f0,p0,hg0,ht0,hv0,hd0⟩:=h
 obtain rfl:=XJ (hg.symm.trans hg0)
 obtain rfl:=XJ (ht.symm.trans ht0)
 have hv:=World.var?_cell hg0 hv0 0
 rw [hv]
 rw [← Array.getElem?_toList]
 generalize cs0.toList=cs at *
 cases f0 with
 | zero=>simp [DataW.trod] at hd0
 | succ f=>
   unfold DataW.trod at hd0
   rw [hu] at hd0
   match cs,hd0 with
   | [],hd0=>simp at hd0
   | a :: b :: r,hd0=>simp at hd0
   | [x], hd0=>
     refine ⟨x,rfl,?_⟩
     cases x with
     | nilIface=>exact .inl rfl
     | iface u v=>exact .inr ⟨u,v,rfl⟩
     | _=>simp at hd0
end Go.Eng
namespace Go.Proofs.YtjdjdoefppebkaaGreatDoor
open Go Go.Eng Go.RowKit Go.Proofs
open Go Go.Eng Go.RowKit Go.Proofs Go.ChangeShapes Go.WideShapes Go.Deep
theorem Zax {W:World} (h:Z8h Tryz.prog W "rollbook/holiday.moves" Rows.laid_rollbook_holiday_moves):Z31 W:=by
 obtain ⟨g0,t0,cs0,f0,p0,hg0,ht0,hv0,hd0⟩:=h
 have hg:Tryz.prog.globalNamed "rollbook/holiday.moves" = some 3:=by kernel_rfl
 have ht:(Tryz.prog.globals[3]?).map (·.type)=some 345:=by kernel_rfl
 obtain rfl:=XJ (hg.symm.trans hg0)
 obtain rfl:=XJ (ht.symm.trans ht0)
 obtain ⟨xs,m1,rfl,hx1,hlen,hn3,hel⟩:=DataW.trod_array Tryz.underlying345 hd0
 have hc7:Tryz.prog.cellsOf 83=7:=by kernel_rfl
 have e3:(Rows.laid_rollbook_holiday_moves:DataW Unit)=.agg (xs.map (·.1)):=congrArg Prod.fst hx1
 have e4:(.agg [Lib.tabData .i64 [0,0,0,0,0,0,0],Lib.tabData .i64 [0,0,0,0,0,2,1],Lib.tabData .i64 [0,0,0,0,0,-1,1]]:DataW Unit)=.agg (xs.map (·.1)):=e3
 simp only [DataW.agg.injEq] at e4
 have row:∀ (k:Nat) (zs:List Int),k<3→[Lib.tabData .i64 [0,0,0,0,0,0,0],Lib.tabData .i64 [0,0,0,0,0,2,1],(Lib.tabData .i64 [0,0,0,0,0,-1,1]:DataW Unit)][k]?=some (Lib.tabData .i64 zs)→(cs0.toList.drop (k * 7)).take 7=zs.map fun z=>Value.int .i64 z:=by
  intro k zs hk hz
  have h1:=hel k hk
  rw [hc7] at h1
  rw [e4,List.getElem?_map] at hz
  cases hx:xs[k]? with
  | none=>rw [hx] at hz;cases hz
  | some y=>
    rw [hx] at hz h1
    have hy:y=(Lib.tabData .i64 zs,y.2):=Prod.ext (XJ hz) rfl
    rw [hy] at h1
    exact Lib.cells_of_tab (t:=83) (e:=3) (n:=7) Tryz.underlying83 Tryz.underlying3 (by kernel_rfl) hc7 h1
 have r0:=row 0 _ (by omega) rfl
 have r1:=row 1 _ (by omega) rfl
 have r2:=row 2 _ (by omega) rfl
 have hcell:∀ (k:Nat) (zs:List Int) (j:Nat),(cs0.toList.drop (k * 7)).take 7=(zs.map fun z=>Value.int .i64 z)→j<7→j<zs.length→cs0.toList[k * 7+j]?=some (.int .i64 (zs.getD j 0)):=by
  intro k zs j hr hj hjl
  have h6:=congrArg (fun l=>l[j]?) hr
  simp only [List.getElem?_take,List.getElem?_drop,List.getElem?_map,if_pos hj] at h6
  rw [h6]
  simp [List.getD,hjl]
 intro i u hu
 have hi:=(List.getElem?_eq_some_iff.1 hu).1
 have hi21:i<21:=hi
 have hv:=World.var?_cell hg hv0 i
 rw [hv,← Array.getElem?_toList]
 by_cases h7:i<7
 have h2:=hcell 0 _ i r0 h7 (by simpa using h7)
 rw [show 0 * 7+i=i by omega] at h2
 rw [h2]
 have hk:i=0∨i=1∨i=2∨i=3∨i=4∨i=5∨i=6:=by omega
 rcases hk with rfl|rfl|rfl|rfl|rfl|rfl|rfl<;>(simp [Z42] at hu;subst hu;rfl)
 by_cases h14:i<14
 have h2:=hcell 1 _ (i - 7) r1 (by omega) (by simp;omega)
 rw [show 1 * 7+(i - 7)=i by omega] at h2
 rw [h2]
 have hk:i=7∨i=8∨i=9∨i=10∨i=11∨i=12∨i=13:=by omega
 rcases hk with rfl|rfl|rfl|rfl|rfl|rfl|rfl<;>(simp [Z42] at hu;subst hu;rfl)
 have h2:=hcell 2 _ (i - 14) r2 (by omega) (by simp;omega)
 rw [show 2 * 7+(i - 14)=i by omega] at h2
 rw [h2]
 have hk:i=14∨i=15∨i=16∨i=17∨i=18∨i=19∨i=20:=by omega
 rcases hk with rfl|rfl|rfl|rfl|rfl|rfl|rfl<;>(simp [Z42] at hu;subst hu;rfl)
abbrev Z75:List (String×DataW Unit):=[("math/bits.deBruijn32tab",Rows.laid_math_bits_deBruijn32tab),("math/bits.deBruijn64tab",Rows.laid_math_bits_deBruijn64tab),("internal/strconv.uint64pow10",Rows.laid_internal_strconv_uint64pow10),("strconv.ErrRange",Rows.laid_strconv_ErrRange),("strconv.ErrSyntax",Rows.laid_strconv_ErrSyntax),("rollbook/date.lengths",Rows.laid_rollbook_date_lengths),("rollbook/holiday.moves",Rows.laid_rollbook_holiday_moves)]
theorem Z8j {W:World} (h1:Z8h Tryz.prog W "rollbook/date.lengths" Rows.laid_rollbook_date_lengths):Z0b W:=by
 have h2:=Zaw (k:=.i64) (zs:=Z3n) (g:=1) (t:=322) (e:=3) (n:=13) h1 (by kernel_rfl) (by kernel_rfl) Tryz.underlying322 Tryz.underlying3 (by kernel_rfl) (by kernel_rfl)
 intro i u hu
 have hi:=(List.getElem?_eq_some_iff.1 hu).1
 rw [Lib.TabIs.cell h2 (g:=1) (by kernel_rfl) i hi]
 simp [List.getD,hu]
structure Zee (W:World):Prop where
 len:Z0b W
 mov:Z31 W
 err:∃ er,W.cell? ⟨5,0,none⟩=some er∧(er=.nilIface∨∃ te pe,er=.iface te pe)
theorem Zcr {W:World} {l:List (String×DataW Unit)} {ps:List MemPlace} (h:DataW.LaidVars Tryz.prog W l ps) (h1:("rollbook/date.lengths",Rows.laid_rollbook_date_lengths)∈l) (h2:("rollbook/holiday.moves",Rows.laid_rollbook_holiday_moves)∈l) (h3:("strconv.ErrRange",Rows.laid_strconv_ErrRange)∈l):Zee W:=
 ⟨Z8j (Z3z _ _ h _ _ h1),Zax (Z3z _ _ h _ _ h2),Z8i (g:=5) (t:=303) (by kernel_rfl) (by kernel_rfl) Tryz.underlying303 (Z3z _ _ h _ _ h3)⟩
theorem Zef {W:World} (h:laidMetH Tryz.prog Z75 W):Zee W:=by
 rw [MakeChecks.laidMetH_plain _ _ _ (by kernel_rfl)] at h
 obtain ⟨ps,h,_⟩:=h
 exact Zcr h (by simp [Z75]) (by simp [Z75]) (by simp [Z75])
section
variable {H:Type} {enc:TypeId×Value→H} {w:World} {base:Nat} {spare:Nat→Bool} {held:Bool}
end
end Go.Proofs.YtjdjdoefppebkaaGreatDoor
namespace Go.Eng
open Go Go.RowKit Go.Proofs Go.ChangeShapes Go.WideShapes Go.Deep
def Z43 (P:Program) (lo n:Nat):Bool:=(List.range n).all fun i=>!((P.funcs[lo+i]?).any Func.goes)
theorem JT {P:Program} {lo n g:Nat} (h:Z43 P lo n=true) (h1:lo≤g) (h2:g<lo+n):(P.funcs[g]?).any Func.goes=false:=by
 have:=XC.1 h (g - lo) (YaN.2 (by omega))
 rw [show lo+(g - lo)=g by omega] at this
 simpa using this
theorem ZkO {P:Program} (h:∀ g:Nat,(P.funcs[g]?).any Func.goes=false) {c:OpenClaim} (hs:c.start=.entering):false=c.goesBy P:=by
 symm
 have hall:P.funcs.any Func.goes=false:=by
  rw [Array.any_eq_false]
  intro i hi hg
  have:=h i
  rw [Array.getElem?_eq_getElem hi] at this
  simp only [Option.any_some] at this
  rw [this] at hg
  cases hg
 have hgo:∀ f,P.goes f=false:=by
  intro f
  unfold Program.goes
  rw [hall,Bool.and_false,Bool.or_false]
  rw [Bool.eq_false_iff]
  intro hc
  have hc2:=hc
  simp [h] at hc2
 unfold OpenClaim.goesBy Program.goesAt Program.goesFrom
 rw [hs]
 cases hf:P.funcNamed c.func with
 | none=>rfl
 | some f=>simp [hgo]
theorem Ze2 {P:Program} {f:FuncId} {fn:Func} {s:ChangeSpec} {c:OpenClaim} (a1:c.wf (OpenSpec.ofChange s)=true) (a2:laidOutB P=true) (a3:mapsRowed P=true) (a4:fn.params.all (P.readableRec ·)=true) (a5:namedTie P c.named s.vars=true)
 (a6:((c.stops == []) && (P.stops == []) && (c.knobs == []) && (P.stopKnobs == []))=true)
 (h2:(c.inPlace == P.inPlace f)=true) (h3:(c.unfollowed == P.unfollowed f)=true) (h4:(c.recurses == P.recurses f)=true) (h5:(c.named == P.varsNamed f)=true)
 (h6 : ((c.maps == (fn.params.toList ++ s.plain.varTypes P).any (P.mapsRec ·)) && (c.ifaces == (fn.params.toList ++ s.plain.varTypes P).any (P.ifacesRec ·)) && (c.mapsOut == P.mapsAmong fn.resultTypes.toList) &&
   (c.loops == (fn.params.toList++s.plain.varTypes P).any (P.loopsFrom ·)) && (c.wideKeys == (fn.params.toList++s.plain.varTypes P++fn.resultTypes.toList).any (P.wideKeysFrom ·)) &&
   s.vars.all (P.varReadable ·) && fn.resultTypes.all (fun t=>P.readableRec t && decide (t<P.types.size)) && (c.ifacesOut == fn.resultTypes.toList.any (P.ifacesRec ·)) && (c.loopsOut == fn.resultTypes.toList.any (P.loopsFrom ·)) && (c.plainKeys == P.plainKeys) && c.shortTexts.isNone && P.stopsHeard && P.mayEnter && (c.lifted == P.liftsFinal) && (P.make == some c.make) && (c.kinds == (if c.domain.isEmpty then [] else fn.params.toList.map fun t=>match P.underlying t with|some (.int k)=>some k|_=>none)) && (c.pinned == c.pinnedBy) &&
   (c.veiled == (fn.params.toList++s.plain.varTypes P++fn.resultTypes.toList).any (P.veiledRec ·)) && c.veiledFits P fn.params.toList (fn.params.toList++s.plain.varTypes P++fn.resultTypes.toList))=true) :
 joinedFacts P f fn s c=true:=by
 simp only [Xf] at a6 h6
 unfold joinedFacts
 simp only [Xf]
 exact ⟨⟨⟨⟨⟨⟨⟨⟨⟨⟨⟨⟨⟨⟨⟨⟨⟨⟨⟨⟨⟨⟨⟨⟨⟨⟨⟨⟨⟨⟨⟨a1,a2⟩,a3⟩,a4⟩,a5⟩,a6.1.1.1⟩,a6.1.1.2⟩,a6.1.2⟩,a6.2⟩,h2⟩,h3⟩,h4⟩,h5⟩,h6.1.1.1.1.1.1.1.1.1.1.1.1.1.1.1.1.1.1⟩,h6.1.1.1.1.1.1.1.1.1.1.1.1.1.1.1.1.1.2⟩,h6.1.1.1.1.1.1.1.1.1.1.1.1.1.1.1.1.2⟩,h6.1.1.1.1.1.1.1.1.1.1.1.1.1.1.1.2⟩,h6.1.1.1.1.1.1.1.1.1.1.1.1.1.1.2⟩,h6.1.1.1.1.1.1.1.1.1.1.1.1.1.2⟩,h6.1.1.1.1.1.1.1.1.1.1.1.1.2⟩,h6.1.1.1.1.1.1.1.1.1.1.1.2⟩,h6.1.1.1.1.1.1.1.1.1.1.2⟩,h6.1.1.1.1.1.1.1.1.1.2⟩,h6.1.1.1.1.1.1.1.1.2⟩,h6.1.1.1.1.1.1.1.2⟩,h6.1.1.1.1.1.1.2⟩,h6.1.1.1.1.1.2⟩,h6.1.1.1.1.2⟩,h6.1.1.1.2⟩,h6.1.1.2⟩,h6.1.2⟩,h6.2⟩
end Go.Eng
namespace Go.Proofs.YtjdjdoefppebkaaGreatDoor
open Go Go.Eng Go.RowKit Go.Proofs Go.ChangeShapes Go.WideShapes Go.Deep
theorem Zkn:mapsRowed Tryz.prog=true:=by kernel_rfl
theorem Zcs:Tryz.prog.funcs.size=404:=by kernel_rfl
theorem Zay:Z43 Tryz.prog 0 34=true:=by kernel_rfl
theorem Zaz:Z43 Tryz.prog 34 34=true:=by kernel_rfl
theorem ZaA:Z43 Tryz.prog 68 34=true:=by kernel_rfl
theorem ZaB:Z43 Tryz.prog 102 34=true:=by kernel_rfl
theorem ZaC:Z43 Tryz.prog 136 34=true:=by kernel_rfl
theorem ZaD:Z43 Tryz.prog 170 34=true:=by kernel_rfl
theorem ZaE:Z43 Tryz.prog 204 34=true:=by kernel_rfl
theorem ZaF:Z43 Tryz.prog 238 34=true:=by kernel_rfl
theorem ZaG:Z43 Tryz.prog 272 34=true:=by kernel_rfl
theorem ZaH:Z43 Tryz.prog 306 34=true:=by kernel_rfl
theorem Z95:Z43 Tryz.prog 340 34=true:=by kernel_rfl
theorem Z96:Z43 Tryz.prog 374 34=true:=by kernel_rfl
theorem Zko:∀ g:Nat,(Tryz.prog.funcs[g]?).any Func.goes=false:=fun g=>by
 by_cases h:g<404
 by_cases h0:g<34
 exact JT Zay (by omega) (by omega)
 by_cases h1:g<68
 exact JT Zaz (by omega) (by omega)
 by_cases h2:g<102
 exact JT ZaA (by omega) (by omega)
 by_cases h3:g<136
 exact JT ZaB (by omega) (by omega)
 by_cases h4:g<170
 exact JT ZaC (by omega) (by omega)
 by_cases h5:g<204
 exact JT ZaD (by omega) (by omega)
 by_cases h6:g<238
 exact JT ZaE (by omega) (by omega)
 by_cases h7:g<272
 exact JT ZaF (by omega) (by omega)
 by_cases h8:g<306
 exact JT ZaG (by omega) (by omega)
 by_cases h9:g<340
 exact JT ZaH (by omega) (by omega)
 by_cases h10:g<374
 exact JT Z95 (by omega) (by omega)
 exact JT Z96 (by omega) (by omega)
 rw [Array.getElem?_eq_none (by rw [Zcs];omega)]
 rfl
open Go Go.Eng Go.RowKit Go.Proofs Go.ChangeShapes Go.WideShapes Go.Deep Go.Joins
section
variable {H:Type} {enc:TypeId×Value→H} {w:World} {base:Nat} {spare:Nat→Bool} {held:Bool}
set_option maxRecDepth 100000 in
theorem Zeg {r:Reach} {b0:Nat} {v:Value} {d:DataW H} {p:List MemPlace} (hv:Value.okWide Tryz.prog w r b0 60 v) (h:DataW.Trod enc Tryz.prog w base spare held 60 v d p) :
 ∃ (va vb:Value) (a b:List Int) (n:Int),v=.agg #[va,vb,.int .i64 n]∧SlV [] w va a∧SlV [] w vb b∧(∀ x∈a,I64 x)∧(∀ x∈b,I64 x)∧I64 n:=by
 obtain ⟨v0,v1,v2,y0,y1,y2,m,rfl,rfl,rfl,h0,h1,h2⟩:=open_agg3 Tryz.underlying60 (by kernel_rfl) (by kernel_rfl) hv h
 obtain ⟨va,a,ha,hsa,hia,_⟩:=Z7E Tryz.underlying22 (by kernel_rfl) Tryz.underlying3 h0
 obtain ⟨vb,b,hb,hsb,hib,_⟩:=Z7E Tryz.underlying22 (by kernel_rfl) Tryz.underlying3 h1
 obtain ⟨z,hz,_,hw⟩:=DataW.trod_int Tryz.underlying3 h2
 simp only [Yak,and_true] at ha hb hz
 subst ha hb hz
 exact ⟨_,_,a,b,z,rfl,hsa,hsb,hia,hib,by simpa [I64,Lit.wf,IntKind.min,IntKind.max,IntKind.signed,IntKind.bits] using hw⟩
end
end Go.Proofs.YtjdjdoefppebkaaGreatDoor
