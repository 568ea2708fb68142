/-
Contracts and plain laws, merged out of own texts.
-/
import Derived.Test.YtipfkbkkndacjaaGreatDoorQ4
import Derived.RangeFuncBox
import Derived.RangeFuncLeaves
import Derived.RangeFuncNested
import Derived.RangeFuncBound
import Derived.RangeFuncCalls
import Derived.Shelf.Abstract
import Derived.Shelf.RegionOpen
import Derived.BigRegionIn
import Derived.WalkKit
import Derived.OwnWalkIn
import Derived.TacticsInMore
import Derived.LoopNIn
import Derived.LoopIn
import Derived.ChangeKeysEq
set_option linter.unusedVariables false
set_option linter.unusedSimpArgs false
set_option maxHeartbeats 4000000
set_option maxRecDepth 20000
namespace Go.Proofs.YtipfkbkkndacjaaGreatDoor
open Go Go.Eng Go.RowKit
def Res (K:MK) (w:World) (st:List Int) (sp:List Spn) (at_:Int) (r:Int×Int):Prop:=
 ∃ sv pv st2 sp2,Mch K w sv pv st2 sp2 at_ r.2 (decide (¬ r.2=0))/\(r.2=0->st2=st++[r.1]/\sp2=sp)
section
variable {K:MK} {w w':World} {sv pv:Value} {st:List Int} {sp:List Spn} {at_ er:Int} {dn:Bool}
abbrev mP (K:MK):Value:=.pointer (some ⟨K.bm,0,none⟩)
theorem ZcD (hK:KOk K) {v:Int} (h:Mch K w sv pv (st++[v]) sp at_ er dn) :
 CC 82 #[mP K] w λr w'=>r=.I v/\(∃ sv',Mch K w' sv' pv st sp at_ er dn)/\Stp [K.bm] w w':=by
 have ac:=h.blk;have ab:=h.row;unfold Z5Q at ac;have hs:=ab.slv (X:=[]) (by simp);have hz:((st++[v]).length:Int) - 1=(st.length:Int):=by simp
 have hi:st.length<(st++[v]).length:=by simp
 have hm:=hs.max;refine cW1 28 Tryz.func82 ?_;refine W ?_;refine Z8 (Z1U rfl hs rfl hz (by omega)) rfl ?_;refine W ?_;have hc:=ab.cut (r:=st.length) (by omega);rw [YbK rfl] at hc;have h1:=hc.slv (X:=[]) (by simp);refine Z6 (Zb (u:=slc sv 0 st.length 1) rfl rfl h1.cells h1.one ac (by simp [evC,Z06])) ?_;rintro _ w1 ⟨ae,cj⟩;refine RT ?_;exact ⟨by simp,⟨slc sv 0 st.length 1,h.stack hK (Stp.refl _ _) hc (λb hb=>.inl (by rw [<- ZiI sv st.length 1];exact hb)) ae cj⟩,ae⟩
theorem Z3k (hK:KOk K) {v:Int} (h:Mch K w sv pv (st++[v]) sp at_ er dn) :
 CC 82 #[mP K] w λr w'=>r=.I v/\∃ sv',Mch K w' sv' pv st sp at_ er dn:=
 Go.Eng.Calls.ret (ZcD hK h) (λ_ _ h=>⟨h.1,h.2.1⟩)
theorem Z07 (hK:KOk K) {a b:Int} (h:Mch K w sv pv (st++[a,b]) sp at_ er dn) :
 CC 204 #[mP K] w λr w'=>r=.tuple #[.I a,.I b]/\∃ sv',Mch K w' sv' pv st sp at_ er dn:=by
 refine cW1 10 Tryz.func204 ?_;refine W ?_;refine CM (ZR rfl) (Z3k (st:=st++[a]) (v:=b) hK (by simpa using h)) ?_;rintro _ w1 ⟨rfl,sv1,h1⟩;refine W ?_;refine CL (Z3k hK h1) ?_;rintro _ w2 ⟨rfl,sv2,h2⟩;refine RT ?_;exact ⟨rfl,sv2,h2⟩
theorem Z0l (hK:KOk K) (h:Mch K w sv pv st sp at_ 0 false) (hl:st.length<=100000) (n e:Int) :
 CC 203 #[mP K,.I n,.I e] w λr w'=>r=.tuple #[]/\Res K w' st sp at_ (n,e):=by
 refine Go.Eng.Calls.ret (ZjR hK h n e hl) ?_;rintro v w' ⟨rfl,sv',h1⟩;refine ⟨rfl,sv',pv,if e=0 then st++[n] else st,sp,?_,λhe=>⟨if_pos he,rfl⟩⟩;by_cases he:e=0;subst he;simpa using h1;simpa [he] using h1
theorem Zfg (hK:KOk K) (h:Mch K w sv pv st sp at_ 0 false) (hl:st.length<=100000) (n a b:Int) :
 CC 261 #[mP K,.I n,.I a,.I b] w λr w'=>r=.tuple #[]/\Res K w' st sp at_ (if n<a\/b<n then (0,5) else (n,0)):=by
 refine cW4 21 Tryz.func261 ?_;by_cases hc:n<a\/b<n
 . rw [if_pos hc]
   repeat'(first|refine W1 ?_|omega|refine VG ?_ ?_<;>intro hg|refine VC ?_ ?_<;>intro hc)
   all_goals
    refine CL (Z0l hK h hl 0 5) ?_;rintro _ w1 ⟨rfl,h1⟩;refine RT ?_;exact ⟨rfl,h1⟩
 rw [if_neg hc];refine QO ?_;refine CL (Z0l hK h hl n 0) ?_;rintro _ w1 ⟨rfl,h1⟩;refine RT ?_;exact ⟨rfl,h1⟩
theorem Z5V (hK:KOk K) (h:Mch K w sv pv st sp at_ 0 false) (hl:st.length<=100000) (n:Int) :
 CC 205 #[mP K,.I n] w λr w'=>r=.tuple #[]/\Res K w' st sp at_ (Z4L n):=by
 refine cW2 7 Tryz.func205 ?_;refine W ?_;refine CL (Zfg hK h hl n _ _) ?_;rintro _ w1 ⟨rfl,h1⟩;refine RT ?_;exact ⟨rfl,h1⟩
theorem ZwG (hK:KOk K) (h:Mch K w sv pv st sp at_ 0 false) (hl:st.length<=100000) (n:Int) :
 CC 207 #[mP K,.I n] w λr w'=>r=.tuple #[]/\Res K w' st sp at_ (Zcj n):=by
 refine cW2 7 Tryz.func207 ?_;refine W ?_;refine CL (Zfg hK h hl n _ _) ?_;rintro _ w1 ⟨rfl,h1⟩;refine RT ?_;exact ⟨rfl,h1⟩
theorem Zb8 (hK:KOk K) (h:Mch K w sv pv st sp at_ 0 false) (hl:st.length<=100000) (b:Bool) :
 CC 206 #[mP K,.B b] w λr w'=>r=.tuple #[]/\Res K w' st sp at_ (Z40 b,0):=by
 refine cW2 9 Tryz.func206 ?_;cases b;refine W ?_;refine CL (Z0l hK h hl 0 0) ?_;rintro _ w1 ⟨rfl,h1⟩;refine RT ?_;exact ⟨rfl,h1⟩;refine W ?_;refine CL (Z0l hK h hl 1 0) ?_;rintro _ w1 ⟨rfl,h1⟩;refine RT ?_;exact ⟨rfl,h1⟩
theorem Zth (hK:KOk K) (h:Mch K w sv pv st sp at_ 0 false) (hl:st.length<=100000) (n:Int) :
 CC 128 #[mP K,.I n] w λr w'=>r=.tuple #[]/\Res K w' st sp at_ (n,0):=by
 refine cW2 7 Tryz.func128 ?_;refine W ?_;refine CL (Z0l hK h hl n 0) ?_;rintro _ w1 ⟨rfl,h1⟩;refine RT ?_;exact ⟨rfl,h1⟩
theorem ZxB (hK:KOk K) {a b:Int} (h:Mch K w sv pv (st++[a,b]) sp at_ 0 false) (hl:st.length<=100000) (n:Int) (hr:I64 (a+b)) :
 CC 130 #[mP K,.I n] w λr w'=>r=.tuple #[]/\Res K w' st sp at_ (Z4L (a+b)):=by
 try unfold I64 at hr
 refine cW2 16 Tryz.func130 ?_;refine W ?_;refine CL (Z07 hK h) ?_;rintro _ w1 ⟨rfl,sv1,h1⟩;refine W ?_;refine CL (Z5V hK h1 hl _) ?_;rintro _ w2 ⟨rfl,h2⟩;refine RT ?_;exact ⟨rfl,h2⟩
theorem ZxC (hK:KOk K) {a b:Int} (h:Mch K w sv pv (st++[a,b]) sp at_ 0 false) (hl:st.length<=100000) (n:Int) (hr:I64 (a - b)) :
 CC 131 #[mP K,.I n] w λr w'=>r=.tuple #[]/\Res K w' st sp at_ (Z4L (a - b)):=by
 try unfold I64 at hr
 refine cW2 16 Tryz.func131 ?_;refine W ?_;refine CL (Z07 hK h) ?_;rintro _ w1 ⟨rfl,sv1,h1⟩;refine W ?_;refine CL (Z5V hK h1 hl _) ?_;rintro _ w2 ⟨rfl,h2⟩;refine RT ?_;exact ⟨rfl,h2⟩
theorem ZxD (hK:KOk K) {a b:Int} (h:Mch K w sv pv (st++[a,b]) sp at_ 0 false) (hl:st.length<=100000) (n:Int) (hr:I64 (a * b)) :
 CC 132 #[mP K,.I n] w λr w'=>r=.tuple #[]/\Res K w' st sp at_ (Z4L (a * b)):=by
 try unfold I64 at hr
 refine cW2 16 Tryz.func132 ?_;refine W ?_;refine CL (Z07 hK h) ?_;rintro _ w1 ⟨rfl,sv1,h1⟩;refine W ?_;refine CL (Z5V hK h1 hl _) ?_;rintro _ w2 ⟨rfl,h2⟩;refine RT ?_;exact ⟨rfl,h2⟩
theorem ltV (hK:KOk K) {a b:Int} (h:Mch K w sv pv (st++[a,b]) sp at_ 0 false) (hl:st.length<=100000) (n:Int) (hr:True) :
 CC 134 #[mP K,.I n] w λr w'=>r=.tuple #[]/\Res K w' st sp at_ ((Z40 (decide (a<b)),0)):=by
 try unfold I64 at hr
 refine cW2 16 Tryz.func134 ?_;refine W ?_;refine CL (Z07 hK h) ?_;rintro _ w1 ⟨rfl,sv1,h1⟩;refine W ?_;refine CL (Zb8 hK h1 hl _) ?_;rintro _ w2 ⟨rfl,h2⟩;refine RT ?_;exact ⟨rfl,h2⟩
theorem leV (hK:KOk K) {a b:Int} (h:Mch K w sv pv (st++[a,b]) sp at_ 0 false) (hl:st.length<=100000) (n:Int) (hr:True) :
 CC 135 #[mP K,.I n] w λr w'=>r=.tuple #[]/\Res K w' st sp at_ ((Z40 (decide (a<=b)),0)):=by
 try unfold I64 at hr
 refine cW2 16 Tryz.func135 ?_;refine W ?_;refine CL (Z07 hK h) ?_;rintro _ w1 ⟨rfl,sv1,h1⟩;refine W ?_;refine CL (Zb8 hK h1 hl _) ?_;rintro _ w2 ⟨rfl,h2⟩;refine RT ?_;exact ⟨rfl,h2⟩
theorem eqV (hK:KOk K) {a b:Int} (h:Mch K w sv pv (st++[a,b]) sp at_ 0 false) (hl:st.length<=100000) (n:Int) (hr:True) :
 CC 136 #[mP K,.I n] w λr w'=>r=.tuple #[]/\Res K w' st sp at_ ((Z40 (decide (a=b)),0)):=by
 try unfold I64 at hr
 refine cW2 16 Tryz.func136 ?_;refine W ?_;refine CL (Z07 hK h) ?_;rintro _ w1 ⟨rfl,sv1,h1⟩;refine W ?_;refine CL (Zb8 hK h1 hl _) ?_;rintro _ w2 ⟨rfl,h2⟩;refine RT ?_;exact ⟨rfl,h2⟩
theorem ZwH (hK:KOk K) {a b:Int} (h:Mch K w sv pv (st++[a,b]) sp at_ 0 false) (hl:st.length<=100000) (n:Int) (hr:I64 (a+b)) :
 CC 140 #[mP K,.I n] w λr w'=>r=.tuple #[]/\Res K w' st sp at_ (Zcj (a+b)):=by
 try unfold I64 at hr
 refine cW2 16 Tryz.func140 ?_;refine W ?_;refine CL (Z07 hK h) ?_;rintro _ w1 ⟨rfl,sv1,h1⟩;refine W ?_;refine CL (ZwG hK h1 hl _) ?_;rintro _ w2 ⟨rfl,h2⟩;refine RT ?_;exact ⟨rfl,h2⟩
theorem Zti (hK:KOk K) {a b:Int} (h:Mch K w sv pv (st++[a,b]) sp at_ 0 false) (hl:st.length<=100000) (n:Int) (hr:I64 (7 * b)/\I64 (a+7 * b)) :
 CC 141 #[mP K,.I n] w λr w'=>r=.tuple #[]/\Res K w' st sp at_ (Zcj (a+7 * b)):=by
 try unfold I64 at hr
 refine cW2 17 Tryz.func141 ?_;refine W ?_;refine CL (Z07 hK h) ?_;rintro _ w1 ⟨rfl,sv1,h1⟩;refine W ?_;refine CL (ZwG hK h1 hl _) ?_;rintro _ w2 ⟨rfl,h2⟩;refine RT ?_;exact ⟨rfl,h2⟩
theorem Ztj (hK:KOk K) {a b:Int} (h:Mch K w sv pv (st++[a,b]) sp at_ 0 false) (hl:st.length<=100000) (n:Int) (hr:True) :
 CC 146 #[mP K,.I n] w λr w'=>r=.tuple #[]/\Res K w' st sp at_ ((max a b,0)):=by
 try unfold I64 at hr
 refine cW2 16 Tryz.func146 ?_;refine W ?_;refine CL (Z07 hK h) ?_;rintro _ w1 ⟨rfl,sv1,h1⟩;refine W ?_;refine CL (Z0l hK h1 hl _ 0) ?_;rintro _ w2 ⟨rfl,h2⟩;refine RT ?_;exact ⟨rfl,h2⟩
theorem Zkj (hK:KOk K) {a b:Int} (h:Mch K w sv pv (st++[a,b]) sp at_ 0 false) (hl:st.length<=100000) (n:Int) (hr:True) :
 CC 147 #[mP K,.I n] w λr w'=>r=.tuple #[]/\Res K w' st sp at_ ((min a b,0)):=by
 try unfold I64 at hr
 refine cW2 16 Tryz.func147 ?_;refine W ?_;refine CL (Z07 hK h) ?_;rintro _ w1 ⟨rfl,sv1,h1⟩;refine W ?_;refine CL (Z0l hK h1 hl _ 0) ?_;rintro _ w2 ⟨rfl,h2⟩;refine RT ?_;exact ⟨rfl,h2⟩
theorem Zkk (hK:KOk K) {a b:Int} (h:Mch K w sv pv (st++[a,b]) sp at_ 0 false) (hl:st.length<=100000) (n:Int) (hr:I64 (b - a)) :
 CC 148 #[mP K,.I n] w λr w'=>r=.tuple #[]/\Res K w' st sp at_ (Z4L (b - a)):=by
 try unfold I64 at hr
 refine cW2 16 Tryz.func148 ?_;refine W ?_;refine CL (Z07 hK h) ?_;rintro _ w1 ⟨rfl,sv1,h1⟩;refine W ?_;refine CL (Z5V hK h1 hl _) ?_;rintro _ w2 ⟨rfl,h2⟩;refine RT ?_;exact ⟨rfl,h2⟩
end
section
variable {K:MK} {w w':World} {sv pv:Value} {st:List Int} {sp:List Spn} {at_ er:Int} {dn:Bool}
theorem ZxE (hK:KOk K) {b:Int} (h:Mch K w sv pv (st++[b]) sp at_ 0 false) (hl:st.length<=100000) (n:Int) (hr:I64 (-b)) :
 CC 133 #[mP K,.I n] w λr w'=>r=.tuple #[]/\Res K w' st sp at_ (Z4L (-b)):=by
 unfold I64 at hr;refine cW2 9 Tryz.func133 ?_;refine W ?_;refine CL (Z3k hK h) ?_;rintro _ w1 ⟨rfl,sv1,h1⟩;refine W ?_;refine CL (Z5V hK h1 hl _) ?_;rintro _ w2 ⟨rfl,h2⟩;refine RT ?_;exact ⟨rfl,h2⟩
theorem ZxF (hK:KOk K) {b:Int} (h:Mch K w sv pv (st++[b]) sp at_ 0 false) (hl:st.length<=100000) (n:Int) :
 CC 137 #[mP K,.I n] w λr w'=>r=.tuple #[]/\Res K w' st sp at_ (Z40 (decide (b=0)),0):=by
 refine cW2 9 Tryz.func137 ?_;refine W ?_;refine CL (Z3k hK h) ?_;rintro _ w1 ⟨rfl,sv1,h1⟩;refine W ?_;refine CL (Zb8 hK h1 hl _) ?_;rintro _ w2 ⟨rfl,h2⟩;refine RT ?_;exact ⟨rfl,h2⟩
theorem ZwI (hK:KOk K) (h:Mch K w sv pv st sp at_ er dn) (n:Int) :
 CC 138 #[mP K,.I n] w λr w'=>r=.tuple #[]/\Mch K w' sv pv st sp n er dn:=by
 have ac:=h.blk;unfold Z5Q at ac;refine cW2 8 Tryz.func138 ?_;refine W ?_;refine Z6 (Zb (u:=.I n) rfl rfl rfl rfl ac (by simp [evC,Z06])) ?_;rintro _ w1 ⟨ae,cj⟩;refine RT ?_;exact ⟨rfl,h.put hK ae cj⟩
theorem ZwJ (hK:KOk K) (h:Mch K w sv pv st sp at_ er dn) (n:Int) :
 CC 149 #[mP K,.I n] w λr w'=>r=.tuple #[]/\Mch K w' sv pv st sp at_ er true:=by
 have ac:=h.blk;unfold Z5Q at ac;refine cW2 7 Tryz.func149 ?_;refine W ?_;refine Z6 (Zb (u:=.B true) rfl rfl rfl rfl ac (by simp [evC,Z06])) ?_;rintro _ w1 ⟨ae,cj⟩;refine RT ?_;exact ⟨rfl,h.put hK ae cj⟩
theorem Znw (hK:KOk K) {b:Int} (h:Mch K w sv pv (st++[b]) sp at_ er dn) (n:Int) :
 CC 139 #[mP K,.I n] w λr w'=>r=.tuple #[]/\∃ sv',Mch K w' sv' pv st sp (if b=0 then n else at_) er dn:=by
 refine cW2 11 Tryz.func139 ?_;refine W ?_;refine CL (Z3k hK h) ?_;rintro _ w1 ⟨rfl,sv1,h1⟩;have ac:=h1.blk;unfold Z5Q at ac;by_cases hb:b=0;rw [if_pos hb];refine QO ?_;refine Z6 (Zb (u:=.I n) rfl rfl rfl rfl ac (by simp [evC,Z06])) ?_;rintro _ w2 ⟨ae,cj⟩;refine RT ?_;exact ⟨rfl,sv1,h1.put hK ae cj⟩;rw [if_neg hb];refine RT ?_;exact ⟨rfl,sv1,h1⟩
theorem Znx (a b c d e f g:Int) (w):(Instr.build 282 #[(0,.I a),(1,.I b),(2,.I c),(3,.I d),(4,.I e),(5,.I f),(6,.I g)]).run Tryz.prog w=.ok (.agg #[.I a,.I b,.I c,.I d,.I e,.I f,.I g]) w:=by kernel_rfl
theorem Ztk (hK:KOk K) (h:Mch K w sv pv st sp at_ 0 false) (hl:st.length<=100000) (n:Int) (h0:0<=n) (h7:n<7) :
 CC 129 #[mP K,.I n] w λr w'=>r=.tuple #[]/\Res K w' st sp at_ (Ze2 K.ev n):=by
 have ac:=h.blk;unfold Z5Q evC Z06 at ac;have pS:=hK.bml;have bF:=hK.ev.served;refine cW2 56 Tryz.func129 ?_;refine W ?_;refine ZDr 38 [] [37] [(0,0),(1,0),(2,0),(3,0),(4,1),(5,0),(6,0),(7,0),(8,0),(9,1),(10,0),(11,0),(12,0),(13,0),(14,1),(15,0),(16,0),(17,0),(18,0),(19,1),(20,0),(21,0),(22,0),(23,0),(24,1),(25,0),(26,0),(27,0),(28,0),(29,1),(30,0),(31,0),(32,0),(33,0),(34,1),(35,0),(36,2),(37,2)] (λw1 ae=>?_);replace h:=h.up ae;replace ac:=ac.up ae;refine D ?_;refine Z2G rfl trivial rfl (Znx _ _ _ _ _ _ _) rfl ?_;refine Za rfl trivial Z2 (λ_ _ ⟨_,_,_,_,h⟩=>h) rfl ?_;rintro _ w2 ⟨b2,rfl,cu,e2,ah⟩;refine ZO rfl trivial (Zj (us:=evC K.ev) rfl rfl rfl rfl (by intro u hu;simp [evC] at hu;rcases hu with rfl|rfl|rfl|rfl|rfl|rfl|rfl<;>rfl) e2 rfl) rfl ?_;rintro _ w3 ⟨hT,e3⟩;have ak:=ah.ow hT;replace h:=h.up ak;unfold evC at e3;refine D ?_;clear ac ae e2 hT ah ak;have fin:∀ (v e:Int),(v,e)=Ze2 K.ev n->∀ w',Res K w' st sp at_ (v,e)->Ret (λr w'=>r=.tuple #[]/\Res K w' st sp at_ (Ze2 K.ev n)) (.returned (.tuple #[])) w':=by
  intro v e he w' hr;rw [<- he];exact .mk ⟨rfl,hr⟩
 have hn:n=0\/n=1\/n=2\/n=3\/n=4\/n=5\/n=6:=by omega
 rcases hn with rfl|rfl|rfl|rfl|rfl|rfl|rfl
 case inr.inl=>
  by_cases hs:K.ev.getD 1 0<0;refine QO ?_;focus repeat'(first|refine W1 ?_|omega|refine VG ?_ ?_<;>intro hg|refine VC ?_ ?_<;>intro hc)
  refine CL (Z0l hK h hl 0 32) ?_;rintro _ w4 ⟨rfl,h1⟩;refine W ?_;refine WR ?_;refine fin _ _ ?_ _ h1;unfold Ze2;rw [if_pos ⟨rfl,by omega⟩];refine QO ?_;focus repeat'(first|refine W1 ?_|omega|refine VG ?_ ?_<;>intro hg|refine VC ?_ ?_<;>intro hc)
  focus repeat'(first|refine W1 ?_|omega|refine VG ?_ ?_<;>intro hg|refine VC ?_ ?_<;>intro hc)
  refine CL (Z0l hK h hl _ 0) ?_;rintro _ w4 ⟨rfl,h1⟩;refine W ?_;refine WR ?_;refine fin _ _ ?_ _ h1;unfold Ze2;rw [if_neg (by rintro ⟨-,h⟩;omega)];rfl
 case inl=>
  refine QO ?_;repeat'(first|refine W1 ?_|omega|refine VG ?_ ?_<;>intro hg|refine VC ?_ ?_<;>intro hc)
  refine CL (Z0l hK h hl _ 0) ?_;rintro _ w4 ⟨rfl,h1⟩;refine W ?_;refine WR ?_;exact fin _ _ rfl _ h1
 case inr.inr.inl=>
  refine QO ?_;repeat'(first|refine W1 ?_|omega|refine VG ?_ ?_<;>intro hg|refine VC ?_ ?_<;>intro hc)
  refine CL (Z0l hK h hl _ 0) ?_;rintro _ w4 ⟨rfl,h1⟩;refine W ?_;refine WR ?_;exact fin _ _ rfl _ h1
 case inr.inr.inr.inl=>
  refine QO ?_;refine Z31 (len:=7) (i:=3) rfl rfl rfl (by decide) rfl ?_;refine QO ?_;refine CL (Z0l hK h hl _ 0) ?_;rintro _ w4 ⟨rfl,h1⟩;refine W ?_;refine WR ?_;exact fin _ _ rfl _ h1
 case inr.inr.inr.inr.inl=>
  refine QO ?_;refine Z31 (len:=7) (i:=4) rfl rfl rfl (by decide) rfl ?_;refine QO ?_;refine CL (Z0l hK h hl _ 0) ?_;rintro _ w4 ⟨rfl,h1⟩;refine W ?_;refine WR ?_;exact fin _ _ rfl _ h1
 case inr.inr.inr.inr.inr.inl=>
  refine QO ?_;refine Z31 (len:=7) (i:=5) rfl rfl rfl (by decide) rfl ?_;refine QO ?_;refine CL (Z0l hK h hl _ 0) ?_;rintro _ w4 ⟨rfl,h1⟩;refine W ?_;refine WR ?_;exact fin _ _ rfl _ h1
 case inr.inr.inr.inr.inr.inr=>
  refine QO ?_;refine Z31 (len:=7) (i:=6) rfl rfl rfl (by decide) rfl ?_;refine QO ?_;refine CL (Z0l hK h hl _ 0) ?_;rintro _ w4 ⟨rfl,h1⟩;refine W ?_;refine WR ?_;exact fin _ _ rfl _ h1
end
def Zny {α:Type} [Z3 α] (P:Program) (S:List Nat) (g:Nat) (lb:Array Value) (c:α->α->Int) (w:World):Prop:=
 ∀ (x y:α) (w':World),Stp S w w'->Calls P g (#[agg x,agg y]++lb) w' (Ret λv w''=>v=.I (c x y)/\Stp [] w' w'')
theorem Zfh (x:Int) (w):CC 125 #[.I x] w λv w'=>v=.B false/\Stp [] w w':=by
 refine cW1 6 Tryz.func125 ?_;repeat'(first|(apply Z4k;exact rfl;exact rfl)|apply Z2V|(apply Z7x;exact rfl;exact rfl)|(apply ZsV;exact rfl;exact rfl;exact rfl)|(apply ZmC;exact rfl;exact rfl;exact rfl)|apply Z7J|apply Z2F|apply Z7K|refine Z4h ?_|refine Z1m ?_)
 refine RU ?_;exact ⟨by simp,Stp.refl _ _⟩
def Zkl (x y:Int):Int:=if x<y then -1 else if x > y then 1 else 0
theorem ZcE (x y:Int) (w):CC 75 #[.I x,.I y] w λv w'=>v=.I (Zkl x y)/\Stp [] w w':=by
 refine cW2 20 Tryz.func75 ?_;repeat'(first|(apply Z4k;exact rfl;exact rfl)|apply Z2V|(apply Z7x;exact rfl;exact rfl)|(apply Zdr;exact rfl;exact rfl;exact rfl)|(apply Zds;exact rfl;exact rfl;exact rfl)|apply Z7J|apply Z2F|apply Z7v|apply Z7K|(apply Z1D;exact rfl)|(apply Z1i;exact rfl)|refine Z4h ?_|refine Z1m ?_)
 refine CL (Zfh _ _) ?_;rintro _ w1 ⟨rfl,hS⟩;repeat'(first|(apply Z4k;exact rfl;exact rfl)|apply Z2V|(apply Z7x;exact rfl;exact rfl)|(apply Zdr;exact rfl;exact rfl;exact rfl)|(apply Zds;exact rfl;exact rfl;exact rfl)|apply Z7J|apply Z2F|apply Z7v|apply Z7K|(apply Z1D;exact rfl)|(apply Z1i;exact rfl)|refine Z4h ?_|refine Z1m ?_)
 refine CL (Zfh _ _) ?_;rintro _ w2 ⟨rfl,ah⟩;replace hS:=hS.trans ah;repeat'(first|(apply Z4k;exact rfl;exact rfl)|apply Z2V|(apply Z7x;exact rfl;exact rfl)|(apply Zdr;exact rfl;exact rfl;exact rfl)|(apply Zds;exact rfl;exact rfl;exact rfl)|apply Z7J|apply Z2F|apply Z7v|apply Z7K|(apply Z1D;exact rfl)|(apply Z1i;exact rfl)|refine Z4h ?_|refine Z1m ?_|refine Zaf rfl (λhc=>?_) (λhc=>?_)|refine Zbt rfl (λhc=>?_) (λhc=>?_))
 all_goals (refine WR ?_)
 all_goals exact .mk ⟨by unfold Zkl;(first|(simp_all;done)|(rw [if_neg (by omega),if_neg (by omega)])),hS⟩
def put {α:Type} (pre rest:List α) (x:α) (j:Nat):List α:=pre.take j++x :: pre.drop j++rest
theorem Zkm {α:Type} {pre rest:List α} {x:α} {j:Nat} (hj:j<pre.length):((put pre rest x (j+1)).set (j+1) pre[j]).set j x=put pre rest x j:=by
 have h1:pre.take (j+1)=pre.take j++[pre[j]]:=Xk hj;have h2:pre.drop j=pre[j] :: pre.drop (j+1):=X6 hj;have hl:(pre.take j).length=j:=by simp;omega
 unfold put;rw [h1,h2];simp only [Xy,XV,XJ];rw [YbI,if_neg (by omega),hl,show j+1 - j=1 by omega];rw [YbI,if_neg (by omega),hl,Nat.sub_self];rfl
theorem Ztl {α:Type} {pre rest:List α} {x:α} {j:Nat} (hj:j<=pre.length) (h:j<(put pre rest x j).length):(put pre rest x j)[j]=x:=by
 rw [List.getElem_eq_iff];unfold put;rw [X3 (by simp;omega),Yak (by simp;omega)];simp [Yag hj]
theorem Zec {α:Type} {pre rest:List α} {x:α} {j:Nat} (hj:j<pre.length) (h:j<(put pre rest x (j+1)).length):(put pre rest x (j+1))[j]=pre[j]:=by
 rw [List.getElem_eq_iff];unfold put;rw [X3 (by simp;omega),X3 (by simp;omega)];simp [hj]
theorem Zb9 {α:Type} {pre rest:List α} {x:α} {j:Nat}:(put pre rest x j).length=pre.length+1+rest.length:=by
 have:=congrArg List.length (XK j pre);simp only [Xc] at this;simp only [put,Xc,Xe];omega
def Z9R {α:Type} (c:α->α->Int) (xs ys:List α):Prop:=ys.Perm xs/\ys.Pairwise (λa b=>¬ c b a<0)
structure Ord {α:Type} (c:α->α->Int):Prop where
 asym:∀ a b,c a b<0->¬ c b a<0
 trans:∀ a b d,¬ c b a<0->¬ c d b<0->¬ c d a<0
theorem Zed {α:Type} {c:α->α->Int} (ho:Ord c) {pre:List α} {x:α} {j:Nat} (hj:j<=pre.length) (hp:pre.Pairwise (λa b=>¬ c b a<0))
 (h1:∀ q (h:q<pre.length),j<=q->c x pre[q]<0) (h2:∀ h:j - 1<pre.length,0<j->¬ c x pre[j - 1]<0):(pre.take j++x :: pre.drop j).Pairwise (λa b=>¬ c b a<0):=by
 rw [Yai];have hd:∀ a∈pre.drop j,c x a<0:=by
  intro a ha;obtain ⟨m,hm,rfl⟩:=Xr ha;simp only [List.getElem_drop];simp at hm;exact h1 _ _ (by omega)
 have ht:∀ a∈pre.take j,¬ c x a<0:=by
  intro a ha;obtain ⟨m,hm,rfl⟩:=Xr ha;simp only [Xx] at hm;simp only [List.getElem_take];by_cases e:m=j - 1;subst e;exact h2 (by omega) (by omega);exact ho.trans _ _ _ (Yap.1 hp m (j - 1) (by omega) (by omega) (by omega)) (h2 (by omega) (by omega))
 refine ⟨hp.sublist (List.take_sublist _ _),?_,?_⟩;rw [XO];exact ⟨λa ha=>ho.asym _ _ (hd a ha),hp.sublist (List.drop_sublist _ _)⟩;intro a ha b hb;rcases Xb.1 hb with rfl|hb
 exact ht a ha;exact λh=>by
  have h3:=hd b hb;exact ho.trans a x b (ht a ha) (ho.asym _ _ h3) h
theorem Z5W (x y:Int):Zkl x y<0↔x<y:=by unfold Zkl;split<;>(try split)<;>omega
def Z2r (y:Nat):Nat:=
 let a:=y % 19
 let b:=y / 100
 let c:=y % 100
 let g:=(b - (b+8) / 25+1) / 3
 let h:=(19 * a+b - b / 4 - g+15) % 30
 let l:=(32+2 * (b % 4)+2 * (c / 4) - h - c % 4) % 7
 h+l+114 - 7 * ((a+11 * h+22 * l) / 451)
def ZwK (y:Nat):Nat:=(11 * (y % 19+1)+20+((8 * (y / 100+1)+5) / 25 - 5)+60 - (3 * (y / 100+1) / 4 - 12)) % 30
def ZwL (e g:Nat):Nat:=bif Nat.beq e 24 || (Nat.beq e 25 && Nat.blt 11 g) then e+1 else e
def ZwM (e d:Nat):Nat:=let n:=(bif Nat.blt (44 - e) 21 then 44 - e+30 else 44 - e);n+7 - (d+n) % 7
def Zkn (y:Nat):Nat:=ZwM (ZwL (ZwK y) (y % 19+1)) (5 * y / 4 - (3 * (y / 100+1) / 4 - 12) - 10)
def Zfi (y:Nat):Bool:=Nat.beq (Z2r y) (Zkn y+92) && (Nat.ble 114 (Z2r y) && Nat.ble (Z2r y) 148)
def ZgE:Nat->Nat->Bool
 | 0,lo=>Zfi lo
 | k+1,lo=>ZgE k lo && ZgE k (lo+2 ^ k)
theorem Z4C:∀ (k lo d:Nat),ZgE k lo=true->lo<=d->d<lo+2 ^ k->Zfi d=true
 | 0, lo, d, h, h1, h2 => by
   have:d=lo:=by simp at h2;omega
   subst this;exact h
 | k + 1, lo, d, h, h1, h2 => by
   simp only [ZgE,Xm] at h;rcases Yay d (lo+2 ^ k) with h3|h3
   exact Z4C k lo d h.1 h1 h3;exact Z4C k _ d h.2 h3 (by rw [Ybs] at h2;omega)
theorem ZgF:ZgE 13 1583=true:=by kernel_rfl
theorem ZgG:ZgE 8 9775=true:=by kernel_rfl
theorem Znz {y:Nat} (h1:1583<=y) (h2:y<=9999):Z2r y=Zkn y+92/\114<=Z2r y/\Z2r y<=148:=by
 have h:Zfi y=true:=by
  rcases Yay y 9775 with h3|h3
  exact Z4C 13 1583 y ZgF h1 (by omega);exact Z4C 8 9775 y ZgG h3 (by omega)
 unfold Zfi at h;simp only [Xm] at h;exact ⟨XN h.1,XX h.2.1,XX h.2.2⟩
theorem ZgH {y:Nat} (h1:1583<=y) (h2:y<=9999):Z3t (y:Int)=(Z2r y:Int):=by
 unfold Z3t Z2r;dsimp only;have e1:(y:Int) % 19=((y % 19:Nat):Int):=by omega
 have e2:(y:Int) / 100=((y / 100:Nat):Int):=by omega
 have e3:(y:Int) % 100=((y % 100:Nat):Int):=by omega
 rw [e1,e2,e3];have ha:y % 19<=18:=by omega
 have hb:15<=y / 100/\y / 100<=99:=by omega
 have hc:y % 100<=99:=by omega
 generalize y % 19=a at *;generalize y / 100=b at *;generalize y % 100=c at *;have e4:((b:Int) - ((b:Int)+8) / 25+1) / 3=(((b - (b+8) / 25+1) / 3:Nat):Int):=by omega
 have hg:(b - (b+8) / 25+1) / 3+b / 4<=b:=by omega
 rw [e4];generalize (b - (b+8) / 25+1) / 3=g at *;have e5:(19 * (a:Int)+(b:Int) - (b:Int) / 4 - (g:Int)+15) % 30=(((19 * a+b - b / 4 - g+15) % 30:Nat):Int):=by omega
 rw [e5];have hh:(19 * a+b - b / 4 - g+15) % 30<=29:=by omega
 generalize (19 * a+b - b / 4 - g+15) % 30=h at *;have e6:(32+2 * ((b:Int) % 4)+2 * ((c:Int) / 4) - (h:Int) - (c:Int) % 4) % 7=(((32+2 * (b % 4)+2 * (c / 4) - h - c % 4) % 7:Nat):Int):=by omega
 rw [e6];have hl:(32+2 * (b % 4)+2 * (c / 4) - h - c % 4) % 7<=6:=by omega
 generalize (32+2 * (b % 4)+2 * (c / 4) - h - c % 4) % 7=l at *;omega
theorem Z7a {y:Int} (h1:1583<=y) (h2:y<=9999):114<=Z3t y/\Z3t y<=148:=by
 obtain ⟨k,rfl⟩:∃ k:Nat,y=(k:Int):=⟨y.toNat,by omega⟩
 have:=Znz (y:=k) (by omega) (by omega);rw [ZgH (by omega) (by omega)];omega
theorem Zee (y d:Int):Z08 y 3 d=Z08 y 3 1+d - 1/\Z08 y 4 d=Z08 y 3 1+31+d - 1:=by
 constructor;rw [show (3:Int)=((2:Nat):Int)+1 by rfl,Z2K y d 2 (by omega),Z2K y 1 2 (by omega)];omega;rw [show (4:Int)=((3:Nat):Int)+1 by rfl,show (3:Int)=((2:Nat):Int)+1 by rfl,Z2K y d 3 (by omega),Z2K y 1 2 (by omega)];have:Z2i y 3=Z2i y 2+31:=by
  have:Z2i y 3=Z2i y 2+ZM y 3:=by simp [Z2i]
  rw [this];rfl
 omega
theorem Z2s (n a b:Int) (w):CC 213 #[.I n,.I a,.I b] w λr w'=>r=.B (decide (a<=n/\n<=b))/\w'=w:=by
 refine cW3 15 Tryz.func213 ?_;by_cases h1:n>=a;by_cases h2:n<=b;rw [decide_eq_true ⟨h1,h2⟩];refine RT ?_;exact ⟨by simp [h2],rfl⟩;rw [decide_eq_false (λh=>h2 h.2)];refine RT ?_;exact ⟨by simp [h2],rfl⟩;rw [decide_eq_false (λh=>h1 h.1)];refine RT ?_;exact ⟨rfl,rfl⟩
theorem Z48 (d:Int) (w) (h0:0<=d) (h1:d<=9000000000):CC 155 #[.I d] w λr w'=>r=.I (d % 7)/\w'=w:=by
 refine cW1 7 Tryz.func155 ?_;refine RT ?_;exact ⟨by congr 1;omega,rfl⟩
theorem Zef (y:Int) (w):CC 312 #[.I y] w λr w'=>r=.tuple #[.I (if y<1583\/9999<y then 0 else Z5P y),.I (if y<1583\/9999<y then 5 else 0)]/\Stp [] w w':=by
 refine cW1 77 Tryz.func312 ?_;by_cases hy:y<1583\/9999<y
 . rw [if_pos hy,if_pos hy]
   repeat'(first|refine W1 ?_|omega|refine VG ?_ ?_<;>intro hg|refine VC ?_ ?_<;>intro hc)
   all_goals refine WR ?_
   all_goals exact .mk ⟨rfl,Stp.refl _ _⟩
 rw [if_neg hy,if_neg hy];have hb:=Z7a (y:=y) (by omega) (by omega)
 have he:Z32 (Z3t y=(19 * (y % 19)+y / 100 - y / 100 / 4 - (y / 100 - (y / 100+8) / 25+1) / 3+15) % 30 +
  (32+2 * (y / 100 % 4)+2 * (y % 100 / 4) - (19 * (y % 19)+y / 100 - y / 100 / 4 - (y / 100 - (y / 100+8) / 25+1) / 3+15) % 30 - y % 100 % 4) % 7 -
  7 * ((y % 19+11 * ((19 * (y % 19)+y / 100 - y / 100 / 4 - (y / 100 - (y / 100+8) / 25+1) / 3+15) % 30)+22 * ((32+2 * (y / 100 % 4)+2 * (y % 100 / 4) - (19 * (y % 19)+y / 100 - y / 100 / 4 - (y / 100 - (y / 100+8) / 25+1) / 3+15) % 30 - y % 100 % 4) % 7)) / 451)+114):=⟨rfl⟩
 have g1:0<=y % 19/\y % 19<=18:=by omega
 have g2:15<=y / 100/\y / 100<=99:=by omega
 have g3:0<=y % 100/\y % 100<=99:=by omega
 refine QO ?_;have g4:0<=(19 * (y % 19)+y / 100 - y / 100 / 4 - (y / 100 - (y / 100+8) / 25+1) / 3+15) % 30/\(19 * (y % 19)+y / 100 - y / 100 / 4 - (y / 100 - (y / 100+8) / 25+1) / 3+15) % 30<=29:=by omega
 generalize (19 * (y % 19)+y / 100 - y / 100 / 4 - (y / 100 - (y / 100+8) / 25+1) / 3+15) % 30=H at he g4 ⊢;have g5:0<=(32+2 * (y / 100 % 4)+2 * (y % 100 / 4) - H - y % 100 % 4) % 7/\(32+2 * (y / 100 % 4)+2 * (y % 100 / 4) - H - y % 100 % 4) % 7<=6:=by omega
 refine W ?_;generalize (32+2 * (y / 100 % 4)+2 * (y % 100 / 4) - H - y % 100 % 4) % 7=L at he g5 ⊢;rw [<- he.h];refine Z7 (vs:=[(0,.I y),(1,.I (Z3t y / 31)),(2,.I (Z3t y % 31+1))]) rfl (Z5H _ _ _) rfl ?_;refine Z0 (Z4 rfl (ZR rfl) (Z5h y _ _ _ (by omega) (by omega) (by omega) (by omega) (by omega) (by omega) (by omega))) rfl ?_;rintro _ w1 ⟨rfl,hS⟩;refine RT ?_;exact ⟨rfl,hS⟩
theorem Z2R {y m:Int} (hy:1<=y) (eB:y<=9999) (hm:1<=m) (eW:m<=12):¬ Z1Z y m 1/\0<=Z08 y m 1/\Z08 y m 1<=3652058/\28<=ZM y m/\ZM y m<=31:=by
 have hl:=Z2o (y:=y) (k:=(m - 1).toNat) (by omega);rw [show (((m - 1).toNat:Int))+1=m by omega] at hl;have qj:=Z39 y m;have:=dayM_range hy eB hm eW (d:=1) (by omega) (by omega);exact ⟨by unfold Z1Z;omega,this.1,this.2,hl,qj⟩
theorem Z8G (h:Hol) (y:Int) (w) (hL:Z0x w) (hy:1<=y) (eB:y<=9999) (hm:1<=h.month) (eW:h.month<=12) (hw:0<=h.wd) (kG:h.wd<=6) :
 CC 307 #[agg h,.I y] w λr w'=>r=.tuple #[.I (Z08 y h.month 1),.I (Z3Y y h.month h.wd)]/\Stp [] w w':=by
 obtain ⟨f1,f2,f3,f4,f5⟩:=Z2R hy eB hm eW;refine cW2 26 Tryz.func307 ?_;refine W ?_;refine Z0 (Zr rfl) rfl ?_;rintro _ w1 ⟨b,rfl,hb,ac,hS⟩;replace ac:Blk w1 b 138 (Z3.enc h):=ac;replace hL:=hL.up hS;refine W ?_;refine Z7 (vs:=[(0,.I y),(1,.I h.month),(2,.I 1)]) rfl (Z5H _ _ _) rfl ?_;refine CL (Z8b y _ _ _ hL) ?_;rintro _ w2 ⟨rfl,hT⟩;rw [if_neg f1,if_neg f1];replace ac:=ac.up hT;replace hS:=hS.trans hT;clear hT;refine W ?_;refine ZDr 12 [] [] [(0,0),(1,0),(2,0),(3,1),(4,0),(5,2),(6,0),(7,0),(8,0),(9,0),(10,0),(11,0)] (λw1 ae=>?_);replace ac:=ac.up ae;replace hS:=hS.trans ae;clear ae;refine D ?_;refine Za rfl trivial (Z4 rfl (ZR rfl) (Z48 _ _ f2 (by omega))) (λ_ _ h=>by rw [h.2];exact Stp.refl _ _) rfl ?_;rintro _ w3 ⟨rfl,rfl⟩;refine D ?_;refine W ?_;refine WR ?_;refine .mk ⟨?_,hS⟩;unfold Z3Y;rfl
def Z1I (h:Hol) (y:Int):Int×Bool:=
 if h.kind=1 then (if Z1Z y h.month h.day then 0 else Z08 y h.month h.day,!decide (Z1Z y h.month h.day))
 else if h.kind=2 then (Z3Y y h.month h.wd+7 * (h.nth - 1),decide (Z3Y y h.month h.wd+7 * (h.nth - 1)<Z08 y h.month 1+ZM y h.month))
 else if h.kind=3 then (Z3Y y h.month h.wd+(Z08 y h.month 1+ZM y h.month - 1 - Z3Y y h.month h.wd) / 7 * 7,true)
 else ((if y<1583\/9999<y then 0 else Z5P y)+h.off,!decide (y<1583\/9999<y))
theorem Ztm {h:Hol} {y:Int} (h1:h.first<=y) (h2:y<=h.last):Zni h y=if (Z1I h y).2=true then some (Z1I h y).1 else none:=by
 unfold Zni Z1I;rw [if_neg (by omega)];by_cases k1:h.kind=1;rw [if_pos k1,if_pos k1];by_cases hb:Z1Z y h.month h.day;simp [hb];simp [hb];rw [if_neg k1,if_neg k1];by_cases k2:h.kind=2;rw [if_pos k2,if_pos k2];simp;rw [if_neg k2,if_neg k2];by_cases k3:h.kind=3;rw [if_pos k3,if_pos k3];rfl;rw [if_neg k3,if_neg k3];by_cases hy:y<1583\/9999<y;simp [hy];simp [hy]
abbrev ZcF (h:Hol) (y:Int):Value:=.tuple #[.I (Z1I h y).1,.B (Z1I h y).2]
theorem Z7b {y:Int} (h1:1583<=y) (h2:y<=9999):1000<=Z5P y/\Z5P y<=3652058:=by
 have hb:=Z7a h1 h2;have e3:ZM y 3=31:=rfl;have e4:ZM y 4=30:=rfl;have hs:=Z3R h1;have cm:500000<=Z1c 1583:=by decide
 have pi:=Zee y (Z3t y % 31+1);have yp:Z08 y 3 1=Z1c y+Z2i y 2:=by
  have:=Z2K y 1 2 (by omega);rw [show ((2:Nat):Int)+1=3 by rfl] at this;omega
 have hc:0<=Z2i y 2:=by
  have:=Z4r (y:=y) (Xq 2) (by omega);simpa [Z2i] using this
 unfold Z5P;have hm:Z3t y / 31=3\/Z3t y / 31=4:=by omega
 rcases hm with hm|hm
 rw [hm];exact ⟨by omega,(dayM_range (by omega) h2 (by omega) (by omega) (by omega) (by omega)).2⟩;rw [hm];exact ⟨by omega,(dayM_range (by omega) h2 (by omega) (by omega) (by omega) (by omega)).2⟩
theorem Z3l {y m wd:Int} (hy:1<=y) (eB:y<=9999) (hm:1<=m) (eW:m<=12):Z08 y m 1<=Z3Y y m wd/\Z3Y y m wd<=Z08 y m 1+6:=by
 unfold Z3Y;omega
theorem Zeg {h:Hol} {y:Int} (ho:Z24 h) (h1:h.first<=y) (h2:y<=h.last) (hp:(Z1I h y).2=true):0<=(Z1I h y).1/\(Z1I h y).1<=3653000:=by
 have hy:=ho.f1;have eB:=ho.l1;have bH:=ho.k1;have dc:=ho.k2;unfold Z1I at hp ⊢;by_cases k1:h.kind=1;rw [if_pos k1] at hp ⊢;obtain ⟨m1,m2⟩:=ho.month (by omega);by_cases hb:Z1Z y h.month h.day;simp [hb] at hp;dsimp only;rw [if_neg hb];unfold Z1Z at hb;have:=dayM_range (y:=y) (m:=h.month) (d:=h.day) (by omega) (by omega) (by omega) (by omega) (by omega) (by omega);omega;rw [if_neg k1] at hp ⊢;by_cases k2:h.kind=2;rw [if_pos k2] at hp ⊢;obtain ⟨m1,m2⟩:=ho.month (by omega);obtain ⟨n1,n2⟩:=ho.nth k2;obtain ⟨f1,f2,f3,f4,f5⟩:=Z2R (y:=y) (by omega) (by omega) m1 m2;obtain ⟨f6,f7⟩:=Z3l (y:=y) (wd:=h.wd) (by omega) (by omega) m1 m2;dsimp only;omega;rw [if_neg k2] at hp ⊢;by_cases k3:h.kind=3;rw [if_pos k3] at hp ⊢;obtain ⟨m1,m2⟩:=ho.month (by omega);obtain ⟨f1,f2,f3,f4,f5⟩:=Z2R (y:=y) (by omega) (by omega) m1 m2;obtain ⟨f6,f7⟩:=Z3l (y:=y) (wd:=h.wd) (by omega) (by omega) m1 m2;dsimp only;omega;rw [if_neg k3] at hp ⊢;obtain ⟨o1,o2⟩:=ho.off (by omega);by_cases hy:y<1583\/9999<y;simp [hy] at hp;dsimp only;rw [if_neg hy];have:=Z7b (y:=y) (by omega) (by omega);omega
theorem ZgI (h:Hol) (y:Int) (w) (hL:Z0x w) (hk:h.kind=1) :
 CC 303 #[agg h,.I y] w λr w'=>r=ZcF h y/\Stp [] w w':=by
 have e:Z1I h y=(if Z1Z y h.month h.day then 0 else Z08 y h.month h.day,!decide (Z1Z y h.month h.day)):=by unfold Z1I;rw [if_pos hk]
 unfold ZcF;rw [e];refine cW2 21 Tryz.func303 ?_;refine W ?_;refine Z0 (Zr rfl) rfl ?_;rintro _ w1 ⟨b,rfl,hb,ac,hS⟩;replace ac:Blk w1 b 138 (Z3.enc h):=ac;replace hL:=hL.up hS;refine W ?_;refine Z7 (vs:=[(0,.I y),(1,.I h.month),(2,.I h.day)]) rfl (Z5H _ _ _) rfl ?_;refine CL (Z8b y _ _ _ hL) ?_;rintro _ w2 ⟨rfl,hT⟩;refine W ?_;refine WR ?_;refine .mk ⟨?_,hS.trans hT⟩;by_cases hb:Z1Z y h.month h.day<;>simp [hb]
theorem ZgJ (h:Hol) (y:Int) (w) (hL:Z0x w) (hy:1<=y) (eB:y<=9999) (hk:h.kind=2) (ho:Z24 h) :
 CC 306 #[agg h,.I y] w λr w'=>r=ZcF h y/\Stp [] w w':=by
 have e:Z1I h y=(Z3Y y h.month h.wd+7 * (h.nth - 1),decide (Z3Y y h.month h.wd+7 * (h.nth - 1)<Z08 y h.month 1+ZM y h.month)):=by unfold Z1I;rw [if_neg (by omega),if_pos hk]
 obtain ⟨m1,m2⟩:=ho.month (by omega);obtain ⟨d1,d2⟩:=ho.wd (.inl hk);obtain ⟨n1,n2⟩:=ho.nth hk;obtain ⟨f1,f2,f3,f4,f5⟩:=Z2R hy eB m1 m2;obtain ⟨f6,f7⟩:=Z3l (wd:=h.wd) hy eB m1 m2;unfold ZcF;rw [e];refine cW2 29 Tryz.func306 ?_;refine W ?_;refine Z0 (Zr rfl) rfl ?_;rintro _ w1 ⟨b,rfl,hb,ac,hS⟩;replace ac:Blk w1 b 138 (Z3.enc h):=ac;replace hL:=hL.up hS;refine W ?_;refine CL (Z8G h y _ hL hy eB m1 m2 d1 d2) ?_;rintro _ w2 ⟨rfl,hT⟩;replace ac:=ac.up hT;replace hL:=hL.up hT;replace hS:=hS.trans hT;refine W ?_;refine CM (Zd rfl rfl) (Z3d y _ _ hL (by omega) (by omega)) ?_;rintro _ _ ⟨rfl,rfl⟩;refine RT ?_;exact ⟨rfl,hS⟩
theorem ZgK (h:Hol) (y:Int) (w) (hL:Z0x w) (hy:1<=y) (eB:y<=9999) (hk:h.kind=3) (ho:Z24 h) :
 CC 309 #[agg h,.I y] w λr w'=>r=ZcF h y/\Stp [] w w':=by
 have e:Z1I h y=(Z3Y y h.month h.wd+(Z08 y h.month 1+ZM y h.month - 1 - Z3Y y h.month h.wd) / 7 * 7,true):=by unfold Z1I;rw [if_neg (by omega),if_neg (by omega),if_pos hk]
 obtain ⟨m1,m2⟩:=ho.month (by omega);obtain ⟨d1,d2⟩:=ho.wd (.inr hk);obtain ⟨f1,f2,f3,f4,f5⟩:=Z2R hy eB m1 m2;obtain ⟨f6,f7⟩:=Z3l (wd:=h.wd) hy eB m1 m2;unfold ZcF;rw [e];refine cW2 29 Tryz.func309 ?_;refine W ?_;refine Z0 (Zr rfl) rfl ?_;rintro _ w1 ⟨b,rfl,hb,ac,hS⟩;replace ac:Blk w1 b 138 (Z3.enc h):=ac;replace hL:=hL.up hS;refine W ?_;refine CL (Z8G h y _ hL hy eB m1 m2 d1 d2) ?_;rintro _ w2 ⟨rfl,hT⟩;replace ac:=ac.up hT;replace hL:=hL.up hT;replace hS:=hS.trans hT;refine W ?_;refine CM (Zd rfl rfl) (Z3d y _ _ hL (by omega) (by omega)) ?_;rintro _ _ ⟨rfl,rfl⟩;refine RT ?_;exact ⟨rfl,hS⟩
theorem ZgL (h:Hol) (y:Int) (w) (hk:h.kind=4) (ho:Z24 h) :
 CC 311 #[agg h,.I y] w λr w'=>r=ZcF h y/\Stp [] w w':=by
 have e:Z1I h y=((if y<1583\/9999<y then 0 else Z5P y)+h.off,!decide (y<1583\/9999<y)):=by unfold Z1I;rw [if_neg (by omega),if_neg (by omega),if_neg (by omega)]
 obtain ⟨o1,o2⟩:=ho.off hk;have hr:0<=(if y<1583\/9999<y then 0 else Z5P y)/\(if y<1583\/9999<y then 0 else Z5P y)<=3652058:=by
  split;omega;have:=Z7b (y:=y) (by omega) (by omega);omega
 unfold ZcF;rw [e];refine cW2 19 Tryz.func311 ?_;refine W ?_;refine Z0 (Zr rfl) rfl ?_;rintro _ w1 ⟨b,rfl,hb,ac,hS⟩;replace ac:Blk w1 b 138 (Z3.enc h):=ac;refine W ?_;refine CL (Zef y _) ?_;rintro _ w2 ⟨rfl,hT⟩;replace ac:=ac.up hT;replace hS:=hS.trans hT;refine W ?_;refine WR ?_;refine .mk ⟨?_,hS⟩;by_cases hy:y<1583\/9999<y<;>simp [hy]
theorem Zeh (g:Nat) (fn:Func) [Fun Tryz.prog g fn] (lb:Array Value) (c:Spn->Spn->Int) (ho:Ord c) (X:List Nat) (base:Nat) (v:Value) (xs:List Spn) (w:World) (hX:∀ b∈X,b<base) (aZ:base<=w.heap.size) (ab:Row X w base 345 v xs) (hp:Zny Tryz.prog (ob v) g lb c w) (ai:xs.length<=1000) :
 CC 360 #[v,.I 0,.I xs.length,.func (.func g) #[] lb] w λr w'=>∃ ys,Z9R c xs ys/\Row X w' base 345 v ys/\Stp (ob v) w w':=by
 refine cW4 53 Tryz.func360 ?_;refine W ?_
 refine Zu (σ:=Nat) (λi=>[(0,v),(1,.I 0),(2,.I xs.length),(3,.func (.func g) #[] lb),(8,.I (i+1))])
  (λi w'=>Stp (ob v) w w'/\∃ ys,ys.Perm xs/\Row X w' base 345 v ys/\(ys.take (i+1)).Pairwise (λa b=>¬ c b a<0)) (λi=>xs.length - i) 0 ⟨rfl,rfl,rfl,rfl,rfl,trivial⟩
  ⟨Stp.refl _ _,xs,YaF _,ab,?_⟩ ?_
 . cases xs with
   | nil=>simp
   | cons x r=>simp
 rintro i w1 ⟨hS,ys,iN,ab,kp⟩;have fC:=iN.length_eq;by_cases oT:i+1<xs.length
 . repeat'(first|refine W1 ?_|refine VG ?_ ?_<;>intro hg|refine VC ?_ ?_<;>intro hc)
   rotate_left
   omega;obtain ⟨pre,x,rest,cr,rfl⟩:∃ pre x rest,pre.length=i+1/\ys=put pre rest x pre.length:=by
    refine ⟨ys.take (i+1),ys[i+1],ys.drop (i+2),by simp;omega,?_⟩;unfold put;have hl:(ys.take (i+1)).length=i+1:=by simp;omega
    rw [hl,YaE,Nat.min_self,YaA (by omega)]
    conv=>lhs;rw [<- XK (i+1) ys,X6 (by omega)]
    simp
   have cw:pre.Pairwise (λa b=>¬ c b a<0):=by
    have:(put pre rest x pre.length).take (i+1)=pre:=by
     unfold put;rw [Xp,Ya0,Xy,<- cr,YbK];rfl
    rwa [this] at kp
   have wu:pre.length+1+rest.length=xs.length:=by rw [<- fC,Zb9]
   have fin:∀ j (w':World),j<=pre.length->Stp (ob v) w w'->Row X w' base 345 v (put pre rest x j)->(∀ q (h:q<pre.length),j<=q->c x pre[q]<0)->(∀ h:j - 1<pre.length,0<j->¬ c x pre[j - 1]<0)->
    Stp (ob v) w w'/\∃ ys,ys.Perm xs/\Row X w' base 345 v ys/\(ys.take (i+1+1)).Pairwise (λa b=>¬ c b a<0):=by
    intro j w' hj hS ab h1 h2;refine ⟨hS,put pre rest x j,?_,ab,?_⟩;refine List.Perm.trans ?_ iN;unfold put;rw [Xp,Ya0];refine List.Perm.append_right _ ?_;refine List.Perm.trans List.perm_middle ?_;rw [XK];exact (List.perm_append_singleton x pre).symm;have e:(put pre rest x j).take (i+1+1)=pre.take j++x :: pre.drop j:=by
     have hl:(pre.take j++x :: pre.drop j).length=i+1+1:=by
      have:=congrArg List.length (XK j pre);simp only [Xc] at this;simp only [Xc,Xe];omega
     unfold put;rw [<- hl,YbK];rfl
    rw [e];exact Zed ho hj cw h1 h2
   refine Zu (σ:=Nat) (λj=>[(0,v),(1,.I 0),(2,.I xs.length),(3,.func (.func g) #[] lb),(8,.I (i+1)),(9,.I (j:Int))])
    (λj w'=>j<=pre.length/\Stp (ob v) w w'/\Row X w' base 345 v (put pre rest x j)/\(∀ q (h:q<pre.length),j<=q->c x pre[q]<0)) (λj=>j) (i+1) ⟨rfl,rfl,rfl,rfl,rfl,rfl,trivial⟩
    ⟨by omega,hS,by rw [cr] at ab;exact ab,λq h hq=>by omega⟩ ?_
   clear ab hS;rintro j w2 ⟨hj,hS,ab,hlt⟩;have hs:=ab.slv hX;cases j with
   | zero=>
     refine W ?_;refine ZDr 17 [] [] [(0,0),(1,0),(2,0),(3,0),(4,0),(5,0),(6,0),(7,0),(8,1),(9,0),(10,0),(11,0),(12,0),(13,1),(14,2),(15,0),(16,0)] (λw1 ae=>?_);replace hS:=hS.trans ae.mn;replace ab:=ab.up ae;replace hs:=hs.up ae;refine D ?_;refine W ?_;exact QL (i+1) (fin 0 _ (Xq _) hS ab hlt (λ_ h=>absurd h (Nat.lt_irrefl _))) (by omega)
   | succ j=>
     have hz:((j+1:Nat):Int) - 1=(j:Int):=by omega
     have bO:j+1<(put pre rest x (j+1)).length:=by rw [Zb9];omega
     have fH:j<(put pre rest x (j+1)).length:=by rw [Zb9];omega
     have a1:=Ztl (rest:=rest) (x:=x) hj bO;have a0:=Zec (rest:=rest) (x:=x) (Nat.lt_of_succ_le hj) fH;refine W ?_;refine ZDr 17 [] [] [(0,0),(1,0),(2,0),(3,0),(4,0),(5,0),(6,0),(7,0),(8,1),(9,0),(10,0),(11,0),(12,0),(13,1),(14,2),(15,0),(16,0)] (λw1 ae=>?_);replace hS:=hS.trans ae.mn;replace ab:=ab.up ae;replace hs:=hs.up ae;refine QD ?_;refine Za rfl (by first|exact trivial|exact rfl) (Z00 (f:=g) rfl (Zd rfl rfl) rfl (hp _ _ _ hS)) (λ_ _ h=>h.2) rfl ?_;rintro _ w3 ⟨rfl,ak⟩;rw [a1,a0];replace hS:=hS.trans ak.mn;replace ab:=ab.up ak;replace hs:=hs.up ak;refine D ?_
     (refine QP ?_ ?_<;>intro hc)
     rename_i hc;refine ZDr 18 [] [15,17] [(0,0),(1,0),(2,0),(3,0),(4,0),(5,0),(6,0),(7,0),(8,0),(9,1),(10,0),(11,0),(12,0),(13,1),(14,0),(15,2),(16,0),(17,2)] (λw1 ae=>?_);replace hS:=hS.trans ae.mn;replace ab:=ab.up ae;replace hs:=hs.up ae;refine D ?_;rw [a1,a0];refine ZO rfl trivial (Z7O (i:=j+1) (y':=pre[j]) rfl rfl rfl rfl ab hX bO) rfl ?_;rintro _ w4 ⟨ab,aJ⟩;replace hS:=hS.trans aJ;refine D ?_;refine ZO rfl trivial (Z7O (i:=j) (y':=x) rfl rfl rfl rfl ab hX (by rw [X8];exact fH)) rfl ?_;rintro _ w5 ⟨ab,aD⟩;replace hS:=hS.trans aD;rw [Zkm (Nat.lt_of_succ_le hj)] at ab;refine D ?_;refine W ?_;refine Zx j ⟨rfl,rfl,rfl,rfl,rfl,(by rw [<- hz];rfl),trivial⟩ ⟨by omega,hS,ab,λq h hq=>?_⟩ (by omega);by_cases e:q=j;subst e;exact hc;exact hlt q h (by omega);exact QL (i+1) (fin (j+1) _ hj hS ab hlt (λ_ _=>by assumption)) (by omega)
 focus repeat'(first|refine W1 ?_|refine VG ?_ ?_<;>intro hg|refine VC ?_ ?_<;>intro hc)
 omega;refine WR ?_;refine .mk ⟨ys,⟨iN,?_⟩,ab,hS⟩
 rwa [XL (by omega)] at kp
theorem ZnA (g:Nat) (fn:Func) [Fun Tryz.prog g fn] (lb:Array Value) (c:Spn->Spn->Int) (ho:Ord c) (X:List Nat) (base:Nat) (v:Value) (xs:List Spn) (w:World) (hX:∀ b∈X,b<base) (aZ:base<=w.heap.size) (ab:Row X w base 345 v xs) (hp:Zny Tryz.prog (ob v) g lb c w) (ai:xs.length<20) :
 CC 347 #[v,.I xs.length,.func (.func g) #[] lb] w λr w'=>∃ ys,Z9R c xs ys/\Row X w' base 345 v ys/\Stp (ob v) w w':=by
 have nl:¬ ((20:Int)<=xs.length):=by omega
 have nl2:¬ ((20:Int)<xs.length):=by omega
 refine cW3 63 Tryz.func347 ?_;refine W ?_;refine Zu (σ:=Unit) (λ_=>[(0,v),(1,.I xs.length),(2,.func (.func g) #[] lb),(6,.I 20),(7,.I 0),(8,.I 20)]) (λ_ w'=>w'=w) (λ_=>0) () ⟨rfl,rfl,rfl,rfl,rfl,rfl,trivial⟩ rfl ?_;rintro _ w' rfl;repeat'(first|refine W1 ?_|refine VG ?_ ?_<;>intro hg|refine VC ?_ ?_<;>intro hc)
 exact absurd (by assumption) nl;refine CM (Z7o rfl rfl rfl rfl) (Zeh g fn lb c ho X base v xs _ hX aZ ab hp (by omega)) ?_;rintro r w2 az;refine W ?_;refine Zu (σ:=Unit) (λ_=>[(1,.I xs.length),(6,.I 20)]) (λ_ w'=>w'=w2) (λ_=>0) () ⟨rfl,rfl,trivial⟩ rfl ?_;rintro _ w' rfl;repeat'(first|refine W1 ?_|refine VG ?_ ?_<;>intro hg|refine VC ?_ ?_<;>intro hc)
 exact absurd (by assumption) nl2;refine WR ?_;exact .mk az
theorem ZcG (g:Nat) (fn:Func) [Fun Tryz.prog g fn] (lb:Array Value) (c:Spn->Spn->Int) (ho:Ord c) (X:List Nat) (base:Nat) (v:Value) (xs:List Spn) (w:World) (hX:∀ b∈X,b<base) (aZ:base<=w.heap.size) (ab:Row X w base 345 v xs) (hp:Zny Tryz.prog (ob v) g lb c w) (ai:xs.length<20) :
 CC 318 #[v,.func (.func g) #[] lb] w λr w'=>∃ ys,Z9R c xs ys/\Row X w' base 345 v ys/\Stp (ob v) w w':=by
 have hs:=ab.slv hX;refine cW2 9 Tryz.func318 ?_;refine W ?_;refine CL (ZnA g fn lb c ho X base v xs _ hX aZ ab hp ai) ?_;rintro r w2 az;refine W ?_;refine WR ?_;exact .mk az
def ZcH (x y:Spn):Int:=Zkl x.1 y.1
theorem ZxG:Ord ZcH where
 asym:=λa b=>by unfold ZcH;rw [Z5W,Z5W];omega
 trans:=λa b d=>by unfold ZcH;rw [Z5W,Z5W,Z5W];omega
theorem ZwN (S:List Nat) (w):Zny Tryz.prog S 319 #[] ZcH w:=by
 intro x y w1 hS;show Calls _ _ #[agg x,agg y] _ _;refine cW2 10 Tryz.func319 ?_;refine W ?_;refine Z0 (Zr rfl) rfl ?_;rintro _ w2 ⟨c,rfl,hc,ac,ah⟩;replace ac:Blk w2 c _ (Z3.enc x):=ac;refine Z0 (Zr rfl) rfl ?_;rintro _ w3 ⟨c2,rfl,cq,aP,ak⟩;replace aP:Blk w3 c2 _ (Z3.enc y):=aP;replace ac:=ac.up ak;replace ah:=ah.trans ak;refine W ?_;refine CL (ZcE _ _ _) ?_;rintro _ w4 ⟨rfl,aJ⟩;refine RT ?_;exact ⟨rfl,ah.trans aJ⟩
def ofH (y:Int) (h:Hol) (i:Int):List Spn:=match Z2p h y with|some d=>[(d,i)]|none=>[]
def ofK (y:Int):List Hol->Int->List Spn
 | [],_=>[]
 | h :: r,i=>ofH y h i++ofK y r (i+1)
theorem Zfj (y:Int):∀ (a b:List Hol) (i:Int),ofK y (a++b) i=ofK y a i++ofK y b (i+a.length)
 | [],b,i=>by simp [ofK]
 | h :: a, b, i => by
   simp only [XV,ofK,Zfj y a b (i+1),Xy,Xe];congr 3;omega
theorem Zfk (y d:Int):∀ (l:List Hol) (i:Int),(∃ r,(d,r)∈ofK y l i)↔∃ h∈l,Z2p h y=some d
 | [],i=>by simp [ofK]
 | h :: l, i => by
   simp only [ofK,Xf,Xb,exists_or,exists_eq_or_imp];have ih:=Zfk y d l (i+1);constructor;rintro (⟨r,hr⟩|hr)
   . left
     unfold ofH at hr;cases hk:Z2p h y with
     | none=>rw [hk] at hr;simp at hr
     | some d'=>rw [hk] at hr;simp at hr;rw [hr.1]
   right;exact ih.1 hr;rintro (hk|hk)
   left;exact ⟨i,by unfold ofH;rw [hk];simp⟩
   right;exact ih.2 hk
theorem Z7D (y:Int):∀ (l:List Hol) (i:Int),(ofK y l i).length<=l.length
 | [],i=>by simp [ofK]
 | h :: l, i => by
   have:=Z7D y l (i+1);simp only [ofK,Xc,Xe];unfold ofH;cases Z2p h y<;>simp<;>omega
abbrev fnV (f:Nat):Value:=.func (.func f) #[] #[]
abbrev Z5n:List Value:=[fnV 302,fnV 303,fnV 305,fnV 306,fnV 308,fnV 309,fnV 310,fnV 311]
theorem Zba (f g:Nat) (w):(Instr.build 324 #[(0,fnV f),(1,fnV g)]).run Tryz.prog w=.ok (.agg #[fnV f,fnV g]) w:=by kernel_rfl
theorem ZnB (a b c d e f g h:Nat) (w):(Instr.build 325 #[(0,.agg #[fnV a,fnV b]),(1,.agg #[fnV c,fnV d]),(2,.agg #[fnV e,fnV f]),(3,.agg #[fnV g,fnV h])]).run Tryz.prog w=.ok (.agg #[fnV a,fnV b,fnV c,fnV d,fnV e,fnV f,fnV g,fnV h]) w:=by kernel_rfl
theorem Z9S (w):CC 253 #[] w λr w'=>r=.agg Z5n.toArray/\Stp [] w w':=by
 refine cW0 6 Tryz.func253 ?_;refine W ?_;refine Z0 Z2 rfl ?_;rintro _ w1 ⟨b,rfl,hb,ac,hS⟩;refine W ?_;refine Z7 (vs:=[(0,fnV 302),(1,fnV 303)]) rfl (Zba _ _) rfl ?_;refine Z7 (vs:=[(0,fnV 305),(1,fnV 306)]) rfl (Zba _ _) rfl ?_;refine Z7 (vs:=[(0,fnV 308),(1,fnV 309)]) rfl (Zba _ _) rfl ?_;refine Z7 (vs:=[(0,fnV 310),(1,fnV 311)]) rfl (Zba _ _) rfl ?_;refine Z7 (vs:=[(0,.agg #[fnV 302,fnV 303]),(1,.agg #[fnV 305,fnV 306]),(2,.agg #[fnV 308,fnV 309]),(3,.agg #[fnV 310,fnV 311])]) rfl (ZnB _ _ _ _ _ _ _ _) rfl ?_;refine SB (us:=Z5n) (by intro u hu;simp [Z5n] at hu;rcases hu with rfl|rfl|rfl|rfl|rfl|rfl|rfl|rfl<;>rfl) ac ?_;rintro _ w2 ⟨hT,aP⟩;refine W ?_;refine J6 rfl rfl rfl aP rfl ?_;exact .mk ⟨rfl,hS.ow hT⟩
theorem ZnC {m d:Int} (h0:0<=m) (h2:m<=2) (hd:0<=d):Z6A[0+m.toNat * 7+(d % 7).toNat * 1]?=some (Z3Z m d - d):=by
 have hm:m=0\/m=1\/m=2:=by omega
 have hw:d % 7=0\/d % 7=1\/d % 7=2\/d % 7=3\/d % 7=4\/d % 7=5\/d % 7=6:=by omega
 unfold Z3Z;rcases hm with rfl|rfl|rfl<;>rcases hw with h|h|h|h|h|h|h<;>rw [h]<;>simp [Z6A]<;>omega
theorem ZgM (m d:Int):d - 1<=Z3Z m d/\Z3Z m d<=d+2:=by
 unfold Z3Z;repeat' split
 all_goals omega
theorem ZnD (a b:Int) (w):(Instr.build 345 #[(0,.I a),(1,.I b)]).run Tryz.prog w=.ok (agg ((a,b):Spn)) w:=by kernel_rfl
theorem Zko (d:Spn) (w):(Instr.buildSlice 342 1 #[(0,agg d)]).run Tryz.prog w=.ok (.slice (some ⟨w.heap.size,0,none⟩) 1 1) (w.alloc (.cells (Z3.enc d).toArray 345)):=by kernel_rfl
theorem ZnE (v:Value) (l:List Hol) (y:Int) (w) (hs:SlV [] w v l) (hL:Z0x w) (hM:Z3g w) (ho:∀ h∈l,Z24 h) (hl:l.length<20) :
 CC 272 #[v,.I y] w λr w'=>∃ ys,Z9R ZcH (ofK y l 0) ys/\ZI 345 w w' r ys:=by
 refine cW2 61 Tryz.func272 ?_;refine W ?_;refine CL (Z9S _) ?_;rintro _ w1 ⟨rfl,hS⟩;refine Z0 Z2 rfl ?_;rintro _ w2 ⟨b6,rfl,eh,e6,ah⟩;refine W ?_;refine SB (us:=Z5n) (by intro u hu;simp [Z5n] at hu;rcases hu with rfl|rfl|rfl|rfl|rfl|rfl|rfl|rfl<;>rfl) e6 ?_;rintro _ w3 ⟨hT,k6⟩;replace hS:=hS.trans (ah.ow hT);clear e6 ah hT;replace hs:=hs.up hS;replace hL:=hL.up hS;replace hM:=hM.up hS;refine W ?_
 refine Zu (σ:=Nat×Value) (λq=>[(0,v),(1,.I y),(5,q.2),(6,pQ b6),(12,v),(13,.I (l.length:Int)),(14,.I (q.1:Int))])
  (λq w'=>q.1<=l.length/\ZI 345 w3 w' q.2 (ofK y (l.take q.1) 0)) (λq=>l.length - q.1) (0,.N) ⟨rfl,rfl,rfl,rfl,rfl,rfl,rfl,trivial⟩ ⟨Xq _,ZI.nil⟩ ?_
 rintro ⟨k,ov⟩ w4 ⟨hk,hr⟩;dsimp only at hk hr ⊢;have aJ:=hr.2;replace hs:=hs.up aJ;replace hL:=hL.up aJ;replace hM:=hM.up aJ;replace k6:=k6.up aJ;by_cases hlt:k<l.length;have ht:l.take (k+1)=l.take k++[l[k]]:=Xk hlt;have tQ:ofK y (l.take (k+1)) 0=ofK y (l.take k) 0++ofH y l[k] (k:Int):=by
  rw [ht,Zfj];simp only [ofK,XC,Xx,Yag hk];simp
 have aO:=ho l[k] (Xd hlt);refine QO ?_;refine Z0 Z2 rfl ?_;rintro _ w5 ⟨b8,rfl,eO,e8,aD⟩;refine W ?_;refine SA (us:=Z3.enc l[k]) e8 ?_;rintro _ w6 ⟨hT,k8⟩;replace aD:=aD.ow hT;clear e8 hT;replace hr:=hr.up aD;replace hs:=hs.up aD;replace hL:=hL.up aD;replace hM:=hM.up aD;replace k6:=k6.up aD;clear aD;refine W ?_;refine CL (Z2s y l[k].first l[k].last _) ?_;rintro _ w6 ⟨rfl,rfl⟩;have again:∀ (w':World),Z2p l[k] y=none->Stp [] w6 w'->ZI 345 w3 w' ov (ofK y (l.take (k+1)) 0):=by
  intro w' hn dy;rw [tQ];unfold ofH;rw [hn,XC];exact hr.up dy
 by_cases bM:l[k].first<=y/\y<=l[k].last;rw [decide_eq_true bM];have fK:=Ztm bM.1 bM.2;have rj:=aO.f1;have eB:=aO.l1;refine W ?_
 refine Ju (σ:=Unit) (λ_=>[(0,v),(1,.I y),(5,ov),(6,pQ b6),(7,.I (k:Int)),(8,pQ b8),(9,.I (Z1I l[k] y).1),(10,.B (Z1I l[k] y).2),(12,v),(13,.I (l.length:Int)),(14,.I (k:Int))])
  (λ_ w'=>Stp [] w6 w') ?_ ?_
 have ey:l[k].kind=1\/l[k].kind=2\/l[k].kind=3\/l[k].kind=4:=by have:=aO.k1;have:=aO.k2;omega
 rcases ey with ey|ey|ey|ey
 refine ZDr 14 [] [] [(0,0),(1,1),(2,0),(3,0),(4,0),(5,1),(6,1),(7,0),(8,2),(9,0),(10,0),(11,0),(12,0),(13,0)] (λw1 ae=>?_);replace k6:=k6.up ae;replace k8:=k8.up ae;replace hL:=hL.up ae;have hz:l[k].kind - 1=((0:Nat):Int):=by omega
 refine D ?_;refine Z2H rfl (Z4m (len:=4) (i:=0) trivial rfl rfl hz (by decide) rfl ?_);refine D ?_;refine Za rfl trivial (Z4 rfl (Zd rfl rfl) (ZgI _ _ _ hL ey)) (λ_ _ h=>h.2) rfl ?_;rintro _ w7 ⟨rfl,aQ⟩;refine D ?_;exact QT () (ae.trans aQ);refine ZDr 14 [] [] [(0,0),(1,1),(2,0),(3,0),(4,0),(5,1),(6,1),(7,0),(8,2),(9,0),(10,0),(11,0),(12,0),(13,0)] (λw1 ae=>?_);replace k6:=k6.up ae;replace k8:=k8.up ae;replace hL:=hL.up ae;have hz:l[k].kind - 1=((1:Nat):Int):=by omega
 refine D ?_;refine Z2H rfl (Z4m (len:=4) (i:=1) trivial rfl rfl hz (by decide) rfl ?_);refine D ?_;refine Za rfl trivial (Z4 rfl (Zd rfl rfl) (ZgJ _ _ _ hL (by omega) (by omega) ey aO)) (λ_ _ h=>h.2) rfl ?_;rintro _ w7 ⟨rfl,aQ⟩;refine D ?_;exact QT () (ae.trans aQ);refine ZDr 14 [] [] [(0,0),(1,1),(2,0),(3,0),(4,0),(5,1),(6,1),(7,0),(8,2),(9,0),(10,0),(11,0),(12,0),(13,0)] (λw1 ae=>?_);replace k6:=k6.up ae;replace k8:=k8.up ae;replace hL:=hL.up ae;have hz:l[k].kind - 1=((2:Nat):Int):=by omega
 refine D ?_;refine Z2H rfl (Z4m (len:=4) (i:=2) trivial rfl rfl hz (by decide) rfl ?_);refine D ?_;refine Za rfl trivial (Z4 rfl (Zd rfl rfl) (ZgK _ _ _ hL (by omega) (by omega) ey aO)) (λ_ _ h=>h.2) rfl ?_;rintro _ w7 ⟨rfl,aQ⟩;refine D ?_;exact QT () (ae.trans aQ);refine ZDr 14 [] [] [(0,0),(1,1),(2,0),(3,0),(4,0),(5,1),(6,1),(7,0),(8,2),(9,0),(10,0),(11,0),(12,0),(13,0)] (λw1 ae=>?_);replace k6:=k6.up ae;replace k8:=k8.up ae;replace hL:=hL.up ae;have hz:l[k].kind - 1=((3:Nat):Int):=by omega
 refine D ?_;refine Z2H rfl (Z4m (len:=4) (i:=3) trivial rfl rfl hz (by decide) rfl ?_);refine D ?_;refine Za rfl trivial (Z4 rfl (Zd rfl rfl) (ZgL _ _ _ ey aO)) (λ_ _ h=>h.2) rfl ?_;rintro _ w7 ⟨rfl,aQ⟩;refine D ?_;exact QT () (ae.trans aQ)
 . rintro _ w7 aQ
   clear k6;replace k8:=k8.up aQ;replace hM:=hM.up aQ;cases hp:(Z1I l[k] y).2 with
   | false=>
     rw [hp] at fK;refine W ?_;exact QL (k+1,ov) ⟨hlt,again _ (by unfold Z2p;rw [fK];rfl) aQ⟩ (by dsimp only;omega)
   | true=>
     rw [hp] at fK;obtain ⟨n1,n2⟩:=Zeg aO bM.1 bM.2 hp;have rk:=aO.m1;have rm:=aO.m2;have rn:=ZnC rk rm n1;have tR:=ZgM l[k].move (Z1I l[k] y).1;have ej:Z2p l[k] y=if ZK (Z3Z l[k].move (Z1I l[k] y).1)=true then some (Z3Z l[k].move (Z1I l[k] y).1) else none:=by
      unfold Z2p;rw [fK];rfl
     generalize (Z1I l[k] y).1=d at *;refine W ?_;refine ZDr 10 [] [] [(0,0),(1,0),(2,1),(3,0),(5,0),(4,2),(6,0),(7,1),(8,0),(9,0)] (λw1 ae=>?_);replace k8:=k8.up ae;replace hM:=hM.up ae;replace aQ:=aQ.trans ae;clear ae;refine D ?_;refine Z2H rfl (Z4m (len:=3) (i:=l[k].move.toNat) trivial rfl rfl (by omega) (by omega) rfl ?_);refine D ?_;refine Za rfl trivial (Z4 rfl (ZR rfl) (Z48 _ _ n1 (by omega))) (λ_ _ h=>by rw [h.2];exact Stp.refl _ _) rfl ?_;rintro _ w8 ⟨rfl,rfl⟩;refine D ?_;refine Z2H rfl (Z4m (len:=7) (i:=(d % 7).toNat) trivial rfl rfl (by omega) (by omega) rfl ?_);refine D ?_;refine WD_read rfl trivial (λw' aN=>JI rfl rfl (hM.up aN _ _ rn)) rfl ?_;refine D ?_;have ed:d+(Z3Z l[k].move d - d)=Z3Z l[k].move d:=by omega
     rw [ed];refine W ?_;refine CL (Z2s (Z3Z l[k].move d) 0 3652058 _) ?_;rintro _ _ ⟨rfl,rfl⟩;by_cases h2:0<=Z3Z l[k].move d/\Z3Z l[k].move d<=3652058;rw [decide_eq_true h2];rw [if_pos (ZL.2 h2)] at ej;have uO:=Z7D y (l.take k) 0;have ww:(l.take k).length<=l.length:=by rw [Xx];omega
     replace hr:=hr.up aQ;refine W ?_;refine Z7 (vs:=[(0,.I (Z3Z l[k].move d)),(1,.I (k:Int))]) rfl (ZnD _ _) rfl ?_;refine Z0 (Z1 (vs:=[(0,agg ((Z3Z l[k].move d,(k:Int)):Spn))]) rfl (Zko _)) rfl ?_;rintro bv w9 hN;have gu:=Z9.stp hN;have aq:SlV (ob ov) w9 bv [((Z3Z l[k].move d,(k:Int)):Spn)]:=hN.slv (λb hb=>(hr.1.ob_le b hb).2) rfl rfl (by simp [maxLen]);replace hr:=hr.up gu;refine Z0 (JD rfl (by decide) rfl rfl hr aq (by simp only [Xe,Xg];omega) (by simp only [Xe,Xg,maxLen];omega)) rfl ?_;rintro ov' w10 ⟨dg,d9,wx⟩;refine W ?_;refine QL (k+1,ov') ⟨hlt,?_⟩ (by dsimp only;omega);dsimp only;rw [tQ];unfold ofH;rw [ej];exact dg;rw [decide_eq_false h2];rw [if_neg (λh=>h2 (ZL.1 h))] at ej;refine W ?_;exact QL (k+1,ov) ⟨hlt,again _ ej aQ⟩ (by dsimp only;omega)
 rw [decide_eq_false bM];refine W ?_;exact QL (k+1,ov) ⟨hlt,again _ (by unfold Z2p Zni;rw [if_pos (by omega)];rfl) (Stp.refl _ _)⟩ (by dsimp only;omega);have dc:k=l.length:=by omega
 subst dc;rw [Xp] at hr;have ai:=Z7D y l 0;refine QO ?_;refine CM (Zd rfl rfl) (ZcG 319 _ #[] ZcH ZxG [] w3.heap.size ov _ _ (by simp) hr.2.size hr.1 (ZwN _ _) (by omega)) ?_;rintro _ w7 ⟨ys,ec,iO,aQ⟩;refine RT ?_;exact ⟨ys,ec,iO.lower hS.size,(hS.trans hr.2).own aQ (λc hc=>.inr (Xh hS.size (hr.1.ob_le c hc).1))⟩
end Go.Proofs.YtipfkbkkndacjaaGreatDoor
namespace Go.Eng
open Go Go.RowKit Go.Proofs
variable {P:Program} {n:Nat} {Q:Exit->Act->World->Prop} {e:Env} {w:World}
theorem Z5X {i:Nat} {A B:Exit->Act->World->Prop} (h:∀ ex a w,A ex a w->B ex a w):∀ ex a w,Exit.inBlock i A ex a w->Exit.inBlock i B ex a w:=by
 intro ex a w hq;cases ex with
 | exit j=>
   simp only [Exit.inBlock] at hq ⊢;split;rename_i hj;rw [if_pos hj] at hq;exact h _ _ _ hq;rename_i hj;rw [if_neg hj] at hq;exact h _ _ _ hq
 | normal=>exact h _ _ _ hq
 | ret=>exact h _ _ _ hq
 | goto t=>exact h _ _ _ hq
 | panic c=>exact h _ _ _ hq
 | outgrown=>exact h _ _ _ hq
theorem Zkp {x y:Code} {σ:Type} {i j:Nat} (env:σ->Env) (I:σ->World->Prop)
 (h:WC P n x (Exit.inBlock i (Exit.inBlock j (Exit.then (λa w=>∃ s,Has n (env s) a/\I s w) Q))) e w) (k:∀ s w,I s w->WC P n y Q (env s) w):WC P n x (Exit.inBlock i (Exit.inBlock j (Exit.then (λa w=>y.wp P Q a w) Q))) e w:=
 ⟨λa ha => wp_mono (h.h a ha) (Z5X (Z5X (λex a w hq => by
   cases ex with
   | normal=>obtain ⟨s,h1,h2⟩:=hq;exact (k s w h2).h a h1
   | _=>exact hq)))⟩
end Go.Eng
namespace Go.Proofs.YtipfkbkkndacjaaGreatDoor
open Go Go.Eng Go.RowKit
def inR (a b:Int) (zs:List Int):List Int:=zs.filter λd=>decide (a<=d/\d<=b)
theorem ZnF (a b:Int) (x y:List Int):inR a b (x++y)=inR a b x++inR a b y:=by unfold inR;rw [YaT]
theorem Zkq {y:Int} {l:List Hol} {ys:List Spn} (h:Z9R ZcH (ofK y l 0) ys) (d:Int):d∈ys.map Prod.fst↔∃ h∈l,Z2p h y=some d:=by
 rw [<- Zfk y d l 0,XG];constructor;rintro ⟨⟨a,r⟩,h1,rfl⟩;exact ⟨r,h.1.mem_iff.1 h1⟩;rintro ⟨r,hr⟩;exact ⟨(d,r),h.1.mem_iff.2 hr,rfl⟩
theorem Zkr {y:Int} {l:List Hol} {ys:List Spn} (h:Z9R ZcH (ofK y l 0) ys):ys.length<=l.length:=by
 rw [h.1.length_eq];exact Z7D y l 0
theorem ZcI (v:Value) (l:List Hol) (a b:Int) (w) (hs:SlV [] w v l) (hL:Z0x w) (hM:Z3g w) (ho:∀ h∈l,Z24 h) (hl:l.length<20) (ha:0<=a) (cU:a<=b) (hb:b<=3652058) (yq:(ofM a).y<=(ofM b).y) :
 CC 214 #[v,.I a,.I b] w λr w'=>∃ zs:List Int,(∀ d,d∈zs↔a<=d/\d<=b/\∃ y,(ofM a).y - 1<=y/\y<=(ofM b).y+1/\∃ h∈l,Z2p h y=some d)/\ZI 3 w w' r (Z3s zs):=by
 obtain ⟨ya1,ya2,-⟩:=ZaF ha (by omega);obtain ⟨yb1,yb2,-⟩:=ZaF (n:=b) (by omega) hb;have kl:max a 0=a:=by omega
 have wB:min b 3652058=b:=by omega
 refine cW3 65 Tryz.func214 ?_;refine W ?_;rw [kl,wB];refine QO ?_;refine CM (ZR rfl) (ZaL a _ ha (by omega)) ?_;rintro _ w1 ⟨rfl,hS⟩;refine W ?_;refine Z0 Z2 rfl ?_;rintro _ w2 ⟨b7,rfl,fk,e7,ah⟩;refine W ?_;refine SB (us:=[.I (ofM a).y,.I (ofM a).m,.I (ofM a).d]) (by intro u hu;simp at hu;rcases hu with rfl|rfl|rfl<;>rfl) e7 ?_;rintro _ w3 ⟨hT,k7⟩;replace hS:=hS.trans (ah.ow hT);clear e7 ah hT;refine W ?_;refine CM (ZR rfl) (ZaL b _ (by omega) hb) ?_;rintro _ w4 ⟨rfl,aJ⟩;replace k7:=k7.up aJ;replace hS:=hS.trans aJ;refine W ?_;refine Z0 Z2 rfl ?_;rintro _ w5 ⟨b9,rfl,iI,e9,aD⟩;have n79:b7≠b9:=by have:=k7.lt;omega
 refine W ?_;refine SB (us:=[.I (ofM b).y,.I (ofM b).m,.I (ofM b).d]) (by intro u hu;simp at hu;rcases hu with rfl|rfl|rfl<;>rfl) e9 ?_;rintro _ w6 ⟨hT,k9⟩;replace aD:=aD.ow hT;replace k7:=k7.up aD;replace hS:=hS.trans aD;clear e9 hT aJ aD;replace hs:=hs.up hS;replace hL:=hL.up hS;replace hM:=hM.up hS;refine W ?_
 refine Zu (σ:=Nat×Value×List Int) (λq=>[(0,v),(1,.I a),(2,.I b),(7,pQ b7),(9,pQ b9),(11,q.2.1),(12,.I ((ofM a).y - 1+(q.1:Int)))])
  (λq w'=>(ofM a).y - 1+(q.1:Int)<=(ofM b).y+2/\q.2.2.length<=q.1 * 20/\(∀ d,d∈q.2.2↔a<=d/\d<=b/\∃ y,(ofM a).y - 1<=y/\y<(ofM a).y - 1+(q.1:Int)/\∃ h∈l,Z2p h y=some d)/\ZI 3 w6 w' q.2.1 q.2.2)
  (λq=>20000 - q.1) (0,.N,[]) ⟨rfl,rfl,rfl,rfl,rfl,rfl,(by simp [JZ]),trivial⟩ ⟨by dsimp only;omega,Xq _,λd=>by simp;intros;omega,ZI.nil⟩ ?_
 rintro ⟨k,ov,zs⟩ w7 ⟨hk,tK,hz,hr⟩;dsimp only at hk tK hz hr ⊢;have aQ:=hr.2;replace k7:=k7.up aQ;replace k9:=k9.up aQ;replace hs:=hs.up aQ;replace hL:=hL.up aQ;replace hM:=hM.up aQ;by_cases hlt:(ofM a).y - 1+(k:Int)<=(ofM b).y+1;refine QO ?_;refine CL (ZnE v l _ _ hs hL hM ho hl) ?_;rintro rv w8 ⟨ys,ec,ku⟩;have fC:=Zkr ec;have lc:=Zkq ec;have cK:=ku.2;have cF:=ku.slv (X:=ob ov) (λb hb=>(hr.1.ob_le b hb).2);have rp:=ku.slv (X:=[]) (by simp);replace hr:=hr.up cK;replace k9:=k9.up cK;replace hs:=hs.up cK;replace hL:=hL.up cK;replace hM:=hM.up cK;refine W ?_
 refine Zkp (σ:=Value×List Int) (λq=>[(0,v),(1,.I a),(2,.I b),(7,pQ b7),(9,pQ b9),(11,q.1),(12,.I ((ofM a).y - 1+(k:Int)))])
  (λq w'=>q.2=zs++inR a b (ys.map Prod.fst)/\ZI 3 w6 w' q.1 q.2) ?_ ?_
 refine Zu (σ:=Nat×Value) (λq=>[(0,v),(1,.I a),(2,.I b),(7,pQ b7),(9,pQ b9),(11,q.2),(12,.I ((ofM a).y - 1+(k:Int))),(44,rv),(45,.I (ys.length:Int)),(46,.I (q.1:Int))])
  (λq w'=>q.1<=ys.length/\ZI 3 w6 w' q.2 (zs++inR a b ((ys.take q.1).map Prod.fst))/\SlV (ob q.2) w' rv ys) (λq=>ys.length - q.1) (0,ov) ⟨rfl,rfl,rfl,rfl,rfl,rfl,rfl,rfl,rfl,rfl,trivial⟩ ⟨Xq _,by simpa [inR] using hr,cF⟩ ?_
 clear hr cF rp hs hL hM k7 k9;rintro ⟨j,ov'⟩ w9 ⟨hj,hr,cF⟩;dsimp only at hj hr cF ⊢;by_cases fD:j<ys.length;have fI:inR a b ((ys.take (j+1)).map Prod.fst)=inR a b ((ys.take j).map Prod.fst)++inR a b [ys[j].1]:=by
  rw [Xk fD,XP,ZnF];rfl
 refine QO ?_;refine Z0 Z2 rfl ?_;rintro _ w10 ⟨b14,rfl,wC,e14,d9⟩;refine W ?_;refine SA (us:=Z3.enc ys[j]) e14 ?_;rintro _ w11 ⟨hT,k14⟩;replace d9:=d9.ow hT;clear e14 hT;replace hr:=hr.up d9;replace cF:=cF.up d9;refine W ?_;refine CL (Z2s ys[j].1 a b _) ?_;rintro _ _ ⟨rfl,rfl⟩;by_cases bM:a<=ys[j].1/\ys[j].1<=b;rw [decide_eq_true bM];have ai:(zs++inR a b ((ys.take j).map Prod.fst)).length<=300000:=by
  have h1:(inR a b ((ys.take j).map Prod.fst)).length<=((ys.take j).map Prod.fst).length:=X1 _ _;rw [Xc];simp only [Xt,Xx] at h1;omega
 have e1:inR a b [ys[j].1]=[ys[j].1]:=by unfold inR;simp [bM]
 rw [e1] at fI;refine W ?_;refine Z0 (Z1 (vs:=[(0,.I ys[j].1)]) rfl (Zt _)) rfl ?_;rintro bv w12 hN;have jk:=Z9.stp hN;have aq:SlV (ob ov') w12 bv [ys[j].1]:=hN.slv (λb hb=>(hr.1.ob_le b hb).2) rfl rfl (by simp [maxLen]);replace hr:=hr.up jk;replace cF:=cF.up jk;refine Z0 (JD rfl (by decide) rfl rfl hr aq (by simp only [Xe,Xg];omega) (by simp only [Xe,Xg,maxLen];omega)) rfl ?_;rintro ov2 w13 ⟨dg,cR,rq⟩;refine W ?_;refine QL (j+1,ov2) ⟨fD,?_,cF.ext cR (λ_ h=>h) rq⟩ (by dsimp only;omega);dsimp only;rw [fI,<- Xy];exact dg;rw [decide_eq_false bM];have e1:inR a b [ys[j].1]=[]:=by unfold inR;simp only [YbF,decide_eq_false bM,List.filter_nil];rfl
 rw [e1,XC] at fI;refine W ?_;refine QL (j+1,ov') ⟨fD,?_,cF⟩ (by dsimp only;omega);dsimp only;rw [fI];exact hr;have rt:j=ys.length:=by omega
 subst rt;rw [Xp] at hr;refine QO ?_;exact Zy (ov',zs++inR a b (ys.map Prod.fst)) ⟨rfl,rfl,rfl,rfl,rfl,rfl,rfl,trivial⟩ ⟨rfl,hr⟩;rintro ⟨ov',zs'⟩ w9 ⟨tS,hr⟩;dsimp only at tS hr ⊢;subst tS;have e1:(ofM a).y - 1+(k:Int)+1=(ofM a).y - 1+((k+1:Nat):Int):=by omega
 refine W ?_;rw [e1];refine Zx (k+1,ov',zs++inR a b (ys.map Prod.fst)) ⟨rfl,rfl,rfl,rfl,rfl,rfl,rfl,trivial⟩ ⟨by dsimp only;omega,?_,λd=>?_,hr⟩ (by dsimp only;omega);have h1:(inR a b (ys.map Prod.fst)).length<=(ys.map Prod.fst).length:=X1 _ _;dsimp only;rw [Xc];simp only [Xt] at h1;omega;dsimp only;rw [Xf,hz,inR,YbJ,lc];constructor;rintro (⟨p1,p2,y,p3,p4,p5⟩|⟨p5,p6⟩);exact ⟨p1,p2,y,p3,by omega,p5⟩;have p6:=of_decide_eq_true p6;exact ⟨p6.1,p6.2,_,by omega,by omega,p5⟩;rintro ⟨p1,p2,y,p3,p4,p5⟩;by_cases hy:y<(ofM a).y - 1+(k:Int)
 exact .inl ⟨p1,p2,y,p3,hy,p5⟩;obtain rfl:y=(ofM a).y - 1+(k:Int):=by omega
 exact .inr ⟨p5,decide_eq_true ⟨p1,p2⟩⟩;refine QO ?_;refine CM (ZR rfl) (Zcf _ hr.1 (by omega)) ?_;rintro _ w8 ⟨rfl,aR,cK⟩;refine W ?_;refine CM (ZR rfl) (Z75 _ aR (by rw [Ybi];omega)) ?_;rintro rv w9 ⟨cV,gu,br⟩;refine W ?_;refine WR ?_;refine .mk ⟨zs,λd=>?_,cV.lower hS.size,((hS.trans hr.2).own cK (λc hc=>.inr (Xh hS.size (hr.1.ob_le c hc).1))).own gu (λc hc=>.inr (Xh hS.size (hr.1.ob_le c hc).1))⟩;rw [hz];constructor;rintro ⟨p1,p2,y,p3,p4,p5⟩;exact ⟨p1,p2,y,p3,by omega,p5⟩;rintro ⟨p1,p2,y,p3,p4,p5⟩;exact ⟨p1,p2,y,p3,by omega,p5⟩
theorem Zei {l:List Hol} {d:Int} (h0:0<=d) (h1:d<=3652058) {zs:List Int} (hz:∀ x,x∈zs↔d<=x/\x<=d/\∃ y,(ofM d).y - 1<=y/\y<=(ofM d).y+1/\∃ h∈l,Z2p h y=some x) :
 decide (((Z3s zs).length:Int) > 0)=Z8p l d:=by
 have hm:=(Z3f zs).2;have bM:ZK d=true:=ZL.2 ⟨h0,h1⟩;rw [X7];unfold Z8p;rw [bM,Bool.true_and,decide_eq_true_eq,YaO];constructor;intro hl;obtain ⟨x,hx⟩:=List.exists_mem_of_length_pos (l:=Z3s zs) (by omega);obtain ⟨p1,p2,y,p3,p4,h,hh,hk⟩:=(hz x).1 ((hm x).1 hx);obtain rfl:x=d:=by omega
 refine ⟨y,?_,YaO.2 ⟨h,hh,decide_eq_true hk⟩⟩;have:y=(ofM x).y - 1\/y=(ofM x).y\/y=(ofM x).y+1:=by omega
 rcases this with rfl|rfl|rfl<;>simp
 rintro ⟨y,hy,hh⟩;obtain ⟨h,hh,hk⟩:=YaO.1 hh;have eB:(ofM d).y - 1<=y/\y<=(ofM d).y+1:=by simp at hy;omega
 have:d∈Z3s zs:=(hm d).2 ((hz d).2 ⟨XQ _,XQ _,y,eB.1,eB.2,h,hh,of_decide_eq_true hk⟩);have:=List.length_pos_of_mem this;omega
theorem Ztn (v:Value) (l:List Hol) (d:Int) (w) (hs:SlV [] w v l) (hL:Z0x w) (hM:Z3g w) (ho:∀ h∈l,Z24 h) (hl:l.length<20) :
 CC 156 #[v,.I d] w λr w'=>r=.B (Z8p l d)/\Stp [] w w':=by
 refine cW2 15 Tryz.func156 ?_;refine W ?_;refine CL (Z2s d 0 3652058 _) ?_;rintro _ _ ⟨rfl,rfl⟩;by_cases hd:0<=d/\d<=3652058;rw [decide_eq_true hd];refine W ?_;refine CL (ZcI v l d d _ hs hL hM ho hl hd.1 (XQ _) hd.2 (XQ _)) ?_;rintro rv w1 ⟨zs,hz,hr⟩;have iG:=hr.slv (X:=[]) (by simp);refine RT ?_;exact ⟨by rw [Zei hd.1 hd.2 hz],hr.2⟩;rw [decide_eq_false hd];refine W ?_;refine WR ?_;refine .mk ⟨?_,Stp.refl _ _⟩;have:ZK d=false:=by unfold ZK;exact decide_eq_false hd
 unfold Z8p;rw [this];rfl
structure Z5Y (w:World) (c:Cal) (hv cv zo zs hr:Value):Prop where
 hols:SlV [] w hv c.hols
 clos:SlV [] w cv c.clos
 len:Z0x w
 mov:Z3g w
 ok:ZjQ c
abbrev Z5Z (c:Cal) (hv cv zo zs hr:Value):Value:=.agg (Z06 c hv cv zo zs hr).toArray
theorem Z5Y.up {w w':World} {c:Cal} {hv cv zo zs hr:Value} (h:Z5Y w c hv cv zo zs hr) (hS:Stp [] w w'):Z5Y w' c hv cv zo zs hr:=⟨h.hols.up hS,h.clos.up hS,h.len.up hS,h.mov.up hS,h.ok⟩
theorem ZnG (c:Cal) (hv cv zo zs hr:Value) {i:Nat} (hi:i<7):(Z06 c hv cv zo zs hr)[0+i * 1]?=some (.B (c.week.getD i false)):=by
 have:i=0\/i=1\/i=2\/i=3\/i=4\/i=5\/i=6:=by omega
 rcases this with rfl|rfl|rfl|rfl|rfl|rfl|rfl<;>rfl
theorem Z2t (d:Int) (w):CC 87 #[.I d] w λr w'=>r=.B (ZK d)/\w'=w:=by
 refine cW1 9 Tryz.func87 ?_;unfold ZK;by_cases h1:d>=0;by_cases h2:d<=3652058;rw [decide_eq_true ⟨h1,h2⟩];refine RT ?_;exact ⟨by simp [h2],rfl⟩;rw [decide_eq_false (λh=>h2 h.2)];refine RT ?_;exact ⟨by simp [h2],rfl⟩;rw [decide_eq_false (λh=>h1 h.1)];refine RT ?_;exact ⟨rfl,rfl⟩
theorem Z9T (d kn:Int) (bc bk:Nat) (c:Cal) (hv cv zo zs hr:Value) (w) (h:Z5Y w c hv cv zo zs hr) (kc:Blk w bc 35 (Z06 c hv cv zo zs hr)) (kk:Blk w bk 3 [.I kn]) (h0:0<=d) (h1:d<=3652058) :
 CC 154 #[.I d,pQ bc,pQ bk] w λr w'=>r=.B (Z9K c kn d)/\Stp [] w w':=by
 have ru:(d % 7).toNat<7:=by omega
 have pj:=ZnG c hv cv zo zs hr ru;have bU:=h.clos.max;have qP:=h.clos;refine cW3 40 Tryz.func154 ?_;refine W ?_;refine CM (ZR rfl) (Z48 d _ h0 (by omega)) ?_;rintro _ w ⟨rfl,rfl⟩;refine W ?_;refine Z31 (len:=7) (i:=(d % 7).toNat) rfl rfl (by omega) ru rfl ?_;refine Zbz rfl rfl kc pj rfl ?_;unfold Z9K;cases hw:c.week.getD (d % 7).toNat false with
 | true=>
   refine RT ?_;exact ⟨by simp,Stp.refl _ _⟩
 | false=>
   rw [Ybz];refine W ?_;refine Z0j (σ:=Unit) (λ_=>[(0,.I d),(1,pQ bc)]) (λ_ w'=>Z8q c.clos kn d=false/\Stp [] w w') ?_ ?_
   refine Zu (σ:=Nat) (λk=>[(0,.I d),(1,pQ bc),(2,pQ bk),(13,cv),(14,.I (c.clos.length:Int)),(15,.I (k:Int))])
    (λk w'=>k<=c.clos.length/\Z8q (c.clos.take k) kn d=false/\Stp [] w w') (λk=>c.clos.length - k) 0 ⟨rfl,rfl,rfl,rfl,rfl,rfl,trivial⟩ ⟨Xq _,rfl,Stp.refl _ _⟩ ?_
   rintro k w1 ⟨hk,hn,hS⟩;have kk:=kk.up hS;have bZ:=h.clos.up hS;by_cases hlt:k<c.clos.length;have ht:Z8q (c.clos.take (k+1)) kn d=(Z8q (c.clos.take k) kn d || decide (c.clos[k].known<=kn/\c.clos[k].lo<=d/\d<=c.clos[k].hi)):=by
    unfold Z8q;rw [Xk hlt,List.any_append];simp
   rw [hn,Ybz] at ht;refine QO ?_;refine Z0 Z2 rfl ?_;rintro _ w2 ⟨b6,rfl,eh,e6,ah⟩;refine W ?_;refine SA (us:=Z3.enc c.clos[k]) e6 ?_;rintro _ w3 ⟨hT,k6⟩;replace ah:=ah.ow hT;clear e6 hT;replace kk:=kk.up ah;replace bZ:=bZ.up ah;replace hS:=hS.trans ah;by_cases hx:c.clos[k].known<=kn/\c.clos[k].lo<=d/\d<=c.clos[k].hi;refine QO ?_;refine WR ?_;refine .mk ⟨?_,hS⟩;have:Z8q c.clos kn d=true:=by
    unfold Z8q;exact YaO.2 ⟨c.clos[k],Xd hlt,decide_eq_true hx⟩
   rw [this];rfl
   . rw [decide_eq_false hx] at ht
     repeat'(first|refine W1 ?_|omega|refine VG ?_ ?_<;>intro hg|refine VC ?_ ?_<;>intro hc)
     all_goals exact QL (k+1) ⟨hlt,ht,hS⟩ (by omega)
   obtain rfl:k=c.clos.length:=by omega
   rw [Xp] at hn;refine QO ?_;exact QT () ⟨hn,hS⟩;rintro _ w1 ⟨hn,hS⟩;have kc:=kc.up hS;have h:=h.up hS;rw [hn,Ybz];refine W ?_;refine CM (Zd rfl rfl) (Ztn hv c.hols d _ h.hols h.len h.mov h.ok.hols (by have:=h.ok.few;omega)) ?_;rintro _ w2 ⟨rfl,ah⟩;refine RT ?_;exact ⟨rfl,hS.trans ah⟩
def ZwO (w:World) (f:Value) (c:Cal) (hv cv zo zs hr:Value) (kn:Int):Prop:=∃ b2 b3,f=.func (.func 154) #[] #[pQ b2,pQ b3]/\Blk w b2 35 (Z06 c hv cv zo zs hr)/\Blk w b3 3 [.I kn]
theorem ZcJ (kn:Int) (c:Cal) (hv cv zo zs hr:Value) (w):CC 88 #[Z5Z c hv cv zo zs hr,.I kn] w λr w'=>ZwO w' r c hv cv zo zs hr kn/\Stp [] w w':=by
 refine cW2 6 Tryz.func88 ?_;refine W ?_;refine Z0 (Zr rfl) rfl ?_;rintro _ w1 ⟨b2,rfl,cu,ac,hS⟩;replace ac:Blk w1 b2 35 (Z06 c hv cv zo zs hr):=ac;refine Z0 (Zr rfl) rfl ?_;rintro _ w2 ⟨b3,rfl,dG,aL,ah⟩;replace aL:Blk w2 b3 3 [.I kn]:=aL;replace ac:=ac.up ah;refine RT ?_;exact ⟨⟨b2,b3,rfl,ac,aL⟩,hS.trans ah⟩
theorem Zks (d kn:Int) (c:Cal) (hv cv zo zs hr:Value) (w) (h:Z5Y w c hv cv zo zs hr) :
 CC 57 #[Z5Z c hv cv zo zs hr,.I d,.I kn] w λr w'=>r=.B (Zs c kn d)/\Stp [] w w':=by
 refine cW3 17 Tryz.func57 ?_;refine W ?_;refine Z0 (Zr rfl) rfl ?_;rintro _ w1 ⟨b3,rfl,dG,ac,hS⟩;replace ac:Blk w1 b3 35 (Z06 c hv cv zo zs hr):=ac;replace h:=h.up hS;refine W ?_;refine CL (Z2t d _) ?_;rintro _ _ ⟨rfl,rfl⟩;unfold Zs;cases hd:ZK d with
 | false=>
   refine RT ?_;exact ⟨rfl,hS⟩
 | true=>
   obtain ⟨h0,h1⟩:=ZL.1 hd;refine W ?_;refine CL (ZcJ kn c hv cv zo zs hr _) ?_;rintro _ w2 ⟨⟨b4,b5,rfl,k4,k5⟩,ah⟩;replace h:=h.up ah;refine W ?_;refine Z0 (Z00 (f:=154) rfl (ZR rfl) rfl (Z9T d kn b4 b5 c hv cv zo zs hr _ h k4 k5 h0 h1)) rfl ?_;rintro _ w3 ⟨rfl,ak⟩;refine RT ?_;exact ⟨by simp,(hS.trans ah).trans ak⟩
open Go Go.Eng Go.RowKit Go.Proofs Go.Shelf
attribute [local go_sem] Oper.semAt_some
theorem Zkt (n:Nat) (hn:2<=n) (l bd bs:Nat) (d0 st:Int) (aA:st=1\/st=-1) (pl:0<=d0) (il:d0<=3652058) (J:Nat->World->Prop) (Jx:World->Prop)
 (wD:∀ k W,J k W->W.cell? ⟨bd,0,none⟩=some (.I (d0+st * k))/\W.cell? ⟨bs,0,none⟩=some (.I st))
 (hY : ∀ (k : Nat) W, J k W -> k <= 1000 -> ZK (d0 + st * k) = true -> YieldAt Fence.wide (n - 1) Tryz.prog l #[.I (d0 + st * k)] W λe W'=>
   (e=.returned (.B true)/\W'.cell? ⟨bd,0,none⟩=some (.I (d0+st * k))/\W'.frozen? ⟨bd,0,none⟩=false/\W'.cell? ⟨bs,0,none⟩=some (.I st)/\J (k+1) (W'.setCell ⟨bd,0,none⟩ (.I (d0+st * k+st))))\/(e=.returned (.B false)/\Jx W'))
 (W:World) (h0:J 0 W) :
 CallsIn Fence.wide n Tryz.prog 212 #[.func (.yield l) #[] #[],pQ bd,pQ bs] W λe W'=>(∃ v,e=.returned v)/\
  ((∃ k:Nat,(1000<k\/ZK (d0+st * k)=false)/\J k W')\/Jx W'):=by
 refine callsIn_of_wp Tryz.func212 rfl trivial ?_ rfl;simp only [Tryz.ntmps212,Yaw,Xe,Xg,Nat.reduceAdd,Nat.reduceSub,Array.replicate_succ,Array.replicate_zero,List.push_toArray,List.append_toArray,XJ,XV]
 gi_wp2
 gi_loopw [4] (λi wr=>∃ k:Nat,k<=1001/\i=.I (k:Int)/\J k wr) (λi _=>1002 - (intOf i).toNat)
 case atStart=>exact ⟨0,Xq _,rfl,h0⟩
 case round=>
  obtain ⟨k,hk,rfl,pm⟩:=hrel;obtain ⟨c1,c2⟩:=wD k _ pm;have jB:-1001<=st * (k:Int)/\st * (k:Int)<=1001:=by rcases aA with rfl|rfl<;>omega
  by_cases hlt:k<=1000
  . have cT:(k:Int)<=1000:=by omega
    gi_wp2
    refine ⟨trivial,(λh=>by cases h),?_⟩;refine (callsIn_wide.2 (Z2t _ _)).mono ?_;rintro e w' ⟨v,rfl,rfl,rfl⟩;cases bM:ZK (d0+st * k) with
    | false=>
      gi_wp2
      go_end0
      exact ⟨⟨_,rfl⟩,.inl ⟨k,.inr bM,pm⟩⟩
    | true=>
      obtain ⟨fn,tmps,assign,body,hy,hR⟩:=hY k _ pm hlt bM
      gi_wp2
      refine ⟨(λh=>by cases h),hR.mono ?_⟩;rintro e W3 (⟨rfl,a1,a2,a3,a4⟩|⟨rfl,hx⟩);have wG:=ZL.1 bM
      gi_wp2
      exact ⟨⟨k+1,by omega,rfl,a4⟩,by simp [intOf];omega⟩
      gi_wp2
      refine bodyPost_ret (results_none rfl _ _ _) rfl ?_;exact ⟨⟨_,rfl⟩,.inr hx⟩
  have iV:¬ (k:Int)<=1000:=by omega
  gi_wp2
  refine ⟨trivial,?_⟩
  gi_wp2
  go_end0
  exact ⟨⟨_,rfl⟩,.inl ⟨k,.inl (by omega),pm⟩⟩
theorem Zej {g:Operand} {ps:Array Tmp} {assign body:Code} {Q:Exit->Act->World->Prop} {a:Act} {w:World} {n:Nat} (hn:3<=n) (bP:ps.size=1) {bd bs:Nat} {d0 st:Int}
 (hg:a.eval g=.func (.func 212) #[] #[pQ bd,pQ bs]) (aA:st=1\/st=-1) (pl:0<=d0) (il:d0<=3652058) (kj:bd<w.heap.size)
 (I I':Nat->World->Prop) (Ix:World->Prop)
 (hI:∀ k W W',I k W->Below w.heap.size W W'->I k W') (hI':∀ k W W',I' k W->Below w.heap.size W W'->I' k W') (hIx:∀ W W',Ix W->Below w.heap.size W W'->Ix W')
 (hc:∀ (k:Nat) W,I k W->W.cell? ⟨bd,0,none⟩=some (.I (d0+st * k))/\W.cell? ⟨bs,0,none⟩=some (.I st))
 (hc':∀ (k:Nat) W,I' k W->W.cell? ⟨bd,0,none⟩=some (.I (d0+st * k))/\W.frozen? ⟨bd,0,none⟩=false/\W.cell? ⟨bs,0,none⟩=some (.I st))
 (hstep:∀ (k:Nat) W,I' k W->I (k+1) (W.setCell ⟨bd,0,none⟩ (.I (d0+st * k+st)))) (h0:I 0 w) (a₁:Int->Act)
 (hassign : ∀ (l : Nat) (X : Int) (W : World) (K : Act -> World -> Prop), K (a₁ X) W->
   assign.wpIn (Fence.wide.inRound l) (n - 1 - 1) Tryz.prog (Exit.then K (λ_ _ _=>False)) { tmps:=(ps.zip #[Value.int .i64 X]).foldl (λt (p,v)=>t.setIfInBounds p v) a.tmps,defers:=[] } W)
 (hbody : ∀ (l : Nat) (k : Nat) (W : World), I k W -> k <= 1000 -> ZK (d0 + st * k) = true -> body.wpIn (Fence.wide.inRound l) (n - 1 - 1) Tryz.prog
   (λe _ W'=>(∀ b,w.heap.size<=b->b<W.heap.size->W'.heap[b]?=W.heap[b]?)/\match e with|.normal=>I' k W'|.ret=>Ix W'|_=>False) (a₁ (d0+st * k)) W)
 (hdone:∀ (D k:Nat) (W:World),w.heap.size<=D->(1000<k\/ZK (d0+st * k)=false)->I k W->W.heap[D]?=some (.deferred (some []))->Q .normal { a with defers:={ target:=.collected D,args:=#[] } :: a.defers } W)
 (hstop:∀ (D:Nat) (W:World),w.heap.size<=D->Ix W->W.heap[D]?=some (.deferred (some []))->Q .ret { a with defers:={ target:=.collected D,args:=#[] } :: a.defers } W) :
 (Code.rangeFunc g ps assign body).wpIn Fence.wide n Tryz.prog Q a w:=by
 refine wpIn_rangeFunc ?_;intro fn qr;obtain ⟨rec,bz⟩:∃ rec:LoopState->Option Code->Loop,rec=λst pe=>{ state:=st,pending:=pe,fn,tmps:=a.tmps,params:=ps,assign,body,defers:=w.heap.size }:=⟨_,rfl⟩
 obtain ⟨W1,fY⟩:∃ W1,(w.alloc (.deferred (some []))).alloc (.loop (rec .ready none))=W1:=⟨_,rfl⟩
 have lj:W1.heap[w.heap.size+1]?=some (.loop (rec .ready none)):=by
  rw [<- fY];have:=World.alloc_heap_new (w.alloc (.deferred (some []))) (.loop (rec .ready none));rwa [World.size_alloc] at this
 have qX:W1.heap[w.heap.size]?=some (.deferred (some [])):=by
  rw [<- fY];exact (Below.heap_alloc _ _ _ (by simp)).trans (World.alloc_heap_new w _)
 have aY:Below w.heap.size w W1:=by
  rw [<- fY];exact ((Below.refl _ w).alloc (Xn _) _).alloc (by simp) _
 have bput:∀ (W:World) (l:Nat) (o:Obj),w.heap.size<=l->Below w.heap.size W (W.putObj l o):=λW l o hl=>
  ⟨rfl,rfl,rfl,by simp,λk hk=>World.putObj_heap_other (by omega)⟩
 refine ⟨w.heap.size+1,[{ target:=.collected w.heap.size,args:=#[] }],W1,{ target:=.fn (.func 212) #[pQ bd,pQ bs],args:=#[.func (.yield (w.heap.size+1)) #[] #[]] },W1,212,
  #[.func (.yield (w.heap.size+1)) #[] #[]]++#[pQ bd,pQ bs],W1,?_,?_,?_,?_,λh=>(by cases h),?_⟩
 rw [<- fY,bz];exact run_enterLoop_outer _ _ _ _ _;simp only [resolve,hg];simp [go_sem];intro f' tz;trivial;have eg:=enters_of Tryz.func212 (by kernel_rfl) rfl;simp [invoke,go_sem,eg]
 refine (Zkt (n - 1) (by omega) (w.heap.size+1) bd bs d0 st aA pl il
  (λk W=>I k W/\W.heap[w.heap.size+1]?=some (.loop (rec .ready none))/\W.heap[w.heap.size]?=some (.deferred (some [])))
  (λW=>Ix W/\W.heap[w.heap.size+1]?=some (.loop (rec .done (some .ret)))/\W.heap[w.heap.size]?=some (.deferred (some [])))
  (λk W h=>hc k W h.1) ?_ W1 ⟨hI _ _ _ h0 aY,lj,qX⟩).mono ?_
 . rintro k W ⟨hi,hl,hk⟩ iz bM
   have hlt:w.heap.size+1<W.heap.size:=(Xl.1 hl).1;have hy:=run_yield (P:=Tryz.prog) (args:=#[Value.int .i64 (d0+st * k)]) hl (by rw [bz];simp [bP]);rw [bz] at hy;refine ⟨fn,_,assign,body,hy,roundIn_of_wpIn qr (hassign _ _ W _ ⟨_,run_beginRound hl (by rw [bz]),?_⟩)⟩;have dV:(W.putObj (w.heap.size+1) (.loop { rec .ready none with state:=.busy })).heap[w.heap.size+1]?=some (.loop { rec .ready none with state:=.busy }):=World.putObj_heap_same hlt;have dc:(W.putObj (w.heap.size+1) (.loop { rec .ready none with state:=.busy })).heap[w.heap.size]?=some (.deferred (some [])):=(World.putObj_heap_other (by omega)).trans hk;refine wpIn_mono (hbody _ k _ (hI _ _ _ hi (bput _ _ _ (by omega))) iz bM) ?_
   have fin:∀ (jump:Option Code) (W3:World),(∀ b,w.heap.size<=b->b<(W.putObj (w.heap.size+1) (.loop { rec .ready none with state:=.busy })).heap.size->W3.heap[b]?=(W.putObj (w.heap.size+1) (.loop { rec .ready none with state:=.busy })).heap[b]?)->
    (Instr.endRound (w.heap.size+1) jump).run Tryz.prog W3=.ok (.B jump.isNone) (W3.putObj (w.heap.size+1) (.loop (rec (if jump.isNone then .ready else .done) jump)))/\
    (W3.putObj (w.heap.size+1) (.loop (rec (if jump.isNone then .ready else .done) jump))).heap[w.heap.size+1]?=some (.loop (rec (if jump.isNone then .ready else .done) jump))/\
    (W3.putObj (w.heap.size+1) (.loop (rec (if jump.isNone then .ready else .done) jump))).heap[w.heap.size]?=some (.deferred (some [])):=λjump W3 j5=>by
    have iw:=(j5 (w.heap.size+1) (by omega) (by simp;omega)).trans dV;have nN:=(j5 w.heap.size (by omega) (by simp;omega)).trans dc;have:=run_endRound (P:=Tryz.prog) jump iw;rw [bz] at this ⊢;exact ⟨this,World.putObj_heap_same (Xl.1 iw).1,(World.putObj_heap_other (by omega)).trans nN⟩
   rintro e a3 W3 ⟨j5,hp⟩;cases e with
   | normal=>
     obtain ⟨hr,ry,nN⟩:=fin none W3 j5;have tU:=hI' _ _ _ hp (bput W3 (w.heap.size+1) (.loop (rec .ready none)) (by omega));obtain ⟨p1,p2,p3⟩:=hc' _ _ tU;refine ⟨_,_,hr,.inl ⟨rfl,p1,p2,p3,hstep _ _ tU,?_,?_⟩⟩;exact (Below.heap_setCell _ ⟨bd,0,none⟩ _ _ (by show w.heap.size+1≠bd;omega)).trans ry;exact (Below.heap_setCell _ ⟨bd,0,none⟩ _ _ (by show w.heap.size≠bd;omega)).trans nN
   | ret=>
     obtain ⟨hr,ry,nN⟩:=fin (some .ret) W3 j5;exact ⟨_,_,hr,.inr ⟨rfl,hIx _ _ hp (bput W3 (w.heap.size+1) _ (by omega)),ry,nN⟩⟩
   | exit id=>exact hp.elim
   | goto t=>exact hp.elim
   | panic ch=>exact hp.elim
   | outgrown=>exact hp.elim
 rintro e W2 ⟨⟨v,rfl⟩,(⟨k,eI,hi,hl,hk⟩|⟨hi,hl,hk⟩)⟩;exact ⟨none,_,by have:=run_endLoop (P:=Tryz.prog) hl (by rw [bz];simp);rw [bz] at this;exact this,hdone _ k _ (Xn _) eI (hI _ _ _ hi (bput _ _ _ (by omega))) ((World.putObj_heap_other (by omega)).trans hk)⟩;refine ⟨some .ret,_,by have:=run_endLoop (P:=Tryz.prog) hl (by rw [bz];simp);rw [bz] at this;exact this,?_⟩;exact wpIn_ret (hstop _ _ (Xn _) (hIx _ _ hi (bput _ _ _ (by omega))) ((World.putObj_heap_other (by omega)).trans hk))
theorem Zku (d st:Int) (w):CC 152 #[.I d,.I st] w λr w'=>∃ b2 b3,r=.func (.func 212) #[] #[pQ b2,pQ b3]/\w.heap.size<=b2/\b2<b3/\Blk w' b2 3 [.I d]/\Blk w' b3 3 [.I st]/\Stp [] w w':=by
 refine cW2 6 Tryz.func152 ?_;refine W ?_;refine Z0 (Zr rfl) rfl ?_;rintro _ w1 ⟨b2,rfl,cu,k2,hS⟩;replace k2:Blk w1 b2 3 [.I d]:=k2;refine Z0 (Zr rfl) rfl ?_;rintro _ w2 ⟨b3,rfl,dG,k3,ah⟩;replace k3:Blk w2 b3 3 [.I st]:=k3;have:=k2.lt;replace k2:=k2.up ah;refine RT ?_;exact ⟨b2,b3,rfl,cu,by omega,k2,k3,hS.trans ah⟩
theorem Z7c {P:Program} {t b:Nat} {D:TypeDesc} {u:Value} {w:World} [hu:Und P t D] (hA:Z0R D=false) (hc:w.cell? ⟨b,0,none⟩=some u):(loadVar t ⟨b,0,none⟩).run P w=.ok u w:=by
 simp [loadVar,Und.isAgg,hA,hc]
theorem Zbb (b:Nat) (v:Value) (w):Stp [b] w (w.setCell ⟨b,0,none⟩ v):=⟨rfl,rfl,rfl,(KeepsOthers.setCell w ⟨b,0,none⟩ v).size,λk hk hn=>Below.heap_setCell w ⟨b,0,none⟩ v k (λe=>hn (by simp [e]))⟩
theorem Z60 (opn:Int->Bool) (st:Int):∀ (m:Nat) (d:Int) (k:Nat),(∀ j:Nat,j<k->opn (d+st * j)=false)->(m<=k\/ZK (d+st * k)=false)->Z0q opn st m d=(0,31)
 | 0,d,k,_,_=>rfl
 | m + 1, d, k, h, hk => by
   unfold Z0q;cases hd:ZK d with
   | false=>rfl
   | true=>
     rw [if_pos rfl];cases k with
     | zero=>
       rcases hk with hk|hk
       omega;rw [show d+st * ((0:Nat):Int)=d by simp,hd] at hk;cases hk
     | succ k=>
       have h0:=h 0 (by omega);rw [show d+st * ((0:Nat):Int)=d by simp] at h0;rw [if_neg (by rw [h0];simp)];have es:∀ j:Nat,d+st+st * (j:Int)=d+st * ((j+1:Nat):Int):=λj=>by
        rw [Ybp,Int.mul_add];simp;omega
       exact Z60 opn st m (d+st) k (λj hj=>by rw [es];exact h (j+1) (by omega)) (hk.imp (λh=>by omega) (λh=>by rw [es];exact h))
theorem Z8H (opn:Int->Bool) (st:Int):∀ (m:Nat) (d:Int) (k:Nat),k<m->(∀ j:Nat,j<=k->ZK (d+st * j)=true)->(∀ j:Nat,j<k->opn (d+st * j)=false)->opn (d+st * k)=true->Z0q opn st m d=(d+st * k,0)
 | 0,d,k,h,_,_,_=>absurd h (Xs _)
 | m + 1, d, k, gQ, hi, h, ho => by
   have hd:=hi 0 (Xq _);rw [show d+st * ((0:Nat):Int)=d by simp] at hd;unfold Z0q;rw [hd,if_pos rfl];cases k with
   | zero=>
     rw [show d+st * ((0:Nat):Int)=d by simp] at ho ⊢;rw [if_pos ho]
   | succ k=>
     have h0:=h 0 (by omega);rw [show d+st * ((0:Nat):Int)=d by simp] at h0;rw [if_neg (by rw [h0];simp)];have es:∀ j:Nat,d+st+st * (j:Int)=d+st * ((j+1:Nat):Int):=λj=>by
      rw [Ybp,Int.mul_add];simp;omega
     rw [<- es];exact Z8H opn st m (d+st) k (by omega) (λj hj=>by rw [es];exact hi (j+1) (by omega)) (λj hj=>by rw [es];exact h (j+1) (by omega)) (by rw [es];exact ho)
theorem Zfl {W:World} {b8 b9:Nat} {u v:Value} (c8:W.cell? ⟨b8,0,none⟩=some u) (c9:W.cell? ⟨b9,0,none⟩=some v) (n:b8≠b9) (x y:Value) :
 ((W.setCell ⟨b8,0,none⟩ x).setCell ⟨b9,0,none⟩ y).cell? ⟨b8,0,none⟩=some x/\((W.setCell ⟨b8,0,none⟩ x).setCell ⟨b9,0,none⟩ y).cell? ⟨b9,0,none⟩=some y:=by
 have h1:(W.setCell ⟨b8,0,none⟩ x).cell? ⟨b8,0,none⟩=some x:=World.cell?_setCell_same _ _ _ c8;have h2:(W.setCell ⟨b8,0,none⟩ x).cell? ⟨b9,0,none⟩=some v:=(World.cell?_setCell_other _ _ _ _ (λh=>n (by injection h))).trans c9;exact ⟨(World.cell?_setCell_other _ _ _ _ (λh=>n (by injection h with h;exact h.symm))).trans h1,World.cell?_setCell_same _ _ _ h2⟩
theorem Z61 (b8 b9:Nat) (x y:Value) (w):Stp [b8,b9] w ((w.setCell ⟨b8,0,none⟩ x).setCell ⟨b9,0,none⟩ y):=((Zbb b8 x w).mono (S':=[b8,b9]) (by simp)).trans ((Zbb b9 y _).mn)
theorem Zek {tmps:Array Value} {W:World} {b8 b9:Nat} {x y:Value} (h8:tmps.getD 8 undef=pQ b8) (h9:tmps.getD 9 undef=pQ b9) (c8:W.cell? ⟨b8,0,none⟩=some x) (c9:W.cell? ⟨b9,0,none⟩=some y) :
 (results Tryz.f84 tmps).run Tryz.prog W=.ok (.tuple #[x,y]) W:=by
 rw [XB] at h8 h9;have l8:=Z7c (P:=Tryz.prog) (t:=3) (hu:=(inferInstance:Und Tryz.prog 3 (.int .i64))) rfl c8;have l9:=Z7c (P:=Tryz.prog) (t:=92) (hu:=(inferInstance:Und Tryz.prog 92 (.int .i64))) rfl c9;simp [results,h8,h9,asAddr,l8,l9]
theorem Zkv (d kn st:Int) (aA:st=1\/st=-1) (c:Cal) (hv cv zo zs hr:Value) (w) (h:Z5Y w c hv cv zo zs hr) :
 CallsIn Fence.wide 5 Tryz.prog 84 #[Z5Z c hv cv zo zs hr,.I d,.I kn,.I st] w λe W'=>e=.returned (.tuple #[.I (ZQ (Zs c kn) st d).1,.I (ZQ (Zs c kn) st d).2])/\Stp [] w W':=by
 refine callsIn_of_wp_marks Tryz.func84 rfl trivial ?_ rfl;simp only [Tryz.ntmps84,Yaw,Xe,Xg,Nat.reduceAdd,Nat.reduceSub,Array.replicate_succ,Array.replicate_zero,List.push_toArray,List.append_toArray,XJ,XV]
 gi_wp2
 obtain ⟨W1,fY⟩:∃ W1,W1=((w.alloc (.cells (Z06 c hv cv zo zs hr).toArray 35)).alloc (.cells #[.I 0] 3)).alloc (.cells #[.I 0] 92):=⟨_,rfl⟩
 rw [<- fY];have kc:Blk W1 w.heap.size 35 (Z06 c hv cv zo zs hr):=by
  rw [fY];exact (Blk.up (World.alloc_heap_new w _) (Stp.alloc _ _ _)).up (Stp.alloc _ _ _)
 have k8:Blk W1 (w.heap.size+1) 3 [.I 0]:=by
  rw [fY];have:=World.alloc_heap_new (w.alloc (.cells (Z06 c hv cv zo zs hr).toArray 35)) (.cells #[.I 0] 3);rw [World.size_alloc] at this;exact Blk.up this (Stp.alloc _ _ _)
 have k9:Blk W1 (w.heap.size+1+1) 92 [.I 0]:=by
  rw [fY];have:=World.alloc_heap_new ((w.alloc (.cells (Z06 c hv cv zo zs hr).toArray 35)).alloc (.cells #[.I 0] 3)) (.cells #[.I 0] 92);rw [World.size_alloc,World.size_alloc] at this;exact this
 have ae:Stp [] w W1:=by
  rw [fY];exact ((Stp.alloc _ _ _).trans (Stp.alloc _ _ _)).trans (Stp.alloc _ _ _)
 have yr:w.heap.size<=w.heap.size+1:=by omega
 have yt:w.heap.size<=w.heap.size+1+1:=by omega
 generalize iI:w.heap.size+1+1=b9 at *;generalize eO:w.heap.size+1=b8 at *;generalize bE:w.heap.size=b4 at *;clear fY;have n89:b8≠b9:=by omega
 have c8:=Boxed.cell (show Boxed W1 b8 3 (.I 0) from k8);have f8:=Boxed.frozen (show Boxed W1 b8 3 (.I 0) from k8);have c9:=Boxed.cell (show Boxed W1 b9 92 (.I 0) from k9);have f9:=Boxed.frozen (show Boxed W1 b9 92 (.I 0) from k9);refine ⟨trivial,?_⟩;refine (callsIn_wide.2 (Z2t d W1)).mono ?_;rintro e w' ⟨v,rfl,rfl,rfl⟩;cases hd:ZK d with
 | false=>
   gi_wp2
   have gM:ZQ (Zs c kn) st d=(0,5):=by unfold ZQ;rw [hd];rfl
   obtain ⟨g8,g9⟩:=Zfl c8 c9 n89 (.I 0) (.I 5);refine ⟨_,Zek rfl rfl g8 g9,?_,?_⟩;rw [gM];exact ae.own (Z61 b8 b9 _ _ _) (λx hx=>by simp at hx;omega)
 | true=>
   have q:=λ(j:Nat) (u:Value) (hu:(Z06 c hv cv zo zs hr)[j]?=some u)=>kc.cell hu;have q0:=q 0 _ rfl;have q1:=q 1 _ rfl;have q2:=q 2 _ rfl;have q3:=q 3 _ rfl;have q4:=q 4 _ rfl;have q5:=q 5 _ rfl;have q6:=q 6 _ rfl;have q7:=q 7 _ rfl;have q8:=q 8 _ rfl;have q9:=q 9 _ rfl;have q10:=q 10 _ rfl;have q11:=q 11 _ rfl
   gi_wp2
   refine ⟨trivial,?_⟩;refine (callsIn_wide.2 (ZcJ kn c hv cv zo zs hr w')).mono ?_;rintro e W2 ⟨v,rfl,⟨b2,b3,rfl,k2,k3⟩,ah⟩;have f8':=Boxed.frozen (show Boxed W2 b8 3 (.I 0) from k8.up ah);have f9':=Boxed.frozen (show Boxed W2 b9 92 (.I 0) from k9.up ah);have c8':=Boxed.cell (show Boxed W2 b8 3 (.I 0) from k8.up ah);have c9':=Boxed.cell (show Boxed W2 b9 92 (.I 0) from k9.up ah);have cN:=Boxed.cell (Boxed.new W2 178 .nilFunc);have fN:=Boxed.frozen (Boxed.new W2 178 .nilFunc);have wH:(store ⟨W2.heap.size,0,none⟩ (.func (.func 154) #[] #[pQ b2,pQ b3])).run Tryz.prog (W2.alloc (.cells #[.nilFunc] 178))=.ok () ((W2.alloc (.cells #[.nilFunc] 178)).setCell ⟨W2.heap.size,0,none⟩ (.func (.func 154) #[] #[pQ b2,pQ b3])):=by
    rw [run_store _ _ _ _ _ rfl];simp [cN,fN]
   gi_wp2
   refine ⟨trivial,?_⟩;refine (callsIn_wide.2 (Zku d st _)).mono ?_;rintro e W3 ⟨v,rfl,bd,bs,rfl,kj,dD,kd,ks,ak⟩;have bZ:W3.cell? ⟨W2.heap.size,0,none⟩=some (.func (.func 154) #[] #[pQ b2,pQ b3]):=ak.cell (by simp) (Boxed.cell (Boxed.new W2 178 _));have cI:Stp [] W2 W3:=(Stp.alloc [] W2 _).trans ak
   gi_wp2
   have dy:Stp [] w' W3:=ah.trans cI;have h3:=(h.up ae).up dy;have wI:=(k2.up cI).lt;have k2':=k2.up cI;have k3':=k3.up cI;have k8':=k8.up dy;have k9':=k9.up dy;have wJ:=cI.size;have yu:W2.heap.size<W3.heap.size:=by have:=block_lt_of_cell bZ;simpa using this
   have wK:W2.heap.size<bd:=by simp at kj;omega
   have k8l:=(k8.up ah).lt;have k9l:=(k9.up ah).lt;have k2l:=k2.lt;have k3l:=k3.lt;have pl:=(ZL.1 hd).1;have il:=(ZL.1 hd).2;have wL:w.heap.size<=bd:=by have:=ae.size;have:=dy.size;have:=ah.size;omega
   have g1:3<w.heap.size:=by have:=block_lt_of_cell (h.len 0 0 rfl);simpa using this
   have g2:4<w.heap.size:=by have:=block_lt_of_cell (h.mov 0 0 rfl);simpa using this
   have wM:=h.hols.ext (X':=[bd]) (ae.trans dy) (by simp) (λb hb=>.inr (by simp at hb;omega));have wN:=h.clos.ext (X':=[bd]) (ae.trans dy) (by simp) (λb hb=>.inr (by simp at hb;omega));have yw:=(ae.trans dy).size;have cal:∀ W,Stp [bd] W3 W->Z5Y W c hv cv zo zs hr:=λW hS=>⟨wM.ext (X':=[]) hS (λb hb=>hb) (by simp),wN.ext (X':=[]) hS (λb hb=>hb) (by simp),h3.len.ext hS (by simp;omega),h3.mov.ext hS (by simp;omega),h.ok⟩
   have sb:∀ {S:List Nat} {W W':World},Stp S W3 W->Below W3.heap.size W W'->Stp S W3 W':=λhS hB=>⟨hB.os.trans hS.os,hB.tape.trans hS.tape,hB.output.trans hS.output,Xh hS.size hB.size,λi hi hn=>(hB.block i hi).trans (hS.block i hi hn)⟩
   have ej:=kd.lt;have yx:=ks.lt
   refine Zej (by omega) rfl rfl aA pl il kd.lt
    (λk W=>Stp [bd] W3 W/\Boxed W bd 3 (.I (d+st * k))/\∀ j:Nat,j<k->Zs c kn (d+st * j)=false)
    (λk W=>(Stp [bd] W3 W/\Boxed W bd 3 (.I (d+st * k))/\∀ j:Nat,j<k->Zs c kn (d+st * j)=false)/\Zs c kn (d+st * k)=false)
    (λW=>Stp [bd,b8,b9] W3 W/\∃ k:Nat,k<=1000/\ZK (d+st * k)=true/\(∀ j:Nat,j<k->Zs c kn (d+st * j)=false)/\Zs c kn (d+st * k)=true/\W.cell? ⟨b8,0,none⟩=some (.I (d+st * k))/\W.cell? ⟨b9,0,none⟩=some (.I 0))
    ?hI ?hI' ?hIx ?hc ?hc' ?hstep ?h0 (λX=>{ tmps:=#[Z5Z c hv cv zo zs hr,.I d,.I kn,.I st,pQ b4,undef,undef,undef,pQ b8,pQ b9,.pointer (some ⟨W2.heap.size,0,none⟩),.I X,.I d,.B true,.B false,Z5Z c hv cv zo zs hr,.I kn,.func (.func 154) #[] #[pQ b2,pQ b3],.I d,.I st,.func (.func 212) #[] #[pQ bd,pQ bs],.I X,undef,undef,undef,undef,undef],defers:=[] }) ?hassign ?hbody ?hdone ?hstop
   case hI=>exact λk W W' ⟨a,b,e⟩ hB=>⟨sb a hB,(hB.block bd ej).trans b,e⟩
   case hI'=>exact λk W W' ⟨⟨a,b,e⟩,f⟩ hB=>⟨⟨sb a hB,(hB.block bd ej).trans b,e⟩,f⟩
   case hIx=>exact λW W' ⟨a,k,p1,p2,p3,p4,p5,p6⟩ hB=>⟨sb a hB,k,p1,p2,p3,p4,(World.cell?_of_block (hB.block b8 (by omega))).trans p5,(World.cell?_of_block (hB.block b9 (by omega))).trans p6⟩
   case hc=>exact λk W ⟨a,b,e⟩=>⟨b.cell,a.cell (by simp;omega) (ks.cell rfl)⟩
   case hc'=>exact λk W ⟨⟨a,b,e⟩,f⟩=>⟨b.cell,b.frozen,a.cell (by simp;omega) (ks.cell rfl)⟩
   case hstep=>
    rintro k W ⟨⟨a,b,e⟩,f⟩;have e1:d+st * ((k+1:Nat):Int)=d+st * k+st:=by rcases aA with rfl|rfl<;>omega
    refine ⟨a.trans (Zbb bd _ _),by rw [e1];exact b.set _,λj hj=>?_⟩;by_cases iq:j=k;subst iq;exact f;exact e j (by omega)
   case h0=>exact ⟨Stp.refl _ _,by rw [show d+st * ((0:Nat):Int)=d by simp];exact kd,λj hj=>absurd hj (Xs _)⟩
   case hassign=>
    intro l X W K hK
    gi_wp2
    exact hK
   case hbody=>
    rintro l k W ⟨a,bx,e⟩ iz bM;have wO:=a.cell (b:=W2.heap.size) (o:=0) (by simp;omega) bZ;obtain ⟨x0,x1⟩:=ZL.1 bM
    gi_wp2
    refine ⟨trivial,(CallsIn.inRound l (callsIn_wide.2 (Z9T (d+st * k) kn b2 b3 c hv cv zo zs hr W (cal W a) (k2'.ext a (by simp;omega)) (k3'.ext a (by simp;omega)) x0 x1))).mono ?_⟩;rintro e5 W5 ⟨v,rfl,rfl,aD⟩;have a5:=a.trans aD.mn;cases dJ:Z9K c kn (d+st * k) with
    | true=>
      gi_wp2
      exact ⟨λb h1 h2=>aD.block b h2 (by simp),⟨Blk.up (show Blk W bd 3 [.I (d+st * k)] from bx) aD,e⟩,by unfold Zs;rw [bM,dJ];rfl⟩
    | false=>
      have f8:=Boxed.frozen (show Boxed W5 b8 3 (.I 0) from k8'.ext a5 (by simp;omega));have f9:=Boxed.frozen (show Boxed W5 b9 92 (.I 0) from k9'.ext a5 (by simp;omega));have c8:=Boxed.cell (show Boxed W5 b8 3 (.I 0) from k8'.ext a5 (by simp;omega));have c9:=Boxed.cell (show Boxed W5 b9 92 (.I 0) from k9'.ext a5 (by simp;omega))
      gi_wp2
      exact ⟨λb h1 h2=>((Z61 b8 b9 _ _ W5).block b (Xa h2 aD.size) (by simp;omega)).trans (aD.block b h2 (by simp)),a5.mn.trans ((Z61 b8 b9 _ _ W5).mn),k,iz,bM,e,by unfold Zs;rw [bM,dJ];rfl,rfl⟩
   case hdone=>
    rintro D k W hD eI ⟨a,bx,e⟩ fZ;have f8:=Boxed.frozen (show Boxed W b8 3 (.I 0) from k8'.ext a (by simp;omega));have f9:=Boxed.frozen (show Boxed W b9 92 (.I 0) from k9'.ext a (by simp;omega));have c8:=Boxed.cell (show Boxed W b8 3 (.I 0) from k8'.ext a (by simp;omega));have c9:=Boxed.cell (show Boxed W b9 92 (.I 0) from k9'.ext a (by simp;omega))
    gi_wp2
    obtain ⟨y8,y9⟩:=Zfl c8 c9 n89 (.I 0) (.I 31);have wP:D<W.heap.size:=(Xl.1 fZ).1;have nO:=((Z61 b8 b9 (.I 0) (.I 31) W).block D wP (by simp;omega)).trans fZ;have gM:ZQ (Zs c kn) st d=(0,31):=by
     unfold ZQ;rw [hd,if_pos rfl];exact Z60 _ _ _ _ k e (eI.imp (λh=>by omega) id)
    refine ⟨by simp,.inl ⟨_,_,rfl,run_takeDeferred nO,_,Zek rfl rfl ((World.cell?_of_block (World.putObj_heap_other (by show b8≠D;omega))).trans y8) ((World.cell?_of_block (World.putObj_heap_other (by show b9≠D;omega))).trans y9),?_,?_⟩⟩;rw [gM];have t1:=((ae.trans dy).ow a).own (Z61 b8 b9 (.I 0) (.I 31) W) (λx hx=>.inr (by simp at hx;omega));refine ⟨t1.os,t1.tape,t1.output,by simpa using t1.size,λq hq hn=>(World.putObj_heap_other (by omega)).trans (t1.block q hq hn)⟩
   case hstop=>
    rintro D W hD ⟨a,k,p1,p2,p3,p4,p5,p6⟩ fZ
    gi_wp2
    obtain ⟨x0,x1⟩:=ZL.1 p2;have gM:ZQ (Zs c kn) st d=(d+st * k,0):=by
     unfold ZQ;rw [hd,if_pos rfl];refine Z8H _ _ _ _ k (by omega) (λj hj=>ZL.2 ?_) p3 p4;rcases aA with rfl|rfl<;>omega
    refine ⟨by simp,.inl ⟨_,_,rfl,run_takeDeferred fZ,_,Zek rfl rfl ((World.cell?_of_block (World.putObj_heap_other (by show b8≠D;omega))).trans p5) ((World.cell?_of_block (World.putObj_heap_other (by show b9≠D;omega))).trans p6),?_,?_⟩⟩;rw [gM];have t1:=(ae.trans dy).ow a;exact ⟨t1.os,t1.tape,t1.output,by simpa using t1.size,λq hq hn=>(World.putObj_heap_other (by omega)).trans (t1.block q hq hn)⟩
theorem Z3m (d kn st:Int) (c:Cal) (hv cv zo zs hr:Value) (w) (h:Z5Y w c hv cv zo zs hr) (aA:st=1\/st=-1) :
 CC 84 #[Z5Z c hv cv zo zs hr,.I d,.I kn,.I st] w λr w'=>r=.tuple #[.I (ZQ (Zs c kn) st d).1,.I (ZQ (Zs c kn) st d).2]/\Stp [] w w':=by
 refine Calls.mono (callsIn_wide.1 (Zkv d kn st aA c hv cv zo zs hr w h)) ?_;rintro e W' ⟨rfl,hS⟩;exact .mk ⟨rfl,hS⟩
theorem Z9U (d kn:Int) (c:Cal) (hv cv zo zs hr:Value) (w) (h:Z5Y w c hv cv zo zs hr) :
 CC 52 #[Z5Z c hv cv zo zs hr,.I d,.I kn] w λr w'=>r=.tuple #[.I (ZQ (Zs c kn) (1) d).1,.I (ZQ (Zs c kn) (1) d).2]/\Stp [] w w':=by
 refine cW3 14 Tryz.func52 ?_;refine W ?_;refine Z0 (Zr rfl) rfl ?_;rintro _ w1 ⟨b3,rfl,dG,ac,hS⟩;replace ac:Blk w1 b3 35 (Z06 c hv cv zo zs hr):=ac;replace h:=h.up hS;refine W ?_;refine CM (Z7o rfl rfl rfl rfl) (Z3m d kn (1) c hv cv zo zs hr _ h (by omega)) ?_;rintro _ w2 ⟨rfl,ah⟩;refine RT ?_;exact ⟨rfl,hS.trans ah⟩
theorem Z9c (d kn:Int) (c:Cal) (hv cv zo zs hr:Value) (w) (h:Z5Y w c hv cv zo zs hr) :
 CC 210 #[Z5Z c hv cv zo zs hr,.I d,.I kn] w λr w'=>r=.tuple #[.I (ZQ (Zs c kn) (-1) d).1,.I (ZQ (Zs c kn) (-1) d).2]/\Stp [] w w':=by
 refine cW3 14 Tryz.func210 ?_;refine W ?_;refine Z0 (Zr rfl) rfl ?_;rintro _ w1 ⟨b3,rfl,dG,ac,hS⟩;replace ac:Blk w1 b3 35 (Z06 c hv cv zo zs hr):=ac;replace h:=h.up hS;refine W ?_;refine CM (Z7o rfl rfl rfl rfl) (Z3m d kn (-1) c hv cv zo zs hr _ h (by omega)) ?_;rintro _ w2 ⟨rfl,ah⟩;refine RT ?_;exact ⟨rfl,hS.trans ah⟩
theorem ZnH (d n kn:Int) (c:Cal) (hv cv zo zs hr:Value) (w) (h:Z5Y w c hv cv zo zs hr) :
 CC 209 #[Z5Z c hv cv zo zs hr,.I d,.I n,.I kn] w λr w'=>r=.tuple #[.I (Z2D (Zs c kn) d n).1,.I (Z2D (Zs c kn) d n).2]/\Stp [] w w':=by
 refine cW4 46 Tryz.func209 ?_;refine W ?_;refine Z0 (Zr rfl) rfl ?_;rintro _ w1 ⟨b4,rfl,bE,ac,hS⟩;replace ac:Blk w1 b4 35 (Z06 c hv cv zo zs hr):=ac;replace h:=h.up hS;refine W ?_;refine CL (Z2t d _) ?_;rintro _ w1 ⟨rfl,rfl⟩;unfold Z2D;cases hd:ZK d with
 | false=>
   rw [if_neg (by simp)];refine RT ?_;exact ⟨rfl,hS⟩
 | true=>
   rw [if_pos rfl];by_cases hn:n < -1000\/1000<n
   . rw [if_pos hn]
     repeat'(first|refine W1 ?_|omega|refine VG ?_ ?_<;>intro hg|refine VC ?_ ?_<;>intro hc)
     all_goals refine WR ?_
     all_goals exact .mk ⟨rfl,hS⟩
   rw [if_neg hn];by_cases gO:n<0;have qS:(n.natAbs:Int)=(-n):=by omega
   have rz:(if n<0 then (-1:Int) else 1)=-1:=by split<;>omega
   rw [rz];refine QO ?_
   refine Zu (σ:=Nat×Int) (λq=>[(1,.I q.2),(3,.I kn),(4,pQ b4),(10,.I (-1)),(28,.I (-n)),(29,.I (q.1:Int))])
    (λq w'=>q.1<=n.natAbs/\ZK q.2=true/\Z2j (Zs c kn) (-1) (n.natAbs - q.1) q.2=Z2j (Zs c kn) (-1) n.natAbs d/\Stp [] w1 w') (λq=>n.natAbs - q.1) (0,d) ⟨rfl,rfl,rfl,rfl,rfl,rfl,trivial⟩ ⟨Xq _,hd,rfl,Stp.refl _ _⟩ ?_
   rintro ⟨k,q⟩ w2 ⟨hk,hq,fx,ah⟩;dsimp only at hk hq fx ⊢;have aP:=ac.up ah;have h2:=h.up ah;have wQ:=ZL.1 hq;by_cases hlt:k<n.natAbs;have e1:n.natAbs - k=(n.natAbs - (k+1))+1:=by omega
   rw [e1,Z2j] at fx;refine QO ?_;refine CM (Z7o rfl rfl rfl rfl) (Z3m (q+(-1)) kn (-1) c hv cv zo zs hr _ h2 (by omega)) ?_;rintro _ w3 ⟨rfl,ak⟩;by_cases he:(ZQ (Zs c kn) (-1) (q+(-1))).2=0;rw [if_pos he] at fx;rw [he];refine W ?_;exact Zx (k+1,(ZQ (Zs c kn) (-1) (q+(-1))).1) ⟨rfl,rfl,rfl,rfl,rfl,rfl,trivial⟩ ⟨by dsimp only;omega,(Z41 he).1,fx,ah.trans ak⟩ (by dsimp only;omega);rw [if_neg he] at fx;refine QO ?_;refine WR ?_;rw [<- fx];exact .mk ⟨rfl,(hS.trans ah).trans ak⟩;have e1:n.natAbs - k=0:=by omega
   rw [e1,Z2j] at fx;refine QO ?_;refine WR ?_;rw [<- fx];exact .mk ⟨rfl,hS.trans ah⟩;have qS:(n.natAbs:Int)=n:=by omega
   have rz:(if n<0 then (-1:Int) else 1)=1:=by split<;>omega
   rw [rz];refine QO ?_
   refine Zu (σ:=Nat×Int) (λq=>[(1,.I q.2),(3,.I kn),(4,pQ b4),(10,.I (1)),(28,.I n),(29,.I (q.1:Int))])
    (λq w'=>q.1<=n.natAbs/\ZK q.2=true/\Z2j (Zs c kn) (1) (n.natAbs - q.1) q.2=Z2j (Zs c kn) (1) n.natAbs d/\Stp [] w1 w') (λq=>n.natAbs - q.1) (0,d) ⟨rfl,rfl,rfl,rfl,rfl,rfl,trivial⟩ ⟨Xq _,hd,rfl,Stp.refl _ _⟩ ?_
   rintro ⟨k,q⟩ w2 ⟨hk,hq,fx,ah⟩;dsimp only at hk hq fx ⊢;have aP:=ac.up ah;have h2:=h.up ah;have wQ:=ZL.1 hq;by_cases hlt:k<n.natAbs;have e1:n.natAbs - k=(n.natAbs - (k+1))+1:=by omega
   rw [e1,Z2j] at fx;refine QO ?_;refine CM (Z7o rfl rfl rfl rfl) (Z3m (q+(1)) kn (1) c hv cv zo zs hr _ h2 (by omega)) ?_;rintro _ w3 ⟨rfl,ak⟩;by_cases he:(ZQ (Zs c kn) (1) (q+(1))).2=0;rw [if_pos he] at fx;rw [he];refine W ?_;exact Zx (k+1,(ZQ (Zs c kn) (1) (q+(1))).1) ⟨rfl,rfl,rfl,rfl,rfl,rfl,trivial⟩ ⟨by dsimp only;omega,(Z41 he).1,fx,ah.trans ak⟩ (by dsimp only;omega);rw [if_neg he] at fx;refine QO ?_;refine WR ?_;rw [<- fx];exact .mk ⟨rfl,(hS.trans ah).trans ak⟩;have e1:n.natAbs - k=0:=by omega
   rw [e1,Z2j] at fx;refine QO ?_;refine WR ?_;rw [<- fx];exact .mk ⟨rfl,hS.trans ah⟩
theorem Z9d (d n:Int) (w) (hL:Z0x w) (h0:0<=d) (h1:d<=3652058) :
 CC 208 #[.I d,.I n] w λr w'=>r=.tuple #[.I (Zci d n).1,.I (Zci d n).2]/\Stp [] w w':=by
 obtain ⟨y1,y2,m1,m2,d1,d2,jq⟩:=ZaF h0 h1;have bM:ZK d=true:=ZL.2 ⟨h0,h1⟩;have g1:3<w.heap.size:=by have:=block_lt_of_cell (hL 0 0 rfl);simpa using this
 unfold Zci;refine cW2 56 Tryz.func208 ?_;by_cases hn:n < -200000\/200000<n
 . rw [if_pos hn]
   repeat'(first|refine W1 ?_|omega|refine VG ?_ ?_<;>intro hg|refine VC ?_ ?_<;>intro hc)
   all_goals refine WR ?_
   all_goals exact .mk ⟨rfl,Stp.refl _ _⟩
 rw [if_neg hn,if_pos bM];refine QO ?_;refine CL (ZaL d _ h0 h1) ?_;rintro _ w1 ⟨rfl,hS⟩;replace hL:=hL.up hS;refine W ?_;refine Z0 Z2 rfl ?_;rintro _ w2 ⟨b6,rfl,eh,e6,ah⟩;refine W ?_;refine SB (us:=[.I (ofM d).y,.I (ofM d).m,.I (ofM d).d]) (by intro u hu;simp at hu;rcases hu with rfl|rfl|rfl<;>rfl) e6 ?_;rintro _ w3 ⟨hT,k6⟩;have kY:w.heap.size<=b6:=by have:=hS.size;omega
 replace hS:=hS.trans (ah.ow hT);replace hL:=hL.up (ah.ow hT);clear e6 hT ah;generalize hM:12 * (ofM d).y+(ofM d).m - 1+n=M;by_cases hr:M<12\/120000<=M
 . rw [if_pos hr]
   refine W ?_;rw [hM];repeat'(first|refine W1 ?_|omega|refine VG ?_ ?_<;>intro hg|refine VC ?_ ?_<;>intro hc)
   all_goals refine WR ?_
   all_goals exact .mk ⟨rfl,hS⟩
 rw [if_neg hr];have fj:=Z39 (M / 12) (M % 12+1);have cB:=Z2o (y:=M / 12) (k:=(M % 12).toNat) (by omega);rw [show (((M % 12).toNat:Int))=M % 12 by omega] at cB;refine W ?_;rw [hM];refine QO ?_;refine S1 (u:=.I (M / 12)) k6 ?_;rintro _ w4 ⟨aJ,k6⟩;refine W ?_;refine S1 (u:=.I (M % 12+1)) k6 ?_;rintro _ w5 ⟨aD,k6⟩;replace hL:=(hL.ext aJ (by simp;omega)).ext aD (by simp;omega);replace hS:=(hS.ow aJ).ow aD;clear aJ aD;refine W ?_;refine ZDr 10 [] [9] [(0,0),(1,1),(2,0),(3,1),(4,0),(5,1),(6,2),(7,0),(8,0),(9,2)] (λw1 ae=>?_);replace hL:=hL.up ae;replace k6:=k6.up ae;replace hS:=hS.trans ae;clear ae;refine D ?_;refine Za rfl trivial (Z4 rfl (Zd rfl rfl) (Z3d (M / 12) (M % 12+1) _ hL (by omega) (by omega))) (λ_ _ h=>by rw [h.2];exact Stp.refl _ _) rfl ?_;rintro _ _ ⟨rfl,rfl⟩;refine D ?_;refine ZO rfl trivial (Zb (u:=.I (min (ofM d).d (ZM (M / 12) (M % 12+1)))) rfl rfl rfl rfl k6 (by simp)) rfl ?_;rintro _ w6 ⟨di,k6⟩;replace hS:=hS.ow di;refine D ?_;refine W ?_;refine CM (ZR rfl) (Z5h (M / 12) (M % 12+1) (min (ofM d).d (ZM (M / 12) (M % 12+1))) _ (by omega) (by omega) (by omega) (by omega) (by omega) (by omega) (by omega)) ?_;rintro _ w7 ⟨rfl,aQ⟩;refine RT ?_;exact ⟨rfl,hS.trans aQ⟩
theorem ZnI (a b:Int) (w):(Instr.build 75 #[(0,.I a),(1,.I b)]).run Tryz.prog w=.ok (agg ((a,b):Spn)) w:=by kernel_rfl
theorem Zkw (d:Spn) (w):(Instr.buildSlice 27 1 #[(0,agg d)]).run Tryz.prog w=.ok (.slice (some ⟨w.heap.size,0,none⟩) 1 1) (w.alloc (.cells (Z3.enc d).toArray 75)):=by kernel_rfl
section
variable {K:MK} {w w':World} {sv pv:Value} {st:List Int} {sp:List Spn} {at_ er:Int} {dn:Bool}
theorem Mch.cal (hK:KOk K) (h:Mch K w sv pv st sp at_ er dn):Z5Y w K.c K.hv K.cv K.zo K.zs K.hr:=
 ⟨(h.hols hK).ext (Stp.refl [] w) (by simp) (by simp),(h.clos hK).ext (Stp.refl [] w) (by simp) (by simp),h.len hK,h.mov hK,hK.cal⟩
theorem Mch.spans (hK:KOk K) (h:Mch K w sv pv st sp at_ er dn) {bs:Nat} (hk:K.nk=some bs) {pv':Value} {sp':List Spn} {w2:World} (hS:Stp (ob pv) w w') (hr:Row [] w' K.w0.heap.size 75 pv' sp') (ho:∀ b∈ob pv',b∈ob pv\/w.heap.size<=b)
 (ah:Stp [bs] w' w2) (hb:Blk w2 bs 27 [pv']):Mch K w2 sv pv' st sp' at_ er dn:=by
 have kZ:=hK.bml;have hn:=hK.nkl bs hk;obtain ⟨h1,h2⟩:=h.nt bs hk;have ke:=λb hb=>(hr.ob_le b hb).1;have fV:=λb hb=>(h2.ob_le b hb).1;have rA:=λb hb=>(h.row.ob_le b hb).1;have rB:=λb hb=>(h.row.ob_le b hb).2;refine ⟨(h.blk.ext hS (λhx=>by have:=fV _ hx;omega)).ext ah (by have:=hn.2;simp;exact λe=>this e.symm),(h.row.keep hS (λb hb hp=>h.ap b hp hb)).keep ah (λb hb hx=>by have:=rA _ hx;simp at hb;omega),λbs' dD=>?_,(λh0=>by rw [hk] at h0;cases h0),λb hb hp=>?_,?_,λp hp=>?_⟩;have dD:bs'=bs:=by rw [hk] at dD;exact (XT dD).symm
 subst dD;exact ⟨hb,hr.keep ah (λb hb hx=>by have:=ke _ hx;simp at hb;omega)⟩;rcases ho b hp with h3|h3
 exact h.ap b hb h3;have:=rB b hb;omega;exact (h.stp.own (S':=ob pv) hS (λb hb=>.inr (fV b hb))).trans (ah.mono (by simp [MK.own,hk]));obtain ⟨a,b,c,d⟩:=h.prot p hp;have hlt:=(Xl.1 a).1;have a2:=(hS.block p.1 hlt d).trans a;have a3:=(ah.block p.1 (Xl.1 a2).1 (λe=>b (by simp at e;rw [e];simp [MK.own,hk]))).trans a2;exact ⟨a3,b,c,λh3=>(ho _ h3).elim d (λh4=>by omega)⟩
theorem ZgN (hK:KOk K) (h:Mch K w sv pv st sp at_ er dn) {bs:Nat} (hk:K.nk=some bs) (a b:Int) (hl:sp.length<=100000) :
 CC 80 #[.I a,.I b,pQ bs] w λr w'=>r=.tuple #[]/\∃ pv',Mch K w' sv pv' st (sp++[(a,b)]) at_ er dn:=by
 obtain ⟨ac,ab⟩:=h.nt bs hk;have hn:=hK.nkl bs hk;have fV:=λb hb=>(ab.ob_le b hb).1;refine cW3 11 Tryz.func80 ?_;refine W ?_;refine Z7 (vs:=[(0,.I a),(1,.I b)]) rfl (ZnI _ _) rfl ?_;refine Z0 (Z1 (vs:=[(0,agg ((a,b):Spn))]) rfl (Zkw _)) rfl ?_;rintro bv w1 hN;have ae:=Z9.stp hN;have aq:SlV (ob pv++[]) w1 bv [((a,b):Spn)]:=hN.slv (λb hb=>by simp at hb;exact (ab.ob_le b hb).2) rfl rfl (by simp [maxLen]);replace h:=h.up ae;replace ab:=ab.up ae;replace ac:=ac.up ae;refine Z0 (ZF rfl (by decide) rfl rfl ab aq (by simp;omega) (by simp [maxLen];omega) (h.stp.size)) rfl ?_;rintro pv' w2 ⟨dg,ah,ho⟩;have aP:=ac.ext ah (λhx=>by have:=fV _ hx;omega);refine W ?_;have h1:=dg.slv (X:=[]) (by simp);refine Z6 (Zb (u:=pv') rfl rfl h1.cells h1.one aP (by simp)) ?_;rintro _ w3 ⟨ak,aL⟩;refine RT ?_;exact ⟨rfl,pv',h.spans hK hk ah dg ho ak aL⟩
theorem Z7E {P:Nat} {e:Env} {d:Option Nat} {ty:TypeId} {pos:String} {af:Array Edge} {g:Option (Nat×Bool)} {x y z:Operand} {ts:Array TypeId} (hK:KOk K) (h:Mch K w sv pv st sp at_ er dn) {a b:Int} (hl:sp.length<=100000)
 (hx:ev e x=some (ZoC K.nk)) (hy:ev e y=some (.I a)) (hz:ev e z=some (.I b)) :
 OE Tryz.prog P ⟨d,.call { callee:=.value x,args:=#[y,z],argTypes:=ts },ty,pos,af,g⟩ e w (λv w'=>v=.tuple #[]/\∃ pv',Mch K w' sv pv' st (sp++[(a,b)]) at_ er dn):=by
 cases hk:K.nk with
 | none=>
   exact absurd hk hK.nks
 | some bs=>
   rw [hk] at hx;exact Z00 (f:=80) hx (Zd hy hz) rfl (ZgN hK h hk a b hl)
theorem Res.err {r:Int×Int} {st':List Int} {sp':List Spn} (h:Res K w st sp at_ r) (he:¬ r.2=0):Res K w st' sp' at_ r:=by
 obtain ⟨a,b,c,d,h1,h2⟩:=h;exact ⟨a,b,c,d,h1,λh0=>absurd h0 he⟩
theorem ZnJ (hK:KOk K) {a b:Int} (h:Mch K w sv pv (st++[a,b]) sp at_ 0 false) (hl:st.length<=100000) (n:Int) (hr:ZK a=true) :
 CC 142 #[mP K,.I n] w λr w'=>r=.tuple #[]/\Res K w' st sp at_ (Zci a b):=by
 obtain ⟨d0,d1⟩:=ZL.1 hr;refine cW2 18 Tryz.func142 ?_;refine W ?_;refine CL (Z07 hK h) ?_;rintro _ w1 ⟨rfl,sv1,h1⟩;refine W ?_;refine CL (Z9d a b _ (h1.len hK) d0 d1) ?_;rintro _ w2 ⟨rfl,hS⟩;replace h1:=h1.up hS;refine W ?_;refine CL (Z0l hK h1 hl _ _) ?_;rintro _ w3 ⟨rfl,h2⟩;refine RT ?_;exact ⟨rfl,h2⟩
theorem ZwP (hK:KOk K) {b:Int} (h:Mch K w sv pv (st++[b]) sp at_ 0 false) (hl:st.length<=100000) (gB:sp.length<=100000) (n:Int) :
 CC 144 #[mP K,.I n] w λr w'=>r=.tuple #[]/\Res K w' st (sp++[(b,(ZQ (Zs K.c K.kn) 1 b).1)]) at_ (ZQ (Zs K.c K.kn) (1) b):=by
 refine cW2 35 Tryz.func144 ?_;refine W ?_;refine CL (Z3k hK h) ?_;rintro _ w1 ⟨rfl,sv1,h1⟩;refine W ?_;refine ZDr 15 [] [] [(0,0),(1,0),(2,0),(3,1),(4,0),(5,0),(6,0),(7,0),(8,1),(9,2),(10,0),(11,0),(12,0),(13,0),(14,0)] (λw1 ae=>?_);replace h1:=h1.up ae;have ac:=h1.blk;unfold Z5Q at ac;refine D ?_;refine WD_read rfl trivial (λw' aN=>Zl (us:=Z06 K.c K.hv K.cv K.zo K.zs K.hr) rfl rfl (ac.up aN) rfl rfl) rfl ?_;refine D ?_;refine DC (Z9U b K.kn K.c K.hv K.cv K.zo K.zs K.hr _ (h1.cal hK)) (λ_ _ h=>h.2) ?_;rintro _ w2 ⟨rfl,ah⟩;replace h1:=h1.up ah;replace ac:=ac.up ah;refine D ?_;by_cases he:(ZQ (Zs K.c K.kn) (1) b).2=0;refine QO ?_;refine Z0 (Z7E hK h1 gB rfl rfl rfl) rfl ?_;rintro _ w3 ⟨rfl,pv1,h2⟩;refine W ?_;refine CL (Z0l hK h2 hl _ _) ?_;rintro _ w4 ⟨rfl,h3⟩;refine RT ?_;exact ⟨rfl,h3⟩;refine QO ?_;refine CL (Z0l hK h1 hl _ _) ?_;rintro _ w4 ⟨rfl,h3⟩;refine RT ?_;exact ⟨rfl,h3.err he⟩
theorem ZwQ (hK:KOk K) {b:Int} (h:Mch K w sv pv (st++[b]) sp at_ 0 false) (hl:st.length<=100000) (gB:sp.length<=100000) (n:Int) :
 CC 145 #[mP K,.I n] w λr w'=>r=.tuple #[]/\Res K w' st (sp++[((ZQ (Zs K.c K.kn) (-1) b).1,b)]) at_ (ZQ (Zs K.c K.kn) (-1) b):=by
 refine cW2 35 Tryz.func145 ?_;refine W ?_;refine CL (Z3k hK h) ?_;rintro _ w1 ⟨rfl,sv1,h1⟩;refine W ?_;refine ZDr 15 [] [] [(0,0),(1,0),(2,0),(3,1),(4,0),(5,0),(6,0),(7,0),(8,1),(9,2),(10,0),(11,0),(12,0),(13,0),(14,0)] (λw1 ae=>?_);replace h1:=h1.up ae;have ac:=h1.blk;unfold Z5Q at ac;refine D ?_;refine WD_read rfl trivial (λw' aN=>Zl (us:=Z06 K.c K.hv K.cv K.zo K.zs K.hr) rfl rfl (ac.up aN) rfl rfl) rfl ?_;refine D ?_;refine DC (Z9c b K.kn K.c K.hv K.cv K.zo K.zs K.hr _ (h1.cal hK)) (λ_ _ h=>h.2) ?_;rintro _ w2 ⟨rfl,ah⟩;replace h1:=h1.up ah;replace ac:=ac.up ah;refine D ?_;by_cases he:(ZQ (Zs K.c K.kn) (-1) b).2=0;refine QO ?_;refine Z0 (Z7E hK h1 gB rfl rfl rfl) rfl ?_;rintro _ w3 ⟨rfl,pv1,h2⟩;refine W ?_;refine CL (Z0l hK h2 hl _ _) ?_;rintro _ w4 ⟨rfl,h3⟩;refine RT ?_;exact ⟨rfl,h3⟩;refine QO ?_;refine CL (Z0l hK h1 hl _ _) ?_;rintro _ w4 ⟨rfl,h3⟩;refine RT ?_;exact ⟨rfl,h3.err he⟩
theorem Zto (hK:KOk K) {a b:Int} (h:Mch K w sv pv (st++[a,b]) sp at_ 0 false) (hl:st.length<=100000) (gB:sp.length<=100000) (n:Int) (hr:ZK a=true) :
 CC 143 #[mP K,.I n] w λr w'=>r=.tuple #[]/\Res K w' st (sp++Jz 18 a b (Z2D (Zs K.c K.kn) a b).1) at_ (Z2D (Zs K.c K.kn) a b):=by
 obtain ⟨d0,d1⟩:=ZL.1 hr;refine cW2 57 Tryz.func143 ?_;refine W ?_;refine CL (Z07 hK h) ?_;rintro _ w1 ⟨rfl,sv1,h1⟩;refine W ?_;refine ZDr 16 [] [] [(0,0),(1,0),(2,0),(3,1),(4,0),(5,0),(6,0),(7,0),(8,0),(9,1),(10,2),(11,0),(12,0),(13,0),(14,0),(15,0)] (λw1 ae=>?_);replace h1:=h1.up ae;have ac:=h1.blk;unfold Z5Q at ac;refine D ?_;refine WD_read rfl trivial (λw' aN=>Zl (us:=Z06 K.c K.hv K.cv K.zo K.zs K.hr) rfl rfl (ac.up aN) rfl rfl) rfl ?_;refine D ?_;refine DC (ZnH a b K.kn K.c K.hv K.cv K.zo K.zs K.hr _ (h1.cal hK)) (λ_ _ h=>h.2) ?_;rintro _ w2 ⟨rfl,ah⟩;replace h1:=h1.up ah;replace ac:=ac.up ah;refine D ?_;have bt:Jz 18 a b (Z2D (Zs K.c K.kn) a b).1=if 0<b then [(a+1,(Z2D (Zs K.c K.kn) a b).1)] else if b<0 then [((Z2D (Zs K.c K.kn) a b).1,a - 1)] else []:=rfl
 rw [bt];by_cases he:(Z2D (Zs K.c K.kn) a b).2=0;by_cases lX:b=0;rw [if_neg (by omega),if_neg (by omega),XC];refine QO ?_;refine CL (Z0l hK h1 hl _ _) ?_;rintro _ w4 ⟨rfl,h3⟩;refine RT ?_;exact ⟨rfl,h3⟩;by_cases aY:0<b;rw [if_pos aY];refine QO ?_;refine Z0 (Z7E hK h1 gB rfl rfl rfl) rfl ?_;rintro _ w3 ⟨rfl,pv1,h2⟩;refine W ?_;refine CL (Z0l hK h2 hl _ _) ?_;rintro _ w4 ⟨rfl,h3⟩;refine RT ?_;exact ⟨rfl,h3⟩;rw [if_neg aY,if_pos (by omega)];refine QO ?_;refine Z0 (Z7E hK h1 gB rfl rfl rfl) rfl ?_;rintro _ w3 ⟨rfl,pv1,h2⟩;refine W ?_;refine CL (Z0l hK h2 hl _ _) ?_;rintro _ w4 ⟨rfl,h3⟩;refine RT ?_;exact ⟨rfl,h3⟩;refine QO ?_;refine CL (Z0l hK h1 hl _ _) ?_;rintro _ w4 ⟨rfl,h3⟩;refine RT ?_;exact ⟨rfl,h3.err he⟩
end
structure ZcK (code:List Ins) (st:List (Option Shp)) (i:Nat) (s nx:Shp):Prop where
 at_:st.getD i none=some s
 next:Jj (code.getD i ⟨0,0⟩) s=some nx
 stop:(code.getD i ⟨0,0⟩).op=24->i+1=st.length/\s.length=1
 jump:(code.getD i ⟨0,0⟩).op=13\/(code.getD i ⟨0,0⟩).op=14->(i:Int)<(code.getD i ⟨0,0⟩).n/\(code.getD i ⟨0,0⟩).n<st.length/\st.getD (code.getD i ⟨0,0⟩).n.toNat none=some nx
 on:(code.getD i ⟨0,0⟩).op≠24->(code.getD i ⟨0,0⟩).op≠13->i+1<st.length/\st.getD (i+1) none=some nx
theorem Z2u {st st':List (Option Shp)} {t:Int} {nx:Shp} (h:JE st t nx=some st'):(∀ i s,st.getD i none=some s->st'.getD i none=some s)/\0<=t/\t<st.length/\st'.getD t.toNat none=some nx:=by
 unfold JE at h;split at h;rename_i hr;split at h;rename_i s0 aX;split at h;rename_i he;subst he;cases h;exact ⟨λi s h=>h,hr.1,hr.2,aX⟩;cases h;rename_i hn;cases h;refine ⟨λi s h=>?_,hr.1,hr.2,?_⟩;by_cases hi:t.toNat=i;subst hi;rw [hn] at h;cases h;have:(st.set t.toNat (some nx)).getD i none=st.getD i none:=by
  simp [List.getD,hi]
 rw [this];exact h;have:t.toNat<st.length:=by omega
 simp [List.getD,this];cases h
theorem ZcK.keeps {code:List Ins} {st st':List (Option Shp)} {i:Nat} {s nx:Shp} (h:ZcK code st i s nx) (hk:∀ i s,st.getD i none=some s->st'.getD i none=some s) (hl:st'.length=st.length):ZcK code st' i s nx:=
 ⟨hk _ _ h.at_,h.next,λh1=>by rw [hl];exact h.stop h1,λh1=>by rw [hl];exact ⟨(h.jump h1).1,(h.jump h1).2.1,hk _ _ (h.jump h1).2.2⟩,λh1 h2=>by rw [hl];exact ⟨(h.on h1 h2).1,hk _ _ (h.on h1 h2).2⟩⟩
theorem ZgO {code:List Ins} {st st':List (Option Shp)} {i:Nat} (h:JM st i (code.getD i ⟨0,0⟩)=some st'):(∀ i s,st.getD i none=some s->st'.getD i none=some s)/\st'.length=st.length/\∃ s nx,ZcK code st' i s nx:=by
 unfold JM at h;cases hs:st.getD i none with
 | none=>rw [hs] at h;cases h
 | some s=>
   rw [hs] at h;dsimp only at h;cases hn:Jj (code.getD i ⟨0,0⟩) s with
   | none=>rw [hn] at h;cases h
   | some nx=>
     rw [hn] at h;dsimp only at h;by_cases cJ:(code.getD i ⟨0,0⟩).op=24;rw [if_pos cJ] at h;split at h;rename_i hc;cases h;exact ⟨λ_ _ h=>h,rfl,s,nx,hs,hn,λ_=>hc,λh=>by omega,λh=>absurd cJ h⟩;cases h;rw [if_neg cJ] at h;by_cases cD:(code.getD i ⟨0,0⟩).op=13;rw [if_pos cD] at h;split at h;rename_i hc;obtain ⟨k1,k2,k3,k4⟩:=Z2u h;have hl:=JB h;exact ⟨k1,hl,s,nx,k1 _ _ hs,hn,λh=>absurd h cJ,λ_=>⟨hc,by omega,k4⟩,λ_ h=>absurd cD h⟩;cases h;rw [if_neg cD] at h;by_cases dx:(code.getD i ⟨0,0⟩).op=14;rw [if_pos dx] at h;split at h;rename_i hc;obtain ⟨s1,r1,r2⟩:=XY.1 h;obtain ⟨k1,k2,k3,k4⟩:=Z2u r1;obtain ⟨m1,m2,m3,m4⟩:=Z2u r2;have hl:=JB r1;have dV:=JB r2;exact ⟨λi s h=>m1 _ _ (k1 _ _ h),by omega,s,nx,m1 _ _ (k1 _ _ hs),hn,λh=>absurd h cJ,λ_=>⟨hc,by omega,m1 _ _ k4⟩,λ_ _=>⟨by omega,m4⟩⟩;cases h;rw [if_neg dx] at h;obtain ⟨k1,k2,k3,k4⟩:=Z2u h;have hl:=JB h;exact ⟨k1,hl,s,nx,k1 _ _ hs,hn,λh=>absurd h cJ,λh=>absurd h (not_or.2 ⟨cD,dx⟩),λ_ _=>⟨by omega,k4⟩⟩
theorem ZcL {code:List Ins} {st0:List (Option Shp)}:∀ (k:Nat) (st:List (Option Shp)),Z3w code k st0=some st->(∀ i s,st0.getD i none=some s->st.getD i none=some s)/\st.length=st0.length/\∀ i,i<k->∃ s nx,ZcK code st i s nx
 | 0,st,h=>by cases h;exact ⟨λ_ _ h=>h,rfl,λi hi=>by omega⟩
 | k + 1, st, h => by
   obtain ⟨s1,h1,h2⟩:=XY.1 h;obtain ⟨a1,a2,a3⟩:=ZcL k s1 h1;obtain ⟨b1,b2,b3⟩:=ZgO h2;refine ⟨λi s h=>b1 _ _ (a1 _ _ h),by omega,λi hi=>?_⟩;by_cases hk:i=k;subst hk;exact b3;obtain ⟨s,nx,hg⟩:=a3 i (by omega);exact ⟨s,nx,hg.keeps b1 b2⟩
theorem Z8I {code:List Ins} {t:Int} (h:Z21 code=(t,0)):0<code.length/\code.length<=200/\∃ st:List (Option Shp),st.length=code.length/\Zcd st/\(∀ s,some s∈st->s.length<=16)/\st.getD 0 none=some []/\st.getD (code.length - 1) none=some [t]/\∀ i,i<code.length->∃ s nx,ZcK code st i s nx:=by
 unfold Z21 at h;by_cases hl:code.length=0\/code.length > 200;rw [if_pos hl] at h;cases h;rw [if_neg hl] at h;cases hr:Z3w code code.length (some [] :: List.replicate (code.length - 1) none) with
 | none=>rw [hr] at h;cases h
 | some st=>
   rw [hr] at h;dsimp only at h;obtain ⟨a1,a2,a3⟩:=ZcL _ _ hr;have h0:Zcd ((some []) :: List.replicate (code.length - 1) none):=by
    intro s hs;simp at hs;subst hs;intro k hk;cases hk
   have ai:st.length=code.length:=by rw [a2];simp;omega
   have gC:∀ (k:Nat) (st:List (Option Shp)),Z3w code k (some [] :: List.replicate (code.length - 1) none)=some st->∀ s,some s∈st->s.length<=16:=by
    intro k
    induction k with
    | zero=>
      intro st h s hs;cases h;simp at hs;subst hs;simp
    | succ k ih=>
      intro st h;obtain ⟨s1,h1,h2⟩:=XY.1 h;exact ZjM (ih s1 h1) h2
   refine ⟨by omega,by omega,st,ai,(ZjJ h0 _ _ hr).1,gC _ _ hr,a1 0 [] rfl,?_,a3⟩;obtain ⟨s,nx,hg⟩:=a3 (code.length - 1) (by omega);have gh:=hg.at_;rw [gh] at h ⊢;by_cases cJ:(code.getD (code.length - 1) ⟨0,0⟩).op=24;have:=(hg.stop cJ).2;obtain ⟨k,rfl⟩:=Ybe.1 this;simp at h;rw [h];by_cases cD:(code.getD (code.length - 1) ⟨0,0⟩).op=13;have:=hg.jump (.inl cD);omega;have:=hg.on cJ cD;omega
abbrev Zkx:List (Int×Value):=[(1,fnV 128),(2,fnV 128),(3,fnV 128),(4,fnV 129),
 (5,fnV 130),(6,fnV 131),(7,fnV 132),(8,fnV 133),
 (9,fnV 134),(10,fnV 135),(11,fnV 136),(12,fnV 137),
 (13,fnV 138),(14,fnV 139),(15,fnV 140),(16,fnV 141),
 (17,fnV 142),(18,fnV 143),(19,fnV 144),(20,fnV 145),
 (21,fnV 146),(22,fnV 147),(23,fnV 148),(24,fnV 149)]
abbrev ZwR (z:Int):Value:=.I z
theorem ZgP (w):CC 81 #[] w λr w'=>∃ m,r=.map (some m)/\w.heap.size<=m/\JL ZwR w' m Zkx/\Stp [] w w':=by
 refine cW0 3 Tryz.func81 ?_;refine W ?_;refine Z0 (Z0T ZwR) rfl ?_;rintro _ w1 ⟨m,rfl,hm,au,hS⟩;refine Z6 (Zv (a:=(1:Int)) rfl rfl rfl au (by decide)) ?_;clear au;rintro _ w2 ⟨au,hT⟩;replace hS:=hS.ow hT;clear hT;refine Z6 (Zv (a:=(2:Int)) rfl rfl rfl au (by decide)) ?_;clear au;rintro _ w2 ⟨au,hT⟩;replace hS:=hS.ow hT;clear hT;refine Z6 (Zv (a:=(3:Int)) rfl rfl rfl au (by decide)) ?_;clear au;rintro _ w2 ⟨au,hT⟩;replace hS:=hS.ow hT;clear hT;refine Z6 (Zv (a:=(4:Int)) rfl rfl rfl au (by decide)) ?_;clear au;rintro _ w2 ⟨au,hT⟩;replace hS:=hS.ow hT;clear hT;refine Z6 (Zv (a:=(5:Int)) rfl rfl rfl au (by decide)) ?_;clear au;rintro _ w2 ⟨au,hT⟩;replace hS:=hS.ow hT;clear hT;refine Z6 (Zv (a:=(6:Int)) rfl rfl rfl au (by decide)) ?_;clear au;rintro _ w2 ⟨au,hT⟩;replace hS:=hS.ow hT;clear hT;refine Z6 (Zv (a:=(7:Int)) rfl rfl rfl au (by decide)) ?_;clear au;rintro _ w2 ⟨au,hT⟩;replace hS:=hS.ow hT;clear hT;refine Z6 (Zv (a:=(8:Int)) rfl rfl rfl au (by decide)) ?_;clear au;rintro _ w2 ⟨au,hT⟩;replace hS:=hS.ow hT;clear hT;refine Z6 (Zv (a:=(9:Int)) rfl rfl rfl au (by decide)) ?_;clear au;rintro _ w2 ⟨au,hT⟩;replace hS:=hS.ow hT;clear hT;refine Z6 (Zv (a:=(10:Int)) rfl rfl rfl au (by decide)) ?_;clear au;rintro _ w2 ⟨au,hT⟩;replace hS:=hS.ow hT;clear hT;refine Z6 (Zv (a:=(11:Int)) rfl rfl rfl au (by decide)) ?_;clear au;rintro _ w2 ⟨au,hT⟩;replace hS:=hS.ow hT;clear hT;refine Z6 (Zv (a:=(12:Int)) rfl rfl rfl au (by decide)) ?_;clear au;rintro _ w2 ⟨au,hT⟩;replace hS:=hS.ow hT;clear hT;refine Z6 (Zv (a:=(13:Int)) rfl rfl rfl au (by decide)) ?_;clear au;rintro _ w2 ⟨au,hT⟩;replace hS:=hS.ow hT;clear hT;refine Z6 (Zv (a:=(14:Int)) rfl rfl rfl au (by decide)) ?_;clear au;rintro _ w2 ⟨au,hT⟩;replace hS:=hS.ow hT;clear hT;refine Z6 (Zv (a:=(15:Int)) rfl rfl rfl au (by decide)) ?_;clear au;rintro _ w2 ⟨au,hT⟩;replace hS:=hS.ow hT;clear hT;refine Z6 (Zv (a:=(16:Int)) rfl rfl rfl au (by decide)) ?_;clear au;rintro _ w2 ⟨au,hT⟩;replace hS:=hS.ow hT;clear hT;refine Z6 (Zv (a:=(17:Int)) rfl rfl rfl au (by decide)) ?_;clear au;rintro _ w2 ⟨au,hT⟩;replace hS:=hS.ow hT;clear hT;refine Z6 (Zv (a:=(18:Int)) rfl rfl rfl au (by decide)) ?_;clear au;rintro _ w2 ⟨au,hT⟩;replace hS:=hS.ow hT;clear hT;refine Z6 (Zv (a:=(19:Int)) rfl rfl rfl au (by decide)) ?_;clear au;rintro _ w2 ⟨au,hT⟩;replace hS:=hS.ow hT;clear hT;refine Z6 (Zv (a:=(20:Int)) rfl rfl rfl au (by decide)) ?_;clear au;rintro _ w2 ⟨au,hT⟩;replace hS:=hS.ow hT;clear hT;refine Z6 (Zv (a:=(21:Int)) rfl rfl rfl au (by decide)) ?_;clear au;rintro _ w2 ⟨au,hT⟩;replace hS:=hS.ow hT;clear hT;refine Z6 (Zv (a:=(22:Int)) rfl rfl rfl au (by decide)) ?_;clear au;rintro _ w2 ⟨au,hT⟩;replace hS:=hS.ow hT;clear hT;refine Z6 (Zv (a:=(23:Int)) rfl rfl rfl au (by decide)) ?_;clear au;rintro _ w2 ⟨au,hT⟩;replace hS:=hS.ow hT;clear hT;refine Z6 (Zv (a:=(24:Int)) rfl rfl rfl au (by decide)) ?_;clear au;rintro _ w2 ⟨au,hT⟩;replace hS:=hS.ow hT;clear hT;refine RT ?_;exact ⟨m,rfl,hm,au,hS⟩
theorem Zel {x:Ins} {s nx:Shp} {st:List Int} (hn:Jj x s=some nx) (hs:Z0h s st):(ZB x).2.2.2=true/\∃ st0 vs ts,st=st0++vs/\(ts=(ZB x).1\/(ZB x).2.1≠[]/\ts=(ZB x).2.1)/\Z0h ts vs:=by
 unfold Jj at hn;dsimp only at hn;split at hn;rename_i hc;obtain ⟨c1,c2,c3,c4⟩:=hc;exact ⟨c1,st.take (s.length - (ZB x).1.length),st.drop (s.length - (ZB x).1.length),_,(XK _ _).symm,c3,hs.drop _⟩;cases hn
def Z0f (K:MK) (w:World) (x:Ins) (st:List Int) (sp:List Spn) (sv pv:Value) (at_:Int):Prop:=
 if x.op=24 then Mch K w sv pv st sp at_ 0 true
 else if x.op=13 then Mch K w sv pv st sp x.n 0 false
 else if x.op=14 then ∃ sv',Mch K w sv' pv st.dropLast sp (if JR st 0=0 then x.n else at_) 0 false
 else Res K w (st.take (st.length - arM x.op)) (sp++Jz x.op (JR st 1) (JR st 0) (JN (Zs K.c K.kn) K.ev x (JR st 1) (JR st 0)).1) at_ (JN (Zs K.c K.kn) K.ev x (JR st 1) (JR st 0))
theorem Z62 {t v:Int} (h:vOk t v):-2147483647<=v/\v<=2147483647:=by unfold vOk at h;omega
theorem ZxH {t u a b:Int} (ha:vOk t a) (hb:vOk u b):I64 (a * b):=by
 have h1:=Z62 ha;have h2:=Z62 hb;have h3:(a * b).natAbs<=2147483647 * 2147483647:=by rw [Int.natAbs_mul];exact Ybg (by omega) (by omega)
 unfold I64;omega
section
variable {K:MK} {w w':World} {sv pv:Value} {st:List Int} {sp:List Spn} {at_ er:Int} {dn:Bool}
theorem ZnK {P:Nat} {e:Env} {d:Option Nat} {ty:TypeId} {pos:String} {af:Array Edge} {g:Option (Nat×Bool)} {y1 y2 y3:Operand} {ts:Array TypeId} (hK:KOk K) {x:Ins} {s nx:Shp}
 (h:Mch K w sv pv st sp at_ 0 false) (hn:Jj x s=some nx) (hs:Z0h s st) (hl:st.length<=100000) (gB:sp.length<=100000)
 (hx:ev e y1=some (Z3E Zkx x.op .nilFunc)) (hy:ev e y2=some (mP K)) (hz:ev e y3=some (.I x.n)) :
 OE Tryz.prog P ⟨d,.call { callee:=.value y1,args:=#[y2,y3],argTypes:=ts },ty,pos,af,g⟩ e w (λv w'=>v=.tuple #[]/\Z0f K w' x st sp sv pv at_):=by
 obtain ⟨fJ,st0,vs,ts',rfl,ce,dE⟩:=Zel hn hs;have hr:=Z8r fJ;obtain ⟨op,n⟩:=x;dsimp only at *;have cB:st0.length<=100000:=by rw [Xc] at hl;omega
 have eM:op=1\/op=2\/op=3\/op=4\/op=5\/op=6\/op=7\/op=8\/op=9\/op=10\/op=11\/op=12\/op=13\/op=14\/op=15\/op=16\/op=17\/op=18\/op=19\/op=20\/op=21\/op=22\/op=23\/op=24:=by omega
 rcases eM with rfl|rfl|rfl|rfl|rfl|rfl|rfl|rfl|rfl|rfl|rfl|rfl|rfl|rfl|rfl|rfl|rfl|rfl|rfl|rfl|rfl|rfl|rfl|rfl
 all_goals (simp [ZB] at fJ ce)
 all_goals (try subst ce)
 case inl|inr.inl|inr.inr.inl=>
  refine (Z4 (f:=128) hx (Zd hy hz) (Zth hK h hl n)).mono ?_;rintro v w' ⟨rfl,az⟩;refine ⟨rfl,?_⟩;unfold Z0f;have et:List.take (st0.length+vs.length) (st0++vs)=st0++vs:=XL (by simp);simpa [arM,Jz,JN,et] using az
 case inr.inr.inr.inl=>
  refine (Z4 (f:=129) hx (Zd hy hz) (Ztk hK h hl n (by omega) (by omega))).mono ?_;rintro v w' ⟨rfl,az⟩;refine ⟨rfl,?_⟩;unfold Z0f;have et:List.take (st0.length+vs.length) (st0++vs)=st0++vs:=XL (by simp);simpa [arM,Jz,JN,et] using az
 case inr.inr.inr.inr.inl=>
  obtain ⟨a,b,rfl,ha,hb⟩:=dE.two_inv;refine (Z4 (f:=130) hx (Zd hy hz) (ZxB hK h cB n (by have:=Z62 ha;have:=Z62 hb;unfold I64;omega))).mono ?_;rintro v w' ⟨rfl,az⟩;refine ⟨rfl,?_⟩;unfold Z0f;simpa [arM,Jz,JN,Z2P,Jp] using az
 case inr.inr.inr.inr.inr.inl=>
  obtain ⟨a,b,rfl,ha,hb⟩:=dE.two_inv;refine (Z4 (f:=131) hx (Zd hy hz) (ZxC hK h cB n (by have:=Z62 ha;have:=Z62 hb;unfold I64;omega))).mono ?_;rintro v w' ⟨rfl,az⟩;refine ⟨rfl,?_⟩;unfold Z0f;simpa [arM,Jz,JN,Z2P,Jp] using az
 case inr.inr.inr.inr.inr.inr.inl=>
  obtain ⟨a,b,rfl,ha,hb⟩:=dE.two_inv;refine (Z4 (f:=132) hx (Zd hy hz) (ZxD hK h cB n (ZxH ha hb))).mono ?_;rintro v w' ⟨rfl,az⟩;refine ⟨rfl,?_⟩;unfold Z0f;simpa [arM,Jz,JN,Z2P,Jp] using az
 case inr.inr.inr.inr.inr.inr.inr.inr.inl=>
  obtain ⟨a,b,rfl⟩:∃ a b,vs=[a,b]:=by
   rcases ce with rfl|rfl
   all_goals
    obtain ⟨a,b,h1,-⟩:=dE.two_inv;exact ⟨a,b,h1⟩
  refine (Z4 (f:=134) hx (Zd hy hz) (ltV hK h cB n trivial)).mono ?_;rintro v w' ⟨rfl,az⟩;refine ⟨rfl,?_⟩;unfold Z0f;simpa [arM,Jz,JN,Z2P,Jp] using az
 case inr.inr.inr.inr.inr.inr.inr.inr.inr.inl=>
  obtain ⟨a,b,rfl⟩:∃ a b,vs=[a,b]:=by
   rcases ce with rfl|rfl
   all_goals
    obtain ⟨a,b,h1,-⟩:=dE.two_inv;exact ⟨a,b,h1⟩
  refine (Z4 (f:=135) hx (Zd hy hz) (leV hK h cB n trivial)).mono ?_;rintro v w' ⟨rfl,az⟩;refine ⟨rfl,?_⟩;unfold Z0f;simpa [arM,Jz,JN,Z2P,Jp] using az
 case inr.inr.inr.inr.inr.inr.inr.inr.inr.inr.inl=>
  obtain ⟨a,b,rfl⟩:∃ a b,vs=[a,b]:=by
   rcases ce with rfl|rfl
   all_goals
    obtain ⟨a,b,h1,-⟩:=dE.two_inv;exact ⟨a,b,h1⟩
  refine (Z4 (f:=136) hx (Zd hy hz) (eqV hK h cB n trivial)).mono ?_;rintro v w' ⟨rfl,az⟩;refine ⟨rfl,?_⟩;unfold Z0f;simpa [arM,Jz,JN,Z2P,Jp] using az
 case inr.inr.inr.inr.inr.inr.inr.inr.inr.inr.inr.inr.inr.inr.inl=>
  obtain ⟨a,b,rfl,ha,hb⟩:=dE.two_inv;refine (Z4 (f:=140) hx (Zd hy hz) (ZwH hK h cB n (by have:=Z62 ha;have:=Z62 hb;unfold I64;omega))).mono ?_;rintro v w' ⟨rfl,az⟩;refine ⟨rfl,?_⟩;unfold Z0f;simpa [arM,Jz,JN,Z2P,Jp] using az
 case inr.inr.inr.inr.inr.inr.inr.inr.inr.inr.inr.inr.inr.inr.inr.inl=>
  obtain ⟨a,b,rfl,ha,hb⟩:=dE.two_inv;refine (Z4 (f:=141) hx (Zd hy hz) (Zti hK h cB n (by have:=Z62 ha;have:=Z62 hb;unfold I64;omega))).mono ?_;rintro v w' ⟨rfl,az⟩;refine ⟨rfl,?_⟩;unfold Z0f;simpa [arM,Jz,JN,Z2P,Jp] using az
 case inr.inr.inr.inr.inr.inr.inr.inr.inr.inr.inr.inr.inr.inr.inr.inr.inl=>
  obtain ⟨a,b,rfl,ha,hb⟩:=dE.two_inv;refine (Z4 (f:=142) hx (Zd hy hz) (ZnJ hK h cB n (ZL.2 ha.d))).mono ?_;rintro v w' ⟨rfl,az⟩;refine ⟨rfl,?_⟩;unfold Z0f;simpa [arM,Jz,JN,Z2P,Jp] using az
 case inr.inr.inr.inr.inr.inr.inr.inr.inr.inr.inr.inr.inr.inr.inr.inr.inr.inl=>
  obtain ⟨a,b,rfl,ha,hb⟩:=dE.two_inv;refine (Z4 (f:=143) hx (Zd hy hz) (Zto hK h cB gB n (ZL.2 ha.d))).mono ?_;rintro v w' ⟨rfl,az⟩;refine ⟨rfl,?_⟩;unfold Z0f;simpa [arM,Jz,JN,Z2P,Jp] using az
 case inr.inr.inr.inr.inr.inr.inr.inr.inr.inr.inr.inr.inr.inr.inr.inr.inr.inr.inr.inr.inl=>
  obtain ⟨a,b,rfl,ha,hb⟩:=dE.two_inv;refine (Z4 (f:=146) hx (Zd hy hz) (Ztj hK h cB n trivial)).mono ?_;rintro v w' ⟨rfl,az⟩;refine ⟨rfl,?_⟩;unfold Z0f;simpa [arM,Jz,JN,Z2P,Jp] using az
 case inr.inr.inr.inr.inr.inr.inr.inr.inr.inr.inr.inr.inr.inr.inr.inr.inr.inr.inr.inr.inr.inl=>
  obtain ⟨a,b,rfl,ha,hb⟩:=dE.two_inv;refine (Z4 (f:=147) hx (Zd hy hz) (Zkj hK h cB n trivial)).mono ?_;rintro v w' ⟨rfl,az⟩;refine ⟨rfl,?_⟩;unfold Z0f;simpa [arM,Jz,JN,Z2P,Jp] using az
 case inr.inr.inr.inr.inr.inr.inr.inr.inr.inr.inr.inr.inr.inr.inr.inr.inr.inr.inr.inr.inr.inr.inl=>
  obtain ⟨a,b,rfl,ha,hb⟩:=dE.two_inv;refine (Z4 (f:=148) hx (Zd hy hz) (Zkk hK h cB n (by have:=Z62 ha;have:=Z62 hb;unfold I64;omega))).mono ?_;rintro v w' ⟨rfl,az⟩;refine ⟨rfl,?_⟩;unfold Z0f;have e:Z4L (b - a)=(b - a,0):=by
   have:=ha.d;have:=hb.d;unfold Z4L;rw [if_neg (by omega)]
  rw [e] at az;simpa [arM,Jz,JN,Z2P,Jp] using az
 case inr.inr.inr.inr.inr.inr.inr.inl=>
  obtain ⟨b,rfl,hb⟩:=dE.one_inv;refine (Z4 (f:=133) hx (Zd hy hz) (ZxE hK h cB n (by have:=Z62 hb;unfold I64;omega))).mono ?_;rintro v w' ⟨rfl,az⟩;refine ⟨rfl,?_⟩;unfold Z0f;have e:Z4L (-b)=(-b,0):=by
   have:=Z62 hb;unfold Z4L;rw [if_neg (by omega)]
  rw [e] at az;simpa [arM,Jz,JN,ZaT,Z1P] using az
 case inr.inr.inr.inr.inr.inr.inr.inr.inr.inr.inr.inl=>
  obtain ⟨b,rfl,hb⟩:=dE.one_inv;refine (Z4 (f:=137) hx (Zd hy hz) (ZxF hK h cB n)).mono ?_;rintro v w' ⟨rfl,az⟩;refine ⟨rfl,?_⟩;unfold Z0f;have e:Z40 (decide (b=0))=1 - b:=by
   rcases hb.b with rfl|rfl<;>rfl
  rw [e] at az;simpa [arM,Jz,JN,ZaT,Z1P] using az
 case inr.inr.inr.inr.inr.inr.inr.inr.inr.inr.inr.inr.inr.inr.inr.inr.inr.inr.inl=>
  obtain ⟨b,rfl,hb⟩:=dE.one_inv;refine (Z4 (f:=144) hx (Zd hy hz) (ZwP hK h cB gB n)).mono ?_;rintro v w' ⟨rfl,az⟩;refine ⟨rfl,?_⟩;unfold Z0f;simpa [arM,Jz,JN,ZaT,Z1P] using az
 case inr.inr.inr.inr.inr.inr.inr.inr.inr.inr.inr.inr.inr.inr.inr.inr.inr.inr.inr.inl=>
  obtain ⟨b,rfl,hb⟩:=dE.one_inv;refine (Z4 (f:=145) hx (Zd hy hz) (ZwQ hK h cB gB n)).mono ?_;rintro v w' ⟨rfl,az⟩;refine ⟨rfl,?_⟩;unfold Z0f;simpa [arM,Jz,JN,ZaT,Z1P] using az
 case inr.inr.inr.inr.inr.inr.inr.inr.inr.inr.inr.inr.inl=>
  refine (Z4 (f:=138) hx (Zd hy hz) (ZwI hK h n)).mono ?_;rintro v w' ⟨rfl,az⟩;refine ⟨rfl,?_⟩;unfold Z0f;simpa using az
 case inr.inr.inr.inr.inr.inr.inr.inr.inr.inr.inr.inr.inr.inl=>
  obtain ⟨b,rfl,hb⟩:=dE.one_inv;refine (Z4 (f:=139) hx (Zd hy hz) (Znw hK h n)).mono ?_;rintro v w' ⟨rfl,az⟩;refine ⟨rfl,?_⟩;unfold Z0f;simpa [Z1P] using az
 case inr.inr.inr.inr.inr.inr.inr.inr.inr.inr.inr.inr.inr.inr.inr.inr.inr.inr.inr.inr.inr.inr.inr=>
  refine (Z4 (f:=149) hx (Zd hy hz) (ZwJ hK h n)).mono ?_;rintro v w' ⟨rfl,az⟩;refine ⟨rfl,?_⟩;unfold Z0f;simpa using az
end
abbrev ZnL (ev:List Int):Value:=.agg (evC ev).toArray
theorem ZnM (ev:List Int) (c:Cal) (hv cv zo zs hr:Value) (kn:Int) (b:Addr) (w) :
 (Instr.build 167 #[(0, ZnL ev), (1, Z5Z c hv cv zo zs hr), (2, .I kn), (7, .func (.func 80) #[] #[.pointer (some b)])]).run Tryz.prog w
   = .ok (.agg (evC ev++Z06 c hv cv zo zs hr++([.I kn,.N,.I 0,.I 0,.B false,.func (.func 80) #[] #[.pointer (some b)]]:List Value)).toArray) w:=by kernel_rfl
theorem Zky {x:Ins} {s nx:Shp} (hx:x.op=13) (hn:Jj x s=some nx):nx=s:=by
 obtain ⟨op,n⟩:=x;dsimp only at hx;subst hx;simp [Jj,ZB] at hn;exact hn.2.symm
theorem Zkz {x:Ins} {s nx:Shp} (hx:x.op=14) (hn:Jj x s=some nx):nx=s.dropLast:=by
 obtain ⟨op,n⟩:=x;dsimp only at hx;subst hx;simp [Jj,ZB] at hn;rw [YaH];exact hn.2.symm
def ZnN (K:MK) (code:List Ins) (sh:List (Option Shp)) (q:Nat×Bool) (w:World):Prop:=
 ∃ sv pv st sp at_ er, Mch K w sv pv st sp at_ er q.2/\
   (q.2=false->er=0/\at_=(q.1:Int)/\q.1<code.length/\sp.length<=q.1/\(∃ s,sh.getD q.1 none=some s/\Z0h s st)/\∃ f,code.length<=f+q.1/\Z4M (Zs K.c K.kn) K.ev code f q.1 st sp=Je (Zs K.c K.kn) K.ev code)/\
   (q.2=true->(er=0/\∃ x,st=[x]/\Je (Zs K.c K.kn) K.ev code=(x,sp,0))\/(er≠0/\Je (Zs K.c K.kn) K.ev code=(0,[],er)))
theorem ZnN.step {K:MK} {code:List Ins} {sh:List (Option Shp)} {i:Nat} {x:Ins} {s nx:Shp} {st:List Int} {sp:List Spn} {w} {sv pv:Value} {f:Nat} (hK:KOk K) (hi:i<code.length) (hx:code.getD i ⟨0,0⟩=x) (ai:sh.length=code.length)
 (hg:ZcK code sh i s nx) (gC:∀ s,some s∈sh->s.length<=16) (aA:Z0h s st) (bt:sp.length<=i) (hf:code.length<=f+i) (hr:Z4M (Zs K.c K.kn) K.ev code f i st sp=Je (Zs K.c K.kn) K.ev code)
 (h:Z0f K w x st sp sv pv ((i+1:Nat):Int)):∃ q:Nat×Bool,ZnN K code sh q w/\(if q.2=true then 0 else code.length+1 - q.1)<code.length+1 - i:=by
 obtain ⟨f,rfl⟩:∃ f',f=f'+1:=⟨f - 1,by omega⟩
 rw [Z4M] at hr;rw [hx] at hr;have hn:=hg.next;rw [hx] at hn;unfold Z0f at h;by_cases cJ:x.op=24;rw [if_pos cJ] at h hr;obtain ⟨cm,bq⟩:=hg.stop (by rw [hx];exact cJ);have fj:st.length=1:=by rw [<- aA.1];exact bq
 obtain ⟨a,rfl⟩:=Ybe.1 fj;refine ⟨(i,true),⟨sv,pv,[a],sp,_,0,h,(λhq=>by cases hq),λ_=>.inl ⟨rfl,a,rfl,?_⟩⟩,by simp;omega⟩;rw [<- hr];rfl;rw [if_neg cJ] at h hr;by_cases cD:x.op=13;rw [if_pos cD] at h hr;obtain ⟨j1,j2,j3⟩:=hg.jump (.inl (by rw [hx];exact cD));rw [hx] at j1 j2 j3;have dh:=Zky cD hn;subst dh;refine ⟨(x.n.toNat,false),⟨sv,pv,st,sp,_,0,h,λ_=>⟨rfl,by omega,by omega,by dsimp only;omega,⟨_,j3,aA⟩,f,by dsimp only;omega,hr⟩,λhq=>by cases hq⟩,by simp;omega⟩;rw [if_neg cD] at h hr;by_cases dx:x.op=14;rw [if_pos dx] at h hr;obtain ⟨j1,j2,j3⟩:=hg.jump (.inr (by rw [hx];exact dx));obtain ⟨o1,o2⟩:=hg.on (by rw [hx];exact cJ) (by rw [hx];exact cD);rw [hx] at j1 j2 j3;have dh:=Zkz dx hn;have iP:Z0h nx st.dropLast:=by
  rw [dh,YaH,YaH,<- aA.1];exact aA.take _
 obtain ⟨sv',h⟩:=h;by_cases hb:JR st 0=0;rw [if_pos hb] at h hr;exact ⟨(x.n.toNat,false),⟨sv',pv,st.dropLast,sp,_,0,h,λ_=>⟨rfl,by omega,by omega,by dsimp only;omega,⟨_,j3,iP⟩,f,by dsimp only;omega,hr⟩,λhq=>by cases hq⟩,by simp;omega⟩;rw [if_neg hb] at h hr;exact ⟨(i+1,false),⟨sv',pv,st.dropLast,sp,_,0,h,λ_=>⟨rfl,rfl,by omega,by dsimp only;omega,⟨_,o2,iP⟩,f,by dsimp only;omega,hr⟩,λhq=>by cases hq⟩,by simp;omega⟩;rw [if_neg dx] at h hr;obtain ⟨o1,o2⟩:=hg.on (by rw [hx];exact cJ) (by rw [hx];exact cD);obtain ⟨sv',pv',st',sp',hM,aO⟩:=h;by_cases he:(JN (Zs K.c K.kn) K.ev x (JR st 1) (JR st 0)).2=0
 . rw [if_pos he] at hr
   obtain ⟨e1,e2⟩:=aO he;subst e1 e2;rw [he] at hM;have ax:(Jz x.op (JR st 1) (JR st 0) (JN (Zs K.c K.kn) K.ev x (JR st 1) (JR st 0)).1).length<=1:=by
    unfold Jz;repeat' split
    all_goals simp
   refine ⟨(i+1,false),⟨sv',pv',_,_,_,0,hM,λ_=>⟨rfl,rfl,by omega,by dsimp only;rw [Xc];omega,⟨_,o2,Zcl hK.ev hn cJ cD dx aA he⟩,f,by dsimp only;omega,hr⟩,λhq=>by cases hq⟩,by simp;omega⟩
 rw [if_neg he] at hr;have hd:decide (¬ (JN (Zs K.c K.kn) K.ev x (JR st 1) (JR st 0)).2=0)=true:=decide_eq_true he;rw [hd] at hM;exact ⟨(i,true),⟨sv',pv',_,_,_,_,hM,(λhq=>by cases hq),λ_=>.inr ⟨he,hr.symm⟩⟩,by simp;omega⟩
theorem ZcM (v:Value) (code:List Ins) (t kn:Int) (ev:List Int) (c:Cal) (hv cv zo zs hr:Value) (w) (hs:SlV [] w v code) (rC:Z21 code=(t,0)) (dB:Z5Y w c hv cv zo zs hr) (bF:Ze3 ev) (ho:zo.oneCell'=true/\zs.oneCell'=true/\hr.oneCell'=true) :
 CC 50 #[v,ZnL ev,Z5Z c hv cv zo zs hr,.I kn] w λr w'=>∃ pv,r=.tuple #[.I (Je (Zs c kn) ev code).1,pv,.I (Je (Zs c kn) ev code).2.2]/\ZI 75 w w' pv (Je (Zs c kn) ev code).2.1:=by
 obtain ⟨cB,tV,sh,ai,aO,gC,ls,nP,df⟩:=Z8I rC;refine cW4 63 Tryz.func50 ?_;refine W ?_;refine Z0 (Zr rfl) rfl ?_;rintro _ w1 ⟨b5,rfl,jt,k5,hS⟩;replace k5:Blk w1 b5 113 (evC ev):=k5;refine Z0 (Zr rfl) rfl ?_;rintro _ w2 ⟨b6,rfl,eh,k6,ah⟩;replace k6:Blk w2 b6 35 (Z06 c hv cv zo zs hr):=k6;replace k5:=k5.up ah;replace hS:=hS.trans ah;refine W ?_;refine Z0 Z2 rfl ?_;rintro _ w3 ⟨bs,rfl,dD,ks,ak⟩;replace k5:=k5.up ak;replace k6:=k6.up ak;have wR:w.heap.size<=bs:=Xh hS.size dD;replace hS:=hS.trans ak;refine W ?_;refine Z7 (vs:=[(0,ZnL ev),(1,Z5Z c hv cv zo zs hr),(2,.I kn),(7,.func (.func 80) #[] #[pQ bs])]) rfl (ZnM ev c hv cv zo zs hr kn _) rfl ?_;refine Z0 (Zr rfl) rfl ?_;rintro _ w4 ⟨bm,rfl,kZ,km,aJ⟩;replace km:Blk w4 bm 167 (evC ev++Z06 c hv cv zo zs hr++[.I kn,.N,.I 0,.I 0,.B false,.func (.func 80) #[] #[pQ bs]]):=km;have wS:w.heap.size<=bm:=Xh hS.size kZ;have rD:bm≠bs:=by have:=ks.lt;omega
 replace ks:=ks.up aJ;replace hS:=hS.trans aJ;clear k5 k6 ah ak aJ;refine W ?_;refine CL (ZgP _) ?_;rintro _ w5 ⟨m,rfl,hm,au,aD⟩;obtain ⟨K,e1,e2,hk,e4,e5,e6,e7,e8,e9,e10,e11,e12⟩:∃ K:MK,K.w0=w5/\K.bm=bm/\K.nk=some bs/\K.ev=ev/\K.c=c/\K.kn=kn/\K.hv=hv/\K.cv=cv/\K.zo=zo/\K.zs=zs/\K.hr=hr/\K.pr=[]:=⟨⟨w5,bm,some bs,ev,c,kn,hv,cv,zo,zs,hr,[]⟩,rfl,rfl,rfl,rfl,rfl,rfl,rfl,rfl,rfl,rfl,rfl,rfl⟩
 subst e1 e2 e4 e5 e6 e7 e8 e9 e10 e11;have mr:=hS.trans aD;have own_ge:∀ b∈K.own,w.heap.size<=b:=λb hb=>by simp [MK.own,hk] at hb;omega
 have rE:m∉K.own:=λhb=>by
  have:=km.lt;have:=ks.lt;simp [MK.own,hk] at hb;omega
 have rF:=dB.up mr;have g1:3<w.heap.size:=by have:=block_lt_of_cell (dB.len 0 0 rfl);simpa using this
 have g2:4<w.heap.size:=by have:=block_lt_of_cell (dB.mov 0 0 rfl);simpa using this
 have hK:KOk K:=
  { hols := dB.hols.ext mr (by simp) (λb hb => .inr (own_ge b hb))
    clos:=dB.clos.ext mr (by simp) (λb hb=>.inr (own_ge b hb))
    ozo:=ho.1,ozs:=ho.2.1,ohr:=ho.2.2
    len:=rF.len,mov:=rF.mov
    bml:=(km.up aD).lt
    nkl:=λb hb=>by rw [hk] at hb;cases hb;exact ⟨(ks.up aD).lt,λh=>rD h.symm⟩
    gl:=λb hb=>by have:=own_ge b hb;omega
    cal:=dB.ok
    ev:=bF,nks:=by rw [hk];simp }
 have hM:Mch K K.w0 (.N) (.N) [] [] 0 0 false:=
  { blk := by unfold Z5Q; rw [hk]; exact km.up aD
    row:=Row.nil
    nt:=λb hb=>by rw [hk] at hb;cases hb;exact ⟨ks.up aD,Row.nil⟩
    nt0:=λ_=>rfl
    ap:=by simp [ob]
    stp:=Stp.refl _ _
    prot:=λp hp=>by rw [e12] at hp;cases hp }
 have aX:SlV K.own K.w0 v code:=hs.ext mr (by simp) (λb hb=>.inr (own_ge b hb));clear hs km ks rF;refine W ?_
 refine Zu (σ:=Nat×Bool) (λ_=>[(0,v),(11,pQ bs),(13,mP K),(14,.map (some m))])
  (λq w'=>ZnN K code sh q w') (λq=>if q.2=true then 0 else code.length+1 - q.1) (0,false) ⟨rfl,rfl,rfl,rfl,trivial⟩ ⟨_,_,[],[],0,0,hM,λ_=>⟨rfl,rfl,cB,Xn _,⟨[],ls,Z0h.nil⟩,code.length,Xn _,rfl⟩,λh=>by cases h⟩ ?_
 clear hM;rintro ⟨i,dn⟩ w6 ⟨sv,pv,st,sp,at_,er,hM,bj,hdone⟩;dsimp only at hM bj hdone ⊢;have ac:=hM.blk;unfold Z5Q at ac;cases dn with
 | false=>
   obtain ⟨rfl,rfl,hi,bt,⟨s,jG,aA⟩,f,hf,hr⟩:=bj rfl;obtain ⟨s',nx,hg⟩:=df i hi;have kw:s'=s:=by have:=hg.at_;rw [jG] at this;exact (XT this).symm
   subst kw;have ax:=aX.ext (X':=[]) hM.stp (λb hb=>hb) (by simp);have hx:code.getD i ⟨0,0⟩=code[i]:=by simp [List.getD,hi]
   have hn:=hg.next;rw [hx] at hn;have wT:s'.length<=16:=gC _ (by
    have kN:i<sh.length:=by omega
    rw [Xv,XD kN] at jG;simp only [YaC] at jG;rw [<- jG];exact Xd kN)
   refine W ?_;refine Z0 Z2 rfl ?_;rintro _ w7 ⟨b15,rfl,rG,e15,aQ⟩;have lY:=ac.lt;refine W ?_;refine SA (us:=Z3.enc code[i]) e15 ?_;rintro _ w8 ⟨hT,k15⟩;replace aQ:=aQ.ow hT;clear e15 hT;replace hM:=hM.up aQ;replace ac:=ac.up aQ;refine W ?_;refine Z6 (Zb (u:=.I ((i:Int)+1)) rfl rfl rfl rfl ac (by simp [evC,Z06])) ?_;rintro _ w9 ⟨gu,nQ⟩;replace hM:=hM.put hK (at':=((i+1:Nat):Int)) (er':=0) (dn':=false) gu nQ;replace k15:=k15.ext gu (by simp;omega);have aM:=au.ext hM.stp rE;refine W ?_;refine Z8 (Z1N rfl rfl aM) rfl ?_;refine W ?_;refine Z0 (ZnK hK hM hn aA (by rw [<- aA.1];omega) (by omega) rfl rfl rfl) rfl ?_;rintro _ w10 ⟨rfl,az⟩;obtain ⟨q,hq,hlt⟩:=ZnN.step hK hi hx ai hg gC aA bt hf hr az;refine W ?_;exact QL q hq (by simpa using hlt)
 | true=>
   have fin:∀ w' pv',Stp K.own K.w0 w'->Row [] w' K.w0.heap.size 75 pv' (Je (Zs K.c K.kn) K.ev code).2.1->ZI 75 w w' pv' (Je (Zs K.c K.kn) K.ev code).2.1:=λw' pv' h1 h2=>
    ⟨h2.lower mr.size,mr.own h1 (λb hb=>.inr (own_ge b hb))⟩
   rcases hdone rfl with ⟨rfl,x,rfl,hR⟩|⟨he,hR⟩
   obtain ⟨ks,ab⟩:=hM.nt bs hk;refine W ?_;refine ZDr 6 ([K.bm]) [] [(0,0),(2,1),(1,2),(3,0),(4,0),(5,0)] (λw1 ae=>?_);replace hM:=hM.up ae;replace ks:=ks.up ae;replace ab:=ab.up ae;refine D ?_;refine DC (ZcD (st:=[]) hK hM) (λ_ _ h=>h.2.2) ?_;rintro _ w7 ⟨rfl,⟨sv',tW⟩,aQ⟩;obtain ⟨ks7,iO⟩:=tW.nt bs hk;refine D ?_;refine W ?_;refine WR ?_;refine .mk ⟨pv,by rw [hR],fin _ _ tW.stp ?_⟩;rw [hR];exact iO;refine QO ?_;refine ZDr 7 [] [] [(0,0),(1,0),(2,0),(3,1),(4,0),(5,0),(6,0)] (λw1 ae=>?_);replace hM:=hM.up ae;replace ac:=ac.up ae;refine D ?_;refine W ?_;refine WR ?_;refine .mk ⟨.N,by rw [hR],fin _ _ hM.stp ?_⟩;rw [hR];exact Row.nil
theorem Z1s (n a b:Int) (w):CC 48 #[.I n,.I a,.I b] w λr w'=>r=.B (decide (a<=n/\n<=b))/\Stp [] w w':=by
 refine cW3 15 Tryz.func48 ?_
 (refine QP ?_ ?_<;>intro hg)
 refine RU ?_;exact ⟨by congr 1;rw [decide_eq_decide];exact ⟨λh=>⟨by omega,h⟩,λh=>h.2⟩,Stp.refl _ _⟩;refine RU ?_;exact ⟨by congr 1;symm;exact decide_eq_false (λh=>by omega),Stp.refl _ _⟩
theorem ZgQ (a b c d e:Int) (w):(Instr.build 113 #[(0,.I a),(1,.I (-1)),(3,.I b),(4,.I c),(5,.I d),(6,.I e)]).run Tryz.prog w=.ok (ZnL [a,-1,0,b,c,d,e]) w:=by kernel_rfl
theorem ZgR (op a b r:Int):(Jz op a b r).length<=1:=by
 unfold Jz;repeat' split
 all_goals first|exact Xn _|exact Xq _
theorem Z63 (o:Int->Bool) (ev:List Int) (C:List Ins):∀ (f i:Nat) (st:List Int) (sp:List Spn),(Z4M o ev C f i st sp).2.1.length<=sp.length+f
 | 0,_,_,_=>by simp [Z4M]
 | f + 1, i, st, sp => by
   rw [Z4M];split;simp;split;have:=Z63 o ev C f (C.getD i ⟨0,0⟩).n.toNat st sp;omega;split;have:=Z63 o ev C f (if JR st 0=0 then (C.getD i ⟨0,0⟩).n.toNat else i+1) st.dropLast sp;omega;split;refine Xh (Z63 o ev C f _ _ _) ?_;have:=ZgR (C.getD i ⟨0,0⟩).op (JR st 1) (JR st 0) (JN o ev (C.getD i ⟨0,0⟩) (JR st 1) (JR st 0)).1;rw [Xc];omega;simp
def evL (c:Cas) (f:Fct):List Int:=
 let s:=Z4P c.atts c.crrs f.entry f.to_
 [f.day,if s.2=true then s.1.day else -1,if s.2=true then s.1.extra else 0,f.by_,f.to_,c.court,f.amt]
def opn (c:Cas):Int->Bool:=Zs c.cal c.today
def noD:Dln×Bool:=(default,false)
def mkD (c:Cas) (f:Fct) (r:Int) (q:Cr) (day due:Int) (sp:List Spn):Dln:=
 let s:=Z4P c.atts c.crrs f.entry f.to_
 let a:=Z98 c.fcts f q.unl due
 { rule := q.name, trig := f, party := f.to_, due := due, stat := if a.2 = true then 1 else if due < c.today then 2 else 0,
   reas:=[⟨1,f.entry,f.day⟩,⟨2,r,0⟩]++(if s.2=true/\(Z4Y q.cnd=true\/Z4Y q.due=true) then [⟨3,s.1.att,s.1.day⟩] else [])
    ++ sp.map (λx=>⟨4,x.1,x.2⟩)++(Z4Z f.day day c.stys).map (λx=>⟨5,x.1,x.2⟩)++(if a.2=true then [⟨6,a.1.entry,a.1.day⟩] else []) }
def Z0F (c:Cas) (f:Fct) (r:Int):Dln×Bool:=
 if ¬ (0<=r/\r<=(c.ruls.length:Int) - 1) then noD else
 let q:=c.ruls.getD r.toNat crZ
 if q.on≠f.kind\/ZaU c.ruls q.name f.day≠r then noD else
 let x:=Je (opn c) (evL c f) q.cnd
 if x.2.2≠0\/x.1=0 then noD else
 let y:=Je (opn c) (evL c f) q.due
 if y.2.2≠0 then noD else
 let z:=Z27 f.day y.1 c.stys
 if z.2≠0 then noD else
 if z.1=y.1 then (mkD c f r q y.1 y.1 (x.2.1++y.2.1),true) else
 let n:=ZQ (opn c) 1 z.1
 if n.2≠0 then noD else (mkD c f r q y.1 n.1 (x.2.1++y.2.1++[(z.1,n.1)]),true)
structure Z64 (c:Cas):Prop where
 fl:c.fcts.length<=100000
 rl:c.ruls.length<=1024
 cnd:∀ q∈c.ruls,Z21 q.cnd=(2,0)
 due:∀ q∈c.ruls,Z21 q.due=(3,0)
 att:Znv c.atts c.crrs
 ext:∀ x∈c.crrs,0<=x.extra/\x.extra<=1000
 sty:Z8y c.stys
 court:0<=c.court/\c.court<=15
 today:0<=c.today/\c.today<=3652058
structure Z0C (f:Fct):Prop where
 day:0<=f.day/\f.day<=3652058
 by_:0<=f.by_/\f.by_<=63
 to_:0<=f.to_/\f.to_<=63
 amt:-2147483647<=f.amt/\f.amt<=2147483647
structure Z2k (w:World) (c:Cas) (R:Z0X):Prop where
 ff:SlV [] w R.fv c.fcts
 rr:SlV [] w R.rv c.ruls
 aa:SlV [] w R.av c.atts
 cc:SlV [] w R.cv c.crrs
 ss:SlV [] w R.sv c.stys
 cal:Z5Y w c.cal R.hv R.lv R.zo R.zs R.hr
 one:R.zo.oneCell'=true/\R.zs.oneCell'=true/\R.hr.oneCell'=true
theorem Z2k.up {w w':World} {c:Cas} {R:Z0X} (h:Z2k w c R) (hS:Stp [] w w'):Z2k w' c R:=⟨h.ff.up hS,h.rr.up hS,h.aa.up hS,h.cc.up hS,h.ss.up hS,h.cal.up hS,h.one⟩
theorem Z49 {o:Int->Bool} {ev:List Int} {C:List Ins} {t:Int} (bF:Ze3 ev) {sh:List (Option Shp)} (ai:sh.length=C.length) (df:∀ i,i<C.length->∃ s nx,ZcK C sh i s nx) (dP:sh.getD (C.length - 1) none=some [t]) :
 ∀ (f i:Nat) (s:Shp) (st:List Int) (sp sp':List Spn) (v:Int),i<C.length->sh.getD i none=some s->Z0h s st->C.length<=f+i->Z4M o ev C f i st sp=(v,sp',0)->vOk t v
 | 0,i,s,st,sp,sp',v,hi,hs,aA,hf,hr=>by omega
 | f + 1, i, s, st, sp, sp', v, hi, hs, aA, hf, hr => by
   obtain ⟨s',nx,hg⟩:=df i hi;obtain rfl:s'=s:=by have:=hg.at_;rw [hs] at this;simpa using this.symm
   rw [Z4M] at hr;have hn:=hg.next;have hstop:=hg.stop;have kA:=hg.jump;have jy:=hg.on;generalize C.getD i ⟨0,0⟩=x at *
   try dsimp only at hr
   by_cases cJ:x.op=24;rw [if_pos cJ] at hr;obtain ⟨a1,a2⟩:=hstop cJ;rw [show i=C.length - 1 by omega,dP] at hs;obtain rfl:[t]=s':=by simpa using hs
   obtain ⟨u,rfl,hu⟩:=aA.one_inv;simp [JR] at hr;rw [<- hr.1];exact hu;rw [if_neg cJ] at hr;by_cases cD:x.op=13;rw [if_pos cD] at hr;obtain ⟨j1,j2,j3⟩:=kA (.inl cD);have dh:=Zky cD hn;subst dh;exact Z49 bF ai df dP f x.n.toNat _ st sp sp' v (by omega) j3 aA (by omega) hr;rw [if_neg cD] at hr;by_cases dx:x.op=14;rw [if_pos dx] at hr;obtain ⟨j1,j2,j3⟩:=kA (.inr dx);obtain ⟨o1,o2⟩:=jy cJ cD;have dh:=Zkz dx hn;have iP:Z0h nx st.dropLast:=by
    rw [dh,YaH,YaH,<- aA.1];exact aA.take _
   by_cases hb:JR st 0=0;rw [if_pos hb] at hr;exact Z49 bF ai df dP f _ _ _ sp sp' v (by omega) j3 iP (by omega) hr;rw [if_neg hb] at hr;exact Z49 bF ai df dP f _ _ _ sp sp' v (by omega) o2 iP (by omega) hr;rw [if_neg dx] at hr;obtain ⟨o1,o2⟩:=jy cJ cD;by_cases he:(JN o ev x (JR st 1) (JR st 0)).2=0;rw [if_pos he] at hr;exact Z49 bF ai df dP f _ _ _ _ sp' v (by omega) o2 (Zcl bF hn cJ cD dx aA he) (by omega) hr;rw [if_neg he] at hr;simp only [Prod.mk.injEq] at hr;exact absurd hr.2.2 he
theorem Z8J {o:Int->Bool} {ev:List Int} {C:List Ins} {t:Int} (bF:Ze3 ev) (hv:Z21 C=(t,0)) (h:(Je o ev C).2.2=0):vOk t (Je o ev C).1:=by
 obtain ⟨h0,rH,sh,ai,aO,gC,ls,nP,df⟩:=Z8I hv;exact Z49 bF ai df nP C.length 0 [] [] [] _ _ h0 ls Z0h.nil (by omega) (show Je o ev C=((Je o ev C).1,(Je o ev C).2.1,0) by rw [<- h])
theorem Z8K {o:Int->Bool} {ev:List Int} {C:List Ins} {t:Int} (hv:Z21 C=(t,0)):(Je o ev C).2.1.length<=200:=by
 obtain ⟨h0,rH,_⟩:=Z8I hv;have:=Z63 o ev C C.length 0 [] [];unfold Je;simp only [Xg] at this;omega
def Z9V (s:AlS):Prop:=∀ y∈s.out,-1<=y.2/\y.2<=3652058
theorem ZkA {l:List Rtn} {crrs:List Crr} {s:AlS} {x:Spn} (h:Z9V s) (hx:-1<=x.2/\x.2<=3652058):Z9V (Z0B l crrs s x):=by
 unfold Z0B;dsimp only;split;exact h;have ht:Z9V (if Z1z l crrs x.1<s.least then (⟨Z1z l crrs x.1,false,[]⟩:AlS) else s):=by
  split;intro y hy;cases hy;exact h
 generalize (if Z1z l crrs x.1<s.least then (⟨Z1z l crrs x.1,false,[]⟩:AlS) else s)=t at *;split;rename_i y hy;split;intro z hz;rcases Xf.1 hz with hz|hz
 exact ht z (List.dropLast_subset _ hz);simp only [Xi] at hz;subst hz;exact hx;intro z hz;rcases Xf.1 hz with hz|hz
 exact ht z hz;simp only [Xi] at hz;subst hz;exact hx;intro z hz;rcases Xf.1 hz with hz|hz
 exact ht z hz;simp only [Xi] at hz;subst hz;exact hx
theorem ZcN {l:List Rtn} {crrs:List Crr}:∀ (L:List Spn) (s:AlS),Z9V s->(∀ x∈L,-1<=x.2/\x.2<=3652058)->Z9V (L.foldl (Z0B l crrs) s)
 | [],_,h,_=>h
 | x :: L,s,h,hL=>ZcN L _ (ZkA h (hL x (by simp))) (λy hy=>hL y (by simp [hy]))
theorem ZkB (l:List Rtn) (crrs:List Crr) {sent:Int} (hs:0<=sent/\sent<=3652058):-1<=(Zb3 l crrs sent).1/\(Zb3 l crrs sent).1<=3652058:=by
 unfold Zb3;have ho:Z9V (Zgz l crrs sent):=ZcN _ _ (λy hy=>by cases hy) (λx hx=>⟨(Z8E hs hx).2.2.1,(Z8E hs hx).2.2.2⟩);dsimp only;split;simp;split;rename_i y hy;exact ho y (List.mem_of_getLast? hy);simp
theorem Zfm (l:List Atp) (crrs:List Crr) (en pa:Int):∀ (k:Nat),k<=l.length->∀ s∈ofG l crrs en pa k,∃ j,∃ h:j<l.length,s=ofE crrs l[j] j
 | 0,_,s,h=>by simp [ofG] at h
 | k + 1, hk, s, h => by
   rw [ofG] at h;rcases Xf.1 h with h|h
   exact Zfm l crrs en pa k (by omega) s h;split at h;simp only [Xi] at h;exact ⟨k,by omega,by rw [h];simp [show k<l.length by omega]⟩;cases h
theorem Z9W (l:List Svc):∀ k,k<l.length->Z2q l k∈l
 | 0,h=>by simp [Z2q,h]
 | k + 1, h => by
   rw [Z2q];split;simp [h];exact Z9W l k (by omega)
theorem ZnO {l:List Atp} {crrs:List Crr} (en pa:Int) (ho:Znv l crrs) (hx:∀ x∈crrs,0<=x.extra/\x.extra<=1000) :
 -1<=(Z4P l crrs en pa).1.day/\(Z4P l crrs en pa).1.day<=3652058/\0<=(Z4P l crrs en pa).1.extra/\(Z4P l crrs en pa).1.extra<=1000:=by
 have hm:=Zfm l crrs en pa l.length (Xn _);show -1<=(Z50 (ofG l crrs en pa l.length)).1.day/\(Z50 (ofG l crrs en pa l.length)).1.day<=3652058/\0<=(Z50 (ofG l crrs en pa l.length)).1.extra/\(Z50 (ofG l crrs en pa l.length)).1.extra<=1000;generalize ofG l crrs en pa l.length=L at *;unfold Z50;split;simp;rename_i aU;obtain ⟨j,hj,e⟩:=hm _ (Z9W L (L.length - 1) (by have:=Yab.2 aU;omega));dsimp only;rw [e];have hs:=ZkB l[j].rets crrs (ho.sent _ (Xd hj));have hc:=ho.crr _ (Xd hj);obtain ⟨m,hm⟩:∃ m:Nat,l[j].crr=m:=⟨l[j].crr.toNat,by omega⟩
 have bI:m<crrs.length:=by omega
 have mo:=hx _ (Xd bI);simp only [ofE,hm];rw [show crrs.getD ((m:Int).toNat) ⟨0,0⟩=crrs[m] by simp [bI]];omega
theorem ZkC {c:Cas} {f:Fct} (ho:Z64 c) (hf:Z0C f):Ze3 (evL c f):=by
 have h:=ZnO f.entry f.to_ ho.att ho.ext;have h1:=hf.day;have h2:=hf.by_;have h3:=hf.to_;have h4:=hf.amt;have h5:=ho.court;unfold evL;dsimp only;generalize Z4P c.atts c.crrs f.entry f.to_=s at *;refine ⟨rfl,h1,?_,?_⟩;show -1<=(if s.2=true then s.1.day else -1)/\(if s.2=true then s.1.day else -1)<=3652058;split<;>omega
 intro i cn ru;obtain rfl|rfl|rfl|rfl|rfl:i=2\/i=3\/i=4\/i=5\/i=6:=by omega
 show -2147483647<=(if s.2=true then s.1.extra else 0)/\(if s.2=true then s.1.extra else 0)<=2147483647;split<;>omega
 show -2147483647<=f.by_/\f.by_<=2147483647;omega;show -2147483647<=f.to_/\f.to_<=2147483647;omega;show -2147483647<=c.court/\c.court<=2147483647;omega;exact h4
theorem Z2v (w):(Instr.build 56 #[]).run Tryz.prog w=.ok (.agg (dlC (default:Dln) Jo).toArray) w:=by kernel_rfl
theorem Z2w:∀ u∈dlC (default:Dln) Jo,u.oneCell'=true:=by decide
theorem ZnP (ev:List Int):∀ u∈evC ev,u.oneCell'=true:=by
 intro u hu;unfold evC at hu;simp only [Xb,Xj,or_false] at hu;rcases hu with rfl|rfl|rfl|rfl|rfl|rfl|rfl<;>rfl
theorem ZnQ (s:Str) (f:Fct) (a b:Int) (w):(Instr.build 56 #[(0,str s),(1,aG f),(2,.I a),(3,.I b)]).run Tryz.prog w=.ok (.agg (dlC (⟨s,f,a,b,0,[]⟩:Dln) Jo).toArray) w:=by kernel_rfl
theorem Z65 (a b:Int) (w):(Instr.build 75 #[(0,.I a),(1,.I b)]).run Tryz.prog w=.ok (.agg (Z3.enc ((a,b):Spn)).toArray) w:=by kernel_rfl
theorem Zbc (d:Dln) {rv:Value} (h:rv.oneCell'=true):∀ u∈dlC d rv,u.oneCell'=true:=by
 intro u hu;simp only [dlC,Xb,Xj,or_false] at hu;rcases hu with rfl|rfl|rfl|rfl|rfl|rfl|rfl|rfl|rfl|rfl|rfl<;>first|rfl|assumption
theorem Nte.up {w0 w w':World} {bd:Nat} {d:Dln} {rv:Value} (h:Nte w0 bd w d rv) (hT:Stp [] w w'):Nte w0 bd w' d rv:=⟨h.blk.up hT,h.row.up hT,h.stp.trans hT.mn,h.lt,h.len⟩
theorem Nte.stat {w0 w w':World} {bd:Nat} {d d':Dln} {rv:Value} (h:Nte w0 bd w d rv) (hT:Stp [bd] w w') (hb:Blk w' bd 56 (dlC d' rv)) (he:d'.reas=d.reas):Nte w0 bd w' d' rv:=
 ⟨hb,by rw [he];exact h.row.ext hT (λb dr=>⟨dr,λh2=>by have:=(h.row.ob_le b h2).1;have:=h.lt;simp at dr;omega⟩) (λb hb=>.inl hb),h.stp.trans hT,h.lt,by rw [he];exact h.len⟩
abbrev dU (q:Cr) (f:Fct) (due st:Int) (l:List Rsn):Dln:=⟨q.name,f,f.to_,due,st,l⟩
theorem Zfn (c:Cas) (R:Z0X) (f:Fct) (r:Int) (w) (hv:Z2k w c R) (ho:Z64 c) (hf:Z0C f) (hr:I64 r) :
 CC 24 #[.agg (Jl c R).toArray,aG f,.I r] w λv w'=>∃ rv,v=.tuple #[.agg (dlC (Z0F c f r).1 rv).toArray,.B (Z0F c f r).2]/\ZI 67 w w' rv (Z0F c f r).1.reas:=by
 generalize aF:Z0F c f r=o;have iZ:=ho.rl;refine cW3 246 Tryz.func24 ?_;refine W ?_;refine BX (Stp.refl [] w) λb3 w1 h3 e3 _ hS=>?_;replace e3:Blk w1 b3 37 (Jl c R):=e3;refine BX hS λb4 w2 h4 e4 hT hS=>?_;replace e4:Blk w2 b4 45 (Z3.enc f):=e4;replace e3:=e3.up hT;refine W ?_;refine Z0 Z2 rfl ?_;rintro _ w3 ⟨b6,rfl,eh,e6,hT⟩;have g6:w.heap.size<=b6:=Xh hS.size eh;replace e6:Blk w3 b6 56 (dlC (default:Dln) Jo):=e6;replace e3:=e3.up hT;replace e4:=e4.up hT;replace hS:=hS.trans hT;clear hT;have tX:=hv.up hS;have eE:=tX.rr;refine W ?_;refine CP hS (Z1s _ _ _ _) λw4 hT hS=>?_;replace e3:=e3.up hT;replace e4:=e4.up hT;replace e6:=e6.up hT;clear hT tX eE;by_cases hw:0<=r/\r<=(c.ruls.length:Int) - 1
 rotate_left
 rw [Z0F,if_pos hw] at aF;rw [decide_eq_false hw];refine QO ?_;refine Z7 (vs:=[]) rfl Z2v rfl ?_;refine SB (us:=dlC (default:Dln) Jo) Z2w e6 ?_;rintro _ wz ⟨hT,e6⟩;refine W ?_;refine Zm rfl rfl rfl e6 rfl rfl ?_;subst aF;exact .mk ⟨Jo,rfl,ZI.nil.up (hS.ow hT)⟩;rw [Z0F,if_neg (not_not_intro hw)] at aF;rw [decide_eq_true hw];obtain ⟨i,rfl⟩:∃ i:Nat,r=i:=⟨r.toNat,by omega⟩
 have hi:i<c.ruls.length:=by omega
 rw [show c.ruls.getD ((i:Int).toNat) crZ=c.ruls[i] by simp [hi]] at aF;dsimp only at aF;have fw:=(ho.cnd _ (Xd hi))
 have ge:=(ho.due _ (Xd hi))
 have eF:=hv.up hS;have eE:=eF.rr;obtain ⟨cs,⟨kc,kd,rfl,gc,gd⟩,an⟩:=hv.rr.cell hi;refine QO ?_;refine Z8 (Z25 rfl rfl eE hi ⟨kc,kd,rfl,gc.up hS,gd.up hS⟩ (λj u hu=>hS.cell0 (an j u hu))) rfl ?_;refine Z0 Z2 rfl ?_;rintro _ w5 ⟨b8,rfl,eO,e8,hT⟩;refine SB (us:=crC c.ruls[i] kc kd) (Z0k gc gd) e8 ?_;rintro _ w6 ⟨ar,e8⟩;replace hT:=hT.ow ar;replace e3:=e3.up hT;replace e4:=e4.up hT;replace e6:=e6.up hT;replace hS:=hS.trans hT;clear hT ar an eE eF;generalize hq:c.ruls[i]=q at *;have eE:=(hv.up hS).rr;have l8:=e8.lt
 (refine QP ?_ ?_<;>intro hg)
 rw [if_pos (.inl (by assumption))] at aF;refine Z7 (vs:=[]) rfl Z2v rfl ?_;refine SB (us:=dlC (default:Dln) Jo) Z2w e6 ?_;rintro _ wz ⟨hT,e6⟩;refine W ?_;refine Zm rfl rfl rfl e6 rfl rfl ?_;subst aF;exact .mk ⟨Jo,rfl,ZI.nil.up (hS.ow hT)⟩;refine CP hS (Z42 R.rv c.ruls q.name f.day _ eE) λw7 hT hS=>?_;replace e3:=e3.up hT;replace e4:=e4.up hT;replace e6:=e6.up hT;replace e8:=e8.up hT;clear eE;by_cases ha:ZaU c.ruls q.name f.day=i
 rotate_left
 rw [if_pos (.inr ha)] at aF;refine QO ?_;refine Z7 (vs:=[]) rfl Z2v rfl ?_;refine SB (us:=dlC (default:Dln) Jo) Z2w e6 ?_;rintro _ wz ⟨hT,e6⟩;refine W ?_;refine Zm rfl rfl rfl e6 rfl rfl ?_;subst aF;exact .mk ⟨Jo,rfl,ZI.nil.up (hS.ow hT)⟩;rw [if_neg (λh=>h.elim (λh=>absurd h (by assumption)) (λh=>h ha))] at aF;refine QO ?_;refine Z7 (vs:=[(0,.I f.day),(1,.I (-1)),(3,.I f.by_),(4,.I f.to_),(5,.I c.court),(6,.I f.amt)]) rfl (ZgQ _ _ _ _ _) rfl ?_;refine Z0 Z2 rfl ?_;have l3:=e3.lt;have l4:=e4.lt;have l6:=e6.lt;have l8':=e8.lt;rintro _ w8 ⟨b9,rfl,iI,e9,hT⟩;have g9:w.heap.size<=b9:=Xh hS.size iI;refine SB (us:=evC [f.day,-1,0,f.by_,f.to_,c.court,f.amt]) (ZnP _) e9 ?_;rintro _ w9 ⟨ar,e9⟩;replace hT:=hT.ow ar;replace e3:=e3.up hT;replace e4:=e4.up hT;replace e6:=e6.up hT;replace e8:=e8.up hT;replace hS:=hS.trans hT;clear hT ar;have rI:=hv.up hS;refine QO ?_;refine CP hS (Ztg R.av R.cv c.atts c.crrs f.entry f.to_ _ rI.aa rI.cc ho.att) λw10 hT hS=>?_;replace e3:=e3.up hT;replace e4:=e4.up hT;replace e6:=e6.up hT;replace e8:=e8.up hT;replace e9:=e9.up hT;clear hT rI;have l9:=e9.lt;generalize aX:Z4P c.atts c.crrs f.entry f.to_=s at *;obtain ⟨s,ok⟩:=s;refine QO ?_;refine Z0 Z2 rfl ?_;rintro _ w11 ⟨b10,rfl,dL,e10,hT⟩;refine SA (us:=Z3.enc s) e10 ?_;rintro _ w12 ⟨ar,e10⟩;replace hT:=hT.ow ar;replace e3:=e3.up hT;replace e4:=e4.up hT;replace e6:=e6.up hT;replace e8:=e8.up hT;replace e9:=e9.up hT;replace hS:=hS.trans hT;clear hT ar;refine W ?_;have e9':=e9
 refine Ju (σ:=Unit) (λ_=>[(2,.I (i:Int)),(3,pQ b3),(4,pQ b4),(6,pQ b6),(8,pQ b8),(9,pQ b9),(10,pQ b10),(11,.B ok)])
  (λ_ w'=>Stp [b9] w12 w'/\Blk w' b9 113 (evC (evL c f))) ?_ ?_
 have rJ:evL c f=[f.day,if ok=true then s.day else -1,if ok=true then s.extra else 0,f.by_,f.to_,c.court,f.amt]:=by
  unfold evL;rw [aX]
 rw [rJ]
 (refine QP ?_ ?_<;>intro hc)
 refine ZDr 8 [b9] [] [(0,0),(1,1),(2,0),(3,1),(4,0),(5,2),(6,0),(7,2)] (λw1 ae=>?_);replace e9:=e9.up ae;replace e10:=e10.up ae;have c10:_=some (Value.int .i64 s.day):=e10.cell (j:=0) rfl;have c11:_=some (Value.int .i64 s.extra):=e10.cell (j:=1) rfl;focus repeat'(first|refine D1 ?_|omega|refine JS rfl (by first|exact trivial|exact rfl) rfl rfl (by assumption) rfl ?_|refine Zk rfl rfl rfl rfl (λhg=>?_) (λhg=>?_)|(refine Zh rfl rfl rfl rfl (λhg=>?_) (λhg=>?_)<;>refine D1 ?_)|fail)
 refine Z0s rfl trivial (Zb rfl rfl rfl rfl e9 (by simp [evC])) (λ_ _ h=>h.1) ?_;rintro _ w13 ⟨hT,e9⟩;focus repeat'(first|refine D1 ?_|omega|refine JS rfl (by first|exact trivial|exact rfl) rfl rfl (by assumption) rfl ?_|refine Zk rfl rfl rfl rfl (λhg=>?_) (λhg=>?_)|(refine Zh rfl rfl rfl rfl (λhg=>?_) (λhg=>?_)<;>refine D1 ?_)|fail)
 refine Z0s rfl trivial (Zb rfl rfl rfl rfl e9 (by simp [evC])) (λ_ _ h=>h.1) ?_;rintro _ w14 ⟨ar,e9⟩;focus repeat'(first|refine D1 ?_|omega|refine JS rfl (by first|exact trivial|exact rfl) rfl rfl (by assumption) rfl ?_|refine Zk rfl rfl rfl rfl (λhg=>?_) (λhg=>?_)|(refine Zh rfl rfl rfl rfl (λhg=>?_) (λhg=>?_)<;>refine D1 ?_)|fail)
 exact QT () ⟨(ae.mn.own hT (λc hc=>.inl hc)).own ar (λc hc=>.inl hc),by rw [show ok=true by assumption];exact e9⟩;rw [show ok=false by simpa using ‹_›];exact QT () ⟨Stp.refl _ _,e9⟩;rintro _ w13 ⟨hT,e9⟩;replace e3:=e3.ext hT (by simp;omega);replace e4:=e4.ext hT (by simp;omega);replace e6:=e6.ext hT (by simp;omega);replace e8:=e8.ext hT (by simp;omega);replace e10:=e10.ext hT (by simp;omega);replace hS:=hS.ow hT;clear hT;have bF:=ZkC ho hf;have gW:=hv.up hS;have l3:=e3.lt;have l4:=e4.lt;have l6:=e6.lt;have l8:=e8.lt;have l10:=e10.lt;rw [show opn c=Zs c.cal c.today from rfl] at aF;have cR:=hS;have f3:=e3;have f4:=e4;have f6:=e6;have f8:=e8;have f10:=e10;refine W ?_;refine Z8 (Zl rfl rfl e3 (us:=Z06 c.cal R.hv R.lv R.zo R.zs R.hr) rfl rfl) rfl ?_;refine W ?_;refine CL (ZcM kc q.cnd 2 c.today (evL c f) c.cal R.hv R.lv R.zo R.zs R.hr _ (gc.up hS) fw gW.cal bF gW.one) ?_;rintro _ w14 ⟨pv,rfl,fE⟩;have jH:=Z8K (o:=Zs c.cal c.today) (ev:=evL c f) fw;generalize Je (Zs c.cal c.today) (evL c f) q.cnd=x at *;obtain ⟨x1,xs,xe⟩:=x;dsimp only at aF fE jH ⊢;have hT:=fE.2;replace e3:=e3.up hT;replace e4:=e4.up hT;replace e6:=e6.up hT;replace e8:=e8.up hT;replace e9:=e9.up hT;replace e10:=e10.up hT;replace hS:=hS.trans hT;clear hT gW;by_cases iU:xe=0
 rotate_left
 rw [if_pos (.inl iU)] at aF;refine QO ?_;refine Z7 (vs:=[]) rfl Z2v rfl ?_;refine SB (us:=dlC (default:Dln) Jo) Z2w e6 ?_;rintro _ wz ⟨hT,e6⟩;refine W ?_;refine Zm rfl rfl rfl e6 rfl rfl ?_;subst aF;exact .mk ⟨Jo,rfl,ZI.nil.up (hS.ow hT)⟩;by_cases kK:x1=0;rw [if_pos (.inr kK)] at aF;refine QO ?_;refine Z7 (vs:=[]) rfl Z2v rfl ?_;refine SB (us:=dlC (default:Dln) Jo) Z2w e6 ?_;rintro _ wz ⟨hT,e6⟩;refine W ?_;refine Zm rfl rfl rfl e6 rfl rfl ?_;subst aF;exact .mk ⟨Jo,rfl,ZI.nil.up (hS.ow hT)⟩;rw [if_neg (λh=>h.elim (λh=>h iU) (λh=>kK h))] at aF;have gW:=hv.up hS;refine QO ?_;refine Z8 (Zl rfl rfl e3 (us:=Z06 c.cal R.hv R.lv R.zo R.zs R.hr) rfl rfl) rfl ?_;refine W ?_;refine CL (ZcM kd q.due 3 c.today (evL c f) c.cal R.hv R.lv R.zo R.zs R.hr _ (gd.up hS) ge gW.cal bF gW.one) ?_;rintro _ w15 ⟨pw,rfl,dg⟩;have fC:=Z8K (o:=Zs c.cal c.today) (ev:=evL c f) ge;have pn:=Z8J (o:=Zs c.cal c.today) bF ge;generalize Je (Zs c.cal c.today) (evL c f) q.due=y at *;obtain ⟨y1,ys,ye⟩:=y;dsimp only at aF dg fC pn ⊢;have cF:SlV (ob pv) w15 pw ys:=dg.slv (λb hb=>(fE.ob_le b hb).2);have hT:=dg.2;replace e3:=e3.up hT;replace e4:=e4.up hT;replace e6:=e6.up hT;replace e8:=e8.up hT;replace e9:=e9.up hT;replace e10:=e10.up hT;replace fE:=fE.up hT;replace hS:=hS.trans hT;clear hT gW dg;by_cases rK:ye=0
 rotate_left
 rw [if_pos rK] at aF;refine QO ?_;refine Z7 (vs:=[]) rfl Z2v rfl ?_;refine SB (us:=dlC (default:Dln) Jo) Z2w e6 ?_;rintro _ wz ⟨hT,e6⟩;refine W ?_;refine Zm rfl rfl rfl e6 rfl rfl ?_;subst aF;exact .mk ⟨Jo,rfl,ZI.nil.up (hS.ow hT)⟩;rw [if_neg (not_not_intro rK)] at aF;have rj:0<=y1/\y1<=3652058:=by
  rcases pn rK with h|h|h
  omega;omega;exact h.2
 have gW:=hv.up hS;have gM:=hf.day;refine QO ?_;refine CP hS (Z8z f.day y1 R.sv c.stys _ gW.ss ho.sty (by omega) (by omega)) λw16 hT hS=>?_
 replace e3:=e3.up hT;replace e4:=e4.up hT;replace e6:=e6.up hT;replace e8:=e8.up hT;replace e9:=e9.up hT;replace e10:=e10.up hT;replace fE:=fE.up hT;replace cF:=cF.up hT;clear hT gW;generalize Z27 f.day y1 c.stys=z at *;obtain ⟨z1,ze⟩:=z;dsimp only at aF ⊢;by_cases tY:ze=0
 rotate_left
 rw [if_pos tY] at aF;refine QO ?_;refine Z7 (vs:=[]) rfl Z2v rfl ?_;refine SB (us:=dlC (default:Dln) Jo) Z2w e6 ?_;rintro _ wz ⟨hT,e6⟩;refine W ?_;refine Zm rfl rfl rfl e6 rfl rfl ?_;subst aF;exact .mk ⟨Jo,rfl,ZI.nil.up (hS.ow hT)⟩;rw [if_neg (not_not_intro tY)] at aF;refine QO ?_;refine Z0 (JD (β:=Spn) rfl (by decide) rfl rfl fE cF (Xh (Xo _ (show xs.length+ys.length<=400 by omega)) (by decide)) (by simp only [maxLen];omega)) rfl ?_;rintro pu w17 ⟨hr,-,-⟩;clear fE cF e3 e4 e6 e8 e9 e10 hS;have po:(xs++ys).length<=400:=by rw [Xc];omega
 refine W ?_
 refine Ju (σ:=Int×Value×List Spn) (λq=>[(2,.I (i:Int)),(3,pQ b3),(4,pQ b4),(6,pQ b6),(8,pQ b8),(10,pQ b10),(11,.B ok),(13,q.2.1),(15,.I y1),(17,.I q.1)])
  (λp w'=>ZI 75 w13 w' p.2.1 p.2.2/\p.2.2.length<=1000/\(mkD c f i q y1 p.1 p.2.2,true)=o) ?_ ?_
 by_cases rL:z1=y1;rw [if_pos rL] at aF;refine QO ?_;exact QT (z1,pu,xs++ys) ⟨hr,by dsimp only;omega,by rw [rL];exact aF⟩
 . rw [if_neg rL] at aF
   have e3:=f3.up hr.2;have e6:=f6.up hr.2;have hS:=cR.trans hr.2;have gW:=hv.up hS;refine QO ?_;refine Z8 (Zl rfl rfl e3 (us:=Z06 c.cal R.hv R.lv R.zo R.zs R.hr) rfl rfl) rfl ?_;refine W ?_;refine CP hS (Z9U z1 c.today c.cal R.hv R.lv R.zo R.zs R.hr _ gW.cal) λw18 hT hS=>?_;replace e3:=e3.up hT;replace e6:=e6.up hT;replace hr:=hr.up hT;clear hT gW;generalize ZQ (Zs c.cal c.today) 1 z1=nn at *;obtain ⟨n1,ne⟩:=nn;dsimp only at aF ⊢;by_cases aU:ne=0
   rotate_left
   rw [if_pos aU] at aF;refine QO ?_;refine Z7 (vs:=[]) rfl Z2v rfl ?_;refine SB (us:=dlC (default:Dln) Jo) Z2w e6 ?_;rintro _ wz ⟨hT,e6⟩;refine W ?_;refine Zm rfl rfl rfl e6 rfl rfl ?_;subst aF;exact .mk ⟨Jo,rfl,ZI.nil.up (hS.ow hT)⟩;rw [if_neg (not_not_intro aU)] at aF;refine QO ?_;refine Z7 (vs:=[(0,.I z1),(1,.I n1)]) rfl (Z65 _ _) rfl ?_;refine AP1 ((z1,n1):Spn) hr (by omega) λv1 v' w' bN _=>?_
   refine W ?_;exact Zy (n1,v',xs++ys++[(z1,n1)]) ⟨rfl,rfl,rfl,rfl,rfl,rfl,rfl,rfl,rfl,rfl,trivial⟩ ⟨bN,by simp only [Xc,Xe,Xg] at po ⊢;omega,aF⟩
 clear aF hr po;rintro ⟨due,sv,sp⟩ w18 ⟨hr,bt,aF⟩;dsimp only at hr bt aF ⊢;subst aF;have e3:=f3.up hr.2;have e4:=f4.up hr.2;have e6:=f6.up hr.2;have e8:=f8.up hr.2;have e10:=f10.up hr.2;have hS:=cR.trans hr.2;have iG:SlV [] w18 sv sp:=hr.slv (by simp);clear hr f3 f4 f6 f8 f10 cR;refine W ?_;refine Z7 (vs:=[(0,str q.name),(1,aG f),(2,.I f.to_),(3,.I due)]) rfl (ZnQ _ _ _ _) rfl ?_;refine Z0 Z2 rfl ?_;rintro _ w19 ⟨b19,rfl,rM,e19,hT⟩;refine SB (us:=dlC (⟨q.name,f,f.to_,due,0,[]⟩:Dln) Jo) (Zbc _ rfl) e19 ?_;rintro _ w20 ⟨ar,e19⟩;replace hT:=hT.ow ar;have l3:=e3.lt;have l4:=e4.lt;have l6:=e6.lt;have l8:=e8.lt;have l10:=e10.lt;replace e3:=e3.up hT;replace e4:=e4.up hT;replace e6:=e6.up hT;replace e8:=e8.up hT;replace e10:=e10.up hT;replace iG:SlV [b19] w20 sv sp:=iG.ext hT (by simp) (λb hb=>.inr (by simp at hb;omega));have g19:w.heap.size<=b19:=Xh hS.size rM;replace hS:=hS.trans hT;clear hT ar;have hN:Nte w20 b19 w20 ⟨q.name,f,f.to_,due,0,[]⟩ Jo:=⟨e19,Row.nil,Stp.refl _ _,e19.lt,by simp⟩
 clear e19;refine W ?_;refine Z0 (Z00 rfl (ZN rfl rfl rfl) rfl (Z2Q w20 b19 _ _ 1 f.entry f.day _ hN (by simp))) rfl ?_;rintro _ w21 ⟨r1,hN,-,-⟩;have f4:=e4.ext hN.stp (by simp;omega);refine W ?_;refine Z0 (Z00 rfl (ZN rfl rfl rfl) rfl (Z2Q w20 b19 _ _ 2 i 0 _ hN (by simp))) rfl ?_;rintro _ w22 ⟨r2,hN,-,-⟩;clear f4;have f8:=e8.ext hN.stp (by simp;omega);have lu:Stp [] w w22:=hS.own hN.stp (λc hc=>.inr (by simp at hc;omega));have bH:=gc.up lu;have dc:=gd.up lu;refine W ?_;refine WL_cutQ (σ:=Unit) (λ_=>[(2,.I (i:Int)),(3,pQ b3),(4,pQ b4),(6,pQ b6),(8,pQ b8),(15,.I y1),(17,.I due),(19,pQ b19),(20,.func (.func 53) #[] #[pQ b19]),(10,pQ b10),(13,sv),(185,.B (ok && (Z4Y q.cnd || Z4Y q.due)))]) (λ_ w'=>Stp [] w22 w') ?_ ?_
 . cases ok with
   | false=>
     refine QO ?_;exact QT () (Stp.refl _ _)
   | true=>
     refine QO ?_;refine CP (Stp.refl [] w22) (Zco kc q.cnd _ bH) λw23 hT hS=>?_;replace f8:=f8.up hT;replace dc:=dc.up hT;cases h1:Z4Y q.cnd with
     | true=>
       refine QO ?_;exact QT () hS
     | false=>
       refine QO ?_;refine CP hS (Zco kd q.due _ dc) λw24 hT hS=>?_;cases h2:Z4Y q.due
       all_goals
        refine QO ?_;exact QT () hS
 rintro _ w23 hT;replace hN:=hN.up hT;clear bH dc f8 lu hT;generalize lY:(ok && (Z4Y q.cnd || Z4Y q.due))=bb at *;refine W ?_;refine Ju (σ:=Value) (λ_=>[(2,.I (i:Int)),(3,pQ b3),(4,pQ b4),(6,pQ b6),(8,pQ b8),(15,.I y1),(17,.I due),(19,pQ b19),(20,.func (.func 53) #[] #[pQ b19]),(13,sv)]) (λrv w'=>Nte w20 b19 w' (dU q f due 0 ([⟨1,f.entry,f.day⟩,⟨2,i,0⟩]++if bb=true then [⟨3,s.att,s.day⟩] else [])) rv) ?_ ?_
 . cases bb with
   | false=>
     refine QO ?_;exact QT r2 hN
   | true=>
     have f10:=e10.ext hN.stp (by simp;omega);refine QO ?_;refine Z0 (Z00 rfl (ZN rfl rfl rfl) rfl (Z2Q w20 b19 _ _ 3 s.att s.day _ hN (by simp))) rfl ?_;rintro _ w24 ⟨r3,hN,-,-⟩;refine W ?_;exact QT r3 hN
 clear hN;rintro r3 w24 hN;generalize lj:([⟨1,f.entry,f.day⟩,⟨2,i,0⟩]++if bb=true then [⟨3,s.att,s.day⟩] else []:List Rsn)=L1 at *;have wU:L1.length<=3:=by rw [<- lj];split<;>simp
 have gP:=iG.max;refine W ?_;refine LP (σ:=Nat×Value) (λp=>[(2,.I (i:Int)),(3,pQ b3),(4,pQ b4),(6,pQ b6),(8,pQ b8),(15,.I y1),(17,.I due),(19,pQ b19),(20,.func (.func 53) #[] #[pQ b19]),(192,sv),(193,.I sp.length),(194,.I p.1)]) (λp w'=>p.1<=sp.length/\Nte w20 b19 w' (dU q f due 0 (L1++(sp.take p.1).map (λx=>(⟨4,x.1,x.2⟩:Rsn)))) p.2) (λp=>sp.length - p.1) (0,r3) ⟨by omega,by simpa using hN⟩ ?_;clear hN;rintro ⟨k,r4⟩ w25 ⟨hk,hN⟩;dsimp only at hk hN ⊢;by_cases hlt:k<sp.length;have tZ:SlV [] w25 sv sp:=iG.ext hN.stp (λb hb=>hb) (by simp);have aA:(sp.take (k+1)).map (λx=>(⟨4,x.1,x.2⟩:Rsn))=(sp.take k).map (λx=>(⟨4,x.1,x.2⟩:Rsn))++[⟨4,sp[k].1,sp[k].2⟩]:=by rw [Xk hlt,XP];rfl
 refine QO ?_;refine Z0 Z2 rfl ?_;rintro _ w26 ⟨b22,rfl,wV,e22,hA⟩;refine SA (us:=Z3.enc sp[k]) e22 ?_;rintro _ w27 ⟨dl,e22⟩;replace hA:=hA.ow dl;replace hN:=hN.up hA;refine QO ?_;refine Z0 (Z00 rfl (ZN rfl rfl rfl) rfl (Z2Q w20 b19 _ _ 4 sp[k].1 sp[k].2 _ hN (by simp only [Xc,Xt,Xx];omega))) rfl ?_;rintro _ w28 ⟨r5,hN,-,-⟩;refine QO ?_;exact QL (k+1,r5) ⟨hlt,by rw [aA,<- Xy];exact hN⟩ (by dsimp only;omega);obtain rfl:k=sp.length:=by omega
 rw [Xp] at hN;have dy:=hS.own hN.stp (λc hc=>.inr (by simp at hc;omega));have f3:=e3.ext hN.stp (by simp;omega);have f4:=e4.ext hN.stp (by simp;omega);have gM:=hf.day;refine QO ?_;refine CG (Zk0 f.day y1 R.sv c.stys _ (hv.up dy).ss ho.sty (by omega) (by omega)) ?_;intro uv w26 hu;have ew:(Z4Z f.day y1 c.stys).length<=1000:=by
  have:=ho.sty.len;unfold Z4Z;split;simp;exact Xh (X1 _ _) this
 generalize hU:Z4Z f.day y1 c.stys=us at *;have d8:SlV (b19 :: ob r4) w26 uv us:=hu.slv (λb hb=>by
  rcases Xb.1 hb with rfl|hb
  exact hN.blk.lt;exact (hN.row.ob_le b hb).2)
 replace hN:=hN.up hu.2;clear f3 f4 hu dy iG;have oJ:=d8.max;refine QO ?_;generalize t7:L1++sp.map (λx=>(⟨4,x.1,x.2⟩:Rsn))=L2 at *;have wW:L2.length<=1003:=by rw [<- t7,Xc,Xt];omega
 refine LP (σ:=Nat×Value) (λp=>[(2,.I (i:Int)),(3,pQ b3),(4,pQ b4),(6,pQ b6),(8,pQ b8),(15,.I y1),(17,.I due),(19,pQ b19),(20,.func (.func 53) #[] #[pQ b19]),(210,uv),(211,.I us.length),(212,.I p.1)]) (λp w'=>p.1<=us.length/\Nte w20 b19 w' (dU q f due 0 (L2++(us.take p.1).map (λx=>(⟨5,x.1,x.2⟩:Rsn)))) p.2/\SlV (b19 :: ob p.2) w' uv us) (λp=>us.length - p.1) (0,r4) ⟨by omega,by simpa using hN,d8⟩ ?_;clear hN d8;rintro ⟨k,r5⟩ w27 ⟨hk,hN,d8⟩;dsimp only at hk hN ⊢;by_cases hlt:k<us.length;have t8:SlV [] w27 uv us:=d8.ext (Stp.refl [] w27) (by simp) (by simp);have aA:(us.take (k+1)).map (λx=>(⟨5,x.1,x.2⟩:Rsn))=(us.take k).map (λx=>(⟨5,x.1,x.2⟩:Rsn))++[⟨5,us[k].1,us[k].2⟩]:=by rw [Xk hlt,XP];rfl
 refine QO ?_;refine Z0 Z2 rfl ?_;rintro _ w28 ⟨b24,rfl,wX,e24,hA⟩;refine SA (us:=Z3.enc us[k]) e24 ?_;rintro _ w29 ⟨dl,e24⟩;replace hA:=hA.ow dl;replace hN:=hN.up hA;refine QO ?_;refine Z0 (Z00 rfl (ZN rfl rfl rfl) rfl (Z2Q w20 b19 _ _ 5 us[k].1 us[k].2 _ hN (by simp only [Xc,Xt,Xx];omega))) rfl ?_;rintro _ w30 ⟨r6,mX,jI,rN⟩;refine QO ?_;exact QL (k+1,r6) ⟨hlt,by rw [aA,<- Xy];exact mX,(d8.up hA).ext jI (λb hb=>hb) (λb hb=>by
  rcases Xb.1 hb with rfl|hb
  exact .inl (by simp);exact (rN b hb).imp (λh=>by simp [h]) id)⟩ (by dsimp only;omega)
 obtain rfl:k=us.length:=by omega
 rw [Xp] at hN;generalize ua:L2++us.map (λx=>(⟨5,x.1,x.2⟩:Rsn))=L3 at *;have wY:L3.length<=2003:=by rw [<- ua,Xc,Xt];omega
 clear d8 oJ;have dy:=hS.own hN.stp (λc hc=>.inr (by simp at hc;omega));have f3:=e3.ext hN.stp (by simp;omega);have f4:=e4.ext hN.stp (by simp;omega);have f8:=e8.ext hN.stp (by simp;omega);refine QO ?_;refine CP dy (Ze5 c R f q.unl due _ (hv.up dy).ff (by have:=ho.fl;omega)) λw28 hT _=>?_
 replace hN:=hN.up hT;clear f3 f4 f8 hT dy;generalize hA:Z98 c.fcts f q.unl due=a at *;obtain ⟨g,met⟩:=a;refine QO ?_;refine Z0 Z2 rfl ?_;rintro _ w29 ⟨b25,rfl,wZ,e25,mu⟩;refine SA (us:=Z3.enc g) e25 ?_;rintro _ w30 ⟨dl,e25⟩;replace mu:=mu.ow dl;have rO:b25≠b19:=by have:=hN.blk.lt;omega
 replace hN:=hN.up mu;clear mu dl;refine W ?_;refine Ju (σ:=Value) (λ_=>[(6,pQ b6),(19,pQ b19)]) (λrv w'=>Nte w20 b19 w' (mkD c f i q y1 due sp) rv) ?_ ?_
 . have ay:mkD c f i q y1 due sp=dU q f due (if met=true then 1 else if due<c.today then 2 else 0) (L3++if met=true then [⟨6,g.entry,g.day⟩] else []):=by
    unfold mkD;rw [hA,aX,hU];dsimp only;rw [<- ua,<- t7,<- lj,<- lY];simp only [Xm,Yax]
   rw [ay];cases met with
   | true=>
     refine QO ?_;refine Z6 (Zb (u:=.I 1) rfl rfl rfl rfl hN.blk (by simp)) ?_;rintro _ w31 ⟨hT,e19⟩;replace e25:=e25.ext hT (by simpa using rO);replace hN:=hN.stat (d':=dU q f due 1 L3) hT e19 rfl;refine QO ?_;refine Z0 (Z00 rfl (ZN rfl rfl rfl) rfl (Z2Q w20 b19 _ _ 6 g.entry g.day _ hN (by dsimp only;omega))) rfl ?_;rintro _ w32 ⟨r7,hN,-,-⟩;refine W ?_;exact QT r7 hN
   | false=>
     have f3:=e3.ext hN.stp (by simp;omega);by_cases lQ:due<c.today;refine QO ?_;refine Z6 (Zb (u:=.I 2) rfl rfl rfl rfl hN.blk (by simp)) ?_;rintro _ w31 ⟨hT,e19⟩;replace hN:=hN.stat (d':=dU q f due 2 L3) hT e19 rfl;refine QO ?_;exact QT r5 (by simpa [lQ] using hN);refine QO ?_;exact QT r5 (by simpa [lQ] using hN)
 clear hN e25;rintro rv w31 hN;have f6:=e6.ext hN.stp (by simp;omega);have iE:rv.oneCell'=true:=(hN.row.slv (X:=[]) (by simp)).one;have hk:=hN.blk;refine W ?_;refine SB (us:=dlC (mkD c f i q y1 due sp) rv) (Zbc _ iE) f6 ?_;rintro _ w32 ⟨hT,f6⟩;refine W ?_;refine Zm rfl rfl rfl f6 rfl rfl ?_;have dy:=hS.own hN.stp (λc hc=>.inr (by simp at hc;omega));have br:=λb hb=>(hN.row.ob_le b hb).1;refine .mk ⟨rv,rfl,?_,dy.ow hT⟩;exact Z26 (Row.ext (Z26 (X':=[b6]) (Row.lower hN.row (by have:=hS.size;omega))) hT (λb hb=>⟨hb,λh=>by have:=br b h;have:=hN.lt;simp at hb;omega⟩) (λb hb=>.inl hb))
abbrev DI:=Dln×Nat
structure Yld (fv:Value) (g:Nat) (cap:Array Value) (J:List DI->List Nat->World->Prop) (Pd:List DI->Dln->Nat->Prop):Prop where
 fv:fv=.func (.func g) #[] cap
 lt:∀ pre F W,J pre F W->∀ b∈F,b<W.heap.size
 up:∀ pre F W W',J pre F W->Stp [] W W'->J pre F W'
 call:∀ pre F d dv i W,J pre F W->SlV F W dv d.reas->Pd pre d i->CC g (#[.agg (dlC d dv).toArray,.I (i:Nat)]++cap) W λr W'=>∃ F',J (pre++[(d,i)]) F' W'/\Stp F W W'/\∀ b∈F',b∈F\/W.heap.size<=b
def Z7s (c:Cas) (f:Fct):Nat->List DI
 | 0=>[]
 | i+1=>Z7s c f i++if (Z0F c f i).2=true then [((Z0F c f i).1,i)] else []
def Z1J (c:Cas) (fs:List Fct):List DI:=fs.flatMap (λf=>Z7s c f c.ruls.length)
theorem ZgS (c:Cas) (fs:List Fct) (k:Nat) (h:k<fs.length):Z1J c (fs.take (k+1))=Z1J c (fs.take k)++Z7s c fs[k] c.ruls.length:=by
 unfold Z1J;rw [Xk h,Yan];simp
theorem ZcO {fv:Value} {g:Nat} {fn:Func} {cap:Array Value} {J:List DI->List Nat->World->Prop} {Pd:List DI->Dln->Nat->Prop} [hf:Fun Tryz.prog g fn] (hy:Yld fv g cap J Pd)
 (c:Cas) (R:Z0X) (lv:Value) (fs:List Fct) (F0:List Nat) (w) (ho:Z64 c) (ca:∀ W,Stp F0 w W->Z2k W c R) (hl:∀ W,Stp F0 w W->SlV [] W lv fs) (im:∀ f∈fs,Z0C f)
 (hP:∀ k (hk:k<fs.length) (i:Nat),i<c.ruls.length->(Z0F c fs[k] i).2=true->Pd (Z1J c (fs.take k)++Z7s c fs[k] i) (Z0F c fs[k] i).1 i) (h0:J [] F0 w) :
 CC 44 #[.agg (Jl c R).toArray,lv,fv] w λr W=>∃ F,J (Z1J c fs) F W/\Stp F0 w W/\∀ b∈F,b∈F0\/w.heap.size<=b:=by
 have aS:=(hl w (Stp.refl _ _)).max;have iZ:=ho.rl;have fX:=hy.fv;subst fX;refine cW3 37 Tryz.func44 ?_;refine W ?_;refine BX (Stp.refl [] w) λb3 w1 h3 e3 _ hS=>?_;replace e3:Blk w1 b3 37 (Jl c R):=e3;have fj:=hl w1 hS.mn;refine W ?_
 refine Zu (σ:=Nat×List Nat) (λq=>[(2,.func (.func g) #[] cap),(3,pQ b3),(11,lv),(12,.I fs.length),(13,.I q.1)])
  (λq W=>q.1<=fs.length/\J (Z1J c (fs.take q.1)) q.2 W/\Stp F0 w W/\Blk W b3 37 (Jl c R)/\b3∉q.2/\∀ b∈q.2,b∈F0\/w.heap.size<=b) (λq=>fs.length - q.1) (0,F0) ⟨rfl,rfl,rfl,rfl,rfl,trivial⟩
  ⟨by omega,by simpa [Z1J] using hy.up _ _ _ _ h0 hS,hS.mn,e3,λh=>by have:=hy.lt _ _ _ h0 _ h;omega,λb hb=>.inl hb⟩ ?_
 clear e3 fj hS;rintro ⟨k,F⟩ w2 ⟨hk,hJ,hS,e3,eT,jd⟩;dsimp only at hk hJ eT jd ⊢;have dV:=hl w2 hS;by_cases hlt:k<fs.length;have xa:=im _ (Xd hlt);have hstep:=ZgS c fs k hlt;refine QO ?_;refine Z0 Z2 rfl ?_;rintro _ w3 ⟨b7,rfl,fk,e7,hA⟩;refine SA (us:=Z3.enc fs[k]) e7 ?_;rintro _ w4 ⟨dl,e7⟩;replace hA:=hA.ow dl;have lw:b7∉F:=λh=>by have:=hy.lt _ _ _ hJ _ h;omega
 replace e3:=e3.up hA;replace hJ:=hy.up _ _ _ _ hJ hA;replace hS:=hS.trans hA.mn;clear hA dl dV;have eE:=(ca w4 hS).rr;refine QO ?_
 refine Zu (σ:=Nat×List Nat) (λq=>[(2,.func (.func g) #[] cap),(3,pQ b3),(7,pQ b7),(11,lv),(12,.I fs.length),(13,.I k),(19,.I c.ruls.length),(20,.I q.1)])
  (λq W=>q.1<=c.ruls.length/\J (Z1J c (fs.take k)++Z7s c fs[k] q.1) q.2 W/\Stp F0 w W/\Blk W b3 37 (Jl c R)/\Blk W b7 45 (Z3.enc fs[k])/\b3∉q.2/\b7∉q.2/\∀ b∈q.2,b∈F0\/w.heap.size<=b) (λq=>c.ruls.length - q.1) (0,F) ⟨rfl,rfl,rfl,rfl,rfl,rfl,rfl,rfl,trivial⟩
  ⟨by omega,by simpa [Z7s] using hJ,hS,e3,e7,eT,lw,jd⟩ ?_
 clear hJ hS e3 e7 eT lw jd eE;rintro ⟨i,F⟩ w5 ⟨hi,hJ,hS,e3,e7,eT,lw,jd⟩;dsimp only at hi hJ eT lw jd ⊢;by_cases lz:i<c.ruls.length
 . have cX:=ca w5 hS
   have aA:Z7s c fs[k] (i+1)=Z7s c fs[k] i++if (Z0F c fs[k] i).2=true then [((Z0F c fs[k] i).1,i)] else []:=rfl
   have ub:=hP k hlt i lz;refine QO ?_;refine CM (ZN rfl rfl rfl) (Zfn c R fs[k] i w5 cX ho xa (by unfold I64;omega)) ?_;rintro _ w6 ⟨rv,rfl,ab⟩;have hA:=ab.2;have ax:SlV F w6 rv (Z0F c fs[k] i).1.reas:=ab.slv (λb hb=>hy.lt _ _ _ hJ b hb);replace e3:=e3.up hA;replace e7:=e7.up hA;replace hJ:=hy.up _ _ _ _ hJ hA;replace hS:=hS.trans hA.mn;clear hA ab cX;generalize Z0F c fs[k] i=o at *;obtain ⟨d,ok⟩:=o;dsimp only at aA ub ax;have bD:=ax.one;refine QO ?_;refine Z0 Z2 rfl ?_;rintro _ w7 ⟨b9,rfl,iI,e9,hA⟩;refine SB (us:=dlC d rv) (Zbc _ bD) e9 ?_;rintro _ w8 ⟨dl,e9⟩;replace hA:=hA.ow dl;have yy:b9∉F:=λh=>by have:=hy.lt _ _ _ hJ _ h;omega
   replace e3:=e3.up hA;replace e7:=e7.up hA;replace hJ:=hy.up _ _ _ _ hJ hA;replace hS:=hS.trans hA.mn;replace ax:=ax.up hA;clear hA dl;cases ok with
   | false=>
     refine QO ?_;exact QL (i+1,F) ⟨lz,by rw [aA,if_neg (by simp),XC];exact hJ,hS,e3,e7,eT,lw,jd⟩ (by dsimp only;omega)
   | true=>
     refine QO ?_;refine Z0 (Z00 rfl (Zd rfl rfl) rfl (hy.call _ F d rv i w8 hJ ax (ub rfl))) rfl ?_;rintro _ w9 ⟨F',mG,hA,lA⟩;refine QO ?_;have z3:=e3.lt;have z7:=e7.lt;refine QL (i+1,F') ⟨lz,by rw [aA,if_pos rfl,<- Xy];exact mG,hS.own hA jd,e3.ext hA eT,e7.ext hA lw,λh=>?_,λh=>?_,λb hb=>?_⟩ (by dsimp only;omega);rcases lA _ h with h|h
     exact eT h;omega;rcases lA _ h with h|h
     exact lw h;omega;rcases lA _ hb with h|h
     exact jd _ h;exact .inr (by have:=hS.size;omega)
 obtain rfl:i=c.ruls.length:=by omega
 refine QO ?_;exact QL (k+1,F) ⟨hlt,by rw [hstep];exact hJ,hS,e3,eT,jd⟩ (by dsimp only;omega);obtain rfl:k=fs.length:=by omega
 rw [Xp] at hJ;refine RT ?_;exact ⟨F,hJ,hS,jd⟩
abbrev Z7t (x:Fct):Value:=aG x
theorem Ztp (x y:Fct) (w):(Op.equal 45 (Z7t x) (Z7t y)).run Tryz.prog w=.ok (decide (x=y)) w:=by
 have h1:Program.stoodInHeld Tryz.prog 45=false:=by kernel_rfl
 obtain ⟨i,hi⟩:∃ i,Tryz.prog.info? 3=some i:=by
  have:=(inferInstance:Siz Tryz.prog 3 1).h;cases h:Tryz.prog.info? 3 with
  | none=>rw [h] at this;cases this
  | some i=>exact ⟨i,rfl⟩
 obtain ⟨a,b,c,d,e,f⟩:=x;obtain ⟨a',b',c',d',e',f'⟩:=y;simp [Z7t,Z3.enc,Op.equal,Op.maxDepth,run_equalIn_struct,h1,Program.fieldsOf,Tryz.underlying45,Op.eqFields,part,Und.isAgg,Siz.run,Z0R,run_equalIn_int w _ _ .i64 .i64 _ _ Tryz.underlying3,run_equalIn_string w _ _ _ _ Tryz.underlying9];repeat' split
 all_goals simp_all
theorem ZnR (em:Bool) (x:Fct) (w):(Instr.checkKey em 10000 45 (Z7t x)).run Tryz.prog w=.ok () w:=by kernel_rfl
instance:ZbE Tryz.prog 45 Fct where
 enc:=Z7t
 chk:=ZnR
 find:=λa es l w hk=>by
  have h2:=run_findKey_eq (P:=Tryz.prog) (k:=45) w (by kernel_rfl) (Z7t a) es;have h3:=Z2y Z7t Ztp a w es l 0 hk;simp only [XM] at h3;exact h2.trans h3
theorem Zfo {κ:Type} [DecidableEq κ] (l:List κ) (a:κ):Z3E (l.map (λx=>(x,Value.bool true))) a (.B false)=.B (decide (a∈l)):=by
 unfold Z3E;cases h:(l.map (λx=>(x,Value.bool true))).find? (λp=>decide (p.1=a)) with
 | none=>
   rw [Yar] at h;rw [decide_eq_false (λha=>absurd (h (a,.B true) (XG.2 ⟨a,ha,rfl⟩)) (by simp))]
 | some p=>
   have h1:=X5 h;have h2:=Ybo h;obtain ⟨x,hx,rfl⟩:=XG.1 h1;have:x=a:=by simpa using h2
   subst this;simp [hx]
def Z0O (c:Cas) (s:List Fct×List Fct) (p:DI):List Fct×List Fct:=
 let f:=ZcB c p.1 p.2
 if f.2=true/\f.1∉s.1 then (s.1++[f.1],s.2++[f.1]) else s
theorem ZgT (c:Cas) (s:List Fct×List Fct) (p:DI):(Z0O c s p).2.length<=s.2.length+1:=by
 unfold Z0O;dsimp only;split<;>simp
theorem Z6J (c:Cas):∀ (l:List DI) (s:List Fct×List Fct),(l.foldl (Z0O c) s).2.length<=s.2.length+l.length
 | [],s=>by simp
 | p :: l, s => by
   have h1:=Z6J c l (Z0O c s p);have h2:=ZgT c s p;rw [X2,Xe];omega
structure FcK where
 c:Cas
 R:Z0X
 w0:World
 b1:Nat
 b3:Nat
 r:Nat
 b9:Nat
 known:List Fct
structure ZoD (K:FcK):Prop where
 d1:K.b1≠K.r/\K.b1≠K.b9
 d2:K.b3≠K.r/\K.b3≠K.b9
 d3:K.r≠K.b9
 l1:K.b1<K.w0.heap.size
 l3:K.b3<K.w0.heap.size
 lr:K.r<K.w0.heap.size
 l9:K.b9<K.w0.heap.size
 e1:Blk K.w0 K.b1 37 (Jl K.c K.R)
 e3:Blk K.w0 K.b3 108 [.map (some K.r)]
 rr:∀ W,Stp [K.r,K.b9] K.w0 W->SlV [] W K.R.rv K.c.ruls
structure FcJ (K:FcK) (pre:List DI) (F:List Nat) (W:World):Prop where
 ex:∃ nv,F=K.r :: K.b9 :: ob nv/\Blk W K.b9 24 [nv]/\Row [K.r,K.b9] W K.w0.heap.size 45 nv (pre.foldl (Z0O K.c) (K.known,[])).2
 map:JL Z7t W K.r ((pre.foldl (Z0O K.c) (K.known,[])).1.map (λf=>(f,.B true)))
 stp:Stp [K.r,K.b9] K.w0 W
theorem Zem (K:FcK) (hK:ZoD K):Yld (.func (.func 46) #[] #[.pointer (some ⟨K.b1,0,none⟩),.pointer (some ⟨K.b3,0,none⟩),.pointer (some ⟨K.b9,0,none⟩)]) 46 #[.pointer (some ⟨K.b1,0,none⟩),.pointer (some ⟨K.b3,0,none⟩),.pointer (some ⟨K.b9,0,none⟩)] (FcJ K)
 (λpre d i=>i<K.c.ruls.length/\(-1000000000<=d.due/\d.due<=1000000000/\-1000000000<=d.trig.day/\d.trig.day<=1000000000)/\pre.length<=300000000000):=by
 obtain ⟨⟨d1,d1'⟩,⟨d2,d2'⟩,d3,l1,l3,lr,l9,E1,E3,eE⟩:=hK;refine ⟨rfl,?_,?_,?_⟩;rintro pre F Y ⟨⟨nv,rfl,e9,ab⟩,hm,hS⟩ b hb;have:=hS.size;simp only [Xb] at hb;rcases hb with rfl|rfl|hb
 omega;omega;exact (ab.ob_le b hb).2;rintro pre F Y Y' ⟨⟨nv,rfl,e9,ab⟩,hm,hS⟩ hT;exact ⟨⟨nv,rfl,e9.up hT,ab.up hT⟩,hm.up hT,hS.trans hT.mn⟩
 . rintro pre F d dv i Y ⟨⟨nv,rfl,e9,ab⟩,hm,hS⟩ ax ⟨hi,hb,cr⟩
   have dW:=Z6J K.c pre (K.known,[]);simp only [Xg,XM] at dW;have aA:∀ p:DI,(pre++[p]).foldl (Z0O K.c) (K.known,[])=Z0O K.c (pre.foldl (Z0O K.c) (K.known,[])) p:=λp=>by simp
   have aA:=aA (d,i);have bD:=ax.one;have hW:=hS.size;have eD:=λb hb=>(ab.ob_le b hb)
   generalize pre.foldl (Z0O K.c) (K.known,[])=s at *;refine cW5 29 Tryz.func46 ?_;refine W ?_;refine BX (Stp.refl [] Y) λb5 w1 h5 e5 hT _=>?_;replace e5:Blk w1 b5 56 (dlC d dv):=e5;have e1:=E1.ext (hS.trans hT.mn) (by simp [d1,d1']);have e3:=E3.ext (hS.trans hT.mn) (by simp [d2,d2']);have fE:=eE w1 (hS.trans hT.mn);replace e9:=e9.up hT;replace ab:=ab.up hT;replace hm:=hm.up hT;have jJ:SlV [] w1 dv d.reas:=ax.ext hT (by simp) (by simp);have dK:=hT;clear hT;refine W ?_;refine CP (Stp.refl [] w1) (ZcC K.c K.R d dv i w1 fE jJ hi hb) λw2 hT _=>?_;have g2:Y.heap.size<=w2.heap.size:=Xh dK.size hT.size;generalize pp:ZcB K.c d i=fo at *;obtain ⟨f,ok⟩:=fo;refine W ?_;refine Z0 Z2 rfl ?_;rintro _ w3 ⟨b7,rfl,fk,e7,ar⟩;refine SA (us:=Z3.enc f) e7 ?_;rintro _ w4 ⟨cE,e7⟩;replace hT:=hT.trans (ar.ow cE);clear ar cE;replace e1:=e1.up hT;replace e3:=e3.up hT;replace e9:=e9.up hT;replace ab:=ab.up hT;replace hm:=hm.up hT;replace dK:=dK.trans hT;clear hT e5 fE jJ;have g7:Y.heap.size<=b7:=by omega
   have nR:Z0O K.c s (d,i)=if ok=true/\f∉s.1 then (s.1++[f],s.2++[f]) else s:=by unfold Z0O;rw [pp]
   rw [nR] at aA;clear nR;have skip:(¬ (ok=true/\f∉s.1))->∀ w',Stp [] w4 w'->∃ F',FcJ K (pre++[(d,i)]) F' w'/\Stp (K.r :: K.b9 :: ob nv) Y w'/\∀ b∈F',b∈K.r :: K.b9 :: ob nv\/Y.heap.size<=b:=λhn w' hT=>by
    rw [if_neg hn] at aA;exact ⟨_,⟨⟨nv,rfl,e9.up hT,by rw [aA];exact ab.up hT⟩,by rw [aA];exact hm.up hT,hS.trans ((dK.trans hT).mn)⟩,(dK.trans hT).mn,λb hb=>.inl hb⟩
   cases ok with
   | false=>
     refine QO ?_;refine WR ?_;exact .mk (skip (by simp) _ (Stp.refl _ _))
   | true=>
     refine QO ?_;refine Z8 (Z1N (a:=f) rfl rfl hm) rfl ?_;rw [Zfo];by_cases bM:f∈s.1;rw [decide_eq_true bM];refine QO ?_;refine WR ?_;exact .mk (skip (by simp [bM]) _ (Stp.refl _ _));rw [if_pos ⟨rfl,bM⟩] at aA;rw [decide_eq_false bM];clear skip;refine QO ?_;refine Z6 (Z1M (a:=f) rfl rfl rfl hm (λp hp=>by
      obtain ⟨x,hx,rfl⟩:=XG.1 hp;exact λh=>bM (h ▸ hx))) ?_
     rintro _ w5 ⟨uc,dY⟩;have z9:K.b9<w4.heap.size:=e9.lt;replace e9:=e9.ext dY (by simp;omega);replace e7:=e7.ext dY (by simp;omega);replace ab:=ab.ext (X':=[K.r,K.b9]) dY (λb hb=>⟨by simp at hb;simp [hb],λh=>by simp at hb;have:=(eD b h).1;omega⟩) (λb hb=>.inl hb);refine QO ?_;refine APG (X:=[K.r,K.b9]) (base:=K.w0.heap.size) f ab (λb hb=>by have:=dY.size;have:=dK.size;simp at hb;omega) (by have:=dY.size;have:=dK.size;omega) rfl (by omega) (by simp only [maxLen];omega) λv1 nv' w6 rP jI br=>?_
     replace e9:=e9.ext jI (λh=>by have:=(eD _ h).1;omega);focus repeat'(first|refine W1 ?_|omega|refine VG ?_ ?_<;>intro hg|refine VC ?_ ?_<;>intro hc)
     have nS:SlV [K.r,K.b9] w6 nv' (s.2++[f]):=rP.slv (λb hb=>by simp at hb;omega);refine Z6 (Zb (u:=nv') rfl rfl nS.cells nS.one e9 (by simp)) ?_;rintro _ w7 ⟨rQ,e9⟩;refine QO ?_;refine WR ?_;have rR:=λb hb=>rP.ob_le b hb;have nT:Stp (K.r :: K.b9 :: ob nv) w4 w7:=(dY.mn.trans (jI.mono (λb hb=>by simp [hb]))).trans rQ.mn;refine .mk ⟨K.r :: K.b9 :: ob nv',⟨⟨nv',rfl,e9,?_⟩,?_,?_⟩,dK.mn.trans nT,λb hb=>?_⟩;rw [aA];exact rP.ext rQ (λb hb=>⟨by simp at hb;simp [hb],λh=>by simp at hb;have:=(rR b h).1;omega⟩) (λb hb=>.inl hb);rw [aA];have xb:JL Z7t w7 K.r (s.1.map (λf=>(f,Value.bool true))++[(f,Value.bool true)]):=(uc.ext jI (λh=>by have:=(eD _ h).1;omega)).ext rQ (by simp;omega);rw [XP];exact xb;exact (hS.trans dK.mn).own nT (λb hb=>by
      simp only [Xb] at hb;rcases hb with rfl|rfl|hb
      exact .inl (by simp);exact .inl (by simp);exact .inr (eD b hb).1)
     simp only [Xb] at hb ⊢;rcases hb with rfl|rfl|hb
     exact .inl (.inl rfl);exact .inl (.inr (.inl rfl));rcases br b hb with h|h
     exact .inl (.inr (.inr h));exact .inr (by have:=dY.size;have:=dK.size;omega)
open Go Go.Eng Go.RowKit Go.Shelf Go.Sort
structure Z51 {α:Type} (cf:α->α->Int):Prop where
 anti:∀ x y,cf x y<0↔0<cf y x
 trans:∀ x y z,cf x y<=0->cf y z<=0->cf x z<=0
theorem Z51.swo {α:Type} {cf:α->α->Int} (h:Z51 cf):SWO (ltOf cf):=by
 have e:∀ x y,ltOf cf x y=decide (cf x y<0):=λ_ _=>rfl;refine ⟨λx=>?_,λx y z h1 h2=>?_,λx y z h1 h2=>?_⟩;have:=h.anti x x;rw [e];simp;omega;rw [e] at *;simp only [decide_eq_true_eq] at *;have a1:=h.anti x y;have a2:=h.anti x z;by_cases hz:cf x z<0;exact hz;have:=h.trans y z x (by omega) (by omega);omega;rw [e] at *;simp only [decide_eq_false_iff_not] at *;have a1:=h.anti x y;have a2:=h.anti y z;have a3:=h.anti x z;have:=h.trans z y x (by omega) (by omega);omega
theorem Z2S {α:Type} (f:α->Int):Z51 (λx y:α=>cmI (f x) (f y)):=by
 have key:∀ a b:Int,(cmI a b<0↔a<b)/\(0<cmI a b↔b<a):=by
  intro a b;unfold cmI;by_cases h1:a<b;simp [h1];omega;by_cases h2:b<a;simp [h1,h2];simp [h1,h2]
 refine ⟨λx y=>?_,λx y z h1 h2=>?_⟩;rw [(key _ _).1,(key _ _).2];have a1:=key (f x) (f y);have a2:=key (f y) (f z);have a3:=key (f x) (f z)
 try dsimp only at *
 by_cases h:0<cmI (f x) (f z);have:=a3.2.1 h;have:¬ f y<f x:=λhh=>by have:=a1.2.2 hh;omega
 have:¬ f z<f y:=λhh=>by have:=a2.2.2 hh;omega
 omega;omega
theorem Z6K:∀ a:Str,ltS a a=false
 | []=>rfl
 | x :: a => by
   show (decide (x<x) || (x == x && ltS a a))=false;rw [Z6K a];simp
theorem Zbd:∀ a b:Str,ltS a b=true\/a=b\/ltS b a=true
 | [],[]=>.inr (.inl rfl)
 | [],_ :: _=>.inl rfl
 | _ :: _,[]=>.inr (.inr rfl)
 | x :: a, y :: b => by
   have e1:ltS (x :: a) (y :: b)=(decide (x<y) || (x == y && ltS a b)):=rfl;have e2:ltS (y :: b) (x :: a)=(decide (y<x) || (y == x && ltS b a)):=rfl;rw [e1,e2];rcases Nat.lt_trichotomy x.toNat y.toNat with h|h|h
   exact .inl (by simp [UInt8.lt_iff_toNat_lt,h]);obtain rfl:x=y:=UInt8.toNat_inj.1 h;rcases Zbd a b with h|h|h
   exact .inl (by simp [h]);exact .inr (.inl (by rw [h]));exact .inr (.inr (by simp [h]));exact .inr (.inr (by simp [UInt8.lt_iff_toNat_lt,h]))
theorem Z8L:∀ a b c:Str,ltS a b=true->ltS b c=true->ltS a c=true
 | [],[],_,h,_=>by cases h
 | [],_ :: _,[],_,h=>by cases h
 | [],_ :: _,_ :: _,_,_=>rfl
 | _ :: _,[],_,h,_=>by cases h
 | _ :: _,_ :: _,[],_,h=>by cases h
 | x :: a, y :: b, z :: c, h1, h2 => by
   have e1:ltS (x :: a) (y :: b)=(decide (x<y) || (x == y && ltS a b)):=rfl;have e2:ltS (y :: b) (z :: c)=(decide (y<z) || (y == z && ltS b c)):=rfl;have e3:ltS (x :: a) (z :: c)=(decide (x<z) || (x == z && ltS a c)):=rfl;rw [e1] at h1;rw [e2] at h2;rw [e3];simp only [Yax,decide_eq_true_eq,Xm,beq_iff_eq,UInt8.lt_iff_toNat_lt] at *;rcases h1 with h1|⟨rfl,h1⟩
   rcases h2 with h2|⟨rfl,h2⟩
   exact .inl (by omega);exact .inl h1;rcases h2 with h2|⟨rfl,h2⟩
   exact .inl h2;exact .inr ⟨rfl,Z8L a b c h1 h2⟩
theorem Z2b (a b:Str):(Z43 a b<0↔ltS a b=true)/\(0<Z43 a b↔ltS b a=true):=by
 unfold Z43;cases h1:ltS a b with
 | true=>
   have h2:ltS b a=false:=by
    cases h:ltS b a with
    | false=>rfl
    | true=>have:=Z8L a b a h1 h;rw [Z6K] at this;cases this
   simp [h2]
 | false=>
   rcases Zbd a b with h|rfl|h
   rw [h1] at h;cases h;simp [h1];have aU:a≠b:=λe=>by subst e;rw [Z6K] at h;cases h
   simp [h,aU]
theorem ZgU {α:Type} (f:α->Str):Z51 (λx y:α=>Z43 (f x) (f y)):=by
 refine ⟨λx y=>?_,λx y z h1 h2=>?_⟩;rw [(Z2b _ _).1,(Z2b _ _).2]
 try dsimp only at *
 by_cases h:0<Z43 (f x) (f z)
 . exfalso
   have g:=(Z2b _ _).2.1 h;have n1:ltS (f y) (f x)=false:=by
    cases hh:ltS (f y) (f x) with
    | false=>rfl
    | true=>have:=(Z2b (f x) (f y)).2.2 hh;omega
   have n2:ltS (f z) (f y)=false:=by
    cases hh:ltS (f z) (f y) with
    | false=>rfl
    | true=>have:=(Z2b (f y) (f z)).2.2 hh;omega
   rcases Zbd (f x) (f y) with a|a|a
   have:=Z8L _ _ _ g a;rw [n2] at this;cases this;rw [a] at g;rw [n2] at g;cases g;rw [n1] at a;cases a
 omega
def lx (a b:Int):Int:=if a≠0 then a else b
theorem Z51.lx {α:Type} {c1 c2:α->α->Int} (h1:Z51 c1) (h2:Z51 c2):Z51 (λx y=>lx (c1 x y) (c2 x y)):=by
 refine ⟨λx y=>?_,λx y z a b=>?_⟩;have:=h1.anti x y;have:=h1.anti y x;have:=h2.anti x y;unfold YtipfkbkkndacjaaGreatDoor.lx
 try dsimp only
 split<;>split<;>omega
 unfold YtipfkbkkndacjaaGreatDoor.lx at *
 try dsimp only at *
 have a1:=h1.anti x y;have a1':=h1.anti y x;have a2:=h1.anti y z;have a2':=h1.anti z y;have a3:=h1.anti x z;have a3':=h1.anti z x;have t1:=h1.trans x y z;have t2:=h1.trans y z x;have t3:=h1.trans z x y;have t4:=h2.trans x y z;split at a<;>split at b<;>split<;>omega
theorem ZkD (a:Int) (l:List Int):orL (a :: l)=lx a (orL l):=by
 unfold orL lx;by_cases h:a=0<;>simp [h]
theorem Zfp (f g:Fct):Z4N f g=lx (cmI f.day g.day) (lx (cmI f.entry g.entry) (lx (Z43 f.kind g.kind) (lx (cmI f.by_ g.by_) (lx (cmI f.to_ g.to_) (cmI f.amt g.amt))))):=by
 unfold Z4N;simp only [ZkD];congr 5;unfold lx orL;by_cases h:cmI f.amt g.amt=0<;>simp [h]
theorem Z4D:Z51 Z4N:=by
 have:Z4N=λf g:Fct=>lx (cmI f.day g.day) (lx (cmI f.entry g.entry) (lx (Z43 f.kind g.kind) (lx (cmI f.by_ g.by_) (lx (cmI f.to_ g.to_) (cmI f.amt g.amt))))):=by
  funext f g;exact Zfp f g
 rw [this];exact (Z2S _).lx ((Z2S _).lx ((ZgU _).lx ((Z2S _).lx ((Z2S _).lx (Z2S _)))))
theorem Z66 {a b:Int} (h:lx a b=0):a=0/\b=0:=by
 unfold lx at h;split at h<;>omega
theorem Z4a {a b:Int} (h:cmI a b=0):a=b:=by
 unfold cmI at h;split at h;omega;split at h<;>omega
theorem ZgV {a b:Str} (h:Z43 a b=0):a=b:=by
 rcases Zbd a b with g|g|g
 have:=(Z2b a b).1.2 g;omega;exact g;have:=(Z2b a b).2.2 g;omega
theorem ZgW {f g:Fct} (h:Z4N f g=0):f=g:=by
 rw [Zfp] at h;obtain ⟨h1,h⟩:=Z66 h;obtain ⟨h2,h⟩:=Z66 h;obtain ⟨h3,h⟩:=Z66 h;obtain ⟨h4,h⟩:=Z66 h;obtain ⟨h5,h6⟩:=Z66 h;obtain ⟨a,b,c,d,e,k⟩:=f;obtain ⟨a',b',c',d',e',k'⟩:=g
 try dsimp only at *
 rw [Z4a h1,Z4a h2,ZgV h3,Z4a h4,Z4a h5,Z4a h6]
theorem Z9X {α:Type} {cf:α->α->Int} (h:Z51 cf) (h0:∀ x y,cf x y=0->x=y):∀ {l m:List α},l.Perm m->l.Pairwise (λa b=>¬ cf b a<0)->m.Pairwise (λa b=>¬ cf b a<0)->l=m
 | [],m,hp,_,_=>(List.nil_perm.1 hp).symm
 | x :: l,[],hp,_,_=>by have:=hp.length_eq;simp at this
 | x :: l, y :: m, hp, h1, h2 => by
   rw [XO] at h1 h2;have po:x=y:=by
    rcases Xb.1 (hp.mem_iff.1 (YaS)) with e|e
    exact e;rcases Xb.1 (hp.symm.mem_iff.1 (YaS)) with e'|e'
    exact e'.symm;have a1:=h2.1 x e;have a2:=h1.1 y e';have b1:=h.anti x y;have b2:=h.anti y x;exact h0 x y (by omega)
   subst po;rw [Z9X h h0 hp.cons_inv h1.2 h2.2]
def Zen (s:Fct):List Fct->List Fct
 | []=>[s]
 | x :: l=>if Z4N s x<=0 then s :: x :: l else x :: Zen s l
def Z7d (l:List Fct):List Fct:=l.foldr Zen []
theorem Z6L (s:Fct):∀ l,(Zen s l).Perm (s :: l)
 | []=>YaF _
 | x :: l => by
   rw [Zen];split;exact YaF _
   . exact ((Z6L s l).cons x).trans (List.Perm.swap _ _ _)
theorem Z7e (s:Fct):∀ l:List Fct,l.Pairwise (λa b=>¬ Z4N b a<0)->(Zen s l).Pairwise (λa b=>¬ Z4N b a<0)
 | [],_=>by simp [Zen]
 | x :: l, h => by
   rw [Zen];rw [XO] at h;split;rename_i hlt;refine XO.2 ⟨λy hy=>?_,XO.2 h⟩;rcases Xb.1 hy with rfl|hy
   have:=Z4D.anti y s;omega;have a1:=h.1 y hy;have a2:=Z4D.anti y x;have a3:=Z4D.anti y s;have:=Z4D.trans s x y hlt (by omega);omega;rename_i hlt;refine XO.2 ⟨λy hy=>?_,Z7e s l h.2⟩;rcases Xb.1 ((Z6L s l).mem_iff.1 hy) with rfl|hy
   omega;exact h.1 y hy
theorem Z0Z:∀ l,(Z7d l).Perm l
 | []=>YaF _
 | x :: l=>(Z6L x _).trans ((Z0Z l).cons x)
theorem Z67:∀ l,(Z7d l).Pairwise (λa b=>¬ Z4N b a<0)
 | []=>List.Pairwise.nil
 | x :: l=>Z7e x _ (Z67 l)
theorem ZkE {l m:List Fct} (hp:m.Perm l) (hs:m.Pairwise (λa b=>¬ Z4N b a<0)):m=Z7d l:=Z9X Z4D (λ_ _=>ZgW) (hp.trans (Z0Z l).symm) hs (Z67 l)
theorem Z7f {X:List Nat} {base:Nat} {v:Value} {zs:List Fct} {w} (h:Row X w base 45 v zs) (bG:zs.length<=400000000000) :
 CC 42 #[v,.func (.func 43) #[] #[]] w λr w'=>r=.tuple #[]/\Row X w' base 45 v (Z7d zs)/\Stp (ob v) w w':=by
 refine Calls.ret (Z9L (β:=Fct) (by decide) Tryz.sortFct Tryz.isAgg45 Tryz.sizeOf45 Z4N Z4D.swo 43 (λx y w=>ZwE x y w) h (by omega)) ?_;rintro _ w' ⟨rfl,zs',hp,hs,hr,hS⟩;rw [<- ZkE hp (Yap.2 λi j hi hj dC=>hs i j hi hj dC)];exact ⟨rfl,hr,hS⟩
def J4 (c:Cas):Nat->List Fct×List Fct×List Fct
 | 0=>(c.fcts,c.fcts,[])
 | k+1=>let s:=J4 c k;let r:=(Z1J c s.2.1).foldl (Z0O c) (s.1,[]);(r.1,r.2,s.2.2++r.2)
def Z1g (c:Cas):List Fct:=Z7d (J4 c 16).2.2
theorem Z7g (c:Cas) {k:Nat} (h:(J4 c k).2.1=[]):∀ j,(J4 c (k+j)).2.2=(J4 c k).2.2/\(J4 c (k+j)).2.1=[]
 | 0=>⟨rfl,h⟩
 | j + 1 => by
   obtain ⟨h1,h2⟩:=Z7g c h j;rw [<- Yat,J4];dsimp only;rw [h2];simp [Z1J,h1]
theorem Z68 (c:Cas) (f:Fct):∀ i,(Z7s c f i).length<=i
 | 0=>Xn _
 | i + 1 => by
   rw [Z7s,Xc];have:=Z68 c f i;split<;>simp<;>omega
theorem Z69 (c:Cas):∀ fs:List Fct,(Z1J c fs).length<=fs.length * c.ruls.length
 | []=>by simp [Z1J]
 | f :: fs => by
   have h1:=Z69 c fs;have h2:=Z68 c f c.ruls.length;unfold Z1J at h1 ⊢;rw [YaY,Xc,Xe,Yac];omega
theorem ZcP {c:Cas} {f:Fct} {p:DI}:∀ i,p∈Z7s c f i->p.2<i/\p.1=(Z0F c f p.2).1/\(Z0F c f p.2).2=true
 | 0,h=>by cases h
 | i + 1, h => by
   rw [Z7s] at h;rcases Xf.1 h with h|h
   obtain ⟨h1,h2⟩:=ZcP i h;exact ⟨by omega,h2⟩;split at h;rename_i ht;simp only [Xi] at h;subst h;exact ⟨by dsimp only;omega,rfl,ht⟩;cases h
theorem ZcQ {c:Cas} {fs:List Fct} {p:DI} (h:p∈Z1J c fs):∃ f∈fs,p.2<c.ruls.length/\p.1=(Z0F c f p.2).1/\(Z0F c f p.2).2=true:=by
 unfold Z1J at h;obtain ⟨f,hf,hp⟩:=YbE.1 h;exact ⟨f,hf,ZcP _ hp⟩
theorem Zbe {c:Cas} {f:Fct} {r:Int} (ho:Z64 c) (hf:Z0C f) (h:(Z0F c f r).2=true):(Z0F c f r).1.trig=f/\0<=(Z0F c f r).1.due/\(Z0F c f r).1.due<=3652058:=by
 have bF:=ZkC ho hf;have no:∀ {P:Prop},(noD.2=true)->P:=λh=>by cases h
 unfold Z0F at h ⊢;by_cases hr:¬ (0<=r/\r<=(c.ruls.length:Int) - 1);rw [if_pos hr] at h;exact no h;rw [if_neg hr] at h ⊢;have hq:c.ruls.getD r.toNat crZ∈c.ruls:=by
  have hl:r.toNat<c.ruls.length:=by omega
  simp [hl]
 have ge:=ho.due _ hq;generalize c.ruls.getD r.toNat crZ=q at *;dsimp only at h ⊢;have pn:=Z8J (o:=opn c) bF ge;generalize Je (opn c) (evL c f) q.due=y at *;generalize Je (opn c) (evL c f) q.cnd=x at *;split at h;exact no h;split at h;exact no h;split at h;exact no h;rename_i g1 g2 g3;rw [if_neg g1,if_neg g2,if_neg g3];have hy:0<=y.1/\y.1<=3652058:=by
  rcases pn (Decidable.not_not.1 g3) with h|h|h
  omega;omega;exact h.2
 generalize Z27 f.day y.1 c.stys=z at *;split at h;exact no h;rename_i g4;rw [if_neg g4];split at h;rename_i g5;rw [if_pos g5];exact ⟨rfl,hy⟩;rename_i g5;rw [if_neg g5];split at h;exact no h;rename_i g6;rw [if_neg g6];have:=ZL.1 (Z41 (Decidable.not_not.1 g6)).1;exact ⟨rfl,this⟩
theorem Ztq {c:Cas} {d:Dln} {i:Nat} (ho:Z64 c) (hf:Z0C d.trig) (h:(ZcB c d i).2=true):Z0C (ZcB c d i).1:=by
 have h1:=hf.day;have h2:=ho.today;unfold ZcB at h;simp only [decide_eq_true_eq] at h;refine ⟨?_,hf.to_,hf.by_,hf.amt⟩;show 0<=max d.due d.trig.day+1/\max d.due d.trig.day+1<=3652058;omega
theorem ZcR {c:Cas} (ho:Z64 c):∀ (l:List DI) (s:List Fct×List Fct),(∀ p∈l,Z0C p.1.trig)->(∀ f∈s.2,Z0C f)->∀ f∈(l.foldl (Z0O c) s).2,Z0C f
 | [],s,_,hs=>hs
 | p :: l, s, hl, hs => by
   rw [X2];refine ZcR ho l _ (λq hq=>hl q (by simp [hq])) ?_;unfold Z0O;dsimp only;split;rename_i hc;intro f hf;rcases Xf.1 hf with h|h
   exact hs f h;simp only [Xi] at h;subst h;exact Ztq ho (hl p (by simp)) hc.1;exact hs
theorem ZkF {c:Cas} (ho:Z64 c) {fs:List Fct} (im:∀ f∈fs,Z0C f) (known:List Fct):∀ f∈((Z1J c fs).foldl (Z0O c) (known,[])).2,Z0C f:=
 ZcR ho _ _ (λp hp=>by
  obtain ⟨f,hf,_,he,ht⟩:=ZcQ hp;rw [he,(Zbe ho (im f hf) ht).1];exact im f hf) (by simp)
theorem Z9Y (c:Cas) (hr:c.ruls.length<=4) (fs known:List Fct):((Z1J c fs).foldl (Z0O c) (known,[])).2.length<=fs.length * 4:=by
 have h1:=Z6J c (Z1J c fs) (known,[]);have h2:=Z69 c fs;have h3:=Nat.mul_le_mul_left fs.length hr;simp only [Xg] at h1;omega
structure Z6a (c:Cas):Prop where
 ok:Z64 c
 fl:c.fcts.length<=16
 rl:c.ruls.length<=4
 fo:∀ f∈c.fcts,Z0C f
 nd:c.fcts.Nodup
theorem Z8M {c:Cas} (h:Z6a c):∀ k,(J4 c k).2.1.length<=16 * 4 ^ k/\3 * (J4 c k).2.2.length<=16 * 4 ^ (k+1)
 | 0=>⟨by simpa [J4] using h.fl,by simp [J4]⟩
 | k + 1 => by
   obtain ⟨h1,h2⟩:=Z8M h k;have h3:=Z9Y c h.rl (J4 c k).2.1 (J4 c k).1;rw [J4];dsimp only;rw [Xc];have e1:4 ^ (k+1)=4 ^ k * 4:=Ybs 4 k;have e2:4 ^ (k+2)=4 ^ (k+1) * 4:=Ybs 4 (k+1);constructor<;>omega
theorem Z8N {c:Cas} (h:Z6a c) {k:Nat} (hk:k<=16):(J4 c k).2.1.length<=70000000000/\(J4 c k).2.2.length<=92000000000:=by
 obtain ⟨h1,h2⟩:=Z8M h k;have e1:4 ^ k<=4 ^ 16:=Nat.pow_le_pow_right (by decide) hk;have e2:4 ^ (k+1)<=4 ^ 17:=Nat.pow_le_pow_right (by decide) (by omega);have n1:4 ^ 16=4294967296:=by decide
 have n2:4 ^ 17=17179869184:=by decide
 constructor<;>omega
theorem Z5o {c:Cas} (h:Z6a c):∀ k,(∀ f∈(J4 c k).2.1,Z0C f)/\(∀ f∈(J4 c k).2.2,Z0C f)
 | 0=>⟨h.fo,by simp [J4]⟩
 | k + 1 => by
   obtain ⟨h1,h2⟩:=Z5o h k;have h3:=ZkF h.ok h1 (J4 c k).1;rw [J4];dsimp only;exact ⟨h3,λf hf=>(Xf.1 hf).elim (h2 f) (h3 f)⟩
end Go.Proofs.YtipfkbkkndacjaaGreatDoor
namespace Go.Eng
open Go
def Z8O (ops:Array Oper) (Lt:List Nat) (i q:Nat) (r1 r2:List (Nat×Nat)):List Nat->Array Bool->Bool
 | [],listed=>Region.ready .any ops listed == [i,q] && J5 ops Lt r1 (listed.setIfInBounds i true) && J5 ops Lt r2 (listed.setIfInBounds q true)
 | j :: p,listed=>(Region.ready .any ops listed).contains j && Region.free .any ops listed j && Z8O ops Lt i q r1 r2 p (listed.setIfInBounds j true)
structure WDF (P:Program) (n:Nat) (ops:Array Oper) (S:List Nat) (Lt:List Nat) (Q:Exit->Act->World->Prop) (i q:Nat) (r1 r2:List (Nat×Nat)) (p:List Nat) (e:Env) (w:World):Prop where
 h:∀ listed:Array Bool,Region.noSelect ops=true->Z8O ops Lt i q r1 r2 p listed=true->∀ a,Has n e a->Zap P .any ops S (λj=>Lt.contains j) (λa w=>Q .normal a w) (p.length+(wt r1+1)) listed a w
section
variable {P:Program} {n:Nat} {Q:Exit->Act->World->Prop} {e:Env} {w:World} {ops:Array Oper} {S:List Nat} {Lt:List Nat}
theorem ZgX {id:Nat} {l:List Oper} (m:Nat) (S:List Nat) (Lt:List Nat) (p:List Nat) (i q:Nat) (r1 r2:List (Nat×Nat)) (cp:l.length=m) (hm:P.follows .mixedOrders=true) (hs:Region.noSelect l.toArray=true) (hl:Nat.beq (p.length+(wt r1+1)) l.length=true)
 (hB:Z8O l.toArray Lt i q r1 r2 p (Array.replicate m false)=true)
 (h:∀ w',Stp [] w w'->WDF P n l.toArray S Lt Q i q r1 r2 p e w'):WC P n (.region id l.toArray true) Q e w:=by
 subst cp;refine ⟨λa ha=>wp_region_any hm ?_⟩;have h1:=(h { w with drawn:=w.drawn+1 } (Stp.drew [] w)).h _ hs hB a ha;have h2:=Z0S (Q:=Q) (λa w hz=>hz) _ _ _ _ h1;rw [XN hl] at h2;simpa using h2
theorem Z8P {i q j d:Nat} {r1 r2:List (Nat×Nat)} {p:List Nat} {op:Op} {ty:TypeId} {pos:String} {af:Array Edge} {gd:Option (Nat×Bool)} {v:Value} (hi:ops[j]?=some ⟨some d,op,ty,pos,af,gd⟩) (hg:Z02 ops e gd) (hp:∀ w',PR P n ⟨some d,op,ty,pos,af,gd⟩ e w' v) (aw:Nat.blt d n=true)
 (k:WDF P n ops S Lt Q i q r1 r2 p ((d,v) :: e) w):WDF P n ops S Lt Q i q r1 r2 (j :: p) e w:=by
 refine ⟨λlisted hs hB a ha=>?_⟩;simp only [Z8O,Xm] at hB;obtain ⟨⟨h1,h2⟩,h3⟩:=hB;have hk:=k.h _ hs h3 _ (ha.put (v:=v) aw);have e1:(j :: p).length+(wt r1+1)=p.length+(wt r1+1)+1:=by simp only [Xe];omega
 rw [e1];exact Z5q (oi:=⟨some d,op,ty,pos,af,gd⟩) (R:=λ_ _=>True) (λ_=>trivial) (λ_ _ _ _ _=>trivial) hi (λ_ _ _ _ _ _ _ _=>trivial) (Region.noSelect_spec hs) _ _ _ _ (Region.free_spec hi h2) (λ_=>trivial) (by simpa using h1) (.inl ⟨Jv ha hg,λw' _=>(hp w').h a ha⟩) hk
theorem ZkG {i q:Nat} {r1 r2:List (Nat×Nat)} (hw:Nat.beq (wt r1) (wt r2)=true) (h1:WD1 P n ops S Lt Q i r1 e w) (h2:WD1 P n ops S Lt Q q r2 e w):WDF P n ops S Lt Q i q r1 r2 [] e w:=by
 refine ⟨λlisted hs hB a ha=>?_⟩;simp only [Z8O,Xm,beq_iff_eq] at hB;obtain ⟨⟨hr,c1⟩,c2⟩:=hB;have e1:([]:List Nat).length+(wt r1+1)=wt r1+1:=by simp
 rw [e1];refine ⟨λh0=>absurd (hr ▸ h0) (by simp),λj hj=>?_⟩;rw [hr] at hj;have gk:j=i\/j=q:=by simpa using hj
 rcases gk with rfl|rfl
 exact h1.h _ hs c1 a ha;rw [XN hw];exact h2.h _ hs c2 a ha
theorem Z8Q {i q j d:Nat} {r1 r2:List (Nat×Nat)} {p:List Nat} {x:Operand} {ty:TypeId} {pos:String} {af:Array Edge} {gd:Option (Nat×Bool)} {v:Value} (hi:ops[j]?=some ⟨some d,.move x,ty,pos,af,gd⟩) (hg:Z02 ops e gd) (hx:ev e x=some v) (aw:Nat.blt d n=true)
 (k:WDF P n ops S Lt Q i q r1 r2 p ((d,v) :: e) w):WDF P n ops S Lt Q i q r1 r2 (j :: p) e w:=Z8P hi hg (λ_=>ZZ hx) aw k
theorem ZcS {i q j d:Nat} {r1 r2:List (Nat×Nat)} {p:List Nat} {x y:Operand} {t u:TypeId} {a b:Int} {ty:TypeId} {pos:String} {af:Array Edge} {gd:Option (Nat×Bool)} (hi:ops[j]?=some ⟨some d,.binOp .rem t x y u,ty,pos,af,gd⟩) (hg:Z02 ops e gd) (hx:ev e x=some (.I a)) (hy:ev e y=some (.I b)) (h0:0<=a) (hb:0<b) (hr:I64 a) (aw:Nat.blt d n=true)
 (k:WDF P n ops S Lt Q i q r1 r2 p ((d,.I (a % b)) :: e) w):WDF P n ops S Lt Q i q r1 r2 (j :: p) e w:=Z8P hi hg (λ_=>ZeJ hx hy h0 hb hr) aw k
theorem ZkH {i q j d:Nat} {r1 r2:List (Nat×Nat)} {p:List Nat} {x y:Operand} {t u:TypeId} {a b:Int} {ty:TypeId} {pos:String} {af:Array Edge} {gd:Option (Nat×Bool)} (hi:ops[j]?=some ⟨some d,.binOp .quo t x y u,ty,pos,af,gd⟩) (hg:Z02 ops e gd) (hx:ev e x=some (.I a)) (hy:ev e y=some (.I b)) (h0:0<=a) (hb:0<b) (hr:I64 a) (aw:Nat.blt d n=true)
 (k:WDF P n ops S Lt Q i q r1 r2 p ((d,.I (a / b)) :: e) w):WDF P n ops S Lt Q i q r1 r2 (j :: p) e w:=Z8P hi hg (λ_=>ZeK hx hy h0 hb hr) aw k
end
end Go.Eng
namespace Go.Proofs.YtipfkbkkndacjaaGreatDoor
open Go Go.Eng Go.RowKit Go.Proofs
theorem ZgY (z:Int) (w) (hz:I64 z):CC 28 #[.I z] w λr w'=>(∃ s∈Z1y,r=str s)/\Stp [] w w':=by
 refine cW1 10 Tryz.func28 ?_;refine W ?_;refine Z0 (Z1 (vs:=[(0,str [99,108,97,105,109]),(1,str [97,110,115,119,101,114]),(2,str [109,111,116,105,111,110]),(3,str [111,114,100,101,114]),(4,str [97,112,112,101,97,108]),(5,str [108,97,112,115,101])]) rfl (bS6 _ _ _ _ _ _)) rfl ?_;rintro v w1 hN;have hv:SlV [] w1 v Z1y:=hN.slv (by simp) rfl rfl (by decide);have hS:=Z9.stp hN;clear hN;refine W ?_;refine CM (Zd rfl rfl) (Zp z 6 _ (by decide) hz) ?_;rintro _ w2 ⟨rfl,hT⟩;have hr:=Zo (if z<0 then -(z+1) else z) 6 (by decide);generalize (if z<0 then -(z+1) else z) % 6=y at hr ⊢;obtain ⟨q,rfl⟩:∃ q:Nat,y=(q:Int):=⟨y.toNat,by omega⟩
 replace hv:=hv.up hT;have cH:q<Z1y.length:=by show q<6;omega
 refine RT ?_;exact ⟨⟨_,Xd cH,rfl⟩,hS.trans hT⟩
theorem Z1h (v:Value) (l:List Int) (k:Nat) (w) (hs:SlV [] w v l) :
 CC 33 #[v,.I (k:Int)] w λr w'=>SlV [] w r (l.drop k)/\w'=w:=by
 have aS:=hs.max;refine cW2 11 Tryz.func33 ?_;refine W ?_;have hm:(if (l.length:Int)<(k:Int) then (l.length:Int) else (k:Int))=((min k l.length:Nat):Int):=by split<;>omega
 refine Z8 (Z57 (l:=min k l.length) rfl hs rfl (by omega) (by omega)) rfl ?_;refine W ?_;refine WR ?_;have h:=hs.slc (l:=min k l.length) (r:=l.length) (by omega) (Xn _);rw [Xp] at h;have e:l.drop (min k l.length)=l.drop k:=by
  by_cases hk:k<=l.length;rw [Yag hk];rw [YbB (by omega),Ya0,YaA (by omega)]
 rw [e] at h;exact .mk ⟨h,rfl⟩
structure Z9Z (f:Fct):Prop where
 kind:f.kind∈Z1y
 day:739616<=f.day/\f.day<=739655
 by_:0<=f.by_/\f.by_<=2
 to_:0<=f.to_/\f.to_<=2
 amt:-20<=f.amt/\f.amt<=179
theorem Z9Z.ok {f:Fct} (h:Z9Z f):Z0C f:=⟨by have:=h.day;omega,by have:=h.by_;omega,by have:=h.to_;omega,by have:=h.amt;omega⟩
theorem ZnS (f:Fct) (w):(Instr.build 45 #[(0,.I f.entry),(1,str f.kind),(2,.I f.day),(3,.I f.by_),(4,.I f.to_),(5,.I f.amt)]).run Tryz.prog w=.ok (aG f) w:=by kernel_rfl
theorem Za0 (en z:Int) (w) (hz:I64 z) :
 CC 26 #[.I en,.I z] w λr w'=>∃ f:Fct,r=aG f/\f.entry=en/\Z9Z f/\Stp [] w w':=by
 refine cW2 26 Tryz.func26 ?_;refine W ?_;refine Z0 Z2 rfl ?_;rintro _ w1 ⟨b4,rfl,bE,k4,hS⟩;refine W ?_;refine CM (Zd rfl rfl) (Zp z 100000000 _ (by decide) hz) ?_;rintro _ w2 ⟨rfl,hT⟩;have hr:=Zo (if z<0 then -(z+1) else z) 100000000 (by decide);generalize (if z<0 then -(z+1) else z) % 100000000=y at hr ⊢;replace k4:=k4.up hT;replace hS:=hS.trans hT;clear hT;refine W ?_;refine CM (ZR rfl) (ZgY y _ (by unfold I64;omega)) ?_;rintro _ w3 ⟨⟨s,hs,rfl⟩,hT⟩;replace k4:=k4.up hT;replace hS:=hS.trans hT;clear hT;refine W ?_;have hf:Z9Z (⟨en,s,739616+y / 6 % 40,y / 240 % 3,y / 720 % 3,y / 2160 % 200 - 20⟩:Fct):=by
  refine ⟨hs,?_,?_,?_,?_⟩<;>dsimp only<;>omega
 refine Z7 rfl (ZnS (⟨en,s,739616+y / 6 % 40,y / 240 % 3,y / 720 % 3,y / 2160 % 200 - 20⟩:Fct)) rfl ?_;generalize hg:(⟨en,s,739616+y / 6 % 40,y / 240 % 3,y / 720 % 3,y / 2160 % 200 - 20⟩:Fct)=f at hf;have he:f.entry=en:=by rw [<- hg]
 refine SA (us:=Z3.enc f) k4 ?_;rintro _ w4 ⟨hT,k4⟩;replace hS:=hS.ow hT;refine W ?_;refine J6 rfl rfl rfl k4 rfl ?_;exact .mk ⟨f,rfl,he,hf,hS⟩
structure Za1 (x:Crr):Prop where
 ext:0<=x.extra/\x.extra<=1000
 tol:0<=x.tol/\x.tol<=1000
theorem Z7F (a b c d:Int) (w):(Instr.buildSlice 23 4 #[(0,.I a),(1,.I b),(2,.I c),(3,.I d)]).run Tryz.prog w=.ok (.slice (some ⟨w.heap.size,0,none⟩) 4 4) (w.alloc (.cells #[.I a,.I b,.I c,.I d] 3)):=by kernel_rfl
theorem Za2 (x:Crr) (w):(Instr.build 143 #[(0,.I x.extra),(1,.I x.tol)]).run Tryz.prog w=.ok (aG x) w:=by kernel_rfl
theorem Za3 (x:Crr) (w):(Instr.buildSlice 26 1 #[(0,aG x)]).run Tryz.prog w=.ok (.slice (some ⟨w.heap.size,0,none⟩) 1 1) (w.alloc (.cells (Z3.enc x).toArray 143)):=by kernel_rfl
theorem Zbf (lv:Value) (l:List Int) (w) (hs:SlV [] w lv l) (hl:∀ a∈l,I64 a) :
 CC 34 #[lv] w λr w'=>∃ cs:List Crr,1<=cs.length/\cs.length<=4/\(∀ x∈cs,Za1 x)/\ZI 143 w w' r cs:=by
 refine cW1 32 Tryz.func34 ?_;refine W ?_;refine LP (σ:=Nat×Value×List Crr) (λq=>[(0,lv),(3,q.2.1),(4,.I (q.1:Int))]) (λq W=>q.1<=4/\q.2.2.length=q.1/\(∀ x∈q.2.2,Za1 x)/\Row [] W w.heap.size 143 q.2.1 q.2.2/\Stp [] w W) (λq=>4 - q.1) (0,.N,[]) ⟨by decide,rfl,by simp,Row.nil,Stp.refl _ _⟩ ?_;rintro ⟨j,ov,cs⟩ w1 ⟨hj,ai,aO,ab,hS⟩;dsimp only at hj ai aO ab ⊢;have br:=λb hb=>ab.ob_le b hb;have cm:=hs.up hS;refine W ?_;refine CM (ZN rfl rfl rfl) (J3 [] _ l 0 4 _ (by decide) (by unfold I64;omega) cm hl) ?_;rintro _ w2 ⟨q,rfl,hq,hT⟩;replace ab:=ab.up hT;replace cm:=cm.up hT;replace hS:=hS.trans hT;clear hT;by_cases hlt:(j:Int)<=(q:Int);refine QO ?_;refine CM (ZN rfl rfl rfl) (J3 [] _ l (1+(j:Int)) 1000 _ (by decide) (by unfold I64;omega) cm hl) ?_;rintro _ w3 ⟨x,rfl,hx,hT⟩;replace ab:=ab.up hT;replace cm:=cm.up hT;replace hS:=hS.trans hT;clear hT;refine W ?_;refine ZgX 16 (ob ov) [] [0,2,3,7,8,9] 1 6 [(4,0),(5,1),(6,2),(10,0),(11,1),(12,0),(13,2),(14,2),(15,0)] [(10,0),(11,1),(1,2),(4,0),(5,1),(12,0),(13,2),(14,2),(15,0)] rfl mixed (by kernel_rfl) (by kernel_rfl) (by kernel_rfl) (λw1 ae=>?_);replace ab:=ab.up ae;replace hS:=hS.trans ae;clear ae;have za:=hS.size;refine Z8Q rfl trivial rfl rfl ?_;refine Z8Q rfl trivial rfl rfl ?_;refine ZcS rfl trivial rfl rfl (by omega) (by decide) (by unfold I64;omega) rfl ?_;refine Z8Q rfl trivial rfl rfl ?_;refine ZkH rfl trivial rfl rfl (by omega) (by decide) (by unfold I64;omega) rfl ?_;refine ZcS rfl trivial rfl rfl (by omega) (by decide) (by unfold I64;omega) rfl ?_;obtain ⟨k1,bH,hq1⟩:∃ k:Nat,(x:Int) % 4=(k:Int)/\k<([0,3,5,2]:List Int).length:=⟨x % 4,by omega,YbG _ (by decide)⟩
 obtain ⟨k2,dc,hq2⟩:∃ k:Nat,(x:Int) / 4 % 4=(k:Int)/\k<([0,0,1,2]:List Int).length:=⟨x / 4 % 4,by omega,YbG _ (by decide)⟩
 rw [bH,dc];apply ZkG rfl;refine JK rfl trivial (Z1 (vs:=[(0,.I 0),(1,.I 3),(2,.I 5),(3,.I 2)]) rfl (Z7F _ _ _ _)) (λ_ _ h=>(Z9.stp h).mn) rfl ?_;rintro va wa hN;have d6:SlV (ob ov) wa va ([0,3,5,2]:List Int):=hN.slv (λb hb=>(ab.ob_le b hb).2) rfl rfl (by simp [maxLen]);have hT:=Z9.stp hN;clear hN;replace ab:=ab.up hT;replace hS:=hS.trans hT;clear hT;refine QD ?_;refine Za rfl trivial (Z1 (vs:=[(0,.I 0),(1,.I 0),(2,.I 1),(3,.I 2)]) rfl (Z7F _ _ _ _)) (λ_ _ h=>(Z9.stp h).mn) rfl ?_;rintro vb wb hN;have gF:SlV (ob ov) wb vb ([0,0,1,2]:List Int):=hN.slv (λb hb=>(ab.ob_le b hb).2) rfl rfl (by simp [maxLen]);have hT:=Z9.stp hN;clear hN;replace ab:=ab.up hT;replace d6:=d6.up hT;replace hS:=hS.trans hT;clear hT;refine QD ?_;have hy:Za1 (⟨([0,3,5,2]:List Int)[k1]'hq1,([0,0,1,2]:List Int)[k2]'hq2⟩:Crr):=by
  constructor;have:=Xd hq1;dsimp only;generalize ([0,3,5,2]:List Int)[k1]'hq1=A at this ⊢;simp only [Xb,Xj,or_false] at this;omega;have:=Xd hq2;dsimp only;generalize ([0,0,1,2]:List Int)[k2]'hq2=A at this ⊢;simp only [Xb,Xj,or_false] at this;omega
 refine ZS rfl trivial (λw'=>JC rfl (λw=>Za2 (⟨([0,3,5,2]:List Int)[k1]'hq1,([0,0,1,2]:List Int)[k2]'hq2⟩:Crr) w)) rfl ?_;generalize (⟨([0,3,5,2]:List Int)[k1]'hq1,([0,0,1,2]:List Int)[k2]'hq2⟩:Crr)=y at hy ⊢;refine Za rfl trivial (Z1 rfl (Za3 y)) (λ_ _ h=>(Z9.stp h).mn) rfl ?_;rintro vs wd hN;have cF:SlV (ob ov++[]) wd vs [y]:=hN.slv (λb hb=>(ab.ob_le b (by simpa using hb)).2) rfl (by simp) (by simp [maxLen]);have hT:=Z9.stp hN;clear hN;replace ab:=ab.up hT;replace hS:=hS.trans hT;clear hT;have zd:=hS.size;refine Za rfl trivial (ZF (α:=Crr) (X:=[]) (base:=w.heap.size) rfl (by decide) rfl rfl ab cF (Xh (Xo _ (show cs.length+[y].length<=10 by simp;omega)) (by decide)) (by simp [maxLen];omega) (by omega)) (λ_ _ h=>h.2.1) rfl ?_;rintro ov' we ⟨dA,cE,eo⟩;refine QD ?_;refine W ?_;exact QL (j+1,ov',cs++[y]) ⟨by dsimp only;omega,by simp [ai],λz hz=>by
  rcases Xf.1 hz with h|h
  exact aO z h;simp only [Xi] at h;subst h;exact hy,dA,hS.own cE (λb hb=>.inr (ab.ob_le b hb).1)⟩ (by dsimp only;omega)
 refine JK rfl trivial (Z1 (vs:=[(0,.I 0),(1,.I 0),(2,.I 1),(3,.I 2)]) rfl (Z7F _ _ _ _)) (λ_ _ h=>(Z9.stp h).mn) rfl ?_;rintro vb wb hN;have gF:SlV (ob ov) wb vb ([0,0,1,2]:List Int):=hN.slv (λb hb=>(ab.ob_le b hb).2) rfl rfl (by simp [maxLen]);have hT:=Z9.stp hN;clear hN;replace ab:=ab.up hT;replace hS:=hS.trans hT;clear hT;refine QD ?_;refine Za rfl trivial (Z1 (vs:=[(0,.I 0),(1,.I 3),(2,.I 5),(3,.I 2)]) rfl (Z7F _ _ _ _)) (λ_ _ h=>(Z9.stp h).mn) rfl ?_;rintro va wa hN;have d6:SlV (ob ov) wa va ([0,3,5,2]:List Int):=hN.slv (λb hb=>(ab.ob_le b hb).2) rfl rfl (by simp [maxLen]);have hT:=Z9.stp hN;clear hN;replace ab:=ab.up hT;replace gF:=gF.up hT;replace hS:=hS.trans hT;clear hT;refine QD ?_;have hy:Za1 (⟨([0,3,5,2]:List Int)[k1]'hq1,([0,0,1,2]:List Int)[k2]'hq2⟩:Crr):=by
  constructor;have:=Xd hq1;dsimp only;generalize ([0,3,5,2]:List Int)[k1]'hq1=A at this ⊢;simp only [Xb,Xj,or_false] at this;omega;have:=Xd hq2;dsimp only;generalize ([0,0,1,2]:List Int)[k2]'hq2=A at this ⊢;simp only [Xb,Xj,or_false] at this;omega
 refine ZS rfl trivial (λw'=>JC rfl (λw=>Za2 (⟨([0,3,5,2]:List Int)[k1]'hq1,([0,0,1,2]:List Int)[k2]'hq2⟩:Crr) w)) rfl ?_;generalize (⟨([0,3,5,2]:List Int)[k1]'hq1,([0,0,1,2]:List Int)[k2]'hq2⟩:Crr)=y at hy ⊢;refine Za rfl trivial (Z1 rfl (Za3 y)) (λ_ _ h=>(Z9.stp h).mn) rfl ?_;rintro vs wd hN;have cF:SlV (ob ov++[]) wd vs [y]:=hN.slv (λb hb=>(ab.ob_le b (by simpa using hb)).2) rfl (by simp) (by simp [maxLen]);have hT:=Z9.stp hN;clear hN;replace ab:=ab.up hT;replace hS:=hS.trans hT;clear hT;have zd:=hS.size;refine Za rfl trivial (ZF (α:=Crr) (X:=[]) (base:=w.heap.size) rfl (by decide) rfl rfl ab cF (Xh (Xo _ (show cs.length+[y].length<=10 by simp;omega)) (by decide)) (by simp [maxLen];omega) (by omega)) (λ_ _ h=>h.2.1) rfl ?_;rintro ov' we ⟨dA,cE,eo⟩;refine QD ?_;refine W ?_;exact QL (j+1,ov',cs++[y]) ⟨by dsimp only;omega,by simp [ai],λz hz=>by
  rcases Xf.1 hz with h|h
  exact aO z h;simp only [Xi] at h;subst h;exact hy,dA,hS.own cE (λb hb=>.inr (ab.ob_le b hb).1)⟩ (by dsimp only;omega)
 . refine QO ?_
   all_goals
    refine RU ?_;exact ⟨cs,by omega,by omega,aO,ab,hS⟩
theorem ZgZ (x:Spn) (w):(Instr.buildSlice 27 1 #[(0,aG x)]).run Tryz.prog w=.ok (.slice (some ⟨w.heap.size,0,none⟩) 1 1) (w.alloc (.cells (Z3.enc x).toArray 75)):=by kernel_rfl
structure Zfq (x:Spn):Prop where
 lo:0<=x.1
 le:x.1<=x.2
 hi:x.2<=3652058
theorem ZcT (lv:Value) (l:List Int) (w) (hs:SlV [] w lv l) (hl:∀ a∈l,I64 a) (h4:l.length<=4) :
 CC 38 #[lv,.I 739616] w λr w'=>∃ xs:List Spn,xs.length<=2/\(∀ x∈xs,Zfq x)/\ZI 75 w w' r xs:=by
 refine cW2 44 Tryz.func38 ?_;refine W ?_;refine LP (σ:=Nat×Value×List Spn) (λq=>[(0,lv),(1,.I 739616),(5,q.2.1),(6,.I ((2 * q.1:Nat):Int))]) (λq W=>q.1<=2/\q.2.2.length=q.1/\(∀ x∈q.2.2,Zfq x)/\Row [] W w.heap.size 75 q.2.1 q.2.2/\Stp [] w W) (λq=>4 - q.1) (0,.N,[]) ⟨by decide,rfl,by simp,Row.nil,Stp.refl _ _⟩ ?_;rintro ⟨j,ov,xs⟩ w1 ⟨hj,ai,aO,ab,hS⟩;dsimp only at hj ai aO ab ⊢;have br:=λb hb=>ab.ob_le b hb;have cm:=hs.up hS;by_cases hlt:2 * j+1<l.length;have hlt0:2 * j<l.length:=by omega
 refine QO ?_;have iT:=hl _ (Xd hlt0);have rj:=hl _ (Xd hlt);refine CM (Zd rfl rfl) (Zp (l[2 * j]'hlt0) 80 _ (by decide) iT) ?_;rintro _ w2 ⟨rfl,hT⟩;have hr:=Zo (if l[2 * j]<0 then -(l[2 * j]+1) else l[2 * j]) 80 (by decide);generalize (if l[2 * j]<0 then -(l[2 * j]+1) else l[2 * j]) % 80=y at hr ⊢;replace ab:=ab.up hT;replace cm:=cm.up hT;replace hS:=hS.trans hT;clear hT;refine QO ?_;have yz:2 * j+1<l.length:=hlt;refine CM (Zd rfl rfl) (Zp (l[2 * j+1]'hlt) 15 _ (by decide) rj) ?_;rintro _ w3 ⟨rfl,hT⟩;have dg:=Zo (if l[2 * j+1]<0 then -(l[2 * j+1]+1) else l[2 * j+1]) 15 (by decide);generalize (if l[2 * j+1]<0 then -(l[2 * j+1]+1) else l[2 * j+1]) % 15=z at dg ⊢;replace ab:=ab.up hT;replace cm:=cm.up hT;replace hS:=hS.trans hT;clear hT;refine QO ?_;obtain ⟨f0,oY⟩:∃ f0:Int,max 0 (min 3652058 (739616 - 20+y))=f0:=⟨_,rfl⟩
 obtain ⟨f1,oV⟩:∃ f1:Int,min 3652058 (f0+z)=f1:=⟨_,rfl⟩
 rw [oY,oV];have aA:Zfq (f0,f1):=by constructor<;>dsimp only<;>omega
 refine Z7 (vs:=[(0,.I f0),(1,.I f1)]) rfl (Z65 _ _) rfl ?_;have zS:=hS.size;refine APG ((f0,f1):Spn) ab (by simp) (by omega) rfl (Xh (Xo _ (show xs.length+1<=10 by omega)) (by decide)) (by simp [maxLen];omega) (λv1 ov' w4 dA cE eo=>?_);refine QO ?_;exact Zx (j+1,ov',xs++[(f0,f1)]) ⟨rfl,rfl,rfl,rfl,trivial⟩ ⟨by dsimp only;omega,by simp [ai],λz hz=>by
  rcases Xf.1 hz with h|h
  exact aO z h;simp only [Xi] at h;subst h;exact aA,dA,hS.own cE (λb hb=>.inr (br b hb).1)⟩ (by dsimp only;omega)
 . refine QO ?_
   all_goals
    refine RU ?_;exact ⟨xs,by omega,aO,ab,hS⟩
structure Zfr (n:Nat) (r:Rtn):Prop where
 crr:0<=r.crr/\r.crr<n
 lo:0<=r.lo/\r.lo<=3652058
 hi:0<=r.hi/\r.hi<=3652058
 kind:(r.kind=1/\r.lo<=r.hi)\/(r.kind=2/\r.lo=0)\/(r.kind=3/\r.lo=0/\r.hi=0)
theorem Zfs (w):(Instr.buildSlice 23 8 #[(0,.I 1),(1,.I 1),(2,.I 1),(3,.I 1),(4,.I 2),(5,.I 2),(6,.I 3),(7,.I 1)]).run Tryz.prog w=.ok (.slice (some ⟨w.heap.size,0,none⟩) 8 8) (w.alloc (.cells #[.I 1,.I 1,.I 1,.I 1,.I 2,.I 2,.I 3,.I 1] 3)):=by kernel_rfl
theorem Zft (a k:Int) (w):(Instr.build 80 #[(0,.I a),(1,.I k)]).run Tryz.prog w=.ok (aG (⟨a,k,0,0⟩:Rtn)) w:=by kernel_rfl
def K8:List Int:=[1,1,1,1,2,2,3,1]
theorem Ztr {k:Nat} (h:k<K8.length):K8[k]=1\/K8[k]=2\/K8[k]=3:=by
 have:=Xd h;generalize K8[k]=z at this ⊢;simp only [K8,Xb,Xj,or_false] at this;omega
theorem ZcU (lv cv:Value) (l:List Int) (cs:List Crr) (day:Int) (w) (hs:SlV [] w lv l) (hl:∀ a∈l,I64 a) (h3:l.length<=3) (ca:SlV [] w cv cs) (hc:1<=cs.length/\cs.length<=4) (hd:739616<=day/\day<=739655) :
 CC 39 #[lv,cv,.I day] w λr w'=>∃ xs:List Rtn,xs.length<=3/\(∀ x∈xs,Zfr cs.length x)/\ZI 80 w w' r xs:=by
 refine cW3 69 Tryz.func39 ?_;refine W ?_;refine LP (σ:=Nat×Value×List Rtn) (λq=>[(0,lv),(1,cv),(2,.I day),(7,q.2.1),(8,.I (q.1:Int))]) (λq W=>q.1<=3/\q.2.2.length=q.1/\(∀ x∈q.2.2,Zfr cs.length x)/\Row [] W w.heap.size 80 q.2.1 q.2.2/\Stp [] w W) (λq=>4 - q.1) (0,.N,[]) ⟨by decide,rfl,by simp,Row.nil,Stp.refl _ _⟩ ?_;rintro ⟨j,ov,xs⟩ w1 ⟨hj,ai,aO,ab,hS⟩;dsimp only at hj ai aO ab ⊢;have br:=λb hb=>ab.ob_le b hb;have cm:=hs.up hS;have bR:=ca.up hS;by_cases hlt:j<l.length;refine QO ?_;have iT:=hl _ (Xd hlt);refine CM (Zd rfl rfl) (Zp (l[j]'hlt) 1000000 _ (by decide) iT) ?_;rintro _ w2 ⟨rfl,hT⟩;have hr:=Zo (if l[j]<0 then -(l[j]+1) else l[j]) 1000000 (by decide);generalize (if l[j]<0 then -(l[j]+1) else l[j]) % 1000000=y at hr ⊢;replace ab:=ab.up hT;replace bR:=bR.up hT;replace hS:=hS.trans hT;clear hT cm;refine W ?_;have zS:=hS.size
 refine Ju (σ:=Nat×Int×Int) (λq=>[(0,lv),(1,cv),(2,.I day),(7,ov),(8,.I (j:Int)),(9,.I y),(10,.pointer (some ⟨q.1,0,none⟩))])
  (λq w'=>w2.heap.size<=q.1/\Stp [] w2 w'/\(0<=q.2.1/\q.2.1<cs.length)/\(q.2.2=1\/q.2.2=2\/q.2.2=3)/\Blk w' q.1 80 (Z3.enc (⟨q.2.1,q.2.2,0,0⟩:Rtn))) ?_ ?_
 refine ZDr 14 [] [13] [(0,0),(1,0),(2,0),(3,0),(4,0),(6,0),(7,0),(8,0),(5,15),(9,0),(10,1),(11,0),(12,2),(13,2)] (λw1 ae=>?_);have hB:=ae;have iQ:=bR.up ae;clear ae;obtain ⟨k1,bH,hq1⟩:∃ k:Nat,y / 4 % 8=(k:Int)/\k<K8.length:=⟨(y / 4 % 8).toNat,by omega,by simp only [K8,Xe,Xg];omega⟩
 obtain ⟨a0,rT⟩:∃ a0:Int,y % max 1 (cs.length:Int)=a0:=⟨_,rfl⟩
 have nA:0<=a0/\a0<cs.length:=by
  have h1:=Ya8 y (show max 1 (cs.length:Int)≠0 by omega);have h2:=YaR y (show 0<max 1 (cs.length:Int) by omega);omega
 have hK:=Ztr hq1;refine QD ?_;rw [bH,rT];apply Z3B rfl;refine JK rfl trivial (Z1 rfl Zfs) (λ_ _ h=>Z9.stp h) rfl ?_;rintro va wa hN;have d6:SlV [] wa va K8:=hN.slv (by simp) rfl rfl (by simp [maxLen,K8]);have hT:=Z9.stp hN;clear hN;replace hB:=hB.trans hT;clear hT;refine QD ?_;refine ZS rfl trivial (λw'=>JC rfl (λw=>Zft a0 (K8[k1]'hq1) w)) rfl ?_;focus repeat'(first|refine D1 ?_|omega|refine Zk rfl rfl rfl rfl (λhg=>?_) (λhg=>?_)|(refine Zh rfl rfl rfl rfl (λhg=>?_) (λhg=>?_)<;>refine D1 ?_)|fail)
 have zB:=hB.size;refine Za rfl trivial Z2 (λ_ _ h=>h.choose_spec.2.2.2) rfl ?_;rintro _ wb ⟨b,rfl,hb,e3,hT⟩;have gb:w2.heap.size<=b:=by omega
 replace hB:=hB.trans hT;replace d6:=d6.up hT;clear hT;focus repeat'(first|refine D1 ?_|omega|refine Zk rfl rfl rfl rfl (λhg=>?_) (λhg=>?_)|(refine Zh rfl rfl rfl rfl (λhg=>?_) (λhg=>?_)<;>refine D1 ?_)|fail)
 refine ZO rfl trivial (Zj (us:=Z3.enc (⟨a0,K8[k1]'hq1,0,0⟩:Rtn)) rfl rfl rfl rfl (Z3.one _) e3 rfl) rfl ?_;rintro _ wc ⟨ar,e3⟩;refine QD ?_;exact QT (b,a0,K8[k1]'hq1) ⟨gb,hB.ow ar,nA,hK,e3⟩;have zB:=hB.size;refine JK rfl trivial Z2 (λ_ _ h=>h.choose_spec.2.2.2) rfl ?_;rintro _ wb ⟨b,rfl,hb,e3,hT⟩;have gb:w2.heap.size<=b:=by omega
 replace hB:=hB.trans hT;clear hT;focus repeat'(first|refine D1 ?_|omega|refine Zk rfl rfl rfl rfl (λhg=>?_) (λhg=>?_)|(refine Zh rfl rfl rfl rfl (λhg=>?_) (λhg=>?_)<;>refine D1 ?_)|fail)
 refine Za rfl trivial (Z1 rfl Zfs) (λ_ _ h=>Z9.stp h) rfl ?_;rintro va wa hN;have d6:SlV [] wa va K8:=hN.slv (by simp) rfl rfl (by simp [maxLen,K8]);have hT:=Z9.stp hN;clear hN;replace hB:=hB.trans hT;replace e3:=e3.up hT;clear hT;refine QD ?_;refine ZS rfl trivial (λw'=>JC rfl (λw=>Zft a0 (K8[k1]'hq1) w)) rfl ?_;focus repeat'(first|refine D1 ?_|omega|refine Zk rfl rfl rfl rfl (λhg=>?_) (λhg=>?_)|(refine Zh rfl rfl rfl rfl (λhg=>?_) (λhg=>?_)<;>refine D1 ?_)|fail)
 refine ZO rfl trivial (Zj (us:=Z3.enc (⟨a0,K8[k1]'hq1,0,0⟩:Rtn)) rfl rfl rfl rfl (Z3.one _) e3 rfl) rfl ?_;rintro _ wc ⟨ar,e3⟩;refine QD ?_;exact QT (b,a0,K8[k1]'hq1) ⟨gb,hB.ow ar,nA,hK,e3⟩;rintro ⟨b,a,k⟩ w3 ⟨hb,hT,ha,hk,e3⟩;dsimp only at hb ha hk e3 ⊢;rcases hk with rfl|rfl|rfl
 refine QO ?_;have lB:0<=(max 0 (min 3652058 (day - 3+y / 32 % 40)))/\(max 0 (min 3652058 (day - 3+y / 32 % 40)))<=3652058:=by omega
 generalize (max 0 (min 3652058 (day - 3+y / 32 % 40)))=f0 at lB ⊢;refine Z6 (Zb (u:=.I f0) rfl rfl rfl rfl e3 (show (2:Nat)<4 by decide)) ?_;rintro _ w4 ⟨ar,e3⟩;replace e3:Blk w4 b 80 (Z3.enc (⟨a,1,f0,0⟩:Rtn)):=e3;replace hT:=hT.ow ar;clear ar;refine QO ?_;have rU:f0<=min 3652058 (f0+y / 1280 % 5)/\min 3652058 (f0+y / 1280 % 5)<=3652058:=by omega
 generalize min 3652058 (f0+y / 1280 % 5)=f1 at rU ⊢;refine Z6 (Zb (u:=.I f1) rfl rfl rfl rfl e3 (show (3:Nat)<4 by decide)) ?_;rintro _ w5 ⟨ar,e3⟩;replace e3:Blk w5 b 80 (Z3.enc (⟨a,1,f0,f1⟩:Rtn)):=e3;replace hT:=hT.ow ar;clear ar;have z4:=hT.size;have dz:=ab.up hT;have aJ:=hS.trans hT;have zS4:=aJ.size;refine QO ?_;refine APG (⟨a,1,f0,f1⟩:Rtn) dz (by simp) (by omega) rfl (Xh (Xo _ (show xs.length+1<=10 by omega)) (by decide)) (by simp [maxLen];omega) (λv1 ov' w4 dA cE eo=>?_);refine QO ?_;exact QL (j+1,ov',xs++[⟨a,1,f0,f1⟩]) ⟨by dsimp only;omega,by simp [ai],λz hz=>by
  rcases Xf.1 hz with h|h
  exact aO z h;simp only [Xi] at h;subst h;constructor<;>dsimp only<;>omega,dA,aJ.own cE (λb hb=>.inr (dz.ob_le b hb).1)⟩ (by dsimp only;omega)
 refine QO ?_;have lB:0<=(max 0 (min 3652058 (day - 3+y / 32 % 40)))/\(max 0 (min 3652058 (day - 3+y / 32 % 40)))<=3652058:=by omega
 generalize (max 0 (min 3652058 (day - 3+y / 32 % 40)))=f0 at lB ⊢;refine Z6 (Zb (u:=.I f0) rfl rfl rfl rfl e3 (show (3:Nat)<4 by decide)) ?_;rintro _ w4 ⟨ar,e3⟩;replace e3:Blk w4 b 80 (Z3.enc (⟨a,2,0,f0⟩:Rtn)):=e3;replace hT:=hT.ow ar;clear ar;have z4:=hT.size;have dz:=ab.up hT;have aJ:=hS.trans hT;have zS4:=aJ.size;refine QO ?_;refine APG (⟨a,2,0,f0⟩:Rtn) dz (by simp) (by omega) rfl (Xh (Xo _ (show xs.length+1<=10 by omega)) (by decide)) (by simp [maxLen];omega) (λv1 ov' w4 dA cE eo=>?_);refine QO ?_;exact QL (j+1,ov',xs++[⟨a,2,0,f0⟩]) ⟨by dsimp only;omega,by simp [ai],λz hz=>by
  rcases Xf.1 hz with h|h
  exact aO z h;simp only [Xi] at h;subst h;constructor<;>dsimp only<;>omega,dA,aJ.own cE (λb hb=>.inr (dz.ob_le b hb).1)⟩ (by dsimp only;omega)
 have z4:=hT.size;have dz:=ab.up hT;have aJ:=hS.trans hT;have zS4:=aJ.size;refine QO ?_;refine APG (⟨a,3,0,0⟩:Rtn) dz (by simp) (by omega) rfl (Xh (Xo _ (show xs.length+1<=10 by omega)) (by decide)) (by simp [maxLen];omega) (λv1 ov' w4 dA cE eo=>?_);refine QO ?_;exact QL (j+1,ov',xs++[⟨a,3,0,0⟩]) ⟨by dsimp only;omega,by simp [ai],λz hz=>by
  rcases Xf.1 hz with h|h
  exact aO z h;simp only [Xi] at h;subst h;constructor<;>dsimp only<;>omega,dA,aJ.own cE (λb hb=>.inr (dz.ob_le b hb).1)⟩ (by dsimp only;omega)
 . refine QO ?_
   all_goals
    refine RU ?_;exact ⟨xs,by omega,aO,ab,hS⟩
theorem Z3n (z:Int) (m:Int) (w) (hm:0<m) (hz:I64 z):CC 102 #[.I z,.I m] w λr w'=>r=.I ((if z<0 then -(z+1) else z) % m)/\Stp [] w w':=by
 unfold I64 at hz;refine cW2 13 Tryz.func102 ?_;by_cases h:z<0;refine RT ?_;exact ⟨by rw [if_pos h],Stp.refl _ _⟩;refine RT ?_;exact ⟨by rw [if_neg h],Stp.refl _ _⟩
theorem Zeo (X:List Nat) (v:Value) (l:List Int) (i m:Int) (w) (hm:0<m) (hi:I64 i) (hs:SlV X w v l) (hl:∀ a∈l,I64 a):CC 101 #[v,.I i,.I m] w λr w'=>∃ q:Nat,r=.I (q:Int)/\(q:Int)<m/\Stp [] w w':=by
 unfold I64 at hi;have aS:=hs.max;refine cW3 21 Tryz.func101 ?_;refine W ?_;by_cases gA:0<=i/\i<l.length;obtain ⟨h0,h1⟩:=gA;obtain ⟨k,rfl⟩:∃ k:Nat,i=(k:Int):=⟨i.toNat,by omega⟩
 have hk:k<l.length:=by omega
 refine QO ?_;refine CL (Z3n _ m _ hm (hl _ (Xd hk))) ?_;rintro _ w2 ⟨rfl,hS⟩;refine W ?_;refine WR ?_;have:=Zo (if l[k]<0 then -(l[k]+1) else l[k]) m hm;exact .mk ⟨_,by rw [Ya3 this.1],by rw [Ya3 this.1];exact this.2,hS⟩
 . repeat'(first|refine W1 ?_|omega|refine VG ?_ ?_<;>intro hg|refine VC ?_ ?_<;>intro hc)
   all_goals first
    | (refine RU ?_
       exact ⟨0,rfl,by simpa using hm,Stp.refl _ _⟩)
theorem ZnT (a:Int) (w):(Instr.build 33 #[(0,.I a)]).run Tryz.prog w=.ok (.agg #[.I a,.N]) w:=by kernel_rfl
theorem ZnU (a b:Int) (w):(Instr.build 141 #[(0,.I a),(1,.I b)]).run Tryz.prog w=.ok (agg ((a,b):Spn)) w:=by kernel_rfl
theorem ZkI (d:Spn) (w):(Instr.buildSlice 31 1 #[(0,agg d)]).run Tryz.prog w=.ok (.slice (some ⟨w.heap.size,0,none⟩) 1 1) (w.alloc (.cells (Z3.enc d).toArray 141)):=by kernel_rfl
def ZcV (x:Spn):Prop:=0<=x.1/\x.1<=2000000
theorem Z8R (v:Value) (l:List Int) (w) (hs:SlV [] w v l) (hl:∀ a∈l,I64 a) :
 CC 64 #[v] w λr w'=>∃ (o:Int) (zs:Value) (xs:List Spn),r=.agg #[.I o,zs]/\(∀ x∈xs,ZcV x)/\xs.length<=100/\ZI 141 w w' zs xs:=by
 have aS:=hs.max;refine cW1 45 Tryz.func64 ?_;refine W ?_;refine Z0 Z2 rfl ?_;rintro _ w1 ⟨b2,rfl,cu,k2,hS⟩;refine W ?_;refine CM (ZN rfl rfl rfl) (Zeo [] _ l 0 1801 _ (by decide) (by unfold I64;omega) (hs.up hS) hl) ?_;rintro _ w2 ⟨q0,rfl,rT,ah⟩;replace k2:=k2.up ah;replace hS:=hS.trans ah;clear ah;refine W ?_;refine Z7 (vs:=[(0,.I ((q0:Int) - 900))]) rfl (ZnT _) rfl ?_;have k2lt:=k2.lt;refine Z0 Z2 rfl ?_;rintro _ w3 ⟨b3,rfl,dG,k3,ak⟩;replace k2:=k2.up ak;replace hS:=hS.trans ak;clear ak;refine W ?_;have n23:b2≠b3:=by omega
 refine SB (us:=[.I ((q0:Int) - 900),.N]) (by simp [Value.oneCell']) k3 ?_;rintro _ w4 ⟨aJ,k3⟩;replace k2:=k2.ext aJ (by simpa using n23);replace hS:=hS.ow aJ;clear aJ;have bG:=hS.size;have k3lt:=k3.lt;have k2lt':=k2.lt;refine W ?_;refine Z0j (σ:=Value×List Spn) (λq=>[(2,pQ b2),(3,pQ b3)]) (λq w'=>Blk w' b2 33 (.agg #[.I 0,.N]:Value).cells.toList/\Blk w' b3 33 [.I ((q0:Int) - 900),q.1]/\Row [] w' w4.heap.size 141 q.1 q.2/\q.2.length<=42/\(∀ x∈q.2,ZcV x)/\Stp [b3] w4 w') ?_ ?_
 refine Zu (σ:=Nat×Int×Value×List Spn) (λq=>[(0,v),(2,pQ b2),(3,pQ b3),(4,.I q.2.1),(5,.I (q.1:Int))])
  (λq w'=>(1<=q.1/\q.1<=43/\0<=q.2.1/\q.2.1<=25000 * q.1/\q.2.2.2.length<q.1)/\Blk w' b2 33 (.agg #[.I 0,.N]:Value).cells.toList/\Blk w' b3 33 [.I ((q0:Int) - 900),q.2.2.1]/\Row [] w' w4.heap.size 141 q.2.2.1 q.2.2.2/\(∀ x∈q.2.2.2,ZcV x)/\Stp [b3] w4 w') (λq=>43 - q.1)
  (1,0,.N,[]) ⟨rfl,rfl,rfl,rfl,rfl,trivial⟩ ⟨⟨by decide,by decide,by decide,by decide,by decide⟩,k2,k3,Row.nil,by simp,Stp.refl _ _⟩ ?_
 rintro ⟨k,at_,zs,xs⟩ w5 ⟨⟨bH,rV,nA,qZ,jH⟩,k2,k3,ab,je,aD⟩;dsimp only at bH rV nA qZ jH k3 ab je ⊢;have jK:Stp [] w w5:=hS.ow aD;have aX:=hs;replace hs:=hs.up jK;by_cases hlt:k+1<l.length/\k<41;obtain ⟨hlt,yA⟩:=hlt;have iz:k<l.length:=by omega
 refine QO ?_;refine CM (Zd rfl rfl) (Z3n _ 20000 _ (by decide) (hl _ (Xd iz))) ?_;rintro _ w6 ⟨rfl,di⟩;have hr:=Zo (if l[k]<0 then -(l[k]+1) else l[k]) 20000 (by decide);generalize (if l[k]<0 then -(l[k]+1) else l[k]) % 20000=m at hr ⊢;refine W ?_;replace k2:=k2.up di;replace k3:=k3.up di;replace ab:=ab.up di;replace hs:=hs.up di;replace aD:=aD.trans di.mn;clear di jK;have n3:b3∉ob zs:=λh=>by have:=(ab.ob_le _ h).1;omega
 have n2:b2∉ob zs:=λh=>by have:=(ab.ob_le _ h).1;omega
 replace hs:SlV (ob zs) w6 v l:=aX.ext (X':=ob zs) (hS.ow aD) (by simp) (λb hb=>.inr (by have:=(ab.ob_le b hb).1;omega));refine WC_drawn 15 (ob zs) [14] [(0,0),(1,1),(2,0),(3,0),(4,0),(5,0),(6,0),(7,1),(8,2),(9,0),(10,0),(11,2),(12,2),(13,0),(14,2)] rfl mixed (by kernel_rfl) (by kernel_rfl) (by kernel_rfl) (λw1 ae=>?_);replace k2:=k2.up ae;replace k3:=k3.up ae;replace ab:=ab.up ae;replace hs:=hs.up ae;replace aD:=aD.trans ae.mn;clear ae;refine D ?_;refine Za rfl trivial (Z4 rfl (Zd rfl rfl) (Z3n _ 1801 _ (by decide) (hl _ (Xd hlt)))) (λ_ _ h=>h.2.mn) rfl ?_;rintro _ w7 ⟨rfl,aQ⟩;have dg:=Zo (if l[k+1]<0 then -(l[k+1]+1) else l[k+1]) 1801 (by decide);generalize (if l[k+1]<0 then -(l[k+1]+1) else l[k+1]) % 1801=m2 at dg ⊢;replace k2:=k2.up aQ;replace k3:=k3.up aQ;replace ab:=ab.up aQ;replace aD:=aD.trans aQ.mn;clear aQ;refine D ?_;refine ZS rfl trivial (λw'=>JC (vs:=[(0,.I (at_+m)),(1,.I (m2 - 900))]) rfl (ZnU _ _)) rfl ?_;refine D ?_;refine Za rfl trivial (Z1 (vs:=[(0,agg ((at_+m,m2 - 900):Spn))]) rfl (ZkI _)) (λ_ _ h=>(Z9.stp h).mn) rfl ?_;rintro bv w8 hN;have aq:SlV (ob zs++[]) w8 bv [((at_+m,m2 - 900):Spn)]:=hN.slv (λb hb=>(ab.ob_le b (by simpa using hb)).2) rfl rfl (by simp [maxLen]);have hT:=Z9.stp hN;clear hN;replace k2:=k2.up hT;replace k3:=k3.up hT;replace ab:=ab.up hT;replace aD:=aD.trans hT.mn;clear hT;have aZ:=aD.size;have br:=ab.ob_le;refine D ?_;refine Za rfl trivial (ZF (X:=[]) (base:=w4.heap.size) rfl (by decide) rfl rfl ab aq (by simp only [Xe,Xg];omega) (by simp only [Xe,Xg,maxLen];omega) aZ) (λ_ _ h=>h.2.1) rfl ?_;rintro zs' w9 ⟨ab,hT,gX⟩;replace k2:=k2.ext hT (λh=>by have:=(br _ h).1;omega);replace k3:=k3.ext hT (λh=>by have:=(br _ h).1;omega);replace aD:Stp [b3] w4 w9:=aD.own hT (λc hc=>.inr (br c hc).1);clear hT;refine D ?_;refine ZO rfl trivial (Zb (u:=zs') rfl rfl (Row.slv (X:=[]) ab (by simp)).cells (Row.slv (X:=[]) ab (by simp)).one k3 (by simp)) rfl ?_;rintro _ w10 ⟨hT,k3⟩;replace k3:Blk w10 b3 33 [.I ((q0:Int) - 900),zs']:=k3;replace k2:=k2.ext hT (by simpa using n23);have bJ:=ab.ob_le;replace ab:=ab.keep hT (λb hb h=>by have:=bJ _ h;simp at hb;omega);replace aD:=aD.trans hT;clear hT;refine D ?_;refine W ?_;refine Zx (k+2,at_+m+2880,zs',xs++[((at_+m,m2 - 900):Spn)]) ⟨rfl,rfl,rfl,rfl,rfl,trivial⟩ ⟨⟨by dsimp only;omega,by dsimp only;omega,by dsimp only;omega,by dsimp only;omega,by dsimp only;rw [Xc];simp only [Xe,Xg];omega⟩,k2,k3,ab,?_,aD⟩ (by dsimp only;omega);intro x hx;rcases Xf.1 hx with h|h
 exact je x h;rw [Xi.1 h];unfold ZcV;dsimp only;omega
 . repeat'(first|refine W1 ?_|omega|refine VG ?_ ?_<;>intro hg|refine VC ?_ ?_<;>intro hc)
   all_goals exact QT (zs,xs) ⟨k2,k3,ab,(by dsimp only;omega),je,aD⟩
 rintro ⟨zs,xs⟩ w5 ⟨k2,k3,ab,jH,je,aD⟩;dsimp only at k3 ab jH je ⊢;refine W ?_;have br:=ab.ob_le;have jK:Stp [] w w5:=hS.ow aD;refine SB (us:=[.I ((q0:Int) - 900),zs]) (by intro u hu;simp at hu;rcases hu with rfl|rfl;exact rfl;exact (Row.slv (X:=[]) ab (by simp)).one) k2 ?_;rintro _ w6 ⟨hT,k2⟩;replace ab:=ab.keep hT (λb hb h=>by have:=br _ h;simp at hb;omega);refine W ?_;refine J6 rfl rfl rfl k2 rfl ?_;exact .mk ⟨_,zs,xs,rfl,je,by omega,ab.lower bG,jK.ow hT⟩
end Go.Proofs.YtipfkbkkndacjaaGreatDoor
