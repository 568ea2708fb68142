/-
Contracts and plain laws, merged out of own texts.
-/
import Derived.Test.YtipfkbkkndacjaaGreatDoorR4
import Derived.RangeFuncBox
import Derived.RangeFuncLeaves
import Derived.RangeFuncNested
import Derived.RangeFuncBound
import Derived.RangeFuncCalls
import Derived.Shelf.Abstract
import Derived.Shelf.RegionOpen
import Derived.BigRegionIn
import Derived.WalkKit
import Derived.OwnWalkIn
import Derived.TacticsInMore
import Derived.LoopNIn
import Derived.LoopIn
import Derived.ChangeKeysEq
set_option linter.unusedVariables false
set_option linter.unusedSimpArgs false
set_option maxHeartbeats 4000000
set_option maxRecDepth 20000
namespace Go.Proofs.YtipfkbkkndacjaaGreatDoor
open Go Go.Eng Go.RowKit
section
variable {K:MK} {w w':World} {sv pv:Value} {st:List Int} {sp:List Spn} {at_ er:Int} {dn:Bool}
theorem ZwN (hK:KOk K) {b:Int} (h:Mch K w sv pv (st++[b]) sp at_ 0 false) (hl:st.length<=100000) (n:Int) (hr:I64 (-b)) :
 CC 133 #[mP K,.I n] w λr w'=>r=.tuple #[]/\Res K w' st sp at_ (Z4y (-b)):=by
 unfold I64 at hr;refine cW2 9 Tryz.func133 ?_;refine W ?_;refine CL (Z34 hK h) ?_;rintro _ w1 ⟨rfl,sv1,h1⟩;refine W ?_;refine CL (Z5F hK h1 hl _) ?_;rintro _ w2 ⟨rfl,h2⟩;refine RT ?_;exact ⟨rfl,h2⟩
theorem ZwO (hK:KOk K) {b:Int} (h:Mch K w sv pv (st++[b]) sp at_ 0 false) (hl:st.length<=100000) (n:Int) :
 CC 137 #[mP K,.I n] w λr w'=>r=.tuple #[]/\Res K w' st sp at_ (Z3M (decide (b=0)),0):=by
 refine cW2 9 Tryz.func137 ?_;refine W ?_;refine CL (Z34 hK h) ?_;rintro _ w1 ⟨rfl,sv1,h1⟩;refine W ?_;refine CL (ZaJ hK h1 hl _) ?_;rintro _ w2 ⟨rfl,h2⟩;refine RT ?_;exact ⟨rfl,h2⟩
theorem ZvS (hK:KOk K) (h:Mch K w sv pv st sp at_ er dn) (n:Int) :
 CC 138 #[mP K,.I n] w λr w'=>r=.tuple #[]/\Mch K w' sv pv st sp n er dn:=by
 have ac:=h.blk;unfold Z5z at ac;refine cW2 8 Tryz.func138 ?_;refine W ?_;refine Z6 (Zb (u:=.I n) rfl rfl rfl rfl ac (by simp [evC,Z08])) ?_;rintro _ w1 ⟨ae,cj⟩;refine RT ?_;exact ⟨rfl,h.put hK ae cj⟩
theorem ZvT (hK:KOk K) (h:Mch K w sv pv st sp at_ er dn) (n:Int) :
 CC 149 #[mP K,.I n] w λr w'=>r=.tuple #[]/\Mch K w' sv pv st sp at_ er true:=by
 have ac:=h.blk;unfold Z5z at ac;refine cW2 7 Tryz.func149 ?_;refine W ?_;refine Z6 (Zb (u:=.B true) rfl rfl rfl rfl ac (by simp [evC,Z08])) ?_;rintro _ w1 ⟨ae,cj⟩;refine RT ?_;exact ⟨rfl,h.put hK ae cj⟩
theorem ZmJ (hK:KOk K) {b:Int} (h:Mch K w sv pv (st++[b]) sp at_ er dn) (n:Int) :
 CC 139 #[mP K,.I n] w λr w'=>r=.tuple #[]/\∃ sv',Mch K w' sv' pv st sp (if b=0 then n else at_) er dn:=by
 refine cW2 11 Tryz.func139 ?_;refine W ?_;refine CL (Z34 hK h) ?_;rintro _ w1 ⟨rfl,sv1,h1⟩;have ac:=h1.blk;unfold Z5z at ac;by_cases hb:b=0;rw [if_pos hb];refine QO ?_;refine Z6 (Zb (u:=.I n) rfl rfl rfl rfl ac (by simp [evC,Z08])) ?_;rintro _ w2 ⟨ae,cj⟩;refine RT ?_;exact ⟨rfl,sv1,h1.put hK ae cj⟩;rw [if_neg hb];refine RT ?_;exact ⟨rfl,sv1,h1⟩
theorem ZmK (a b c d e f g:Int) (w):(Instr.build 282 #[(0,.I a),(1,.I b),(2,.I c),(3,.I d),(4,.I e),(5,.I f),(6,.I g)]).run Tryz.prog w=.ok (.agg #[.I a,.I b,.I c,.I d,.I e,.I f,.I g]) w:=by kernel_rfl
theorem Zsz (hK:KOk K) (h:Mch K w sv pv st sp at_ 0 false) (hl:st.length<=100000) (n:Int) (h0:0<=n) (h7:n<7) :
 CC 129 #[mP K,.I n] w λr w'=>r=.tuple #[]/\Res K w' st sp at_ (Zdx K.ev n):=by
 have ac:=h.blk;unfold Z5z evC Z08 at ac;have pF:=hK.bml;have bR:=hK.ev.served;refine cW2 56 Tryz.func129 ?_;refine W ?_;refine ZDr 38 [] [37] [(0,0),(1,0),(2,0),(3,0),(4,1),(5,0),(6,0),(7,0),(8,0),(9,1),(10,0),(11,0),(12,0),(13,0),(14,1),(15,0),(16,0),(17,0),(18,0),(19,1),(20,0),(21,0),(22,0),(23,0),(24,1),(25,0),(26,0),(27,0),(28,0),(29,1),(30,0),(31,0),(32,0),(33,0),(34,1),(35,0),(36,2),(37,2)] (λw1 ae=>?_);replace h:=h.up ae;replace ac:=ac.up ae;refine D ?_;refine Z2s rfl trivial rfl (ZmK _ _ _ _ _ _ _) rfl ?_;refine Za rfl trivial Z2 (λ_ _ ⟨_,_,_,_,h⟩=>h) rfl ?_;rintro _ w2 ⟨b2,rfl,cu,e2,ah⟩;refine Jm rfl trivial (Zi (us:=evC K.ev) rfl rfl rfl rfl (by intro u hu;simp [evC] at hu;rcases hu with rfl|rfl|rfl|rfl|rfl|rfl|rfl<;>rfl) e2 rfl) rfl ?_;rintro _ w3 ⟨hT,e3⟩;have am:=ah.ow hT;replace h:=h.up am;unfold evC at e3;refine D ?_;clear ac ae e2 hT ah am;have fin:∀ (v e:Int),(v,e)=Zdx K.ev n->∀ w',Res K w' st sp at_ (v,e)->Ret (λr w'=>r=.tuple #[]/\Res K w' st sp at_ (Zdx K.ev n)) (.returned (.tuple #[])) w':=by
  intro v e he w' hr;rw [<- he];exact .mk ⟨rfl,hr⟩
 have hn:n=0\/n=1\/n=2\/n=3\/n=4\/n=5\/n=6:=by omega
 rcases hn with rfl|rfl|rfl|rfl|rfl|rfl|rfl
 case inr.inl=>
  by_cases hs:K.ev.getD 1 0<0;refine QO ?_;focus repeat'(first|refine W1 ?_|omega|refine VG ?_ ?_<;>intro hg|refine VC ?_ ?_<;>intro hc)
  refine CL (Z0h hK h hl 0 32) ?_;rintro _ w4 ⟨rfl,h1⟩;refine W ?_;refine WR ?_;refine fin _ _ ?_ _ h1;unfold Zdx;rw [if_pos ⟨rfl,by omega⟩];refine QO ?_;focus repeat'(first|refine W1 ?_|omega|refine VG ?_ ?_<;>intro hg|refine VC ?_ ?_<;>intro hc)
  focus repeat'(first|refine W1 ?_|omega|refine VG ?_ ?_<;>intro hg|refine VC ?_ ?_<;>intro hc)
  refine CL (Z0h hK h hl _ 0) ?_;rintro _ w4 ⟨rfl,h1⟩;refine W ?_;refine WR ?_;refine fin _ _ ?_ _ h1;unfold Zdx;rw [if_neg (by rintro ⟨-,h⟩;omega)];rfl
 case inl=>
  refine QO ?_;repeat'(first|refine W1 ?_|omega|refine VG ?_ ?_<;>intro hg|refine VC ?_ ?_<;>intro hc)
  refine CL (Z0h hK h hl _ 0) ?_;rintro _ w4 ⟨rfl,h1⟩;refine W ?_;refine WR ?_;exact fin _ _ rfl _ h1
 case inr.inr.inl=>
  refine QO ?_;repeat'(first|refine W1 ?_|omega|refine VG ?_ ?_<;>intro hg|refine VC ?_ ?_<;>intro hc)
  refine CL (Z0h hK h hl _ 0) ?_;rintro _ w4 ⟨rfl,h1⟩;refine W ?_;refine WR ?_;exact fin _ _ rfl _ h1
 case inr.inr.inr.inl=>
  refine QO ?_;refine Z2L (len:=7) (i:=3) rfl rfl rfl (by decide) rfl ?_;refine QO ?_;refine CL (Z0h hK h hl _ 0) ?_;rintro _ w4 ⟨rfl,h1⟩;refine W ?_;refine WR ?_;exact fin _ _ rfl _ h1
 case inr.inr.inr.inr.inl=>
  refine QO ?_;refine Z2L (len:=7) (i:=4) rfl rfl rfl (by decide) rfl ?_;refine QO ?_;refine CL (Z0h hK h hl _ 0) ?_;rintro _ w4 ⟨rfl,h1⟩;refine W ?_;refine WR ?_;exact fin _ _ rfl _ h1
 case inr.inr.inr.inr.inr.inl=>
  refine QO ?_;refine Z2L (len:=7) (i:=5) rfl rfl rfl (by decide) rfl ?_;refine QO ?_;refine CL (Z0h hK h hl _ 0) ?_;rintro _ w4 ⟨rfl,h1⟩;refine W ?_;refine WR ?_;exact fin _ _ rfl _ h1
 case inr.inr.inr.inr.inr.inr=>
  refine QO ?_;refine Z2L (len:=7) (i:=6) rfl rfl rfl (by decide) rfl ?_;refine QO ?_;refine CL (Z0h hK h hl _ 0) ?_;rintro _ w4 ⟨rfl,h1⟩;refine W ?_;refine WR ?_;exact fin _ _ rfl _ h1
end
def ZmL {α:Type} [Z3 α] (P:Program) (S:List Nat) (g:Nat) (lb:Array Value) (c:α->α->Int) (w:World):Prop:=
 ∀ (x y:α) (w':World),Stp S w w'->Calls P g (#[agg x,agg y]++lb) w' (Ret λv w''=>v=.I (c x y)/\Stp [] w' w'')
theorem ZeM (x:Int) (w):CC 125 #[.I x] w λv w'=>v=.B false/\Stp [] w w':=by
 refine cW1 6 Tryz.func125 ?_;repeat'(first|(apply Z47;exact rfl;exact rfl)|apply Z2H|(apply Z7b;exact rfl;exact rfl)|(apply Zsa;exact rfl;exact rfl;exact rfl)|(apply ZlO;exact rfl;exact rfl;exact rfl)|apply Z7m|apply Z2r|apply Z7n|refine Z44 ?_|refine Z1h ?_)
 refine RU ?_;exact ⟨by simp,Stp.refl _ _⟩
def ZjN (x y:Int):Int:=if x<y then -1 else if x > y then 1 else 0
theorem Zcf (x y:Int) (w):CC 75 #[.I x,.I y] w λv w'=>v=.I (ZjN x y)/\Stp [] w w':=by
 refine cW2 20 Tryz.func75 ?_;repeat'(first|(apply Z47;exact rfl;exact rfl)|apply Z2H|(apply Z7b;exact rfl;exact rfl)|(apply ZcW;exact rfl;exact rfl;exact rfl)|(apply ZcX;exact rfl;exact rfl;exact rfl)|apply Z7m|apply Z2r|apply Z79|apply Z7n|(apply Z1x;exact rfl)|(apply Z1c;exact rfl)|refine Z44 ?_|refine Z1h ?_)
 refine CL (ZeM _ _) ?_;rintro _ w1 ⟨rfl,hS⟩;repeat'(first|(apply Z47;exact rfl;exact rfl)|apply Z2H|(apply Z7b;exact rfl;exact rfl)|(apply ZcW;exact rfl;exact rfl;exact rfl)|(apply ZcX;exact rfl;exact rfl;exact rfl)|apply Z7m|apply Z2r|apply Z79|apply Z7n|(apply Z1x;exact rfl)|(apply Z1c;exact rfl)|refine Z44 ?_|refine Z1h ?_)
 refine CL (ZeM _ _) ?_;rintro _ w2 ⟨rfl,ah⟩;replace hS:=hS.trans ah;repeat'(first|(apply Z47;exact rfl;exact rfl)|apply Z2H|(apply Z7b;exact rfl;exact rfl)|(apply ZcW;exact rfl;exact rfl;exact rfl)|(apply ZcX;exact rfl;exact rfl;exact rfl)|apply Z7m|apply Z2r|apply Z79|apply Z7n|(apply Z1x;exact rfl)|(apply Z1c;exact rfl)|refine Z44 ?_|refine Z1h ?_|refine Z9Q rfl (λhc=>?_) (λhc=>?_)|refine Zb1 rfl (λhc=>?_) (λhc=>?_))
 all_goals (refine WR ?_)
 all_goals exact .mk ⟨by unfold ZjN;(first|(simp_all;done)|(rw [if_neg (by omega),if_neg (by omega)])),hS⟩
def put {α:Type} (pre rest:List α) (x:α) (j:Nat):List α:=pre.take j++x :: pre.drop j++rest
theorem ZjO {α:Type} {pre rest:List α} {x:α} {j:Nat} (hj:j<pre.length):((put pre rest x (j+1)).set (j+1) pre[j]).set j x=put pre rest x j:=by
 have h1:pre.take (j+1)=pre.take j++[pre[j]]:=Xi hj;have h2:pre.drop j=pre[j] :: pre.drop (j+1):=X3 hj;have hl:(pre.take j).length=j:=by simp;omega
 unfold put;rw [h1,h2];simp only [Xx,XS,XC];rw [YbE,if_neg (by omega),hl,show j+1 - j=1 by omega];rw [YbE,if_neg (by omega),hl,Nat.sub_self];rfl
theorem ZsA {α:Type} {pre rest:List α} {x:α} {j:Nat} (hj:j<=pre.length) (h:j<(put pre rest x j).length):(put pre rest x j)[j]=x:=by
 rw [List.getElem_eq_iff];unfold put;rw [Yaa (by simp;omega),Yaz (by simp;omega)];simp [Yad hj]
theorem ZdH {α:Type} {pre rest:List α} {x:α} {j:Nat} (hj:j<pre.length) (h:j<(put pre rest x (j+1)).length):(put pre rest x (j+1))[j]=pre[j]:=by
 rw [List.getElem_eq_iff];unfold put;rw [Yaa (by simp;omega),Yaa (by simp;omega)];simp [hj]
theorem ZaK {α:Type} {pre rest:List α} {x:α} {j:Nat}:(put pre rest x j).length=pre.length+1+rest.length:=by
 have:=congrArg List.length (XI j pre);simp only [Xc] at this;simp only [put,Xc,Xe];omega
def Z9v {α:Type} (c:α->α->Int) (xs ys:List α):Prop:=ys.Perm xs/\ys.Pairwise (λa b=>¬ c b a<0)
structure Ord {α:Type} (c:α->α->Int):Prop where
 asym:∀ a b,c a b<0->¬ c b a<0
 trans:∀ a b d,¬ c b a<0->¬ c d b<0->¬ c d a<0
theorem ZdI {α:Type} {c:α->α->Int} (ho:Ord c) {pre:List α} {x:α} {j:Nat} (hj:j<=pre.length) (hp:pre.Pairwise (λa b=>¬ c b a<0))
 (h1:∀ q (h:q<pre.length),j<=q->c x pre[q]<0) (h2:∀ h:j - 1<pre.length,0<j->¬ c x pre[j - 1]<0):(pre.take j++x :: pre.drop j).Pairwise (λa b=>¬ c b a<0):=by
 rw [Ybg];have hd:∀ a∈pre.drop j,c x a<0:=by
  intro a ha;obtain ⟨m,hm,rfl⟩:=Xr ha;simp only [List.getElem_drop];simp at hm;exact h1 _ _ (by omega)
 have ht:∀ a∈pre.take j,¬ c x a<0:=by
  intro a ha;obtain ⟨m,hm,rfl⟩:=Xr ha;simp only [Xw] at hm;simp only [List.getElem_take];by_cases e:m=j - 1;subst e;exact h2 (by omega) (by omega);exact ho.trans _ _ _ (Yak.1 hp m (j - 1) (by omega) (by omega) (by omega)) (h2 (by omega) (by omega))
 refine ⟨hp.sublist (List.take_sublist _ _),?_,?_⟩;rw [X0];exact ⟨λa ha=>ho.asym _ _ (hd a ha),hp.sublist (List.drop_sublist _ _)⟩;intro a ha b hb;rcases Xb.1 hb with rfl|hb
 exact ht a ha;exact λh=>by
  have h3:=hd b hb;exact ho.trans a x b (ht a ha) (ho.asym _ _ h3) h
theorem Z5G (x y:Int):ZjN x y<0↔x<y:=by unfold ZjN;split<;>(try split)<;>omega
def Z2e (y:Nat):Nat:=
 let a:=y % 19
 let b:=y / 100
 let c:=y % 100
 let g:=(b - (b+8) / 25+1) / 3
 let h:=(19 * a+b - b / 4 - g+15) % 30
 let l:=(32+2 * (b % 4)+2 * (c / 4) - h - c % 4) % 7
 h+l+114 - 7 * ((a+11 * h+22 * l) / 451)
def ZvU (y:Nat):Nat:=(11 * (y % 19+1)+20+((8 * (y / 100+1)+5) / 25 - 5)+60 - (3 * (y / 100+1) / 4 - 12)) % 30
def ZvV (e g:Nat):Nat:=bif Nat.beq e 24 || (Nat.beq e 25 && Nat.blt 11 g) then e+1 else e
def ZvW (e d:Nat):Nat:=let n:=(bif Nat.blt (44 - e) 21 then 44 - e+30 else 44 - e);n+7 - (d+n) % 7
def ZjP (y:Nat):Nat:=ZvW (ZvV (ZvU y) (y % 19+1)) (5 * y / 4 - (3 * (y / 100+1) / 4 - 12) - 10)
def ZeN (y:Nat):Bool:=Nat.beq (Z2e y) (ZjP y+92) && (Nat.ble 114 (Z2e y) && Nat.ble (Z2e y) 148)
def Zg8:Nat->Nat->Bool
 | 0,lo=>ZeN lo
 | k+1,lo=>Zg8 k lo && Zg8 k (lo+2 ^ k)
theorem Z4r:∀ (k lo d:Nat),Zg8 k lo=true->lo<=d->d<lo+2 ^ k->ZeN d=true
 | 0, lo, d, h, h1, h2 => by
   have:d=lo:=by simp at h2;omega
   subst this;exact h
 | k + 1, lo, d, h, h1, h2 => by
   simp only [Zg8,Xm] at h;rcases Yat d (lo+2 ^ k) with h3|h3
   exact Z4r k lo d h.1 h1 h3;exact Z4r k _ d h.2 h3 (by rw [Ybo] at h2;omega)
theorem Zg9:Zg8 13 1583=true:=by kernel_rfl
theorem Zga:Zg8 8 9775=true:=by kernel_rfl
theorem ZmM {y:Nat} (h1:1583<=y) (h2:y<=9999):Z2e y=ZjP y+92/\114<=Z2e y/\Z2e y<=148:=by
 have h:ZeN y=true:=by
  rcases Yat y 9775 with h3|h3
  exact Z4r 13 1583 y Zg9 h1 (by omega);exact Z4r 8 9775 y Zga h3 (by omega)
 unfold ZeN at h;simp only [Xm] at h;exact ⟨XL h.1,XV h.2.1,XV h.2.2⟩
theorem Zgb {y:Nat} (h1:1583<=y) (h2:y<=9999):Z3c (y:Int)=(Z2e y:Int):=by
 unfold Z3c Z2e;dsimp only;have e1:(y:Int) % 19=((y % 19:Nat):Int):=by omega
 have e2:(y:Int) / 100=((y / 100:Nat):Int):=by omega
 have e3:(y:Int) % 100=((y % 100:Nat):Int):=by omega
 rw [e1,e2,e3];have ha:y % 19<=18:=by omega
 have hb:15<=y / 100/\y / 100<=99:=by omega
 have hc:y % 100<=99:=by omega
 generalize y % 19=a at *;generalize y / 100=b at *;generalize y % 100=c at *;have e4:((b:Int) - ((b:Int)+8) / 25+1) / 3=(((b - (b+8) / 25+1) / 3:Nat):Int):=by omega
 have hg:(b - (b+8) / 25+1) / 3+b / 4<=b:=by omega
 rw [e4];generalize (b - (b+8) / 25+1) / 3=g at *;have e5:(19 * (a:Int)+(b:Int) - (b:Int) / 4 - (g:Int)+15) % 30=(((19 * a+b - b / 4 - g+15) % 30:Nat):Int):=by omega
 rw [e5];have hh:(19 * a+b - b / 4 - g+15) % 30<=29:=by omega
 generalize (19 * a+b - b / 4 - g+15) % 30=h at *;have e6:(32+2 * ((b:Int) % 4)+2 * ((c:Int) / 4) - (h:Int) - (c:Int) % 4) % 7=(((32+2 * (b % 4)+2 * (c / 4) - h - c % 4) % 7:Nat):Int):=by omega
 rw [e6];have hl:(32+2 * (b % 4)+2 * (c / 4) - h - c % 4) % 7<=6:=by omega
 generalize (32+2 * (b % 4)+2 * (c / 4) - h - c % 4) % 7=l at *;omega
theorem Z6R {y:Int} (h1:1583<=y) (h2:y<=9999):114<=Z3c y/\Z3c y<=148:=by
 obtain ⟨k,rfl⟩:∃ k:Nat,y=(k:Int):=⟨y.toNat,by omega⟩
 have:=ZmM (y:=k) (by omega) (by omega);rw [Zgb (by omega) (by omega)];omega
theorem ZdJ (y d:Int):Z00 y 3 d=Z00 y 3 1+d - 1/\Z00 y 4 d=Z00 y 3 1+31+d - 1:=by
 constructor;rw [show (3:Int)=((2:Nat):Int)+1 by rfl,Z2w y d 2 (by omega),Z2w y 1 2 (by omega)];omega;rw [show (4:Int)=((3:Nat):Int)+1 by rfl,show (3:Int)=((2:Nat):Int)+1 by rfl,Z2w y d 3 (by omega),Z2w y 1 2 (by omega)];have:Z27 y 3=Z27 y 2+31:=by
  have:Z27 y 3=Z27 y 2+ZG y 3:=by simp [Z27]
  rw [this];rfl
 omega
theorem Z2f (n a b:Int) (w):CC 213 #[.I n,.I a,.I b] w λr w'=>r=.B (decide (a<=n/\n<=b))/\w'=w:=by
 refine cW3 15 Tryz.func213 ?_;by_cases h1:n>=a;by_cases h2:n<=b;rw [decide_eq_true ⟨h1,h2⟩];refine RT ?_;exact ⟨by simp [h2],rfl⟩;rw [decide_eq_false (λh=>h2 h.2)];refine RT ?_;exact ⟨by simp [h2],rfl⟩;rw [decide_eq_false (λh=>h1 h.1)];refine RT ?_;exact ⟨rfl,rfl⟩
theorem Z3U (d:Int) (w) (h0:0<=d) (h1:d<=9000000000):CC 155 #[.I d] w λr w'=>r=.I (d % 7)/\w'=w:=by
 refine cW1 7 Tryz.func155 ?_;refine RT ?_;exact ⟨by congr 1;omega,rfl⟩
theorem ZdK (y:Int) (w):CC 312 #[.I y] w λr w'=>r=.tuple #[.I (if y<1583\/9999<y then 0 else Z5y y),.I (if y<1583\/9999<y then 5 else 0)]/\Stp [] w w':=by
 refine cW1 77 Tryz.func312 ?_;by_cases hy:y<1583\/9999<y
 . rw [if_pos hy,if_pos hy]
   repeat'(first|refine W1 ?_|omega|refine VG ?_ ?_<;>intro hg|refine VC ?_ ?_<;>intro hc)
   all_goals refine WR ?_
   all_goals exact .mk ⟨rfl,Stp.refl _ _⟩
 rw [if_neg hy,if_neg hy];have hb:=Z6R (y:=y) (by omega) (by omega)
 have he:Z2M (Z3c y=(19 * (y % 19)+y / 100 - y / 100 / 4 - (y / 100 - (y / 100+8) / 25+1) / 3+15) % 30 +
  (32+2 * (y / 100 % 4)+2 * (y % 100 / 4) - (19 * (y % 19)+y / 100 - y / 100 / 4 - (y / 100 - (y / 100+8) / 25+1) / 3+15) % 30 - y % 100 % 4) % 7 -
  7 * ((y % 19+11 * ((19 * (y % 19)+y / 100 - y / 100 / 4 - (y / 100 - (y / 100+8) / 25+1) / 3+15) % 30)+22 * ((32+2 * (y / 100 % 4)+2 * (y % 100 / 4) - (19 * (y % 19)+y / 100 - y / 100 / 4 - (y / 100 - (y / 100+8) / 25+1) / 3+15) % 30 - y % 100 % 4) % 7)) / 451)+114):=⟨rfl⟩
 have g1:0<=y % 19/\y % 19<=18:=by omega
 have g2:15<=y / 100/\y / 100<=99:=by omega
 have g3:0<=y % 100/\y % 100<=99:=by omega
 refine QO ?_;have g4:0<=(19 * (y % 19)+y / 100 - y / 100 / 4 - (y / 100 - (y / 100+8) / 25+1) / 3+15) % 30/\(19 * (y % 19)+y / 100 - y / 100 / 4 - (y / 100 - (y / 100+8) / 25+1) / 3+15) % 30<=29:=by omega
 generalize (19 * (y % 19)+y / 100 - y / 100 / 4 - (y / 100 - (y / 100+8) / 25+1) / 3+15) % 30=H at he g4 ⊢;have g5:0<=(32+2 * (y / 100 % 4)+2 * (y % 100 / 4) - H - y % 100 % 4) % 7/\(32+2 * (y / 100 % 4)+2 * (y % 100 / 4) - H - y % 100 % 4) % 7<=6:=by omega
 refine W ?_;generalize (32+2 * (y / 100 % 4)+2 * (y % 100 / 4) - H - y % 100 % 4) % 7=L at he g5 ⊢;rw [<- he.h];refine Z7 (vs:=[(0,.I y),(1,.I (Z3c y / 31)),(2,.I (Z3c y % 31+1))]) rfl (Z5q _ _ _) rfl ?_;refine Z0 (Z4 rfl (ZN rfl) (Z4Y y _ _ _ (by omega) (by omega) (by omega) (by omega) (by omega) (by omega) (by omega))) rfl ?_;rintro _ w1 ⟨rfl,hS⟩;refine RT ?_;exact ⟨rfl,hS⟩
theorem Z2C {y m:Int} (hy:1<=y) (eA:y<=9999) (hm:1<=m) (eP:m<=12):¬ Z1R y m 1/\0<=Z00 y m 1/\Z00 y m 1<=3652058/\28<=ZG y m/\ZG y m<=31:=by
 have hl:=Z2b (y:=y) (k:=(m - 1).toNat) (by omega);rw [show (((m - 1).toNat:Int))+1=m by omega] at hl;have pY:=Z2T y m;have:=dayM_range hy eA hm eP (d:=1) (by omega) (by omega);exact ⟨by unfold Z1R;omega,this.1,this.2,hl,pY⟩
theorem Z8j (h:Hol) (y:Int) (w) (hL:Z0A w) (hy:1<=y) (eA:y<=9999) (hm:1<=h.month) (eP:h.month<=12) (hw:0<=h.wd) (kj:h.wd<=6) :
 CC 307 #[agg h,.I y] w λr w'=>r=.tuple #[.I (Z00 y h.month 1),.I (Z3J y h.month h.wd)]/\Stp [] w w':=by
 obtain ⟨f1,f2,f3,f4,f5⟩:=Z2C hy eA hm eP;refine cW2 26 Tryz.func307 ?_;refine W ?_;refine Z0 (Zo rfl) rfl ?_;rintro _ w1 ⟨b,rfl,hb,ac,hS⟩;replace ac:Blk w1 b 138 (Z3.enc h):=ac;replace hL:=hL.up hS;refine W ?_;refine Z7 (vs:=[(0,.I y),(1,.I h.month),(2,.I 1)]) rfl (Z5q _ _ _) rfl ?_;refine CL (Z7O y _ _ _ hL) ?_;rintro _ w2 ⟨rfl,hT⟩;rw [if_neg f1,if_neg f1];replace ac:=ac.up hT;replace hS:=hS.trans hT;clear hT;refine W ?_;refine ZDr 12 [] [] [(0,0),(1,0),(2,0),(3,1),(4,0),(5,2),(6,0),(7,0),(8,0),(9,0),(10,0),(11,0)] (λw1 ae=>?_);replace ac:=ac.up ae;replace hS:=hS.trans ae;clear ae;refine D ?_;refine Za rfl trivial (Z4 rfl (ZN rfl) (Z3U _ _ f2 (by omega))) (λ_ _ h=>by rw [h.2];exact Stp.refl _ _) rfl ?_;rintro _ w3 ⟨rfl,rfl⟩;refine D ?_;refine W ?_;refine WR ?_;refine .mk ⟨?_,hS⟩;unfold Z3J;rfl
def Z1C (h:Hol) (y:Int):Int×Bool:=
 if h.kind=1 then (if Z1R y h.month h.day then 0 else Z00 y h.month h.day,!decide (Z1R y h.month h.day))
 else if h.kind=2 then (Z3J y h.month h.wd+7 * (h.nth - 1),decide (Z3J y h.month h.wd+7 * (h.nth - 1)<Z00 y h.month 1+ZG y h.month))
 else if h.kind=3 then (Z3J y h.month h.wd+(Z00 y h.month 1+ZG y h.month - 1 - Z3J y h.month h.wd) / 7 * 7,true)
 else ((if y<1583\/9999<y then 0 else Z5y y)+h.off,!decide (y<1583\/9999<y))
theorem ZsB {h:Hol} {y:Int} (h1:h.first<=y) (h2:y<=h.last):Zmu h y=if (Z1C h y).2=true then some (Z1C h y).1 else none:=by
 unfold Zmu Z1C;rw [if_neg (by omega)];by_cases k1:h.kind=1;rw [if_pos k1,if_pos k1];by_cases hb:Z1R y h.month h.day;simp [hb];simp [hb];rw [if_neg k1,if_neg k1];by_cases k2:h.kind=2;rw [if_pos k2,if_pos k2];simp;rw [if_neg k2,if_neg k2];by_cases k3:h.kind=3;rw [if_pos k3,if_pos k3];rfl;rw [if_neg k3,if_neg k3];by_cases hy:y<1583\/9999<y;simp [hy];simp [hy]
abbrev Zcg (h:Hol) (y:Int):Value:=.tuple #[.I (Z1C h y).1,.B (Z1C h y).2]
theorem Z6S {y:Int} (h1:1583<=y) (h2:y<=9999):1000<=Z5y y/\Z5y y<=3652058:=by
 have hb:=Z6R h1 h2;have e3:ZG y 3=31:=rfl;have e4:ZG y 4=30:=rfl;have hs:=Z3C h1;have cm:500000<=Z16 1583:=by decide
 have oT:=ZdJ y (Z3c y % 31+1);have yj:Z00 y 3 1=Z16 y+Z27 y 2:=by
  have:=Z2w y 1 2 (by omega);rw [show ((2:Nat):Int)+1=3 by rfl] at this;omega
 have hc:0<=Z27 y 2:=by
  have:=Z4f (y:=y) (Xq 2) (by omega);simpa [Z27] using this
 unfold Z5y;have hm:Z3c y / 31=3\/Z3c y / 31=4:=by omega
 rcases hm with hm|hm
 rw [hm];exact ⟨by omega,(dayM_range (by omega) h2 (by omega) (by omega) (by omega) (by omega)).2⟩;rw [hm];exact ⟨by omega,(dayM_range (by omega) h2 (by omega) (by omega) (by omega) (by omega)).2⟩
theorem Z35 {y m wd:Int} (hy:1<=y) (eA:y<=9999) (hm:1<=m) (eP:m<=12):Z00 y m 1<=Z3J y m wd/\Z3J y m wd<=Z00 y m 1+6:=by
 unfold Z3J;omega
theorem ZdL {h:Hol} {y:Int} (ho:Z1V h) (h1:h.first<=y) (h2:y<=h.last) (hp:(Z1C h y).2=true):0<=(Z1C h y).1/\(Z1C h y).1<=3653000:=by
 have hy:=ho.f1;have eA:=ho.l1;have bG:=ho.k1;have db:=ho.k2;unfold Z1C at hp ⊢;by_cases k1:h.kind=1;rw [if_pos k1] at hp ⊢;obtain ⟨m1,m2⟩:=ho.month (by omega);by_cases hb:Z1R y h.month h.day;simp [hb] at hp;dsimp only;rw [if_neg hb];unfold Z1R at hb;have:=dayM_range (y:=y) (m:=h.month) (d:=h.day) (by omega) (by omega) (by omega) (by omega) (by omega) (by omega);omega;rw [if_neg k1] at hp ⊢;by_cases k2:h.kind=2;rw [if_pos k2] at hp ⊢;obtain ⟨m1,m2⟩:=ho.month (by omega);obtain ⟨n1,n2⟩:=ho.nth k2;obtain ⟨f1,f2,f3,f4,f5⟩:=Z2C (y:=y) (by omega) (by omega) m1 m2;obtain ⟨f6,f7⟩:=Z35 (y:=y) (wd:=h.wd) (by omega) (by omega) m1 m2;dsimp only;omega;rw [if_neg k2] at hp ⊢;by_cases k3:h.kind=3;rw [if_pos k3] at hp ⊢;obtain ⟨m1,m2⟩:=ho.month (by omega);obtain ⟨f1,f2,f3,f4,f5⟩:=Z2C (y:=y) (by omega) (by omega) m1 m2;obtain ⟨f6,f7⟩:=Z35 (y:=y) (wd:=h.wd) (by omega) (by omega) m1 m2;dsimp only;omega;rw [if_neg k3] at hp ⊢;obtain ⟨o1,o2⟩:=ho.off (by omega);by_cases hy:y<1583\/9999<y;simp [hy] at hp;dsimp only;rw [if_neg hy];have:=Z6S (y:=y) (by omega) (by omega);omega
theorem Zgc (h:Hol) (y:Int) (w) (hL:Z0A w) (hk:h.kind=1) :
 CC 303 #[agg h,.I y] w λr w'=>r=Zcg h y/\Stp [] w w':=by
 have e:Z1C h y=(if Z1R y h.month h.day then 0 else Z00 y h.month h.day,!decide (Z1R y h.month h.day)):=by unfold Z1C;rw [if_pos hk]
 unfold Zcg;rw [e];refine cW2 21 Tryz.func303 ?_;refine W ?_;refine Z0 (Zo rfl) rfl ?_;rintro _ w1 ⟨b,rfl,hb,ac,hS⟩;replace ac:Blk w1 b 138 (Z3.enc h):=ac;replace hL:=hL.up hS;refine W ?_;refine Z7 (vs:=[(0,.I y),(1,.I h.month),(2,.I h.day)]) rfl (Z5q _ _ _) rfl ?_;refine CL (Z7O y _ _ _ hL) ?_;rintro _ w2 ⟨rfl,hT⟩;refine W ?_;refine WR ?_;refine .mk ⟨?_,hS.trans hT⟩;by_cases hb:Z1R y h.month h.day<;>simp [hb]
theorem Zgd (h:Hol) (y:Int) (w) (hL:Z0A w) (hy:1<=y) (eA:y<=9999) (hk:h.kind=2) (ho:Z1V h) :
 CC 306 #[agg h,.I y] w λr w'=>r=Zcg h y/\Stp [] w w':=by
 have e:Z1C h y=(Z3J y h.month h.wd+7 * (h.nth - 1),decide (Z3J y h.month h.wd+7 * (h.nth - 1)<Z00 y h.month 1+ZG y h.month)):=by unfold Z1C;rw [if_neg (by omega),if_pos hk]
 obtain ⟨m1,m2⟩:=ho.month (by omega);obtain ⟨d1,d2⟩:=ho.wd (.inl hk);obtain ⟨n1,n2⟩:=ho.nth hk;obtain ⟨f1,f2,f3,f4,f5⟩:=Z2C hy eA m1 m2;obtain ⟨f6,f7⟩:=Z35 (wd:=h.wd) hy eA m1 m2;unfold Zcg;rw [e];refine cW2 29 Tryz.func306 ?_;refine W ?_;refine Z0 (Zo rfl) rfl ?_;rintro _ w1 ⟨b,rfl,hb,ac,hS⟩;replace ac:Blk w1 b 138 (Z3.enc h):=ac;replace hL:=hL.up hS;refine W ?_;refine CL (Z8j h y _ hL hy eA m1 m2 d1 d2) ?_;rintro _ w2 ⟨rfl,hT⟩;replace ac:=ac.up hT;replace hL:=hL.up hT;replace hS:=hS.trans hT;refine W ?_;refine CM (Zf rfl rfl) (Z2Y y _ _ hL (by omega) (by omega)) ?_;rintro _ _ ⟨rfl,rfl⟩;refine RT ?_;exact ⟨rfl,hS⟩
theorem Zge (h:Hol) (y:Int) (w) (hL:Z0A w) (hy:1<=y) (eA:y<=9999) (hk:h.kind=3) (ho:Z1V h) :
 CC 309 #[agg h,.I y] w λr w'=>r=Zcg h y/\Stp [] w w':=by
 have e:Z1C h y=(Z3J y h.month h.wd+(Z00 y h.month 1+ZG y h.month - 1 - Z3J y h.month h.wd) / 7 * 7,true):=by unfold Z1C;rw [if_neg (by omega),if_neg (by omega),if_pos hk]
 obtain ⟨m1,m2⟩:=ho.month (by omega);obtain ⟨d1,d2⟩:=ho.wd (.inr hk);obtain ⟨f1,f2,f3,f4,f5⟩:=Z2C hy eA m1 m2;obtain ⟨f6,f7⟩:=Z35 (wd:=h.wd) hy eA m1 m2;unfold Zcg;rw [e];refine cW2 29 Tryz.func309 ?_;refine W ?_;refine Z0 (Zo rfl) rfl ?_;rintro _ w1 ⟨b,rfl,hb,ac,hS⟩;replace ac:Blk w1 b 138 (Z3.enc h):=ac;replace hL:=hL.up hS;refine W ?_;refine CL (Z8j h y _ hL hy eA m1 m2 d1 d2) ?_;rintro _ w2 ⟨rfl,hT⟩;replace ac:=ac.up hT;replace hL:=hL.up hT;replace hS:=hS.trans hT;refine W ?_;refine CM (Zf rfl rfl) (Z2Y y _ _ hL (by omega) (by omega)) ?_;rintro _ _ ⟨rfl,rfl⟩;refine RT ?_;exact ⟨rfl,hS⟩
theorem Zgf (h:Hol) (y:Int) (w) (hk:h.kind=4) (ho:Z1V h) :
 CC 311 #[agg h,.I y] w λr w'=>r=Zcg h y/\Stp [] w w':=by
 have e:Z1C h y=((if y<1583\/9999<y then 0 else Z5y y)+h.off,!decide (y<1583\/9999<y)):=by unfold Z1C;rw [if_neg (by omega),if_neg (by omega),if_neg (by omega)]
 obtain ⟨o1,o2⟩:=ho.off hk;have hr:0<=(if y<1583\/9999<y then 0 else Z5y y)/\(if y<1583\/9999<y then 0 else Z5y y)<=3652058:=by
  split;omega;have:=Z6S (y:=y) (by omega) (by omega);omega
 unfold Zcg;rw [e];refine cW2 19 Tryz.func311 ?_;refine W ?_;refine Z0 (Zo rfl) rfl ?_;rintro _ w1 ⟨b,rfl,hb,ac,hS⟩;replace ac:Blk w1 b 138 (Z3.enc h):=ac;refine W ?_;refine CL (ZdK y _) ?_;rintro _ w2 ⟨rfl,hT⟩;replace ac:=ac.up hT;replace hS:=hS.trans hT;refine W ?_;refine WR ?_;refine .mk ⟨?_,hS⟩;by_cases hy:y<1583\/9999<y<;>simp [hy]
theorem ZdM (g:Nat) (fn:Func) [Fun Tryz.prog g fn] (lb:Array Value) (c:Spn->Spn->Int) (ho:Ord c) (X:List Nat) (base:Nat) (v:Value) (xs:List Spn) (w:World) (hX:∀ b∈X,b<base) (aY:base<=w.heap.size) (ab:Row X w base 345 v xs) (hp:ZmL Tryz.prog (ob v) g lb c w) (ai:xs.length<=1000) :
 CC 360 #[v,.I 0,.I xs.length,.func (.func g) #[] lb] w λr w'=>∃ ys,Z9v c xs ys/\Row X w' base 345 v ys/\Stp (ob v) w w':=by
 refine cW4 53 Tryz.func360 ?_;refine W ?_
 refine Zr (σ:=Nat) (λi=>[(0,v),(1,.I 0),(2,.I xs.length),(3,.func (.func g) #[] lb),(8,.I (i+1))])
  (λi w'=>Stp (ob v) w w'/\∃ ys,ys.Perm xs/\Row X w' base 345 v ys/\(ys.take (i+1)).Pairwise (λa b=>¬ c b a<0)) (λi=>xs.length - i) 0 ⟨rfl,rfl,rfl,rfl,rfl,trivial⟩
  ⟨Stp.refl _ _,xs,YaB _,ab,?_⟩ ?_
 . cases xs with
   | nil=>simp
   | cons x r=>simp
 rintro i w1 ⟨hS,ys,iB,ab,jX⟩;have fx:=iB.length_eq;by_cases oL:i+1<xs.length
 . repeat'(first|refine W1 ?_|refine VG ?_ ?_<;>intro hg|refine VC ?_ ?_<;>intro hc)
   rotate_left
   omega;obtain ⟨pre,x,rest,cr,rfl⟩:∃ pre x rest,pre.length=i+1/\ys=put pre rest x pre.length:=by
    refine ⟨ys.take (i+1),ys[i+1],ys.drop (i+2),by simp;omega,?_⟩;unfold put;have hl:(ys.take (i+1)).length=i+1:=by simp;omega
    rw [hl,YaA,Nat.min_self,Yav (by omega)]
    conv=>lhs;rw [<- XI (i+1) ys,X3 (by omega)]
    simp
   have cw:pre.Pairwise (λa b=>¬ c b a<0):=by
    have:(put pre rest x pre.length).take (i+1)=pre:=by
     unfold put;rw [Xp,YaV,Xx,<- cr,YbG];rfl
    rwa [this] at jX
   have vR:pre.length+1+rest.length=xs.length:=by rw [<- fx,ZaK]
   have fin:∀ j (w':World),j<=pre.length->Stp (ob v) w w'->Row X w' base 345 v (put pre rest x j)->(∀ q (h:q<pre.length),j<=q->c x pre[q]<0)->(∀ h:j - 1<pre.length,0<j->¬ c x pre[j - 1]<0)->
    Stp (ob v) w w'/\∃ ys,ys.Perm xs/\Row X w' base 345 v ys/\(ys.take (i+1+1)).Pairwise (λa b=>¬ c b a<0):=by
    intro j w' hj hS ab h1 h2;refine ⟨hS,put pre rest x j,?_,ab,?_⟩;refine List.Perm.trans ?_ iB;unfold put;rw [Xp,YaV];refine List.Perm.append_right _ ?_;refine List.Perm.trans List.perm_middle ?_;rw [XI];exact (List.perm_append_singleton x pre).symm;have e:(put pre rest x j).take (i+1+1)=pre.take j++x :: pre.drop j:=by
     have hl:(pre.take j++x :: pre.drop j).length=i+1+1:=by
      have:=congrArg List.length (XI j pre);simp only [Xc] at this;simp only [Xc,Xe];omega
     unfold put;rw [<- hl,YbG];rfl
    rw [e];exact ZdI ho hj cw h1 h2
   refine Zr (σ:=Nat) (λj=>[(0,v),(1,.I 0),(2,.I xs.length),(3,.func (.func g) #[] lb),(8,.I (i+1)),(9,.I (j:Int))])
    (λj w'=>j<=pre.length/\Stp (ob v) w w'/\Row X w' base 345 v (put pre rest x j)/\(∀ q (h:q<pre.length),j<=q->c x pre[q]<0)) (λj=>j) (i+1) ⟨rfl,rfl,rfl,rfl,rfl,rfl,trivial⟩
    ⟨by omega,hS,by rw [cr] at ab;exact ab,λq h hq=>by omega⟩ ?_
   clear ab hS;rintro j w2 ⟨hj,hS,ab,hlt⟩;have hs:=ab.slv hX;cases j with
   | zero=>
     refine W ?_;refine ZDr 17 [] [] [(0,0),(1,0),(2,0),(3,0),(4,0),(5,0),(6,0),(7,0),(8,1),(9,0),(10,0),(11,0),(12,0),(13,1),(14,2),(15,0),(16,0)] (λw1 ae=>?_);replace hS:=hS.trans ae.mn;replace ab:=ab.up ae;replace hs:=hs.up ae;refine D ?_;refine W ?_;exact QL (i+1) (fin 0 _ (Xq _) hS ab hlt (λ_ h=>absurd h (Nat.lt_irrefl _))) (by omega)
   | succ j=>
     have hz:((j+1:Nat):Int) - 1=(j:Int):=by omega
     have bN:j+1<(put pre rest x (j+1)).length:=by rw [ZaK];omega
     have fC:j<(put pre rest x (j+1)).length:=by rw [ZaK];omega
     have a1:=ZsA (rest:=rest) (x:=x) hj bN;have a0:=ZdH (rest:=rest) (x:=x) (Nat.lt_of_succ_le hj) fC;refine W ?_;refine ZDr 17 [] [] [(0,0),(1,0),(2,0),(3,0),(4,0),(5,0),(6,0),(7,0),(8,1),(9,0),(10,0),(11,0),(12,0),(13,1),(14,2),(15,0),(16,0)] (λw1 ae=>?_);replace hS:=hS.trans ae.mn;replace ab:=ab.up ae;replace hs:=hs.up ae;refine QD ?_;refine Za rfl (by first|exact trivial|exact rfl) (Z0a (f:=g) rfl (Zf rfl rfl) rfl (hp _ _ _ hS)) (λ_ _ h=>h.2) rfl ?_;rintro _ w3 ⟨rfl,am⟩;rw [a1,a0];replace hS:=hS.trans am.mn;replace ab:=ab.up am;replace hs:=hs.up am;refine D ?_
     (refine QP ?_ ?_<;>intro hc)
     rename_i hc;refine ZDr 18 [] [15,17] [(0,0),(1,0),(2,0),(3,0),(4,0),(5,0),(6,0),(7,0),(8,0),(9,1),(10,0),(11,0),(12,0),(13,1),(14,0),(15,2),(16,0),(17,2)] (λw1 ae=>?_);replace hS:=hS.trans ae.mn;replace ab:=ab.up ae;replace hs:=hs.up ae;refine D ?_;rw [a1,a0];refine Jm rfl trivial (Z7r (i:=j+1) (y':=pre[j]) rfl rfl rfl rfl ab hX bN) rfl ?_;rintro _ w4 ⟨ab,aJ⟩;replace hS:=hS.trans aJ;refine D ?_;refine Jm rfl trivial (Z7r (i:=j) (y':=x) rfl rfl rfl rfl ab hX (by rw [X4];exact fC)) rfl ?_;rintro _ w5 ⟨ab,aD⟩;replace hS:=hS.trans aD;rw [ZjO (Nat.lt_of_succ_le hj)] at ab;refine D ?_;refine W ?_;refine Zw j ⟨rfl,rfl,rfl,rfl,rfl,(by rw [<- hz];rfl),trivial⟩ ⟨by omega,hS,ab,λq h hq=>?_⟩ (by omega);by_cases e:q=j;subst e;exact hc;exact hlt q h (by omega);exact QL (i+1) (fin (j+1) _ hj hS ab hlt (λ_ _=>by assumption)) (by omega)
 focus repeat'(first|refine W1 ?_|refine VG ?_ ?_<;>intro hg|refine VC ?_ ?_<;>intro hc)
 omega;refine WR ?_;refine .mk ⟨ys,⟨iB,?_⟩,ab,hS⟩
 rwa [XJ (by omega)] at jX
theorem ZmN (g:Nat) (fn:Func) [Fun Tryz.prog g fn] (lb:Array Value) (c:Spn->Spn->Int) (ho:Ord c) (X:List Nat) (base:Nat) (v:Value) (xs:List Spn) (w:World) (hX:∀ b∈X,b<base) (aY:base<=w.heap.size) (ab:Row X w base 345 v xs) (hp:ZmL Tryz.prog (ob v) g lb c w) (ai:xs.length<20) :
 CC 347 #[v,.I xs.length,.func (.func g) #[] lb] w λr w'=>∃ ys,Z9v c xs ys/\Row X w' base 345 v ys/\Stp (ob v) w w':=by
 have nl:¬ ((20:Int)<=xs.length):=by omega
 have nl2:¬ ((20:Int)<xs.length):=by omega
 refine cW3 63 Tryz.func347 ?_;refine W ?_;refine Zr (σ:=Unit) (λ_=>[(0,v),(1,.I xs.length),(2,.func (.func g) #[] lb),(6,.I 20),(7,.I 0),(8,.I 20)]) (λ_ w'=>w'=w) (λ_=>0) () ⟨rfl,rfl,rfl,rfl,rfl,rfl,trivial⟩ rfl ?_;rintro _ w' rfl;repeat'(first|refine W1 ?_|refine VG ?_ ?_<;>intro hg|refine VC ?_ ?_<;>intro hc)
 exact absurd (by assumption) nl;refine CM (Z72 rfl rfl rfl rfl) (ZdM g fn lb c ho X base v xs _ hX aY ab hp (by omega)) ?_;rintro r w2 az;refine W ?_;refine Zr (σ:=Unit) (λ_=>[(1,.I xs.length),(6,.I 20)]) (λ_ w'=>w'=w2) (λ_=>0) () ⟨rfl,rfl,trivial⟩ rfl ?_;rintro _ w' rfl;repeat'(first|refine W1 ?_|refine VG ?_ ?_<;>intro hg|refine VC ?_ ?_<;>intro hc)
 exact absurd (by assumption) nl2;refine WR ?_;exact .mk az
theorem Zch (g:Nat) (fn:Func) [Fun Tryz.prog g fn] (lb:Array Value) (c:Spn->Spn->Int) (ho:Ord c) (X:List Nat) (base:Nat) (v:Value) (xs:List Spn) (w:World) (hX:∀ b∈X,b<base) (aY:base<=w.heap.size) (ab:Row X w base 345 v xs) (hp:ZmL Tryz.prog (ob v) g lb c w) (ai:xs.length<20) :
 CC 318 #[v,.func (.func g) #[] lb] w λr w'=>∃ ys,Z9v c xs ys/\Row X w' base 345 v ys/\Stp (ob v) w w':=by
 have hs:=ab.slv hX;refine cW2 9 Tryz.func318 ?_;refine W ?_;refine CL (ZmN g fn lb c ho X base v xs _ hX aY ab hp ai) ?_;rintro r w2 az;refine W ?_;refine WR ?_;exact .mk az
def Zci (x y:Spn):Int:=ZjN x.1 y.1
theorem ZwP:Ord Zci where
 asym:=λa b=>by unfold Zci;rw [Z5G,Z5G];omega
 trans:=λa b d=>by unfold Zci;rw [Z5G,Z5G,Z5G];omega
theorem ZvX (S:List Nat) (w):ZmL Tryz.prog S 319 #[] Zci w:=by
 intro x y w1 hS;show Calls _ _ #[agg x,agg y] _ _;refine cW2 10 Tryz.func319 ?_;refine W ?_;refine Z0 (Zo rfl) rfl ?_;rintro _ w2 ⟨c,rfl,hc,ac,ah⟩;replace ac:Blk w2 c _ (Z3.enc x):=ac;refine Z0 (Zo rfl) rfl ?_;rintro _ w3 ⟨c2,rfl,cq,aQ,am⟩;replace aQ:Blk w3 c2 _ (Z3.enc y):=aQ;replace ac:=ac.up am;replace ah:=ah.trans am;refine W ?_;refine CL (Zcf _ _ _) ?_;rintro _ w4 ⟨rfl,aJ⟩;refine RT ?_;exact ⟨rfl,ah.trans aJ⟩
def ofH (y:Int) (h:Hol) (i:Int):List Spn:=match Z2c h y with|some d=>[(d,i)]|none=>[]
def ofK (y:Int):List Hol->Int->List Spn
 | [],_=>[]
 | h :: r,i=>ofH y h i++ofK y r (i+1)
theorem ZeO (y:Int):∀ (a b:List Hol) (i:Int),ofK y (a++b) i=ofK y a i++ofK y b (i+a.length)
 | [],b,i=>by simp [ofK]
 | h :: a, b, i => by
   simp only [XS,ofK,ZeO y a b (i+1),Xx,Xe];congr 3;omega
theorem ZeP (y d:Int):∀ (l:List Hol) (i:Int),(∃ r,(d,r)∈ofK y l i)↔∃ h∈l,Z2c h y=some d
 | [],i=>by simp [ofK]
 | h :: l, i => by
   simp only [ofK,Xh,Xb,exists_or,exists_eq_or_imp];have ih:=ZeP y d l (i+1);constructor;rintro (⟨r,hr⟩|hr)
   . left
     unfold ofH at hr;cases hk:Z2c h y with
     | none=>rw [hk] at hr;simp at hr
     | some d'=>rw [hk] at hr;simp at hr;rw [hr.1]
   right;exact ih.1 hr;rintro (hk|hk)
   left;exact ⟨i,by unfold ofH;rw [hk];simp⟩
   right;exact ih.2 hk
theorem Z7h (y:Int):∀ (l:List Hol) (i:Int),(ofK y l i).length<=l.length
 | [],i=>by simp [ofK]
 | h :: l, i => by
   have:=Z7h y l (i+1);simp only [ofK,Xc,Xe];unfold ofH;cases Z2c h y<;>simp<;>omega
abbrev fnV (f:Nat):Value:=.func (.func f) #[] #[]
abbrev Z54:List Value:=[fnV 302,fnV 303,fnV 305,fnV 306,fnV 308,fnV 309,fnV 310,fnV 311]
theorem ZaL (f g:Nat) (w):(Instr.build 324 #[(0,fnV f),(1,fnV g)]).run Tryz.prog w=.ok (.agg #[fnV f,fnV g]) w:=by kernel_rfl
theorem ZmO (a b c d e f g h:Nat) (w):(Instr.build 325 #[(0,.agg #[fnV a,fnV b]),(1,.agg #[fnV c,fnV d]),(2,.agg #[fnV e,fnV f]),(3,.agg #[fnV g,fnV h])]).run Tryz.prog w=.ok (.agg #[fnV a,fnV b,fnV c,fnV d,fnV e,fnV f,fnV g,fnV h]) w:=by kernel_rfl
theorem Z9w (w):CC 253 #[] w λr w'=>r=.agg Z54.toArray/\Stp [] w w':=by
 refine cW0 6 Tryz.func253 ?_;refine W ?_;refine Z0 Z2 rfl ?_;rintro _ w1 ⟨b,rfl,hb,ac,hS⟩;refine W ?_;refine Z7 (vs:=[(0,fnV 302),(1,fnV 303)]) rfl (ZaL _ _) rfl ?_;refine Z7 (vs:=[(0,fnV 305),(1,fnV 306)]) rfl (ZaL _ _) rfl ?_;refine Z7 (vs:=[(0,fnV 308),(1,fnV 309)]) rfl (ZaL _ _) rfl ?_;refine Z7 (vs:=[(0,fnV 310),(1,fnV 311)]) rfl (ZaL _ _) rfl ?_;refine Z7 (vs:=[(0,.agg #[fnV 302,fnV 303]),(1,.agg #[fnV 305,fnV 306]),(2,.agg #[fnV 308,fnV 309]),(3,.agg #[fnV 310,fnV 311])]) rfl (ZmO _ _ _ _ _ _ _ _) rfl ?_;refine SB (us:=Z54) (by intro u hu;simp [Z54] at hu;rcases hu with rfl|rfl|rfl|rfl|rfl|rfl|rfl|rfl<;>rfl) ac ?_;rintro _ w2 ⟨hT,aQ⟩;refine W ?_;refine J0 rfl rfl rfl aQ rfl ?_;exact .mk ⟨rfl,hS.ow hT⟩
theorem ZmP {m d:Int} (h0:0<=m) (h2:m<=2) (hd:0<=d):Z6f[0+m.toNat * 7+(d % 7).toNat * 1]?=some (Z3K m d - d):=by
 have hm:m=0\/m=1\/m=2:=by omega
 have hw:d % 7=0\/d % 7=1\/d % 7=2\/d % 7=3\/d % 7=4\/d % 7=5\/d % 7=6:=by omega
 unfold Z3K;rcases hm with rfl|rfl|rfl<;>rcases hw with h|h|h|h|h|h|h<;>rw [h]<;>simp [Z6f]<;>omega
theorem Zgg (m d:Int):d - 1<=Z3K m d/\Z3K m d<=d+2:=by
 unfold Z3K;repeat' split
 all_goals omega
theorem ZmQ (a b:Int) (w):(Instr.build 345 #[(0,.I a),(1,.I b)]).run Tryz.prog w=.ok (agg ((a,b):Spn)) w:=by kernel_rfl
theorem ZjQ (d:Spn) (w):(Instr.buildSlice 342 1 #[(0,agg d)]).run Tryz.prog w=.ok (.slice (some ⟨w.heap.size,0,none⟩) 1 1) (w.alloc (.cells (Z3.enc d).toArray 345)):=by kernel_rfl
theorem ZmR (v:Value) (l:List Hol) (y:Int) (w) (hs:SlV [] w v l) (hL:Z0A w) (hM:Z3h w) (ho:∀ h∈l,Z1V h) (hl:l.length<20) :
 CC 272 #[v,.I y] w λr w'=>∃ ys,Z9v Zci (ofK y l 0) ys/\ZE 345 w w' r ys:=by
 refine cW2 61 Tryz.func272 ?_;refine W ?_;refine CL (Z9w _) ?_;rintro _ w1 ⟨rfl,hS⟩;refine Z0 Z2 rfl ?_;rintro _ w2 ⟨b6,rfl,eB,e6,ah⟩;refine W ?_;refine SB (us:=Z54) (by intro u hu;simp [Z54] at hu;rcases hu with rfl|rfl|rfl|rfl|rfl|rfl|rfl|rfl<;>rfl) e6 ?_;rintro _ w3 ⟨hT,k6⟩;replace hS:=hS.trans (ah.ow hT);clear e6 ah hT;replace hs:=hs.up hS;replace hL:=hL.up hS;replace hM:=hM.up hS;refine W ?_
 refine Zr (σ:=Nat×Value) (λq=>[(0,v),(1,.I y),(5,q.2),(6,pQ b6),(12,v),(13,.I (l.length:Int)),(14,.I (q.1:Int))])
  (λq w'=>q.1<=l.length/\ZE 345 w3 w' q.2 (ofK y (l.take q.1) 0)) (λq=>l.length - q.1) (0,.N) ⟨rfl,rfl,rfl,rfl,rfl,rfl,rfl,trivial⟩ ⟨Xq _,ZE.nil⟩ ?_
 rintro ⟨k,ov⟩ w4 ⟨hk,hr⟩;dsimp only at hk hr ⊢;have aJ:=hr.2;replace hs:=hs.up aJ;replace hL:=hL.up aJ;replace hM:=hM.up aJ;replace k6:=k6.up aJ;by_cases hlt:k<l.length;have ht:l.take (k+1)=l.take k++[l[k]]:=Xi hlt;have tF:ofK y (l.take (k+1)) 0=ofK y (l.take k) 0++ofH y l[k] (k:Int):=by
  rw [ht,ZeO];simp only [ofK,XH,Xw,Yad hk];simp
 have aO:=ho l[k] (Xd hlt);refine QO ?_;refine Z0 Z2 rfl ?_;rintro _ w5 ⟨b8,rfl,fk,e8,aD⟩;refine W ?_;refine SA (us:=Z3.enc l[k]) e8 ?_;rintro _ w6 ⟨hT,k8⟩;replace aD:=aD.ow hT;clear e8 hT;replace hr:=hr.up aD;replace hs:=hs.up aD;replace hL:=hL.up aD;replace hM:=hM.up aD;replace k6:=k6.up aD;clear aD;refine W ?_;refine CL (Z2f y l[k].first l[k].last _) ?_;rintro _ w6 ⟨rfl,rfl⟩;have again:∀ (w':World),Z2c l[k] y=none->Stp [] w6 w'->ZE 345 w3 w' ov (ofK y (l.take (k+1)) 0):=by
  intro w' hn dx;rw [tF];unfold ofH;rw [hn,XH];exact hr.up dx
 by_cases bK:l[k].first<=y/\y<=l[k].last;rw [decide_eq_true bK];have fF:=ZsB bK.1 bK.2;have qU:=aO.f1;have eA:=aO.l1;refine W ?_
 refine JE (σ:=Unit) (λ_=>[(0,v),(1,.I y),(5,ov),(6,pQ b6),(7,.I (k:Int)),(8,pQ b8),(9,.I (Z1C l[k] y).1),(10,.B (Z1C l[k] y).2),(12,v),(13,.I (l.length:Int)),(14,.I (k:Int))])
  (λ_ w'=>Stp [] w6 w') ?_ ?_
 have ew:l[k].kind=1\/l[k].kind=2\/l[k].kind=3\/l[k].kind=4:=by have:=aO.k1;have:=aO.k2;omega
 rcases ew with ew|ew|ew|ew
 refine ZDr 14 [] [] [(0,0),(1,1),(2,0),(3,0),(4,0),(5,1),(6,1),(7,0),(8,2),(9,0),(10,0),(11,0),(12,0),(13,0)] (λw1 ae=>?_);replace k6:=k6.up ae;replace k8:=k8.up ae;replace hL:=hL.up ae;have hz:l[k].kind - 1=((0:Nat):Int):=by omega
 refine D ?_;refine Z2t rfl (Z4a (len:=4) (i:=0) trivial rfl rfl hz (by decide) rfl ?_);refine D ?_;refine Za rfl trivial (Z4 rfl (Zf rfl rfl) (Zgc _ _ _ hL ew)) (λ_ _ h=>h.2) rfl ?_;rintro _ w7 ⟨rfl,aR⟩;refine D ?_;exact QT () (ae.trans aR);refine ZDr 14 [] [] [(0,0),(1,1),(2,0),(3,0),(4,0),(5,1),(6,1),(7,0),(8,2),(9,0),(10,0),(11,0),(12,0),(13,0)] (λw1 ae=>?_);replace k6:=k6.up ae;replace k8:=k8.up ae;replace hL:=hL.up ae;have hz:l[k].kind - 1=((1:Nat):Int):=by omega
 refine D ?_;refine Z2t rfl (Z4a (len:=4) (i:=1) trivial rfl rfl hz (by decide) rfl ?_);refine D ?_;refine Za rfl trivial (Z4 rfl (Zf rfl rfl) (Zgd _ _ _ hL (by omega) (by omega) ew aO)) (λ_ _ h=>h.2) rfl ?_;rintro _ w7 ⟨rfl,aR⟩;refine D ?_;exact QT () (ae.trans aR);refine ZDr 14 [] [] [(0,0),(1,1),(2,0),(3,0),(4,0),(5,1),(6,1),(7,0),(8,2),(9,0),(10,0),(11,0),(12,0),(13,0)] (λw1 ae=>?_);replace k6:=k6.up ae;replace k8:=k8.up ae;replace hL:=hL.up ae;have hz:l[k].kind - 1=((2:Nat):Int):=by omega
 refine D ?_;refine Z2t rfl (Z4a (len:=4) (i:=2) trivial rfl rfl hz (by decide) rfl ?_);refine D ?_;refine Za rfl trivial (Z4 rfl (Zf rfl rfl) (Zge _ _ _ hL (by omega) (by omega) ew aO)) (λ_ _ h=>h.2) rfl ?_;rintro _ w7 ⟨rfl,aR⟩;refine D ?_;exact QT () (ae.trans aR);refine ZDr 14 [] [] [(0,0),(1,1),(2,0),(3,0),(4,0),(5,1),(6,1),(7,0),(8,2),(9,0),(10,0),(11,0),(12,0),(13,0)] (λw1 ae=>?_);replace k6:=k6.up ae;replace k8:=k8.up ae;replace hL:=hL.up ae;have hz:l[k].kind - 1=((3:Nat):Int):=by omega
 refine D ?_;refine Z2t rfl (Z4a (len:=4) (i:=3) trivial rfl rfl hz (by decide) rfl ?_);refine D ?_;refine Za rfl trivial (Z4 rfl (Zf rfl rfl) (Zgf _ _ _ ew aO)) (λ_ _ h=>h.2) rfl ?_;rintro _ w7 ⟨rfl,aR⟩;refine D ?_;exact QT () (ae.trans aR)
 . rintro _ w7 aR
   clear k6;replace k8:=k8.up aR;replace hM:=hM.up aR;cases hp:(Z1C l[k] y).2 with
   | false=>
     rw [hp] at fF;refine W ?_;exact QL (k+1,ov) ⟨hlt,again _ (by unfold Z2c;rw [fF];rfl) aR⟩ (by dsimp only;omega)
   | true=>
     rw [hp] at fF;obtain ⟨n1,n2⟩:=ZdL aO bK.1 bK.2 hp;have qV:=aO.m1;have qW:=aO.m2;have qX:=ZmP qV qW n1;have tG:=Zgg l[k].move (Z1C l[k] y).1;have ej:Z2c l[k] y=if ZK (Z3K l[k].move (Z1C l[k] y).1)=true then some (Z3K l[k].move (Z1C l[k] y).1) else none:=by
      unfold Z2c;rw [fF];rfl
     generalize (Z1C l[k] y).1=d at *;refine W ?_;refine ZDr 10 [] [] [(0,0),(1,0),(2,1),(3,0),(5,0),(4,2),(6,0),(7,1),(8,0),(9,0)] (λw1 ae=>?_);replace k8:=k8.up ae;replace hM:=hM.up ae;replace aR:=aR.trans ae;clear ae;refine D ?_;refine Z2t rfl (Z4a (len:=3) (i:=l[k].move.toNat) trivial rfl rfl (by omega) (by omega) rfl ?_);refine D ?_;refine Za rfl trivial (Z4 rfl (ZN rfl) (Z3U _ _ n1 (by omega))) (λ_ _ h=>by rw [h.2];exact Stp.refl _ _) rfl ?_;rintro _ w8 ⟨rfl,rfl⟩;refine D ?_;refine Z2t rfl (Z4a (len:=7) (i:=(d % 7).toNat) trivial rfl rfl (by omega) (by omega) rfl ?_);refine D ?_;refine WD_read rfl trivial (λw' aP=>Jl rfl rfl (hM.up aP _ _ qX)) rfl ?_;refine D ?_;have ed:d+(Z3K l[k].move d - d)=Z3K l[k].move d:=by omega
     rw [ed];refine W ?_;refine CL (Z2f (Z3K l[k].move d) 0 3652058 _) ?_;rintro _ _ ⟨rfl,rfl⟩;by_cases h2:0<=Z3K l[k].move d/\Z3K l[k].move d<=3652058;rw [decide_eq_true h2];rw [if_pos (ZL.2 h2)] at ej;have uB:=Z7h y (l.take k) 0;have vS:(l.take k).length<=l.length:=by rw [Xw];omega
     replace hr:=hr.up aR;refine W ?_;refine Z7 (vs:=[(0,.I (Z3K l[k].move d)),(1,.I (k:Int))]) rfl (ZmQ _ _) rfl ?_;refine Z0 (Z1 (vs:=[(0,agg ((Z3K l[k].move d,(k:Int)):Spn))]) rfl (ZjQ _)) rfl ?_;rintro bv w9 hN;have gf:=Z9.stp hN;have an:SlV (ob ov) w9 bv [((Z3K l[k].move d,(k:Int)):Spn)]:=hN.slv (λb hb=>(hr.1.ob_le b hb).2) rfl rfl (by simp [maxLen]);replace hr:=hr.up gf;refine Z0 (Jy rfl (by decide) rfl rfl hr an (by simp only [Xe,Xf];omega) (by simp only [Xe,Xf,maxLen];omega)) rfl ?_;rintro ov' w10 ⟨df,d9,vT⟩;refine W ?_;refine QL (k+1,ov') ⟨hlt,?_⟩ (by dsimp only;omega);dsimp only;rw [tF];unfold ofH;rw [ej];exact df;rw [decide_eq_false h2];rw [if_neg (λh=>h2 (ZL.1 h))] at ej;refine W ?_;exact QL (k+1,ov) ⟨hlt,again _ ej aR⟩ (by dsimp only;omega)
 rw [decide_eq_false bK];refine W ?_;exact QL (k+1,ov) ⟨hlt,again _ (by unfold Z2c Zmu;rw [if_pos (by omega)];rfl) (Stp.refl _ _)⟩ (by dsimp only;omega);have db:k=l.length:=by omega
 subst db;rw [Xp] at hr;have ai:=Z7h y l 0;refine QO ?_;refine CM (Zf rfl rfl) (Zch 319 _ #[] Zci ZwP [] w3.heap.size ov _ _ (by simp) hr.2.size hr.1 (ZvX _ _) (by omega)) ?_;rintro _ w7 ⟨ys,ec,iC,aR⟩;refine RT ?_;exact ⟨ys,ec,iC.lower hS.size,(hS.trans hr.2).own aR (λc hc=>.inr (Xg hS.size (hr.1.ob_le c hc).1))⟩
end Go.Proofs.YtipfkbkkndacjaaGreatDoor
namespace Go.Eng
open Go Go.RowKit Go.Proofs
variable {P:Program} {n:Nat} {Q:Exit->Act->World->Prop} {e:Env} {w:World}
theorem Z5H {i:Nat} {A B:Exit->Act->World->Prop} (h:∀ ex a w,A ex a w->B ex a w):∀ ex a w,Exit.inBlock i A ex a w->Exit.inBlock i B ex a w:=by
 intro ex a w hq;cases ex with
 | exit j=>
   simp only [Exit.inBlock] at hq ⊢;split;rename_i hj;rw [if_pos hj] at hq;exact h _ _ _ hq;rename_i hj;rw [if_neg hj] at hq;exact h _ _ _ hq
 | normal=>exact h _ _ _ hq
 | ret=>exact h _ _ _ hq
 | goto t=>exact h _ _ _ hq
 | panic c=>exact h _ _ _ hq
 | outgrown=>exact h _ _ _ hq
theorem ZjR {x y:Code} {σ:Type} {i j:Nat} (env:σ->Env) (I:σ->World->Prop)
 (h:WC P n x (Exit.inBlock i (Exit.inBlock j (Exit.then (λa w=>∃ s,Has n (env s) a/\I s w) Q))) e w) (k:∀ s w,I s w->WC P n y Q (env s) w):WC P n x (Exit.inBlock i (Exit.inBlock j (Exit.then (λa w=>y.wp P Q a w) Q))) e w:=
 ⟨λa ha => wp_mono (h.h a ha) (Z5H (Z5H (λex a w hq => by
   cases ex with
   | normal=>obtain ⟨s,h1,h2⟩:=hq;exact (k s w h2).h a h1
   | _=>exact hq)))⟩
end Go.Eng
namespace Go.Proofs.YtipfkbkkndacjaaGreatDoor
open Go Go.Eng Go.RowKit
def inR (a b:Int) (zs:List Int):List Int:=zs.filter λd=>decide (a<=d/\d<=b)
theorem ZmS (a b:Int) (x y:List Int):inR a b (x++y)=inR a b x++inR a b y:=by unfold inR;rw [Ya5]
theorem ZjS {y:Int} {l:List Hol} {ys:List Spn} (h:Z9v Zci (ofK y l 0) ys) (d:Int):d∈ys.map Prod.fst↔∃ h∈l,Z2c h y=some d:=by
 rw [<- ZeP y d l 0,XG];constructor;rintro ⟨⟨a,r⟩,h1,rfl⟩;exact ⟨r,h.1.mem_iff.1 h1⟩;rintro ⟨r,hr⟩;exact ⟨(d,r),h.1.mem_iff.2 hr,rfl⟩
theorem ZjT {y:Int} {l:List Hol} {ys:List Spn} (h:Z9v Zci (ofK y l 0) ys):ys.length<=l.length:=by
 rw [h.1.length_eq];exact Z7h y l 0
theorem Zcj (v:Value) (l:List Hol) (a b:Int) (w) (hs:SlV [] w v l) (hL:Z0A w) (hM:Z3h w) (ho:∀ h∈l,Z1V h) (hl:l.length<20) (ha:0<=a) (cR:a<=b) (hb:b<=3652058) (yl:(ofM a).y<=(ofM b).y) :
 CC 214 #[v,.I a,.I b] w λr w'=>∃ zs:List Int,(∀ d,d∈zs↔a<=d/\d<=b/\∃ y,(ofM a).y - 1<=y/\y<=(ofM b).y+1/\∃ h∈l,Z2c h y=some d)/\ZE 3 w w' r (Z3b zs):=by
 obtain ⟨ya1,ya2,-⟩:=Zai ha (by omega);obtain ⟨yb1,yb2,-⟩:=Zai (n:=b) (by omega) hb;have kJ:max a 0=a:=by omega
 have vU:min b 3652058=b:=by omega
 refine cW3 65 Tryz.func214 ?_;refine W ?_;rw [kJ,vU];refine QO ?_;refine CM (ZN rfl) (Zao a _ ha (by omega)) ?_;rintro _ w1 ⟨rfl,hS⟩;refine W ?_;refine Z0 Z2 rfl ?_;rintro _ w2 ⟨b7,rfl,fg,e7,ah⟩;refine W ?_;refine SB (us:=[.I (ofM a).y,.I (ofM a).m,.I (ofM a).d]) (by intro u hu;simp at hu;rcases hu with rfl|rfl|rfl<;>rfl) e7 ?_;rintro _ w3 ⟨hT,k7⟩;replace hS:=hS.trans (ah.ow hT);clear e7 ah hT;refine W ?_;refine CM (ZN rfl) (Zao b _ (by omega) hb) ?_;rintro _ w4 ⟨rfl,aJ⟩;replace k7:=k7.up aJ;replace hS:=hS.trans aJ;refine W ?_;refine Z0 Z2 rfl ?_;rintro _ w5 ⟨b9,rfl,iS,e9,aD⟩;have n79:b7≠b9:=by have:=k7.lt;omega
 refine W ?_;refine SB (us:=[.I (ofM b).y,.I (ofM b).m,.I (ofM b).d]) (by intro u hu;simp at hu;rcases hu with rfl|rfl|rfl<;>rfl) e9 ?_;rintro _ w6 ⟨hT,k9⟩;replace aD:=aD.ow hT;replace k7:=k7.up aD;replace hS:=hS.trans aD;clear e9 hT aJ aD;replace hs:=hs.up hS;replace hL:=hL.up hS;replace hM:=hM.up hS;refine W ?_
 refine Zr (σ:=Nat×Value×List Int) (λq=>[(0,v),(1,.I a),(2,.I b),(7,pQ b7),(9,pQ b9),(11,q.2.1),(12,.I ((ofM a).y - 1+(q.1:Int)))])
  (λq w'=>(ofM a).y - 1+(q.1:Int)<=(ofM b).y+2/\q.2.2.length<=q.1 * 20/\(∀ d,d∈q.2.2↔a<=d/\d<=b/\∃ y,(ofM a).y - 1<=y/\y<(ofM a).y - 1+(q.1:Int)/\∃ h∈l,Z2c h y=some d)/\ZE 3 w6 w' q.2.1 q.2.2)
  (λq=>20000 - q.1) (0,.N,[]) ⟨rfl,rfl,rfl,rfl,rfl,rfl,(by simp [JR]),trivial⟩ ⟨by dsimp only;omega,Xq _,λd=>by simp;intros;omega,ZE.nil⟩ ?_
 rintro ⟨k,ov,zs⟩ w7 ⟨hk,tx,hz,hr⟩;dsimp only at hk tx hz hr ⊢;have aR:=hr.2;replace k7:=k7.up aR;replace k9:=k9.up aR;replace hs:=hs.up aR;replace hL:=hL.up aR;replace hM:=hM.up aR;by_cases hlt:(ofM a).y - 1+(k:Int)<=(ofM b).y+1;refine QO ?_;refine CL (ZmR v l _ _ hs hL hM ho hl) ?_;rintro rv w8 ⟨ys,ec,jZ⟩;have fx:=ZjT ec;have kQ:=ZjS ec;have cJ:=jZ.2;have cE:=jZ.slv (X:=ob ov) (λb hb=>(hr.1.ob_le b hb).2);have qY:=jZ.slv (X:=[]) (by simp);replace hr:=hr.up cJ;replace k9:=k9.up cJ;replace hs:=hs.up cJ;replace hL:=hL.up cJ;replace hM:=hM.up cJ;refine W ?_
 refine ZjR (σ:=Value×List Int) (λq=>[(0,v),(1,.I a),(2,.I b),(7,pQ b7),(9,pQ b9),(11,q.1),(12,.I ((ofM a).y - 1+(k:Int)))])
  (λq w'=>q.2=zs++inR a b (ys.map Prod.fst)/\ZE 3 w6 w' q.1 q.2) ?_ ?_
 refine Zr (σ:=Nat×Value) (λq=>[(0,v),(1,.I a),(2,.I b),(7,pQ b7),(9,pQ b9),(11,q.2),(12,.I ((ofM a).y - 1+(k:Int))),(44,rv),(45,.I (ys.length:Int)),(46,.I (q.1:Int))])
  (λq w'=>q.1<=ys.length/\ZE 3 w6 w' q.2 (zs++inR a b ((ys.take q.1).map Prod.fst))/\SlV (ob q.2) w' rv ys) (λq=>ys.length - q.1) (0,ov) ⟨rfl,rfl,rfl,rfl,rfl,rfl,rfl,rfl,rfl,rfl,trivial⟩ ⟨Xq _,by simpa [inR] using hr,cE⟩ ?_
 clear hr cE qY hs hL hM k7 k9;rintro ⟨j,ov'⟩ w9 ⟨hj,hr,cE⟩;dsimp only at hj hr cE ⊢;by_cases fy:j<ys.length;have fE:inR a b ((ys.take (j+1)).map Prod.fst)=inR a b ((ys.take j).map Prod.fst)++inR a b [ys[j].1]:=by
  rw [Xi fy,XM,ZmS];rfl
 refine QO ?_;refine Z0 Z2 rfl ?_;rintro _ w10 ⟨b14,rfl,vV,e14,d9⟩;refine W ?_;refine SA (us:=Z3.enc ys[j]) e14 ?_;rintro _ w11 ⟨hT,k14⟩;replace d9:=d9.ow hT;clear e14 hT;replace hr:=hr.up d9;replace cE:=cE.up d9;refine W ?_;refine CL (Z2f ys[j].1 a b _) ?_;rintro _ _ ⟨rfl,rfl⟩;by_cases bK:a<=ys[j].1/\ys[j].1<=b;rw [decide_eq_true bK];have ai:(zs++inR a b ((ys.take j).map Prod.fst)).length<=300000:=by
  have h1:(inR a b ((ys.take j).map Prod.fst)).length<=((ys.take j).map Prod.fst).length:=XW _ _;rw [Xc];simp only [Xs,Xw] at h1;omega
 have e1:inR a b [ys[j].1]=[ys[j].1]:=by unfold inR;simp [bK]
 rw [e1] at fE;refine W ?_;refine Z0 (Z1 (vs:=[(0,.I ys[j].1)]) rfl (Zp _)) rfl ?_;rintro bv w12 hN;have iY:=Z9.stp hN;have an:SlV (ob ov') w12 bv [ys[j].1]:=hN.slv (λb hb=>(hr.1.ob_le b hb).2) rfl rfl (by simp [maxLen]);replace hr:=hr.up iY;replace cE:=cE.up iY;refine Z0 (Jy rfl (by decide) rfl rfl hr an (by simp only [Xe,Xf];omega) (by simp only [Xe,Xf,maxLen];omega)) rfl ?_;rintro ov2 w13 ⟨df,cP,qZ⟩;refine W ?_;refine QL (j+1,ov2) ⟨fy,?_,cE.ext cP (λ_ h=>h) qZ⟩ (by dsimp only;omega);dsimp only;rw [fE,<- Xx];exact df;rw [decide_eq_false bK];have e1:inR a b [ys[j].1]=[]:=by unfold inR;simp only [List.filter_cons,decide_eq_false bK,List.filter_nil];rfl
 rw [e1,XH] at fE;refine W ?_;refine QL (j+1,ov') ⟨fy,?_,cE⟩ (by dsimp only;omega);dsimp only;rw [fE];exact hr;have rc:j=ys.length:=by omega
 subst rc;rw [Xp] at hr;refine QO ?_;exact ZA (ov',zs++inR a b (ys.map Prod.fst)) ⟨rfl,rfl,rfl,rfl,rfl,rfl,rfl,trivial⟩ ⟨rfl,hr⟩;rintro ⟨ov',zs'⟩ w9 ⟨tH,hr⟩;dsimp only at tH hr ⊢;subst tH;have e1:(ofM a).y - 1+(k:Int)+1=(ofM a).y - 1+((k+1:Nat):Int):=by omega
 refine W ?_;rw [e1];refine Zw (k+1,ov',zs++inR a b (ys.map Prod.fst)) ⟨rfl,rfl,rfl,rfl,rfl,rfl,rfl,trivial⟩ ⟨by dsimp only;omega,?_,λd=>?_,hr⟩ (by dsimp only;omega);have h1:(inR a b (ys.map Prod.fst)).length<=(ys.map Prod.fst).length:=XW _ _;dsimp only;rw [Xc];simp only [Xs] at h1;omega;dsimp only;rw [Xh,hz,inR,YbF,kQ];constructor;rintro (⟨p1,p2,y,p3,p4,p5⟩|⟨p5,p6⟩);exact ⟨p1,p2,y,p3,by omega,p5⟩;have p6:=of_decide_eq_true p6;exact ⟨p6.1,p6.2,_,by omega,by omega,p5⟩;rintro ⟨p1,p2,y,p3,p4,p5⟩;by_cases hy:y<(ofM a).y - 1+(k:Int)
 exact .inl ⟨p1,p2,y,p3,hy,p5⟩;obtain rfl:y=(ofM a).y - 1+(k:Int):=by omega
 exact .inr ⟨p5,decide_eq_true ⟨p1,p2⟩⟩;refine QO ?_;refine CM (ZN rfl) (ZbN _ hr.1 (by omega)) ?_;rintro _ w8 ⟨rfl,aM,cJ⟩;refine W ?_;refine CM (ZN rfl) (Z6L _ aM (by rw [Ybd];omega)) ?_;rintro rv w9 ⟨bI,gf,bh⟩;refine W ?_;refine WR ?_;refine .mk ⟨zs,λd=>?_,bI.lower hS.size,((hS.trans hr.2).own cJ (λc hc=>.inr (Xg hS.size (hr.1.ob_le c hc).1))).own gf (λc hc=>.inr (Xg hS.size (hr.1.ob_le c hc).1))⟩;rw [hz];constructor;rintro ⟨p1,p2,y,p3,p4,p5⟩;exact ⟨p1,p2,y,p3,by omega,p5⟩;rintro ⟨p1,p2,y,p3,p4,p5⟩;exact ⟨p1,p2,y,p3,by omega,p5⟩
theorem ZdN {l:List Hol} {d:Int} (h0:0<=d) (h1:d<=3652058) {zs:List Int} (hz:∀ x,x∈zs↔d<=x/\x<=d/\∃ y,(ofM d).y - 1<=y/\y<=(ofM d).y+1/\∃ h∈l,Z2c h y=some x) :
 decide (((Z3b zs).length:Int) > 0)=Z82 l d:=by
 have hm:=(Z30 zs).2;have bK:ZK d=true:=ZL.2 ⟨h0,h1⟩;rw [Yac];unfold Z82;rw [bK,Bool.true_and,decide_eq_true_eq,YaK];constructor;intro hl;obtain ⟨x,hx⟩:=List.exists_mem_of_length_pos (l:=Z3b zs) (by omega);obtain ⟨p1,p2,y,p3,p4,h,hh,hk⟩:=(hz x).1 ((hm x).1 hx);obtain rfl:x=d:=by omega
 refine ⟨y,?_,YaK.2 ⟨h,hh,decide_eq_true hk⟩⟩;have:y=(ofM x).y - 1\/y=(ofM x).y\/y=(ofM x).y+1:=by omega
 rcases this with rfl|rfl|rfl<;>simp
 rintro ⟨y,hy,hh⟩;obtain ⟨h,hh,hk⟩:=YaK.1 hh;have eA:(ofM d).y - 1<=y/\y<=(ofM d).y+1:=by simp at hy;omega
 have:d∈Z3b zs:=(hm d).2 ((hz d).2 ⟨YaU _,YaU _,y,eA.1,eA.2,h,hh,of_decide_eq_true hk⟩);have:=List.length_pos_of_mem this;omega
theorem ZsC (v:Value) (l:List Hol) (d:Int) (w) (hs:SlV [] w v l) (hL:Z0A w) (hM:Z3h w) (ho:∀ h∈l,Z1V h) (hl:l.length<20) :
 CC 156 #[v,.I d] w λr w'=>r=.B (Z82 l d)/\Stp [] w w':=by
 refine cW2 15 Tryz.func156 ?_;refine W ?_;refine CL (Z2f d 0 3652058 _) ?_;rintro _ _ ⟨rfl,rfl⟩;by_cases hd:0<=d/\d<=3652058;rw [decide_eq_true hd];refine W ?_;refine CL (Zcj v l d d _ hs hL hM ho hl hd.1 (YaU _) hd.2 (YaU _)) ?_;rintro rv w1 ⟨zs,hz,hr⟩;have iR:=hr.slv (X:=[]) (by simp);refine RT ?_;exact ⟨by rw [ZdN hd.1 hd.2 hz],hr.2⟩;rw [decide_eq_false hd];refine W ?_;refine WR ?_;refine .mk ⟨?_,Stp.refl _ _⟩;have:ZK d=false:=by unfold ZK;exact decide_eq_false hd
 unfold Z82;rw [this];rfl
structure Z6q (w:World) (c:Cal) (hv cv zo zs hr:Value):Prop where
 hols:SlV [] w hv c.hols
 clos:SlV [] w cv c.clos
 len:Z0A w
 mov:Z3h w
 ok:Zjk c
abbrev Z6r (c:Cal) (hv cv zo zs hr:Value):Value:=.agg (Z08 c hv cv zo zs hr).toArray
theorem Z6q.up {w w':World} {c:Cal} {hv cv zo zs hr:Value} (h:Z6q w c hv cv zo zs hr) (hS:Stp [] w w'):Z6q w' c hv cv zo zs hr:=⟨h.hols.up hS,h.clos.up hS,h.len.up hS,h.mov.up hS,h.ok⟩
theorem ZmT (c:Cal) (hv cv zo zs hr:Value) {i:Nat} (hi:i<7):(Z08 c hv cv zo zs hr)[0+i * 1]?=some (.B (c.week.getD i false)):=by
 have:i=0\/i=1\/i=2\/i=3\/i=4\/i=5\/i=6:=by omega
 rcases this with rfl|rfl|rfl|rfl|rfl|rfl|rfl<;>rfl
theorem Z3V (d:Int) (w):CC 87 #[.I d] w λr w'=>r=.B (ZK d)/\w'=w:=by
 refine cW1 9 Tryz.func87 ?_;unfold ZK;by_cases h1:d>=0;by_cases h2:d<=3652058;rw [decide_eq_true ⟨h1,h2⟩];refine RT ?_;exact ⟨by simp [h2],rfl⟩;rw [decide_eq_false (λh=>h2 h.2)];refine RT ?_;exact ⟨by simp [h2],rfl⟩;rw [decide_eq_false (λh=>h1 h.1)];refine RT ?_;exact ⟨rfl,rfl⟩
theorem Zgh (d kn:Int) (bc bk:Nat) (c:Cal) (hv cv zo zs hr:Value) (w) (h:Z6q w c hv cv zo zs hr) (kc:Blk w bc 35 (Z08 c hv cv zo zs hr)) (kk:Blk w bk 3 [.I kn]) (h0:0<=d) (h1:d<=3652058) :
 CC 154 #[.I d,pQ bc,pQ bk] w λr w'=>r=.B (Zew c kn d)/\Stp [] w w':=by
 have re:(d % 7).toNat<7:=by omega
 have oV:=ZmT c hv cv zo zs hr re;have bU:=h.clos.max;have qE:=h.clos;refine cW3 40 Tryz.func154 ?_;refine W ?_;refine CM (ZN rfl) (Z3U d _ h0 (by omega)) ?_;rintro _ w ⟨rfl,rfl⟩;refine W ?_;refine Z2L (len:=7) (i:=(d % 7).toNat) rfl rfl (by omega) re rfl ?_;refine Zb7 rfl rfl kc oV rfl ?_;unfold Zew;cases hw:c.week.getD (d % 7).toNat false with
 | true=>
   refine RT ?_;exact ⟨by simp,Stp.refl _ _⟩
 | false=>
   rw [Ybw];refine W ?_;refine Z0f (σ:=Unit) (λ_=>[(0,.I d),(1,pQ bc)]) (λ_ w'=>ZbQ c.clos kn d=false/\Stp [] w w') ?_ ?_
   refine Zr (σ:=Nat) (λk=>[(0,.I d),(1,pQ bc),(2,pQ bk),(13,cv),(14,.I (c.clos.length:Int)),(15,.I (k:Int))])
    (λk w'=>k<=c.clos.length/\ZbQ (c.clos.take k) kn d=false/\Stp [] w w') (λk=>c.clos.length - k) 0 ⟨rfl,rfl,rfl,rfl,rfl,rfl,trivial⟩ ⟨Xq _,rfl,Stp.refl _ _⟩ ?_
   rintro k w1 ⟨hk,hn,hS⟩;have kk:=kk.up hS;have bZ:=h.clos.up hS;by_cases hlt:k<c.clos.length;have ht:ZbQ (c.clos.take (k+1)) kn d=(ZbQ (c.clos.take k) kn d || decide (c.clos[k].known<=kn/\c.clos[k].lo<=d/\d<=c.clos[k].hi)):=by
    unfold ZbQ;rw [Xi hlt,List.any_append];simp
   rw [hn,Ybw] at ht;refine QO ?_;refine Z0 Z2 rfl ?_;rintro _ w2 ⟨b6,rfl,eB,e6,ah⟩;refine W ?_;refine SA (us:=Z3.enc c.clos[k]) e6 ?_;rintro _ w3 ⟨hT,k6⟩;replace ah:=ah.ow hT;clear e6 hT;replace kk:=kk.up ah;replace bZ:=bZ.up ah;replace hS:=hS.trans ah;by_cases hx:c.clos[k].known<=kn/\c.clos[k].lo<=d/\d<=c.clos[k].hi;refine QO ?_;refine WR ?_;refine .mk ⟨?_,hS⟩;have:ZbQ c.clos kn d=true:=by
    unfold ZbQ;exact YaK.2 ⟨c.clos[k],Xd hlt,decide_eq_true hx⟩
   rw [this];rfl
   . rw [decide_eq_false hx] at ht
     repeat'(first|refine W1 ?_|omega|refine VG ?_ ?_<;>intro hg|refine VC ?_ ?_<;>intro hc)
     all_goals exact QL (k+1) ⟨hlt,ht,hS⟩ (by omega)
   obtain rfl:k=c.clos.length:=by omega
   rw [Xp] at hn;refine QO ?_;exact QT () ⟨hn,hS⟩;rintro _ w1 ⟨hn,hS⟩;have kc:=kc.up hS;have h:=h.up hS;rw [hn,Ybw];refine W ?_;refine CM (Zf rfl rfl) (ZsC hv c.hols d _ h.hols h.len h.mov h.ok.hols (by have:=h.ok.few;omega)) ?_;rintro _ w2 ⟨rfl,ah⟩;refine RT ?_;exact ⟨rfl,hS.trans ah⟩
def ZvY (w:World) (f:Value) (c:Cal) (hv cv zo zs hr:Value) (kn:Int):Prop:=∃ b2 b3,f=.func (.func 154) #[] #[pQ b2,pQ b3]/\Blk w b2 35 (Z08 c hv cv zo zs hr)/\Blk w b3 3 [.I kn]
theorem ZjU (kn:Int) (c:Cal) (hv cv zo zs hr:Value) (w):CC 88 #[Z6r c hv cv zo zs hr,.I kn] w λr w'=>ZvY w' r c hv cv zo zs hr kn/\Stp [] w w':=by
 refine cW2 6 Tryz.func88 ?_;refine W ?_;refine Z0 (Zo rfl) rfl ?_;rintro _ w1 ⟨b2,rfl,cu,ac,hS⟩;replace ac:Blk w1 b2 35 (Z08 c hv cv zo zs hr):=ac;refine Z0 (Zo rfl) rfl ?_;rintro _ w2 ⟨b3,rfl,d8,aL,ah⟩;replace aL:Blk w2 b3 3 [.I kn]:=aL;replace ac:=ac.up ah;refine RT ?_;exact ⟨⟨b2,b3,rfl,ac,aL⟩,hS.trans ah⟩
open Go Go.Eng Go.RowKit Go.Proofs Go.Shelf
attribute [local go_sem] Oper.semAt_some
theorem ZjV (n:Nat) (hn:2<=n) (l bd bs:Nat) (d0 st:Int) (ay:st=1\/st=-1) (oW:0<=d0) (gY:d0<=3652058) (J:Nat->World->Prop) (Jx:World->Prop)
 (vW:∀ k W,J k W->W.cell? ⟨bd,0,none⟩=some (.I (d0+st * k))/\W.cell? ⟨bs,0,none⟩=some (.I st))
 (hY : ∀ (k : Nat) W, J k W -> k <= 1000 -> ZK (d0 + st * k) = true -> YieldAt Fence.wide (n - 1) Tryz.prog l #[.I (d0 + st * k)] W λe W'=>
   (e=.returned (.B true)/\W'.cell? ⟨bd,0,none⟩=some (.I (d0+st * k))/\W'.frozen? ⟨bd,0,none⟩=false/\W'.cell? ⟨bs,0,none⟩=some (.I st)/\J (k+1) (W'.setCell ⟨bd,0,none⟩ (.I (d0+st * k+st))))\/(e=.returned (.B false)/\Jx W'))
 (W:World) (h0:J 0 W) :
 CallsIn Fence.wide n Tryz.prog 212 #[.func (.yield l) #[] #[],pQ bd,pQ bs] W λe W'=>(∃ v,e=.returned v)/\
  ((∃ k:Nat,(1000<k\/ZK (d0+st * k)=false)/\J k W')\/Jx W'):=by
 refine callsIn_of_wp Tryz.func212 rfl trivial ?_ rfl;simp only [Tryz.ntmps212,Yas,Xe,Xf,Nat.reduceAdd,Nat.reduceSub,Array.replicate_succ,Array.replicate_zero,List.push_toArray,List.append_toArray,XC,XS]
 gi_wp2
 gi_loopw [4] (λi wr=>∃ k:Nat,k<=1001/\i=.I (k:Int)/\J k wr) (λi _=>1002 - (intOf i).toNat)
 case atStart=>exact ⟨0,Xq _,rfl,h0⟩
 case round=>
  obtain ⟨k,hk,rfl,oX⟩:=hrel;obtain ⟨c1,c2⟩:=vW k _ oX;have jq:-1001<=st * (k:Int)/\st * (k:Int)<=1001:=by rcases ay with rfl|rfl<;>omega
  by_cases hlt:k<=1000
  . have cQ:(k:Int)<=1000:=by omega
    gi_wp2
    refine ⟨trivial,(λh=>by cases h),?_⟩;refine (callsIn_wide.2 (Z3V _ _)).mono ?_;rintro e w' ⟨v,rfl,rfl,rfl⟩;cases bK:ZK (d0+st * k) with
    | false=>
      gi_wp2
      go_end0
      exact ⟨⟨_,rfl⟩,.inl ⟨k,.inr bK,oX⟩⟩
    | true=>
      obtain ⟨fn,tmps,assign,body,hy,hR⟩:=hY k _ oX hlt bK
      gi_wp2
      refine ⟨(λh=>by cases h),hR.mono ?_⟩;rintro e W3 (⟨rfl,a1,a2,a3,a4⟩|⟨rfl,hx⟩);have vY:=ZL.1 bK
      gi_wp2
      exact ⟨⟨k+1,by omega,rfl,a4⟩,by simp [intOf];omega⟩
      gi_wp2
      refine bodyPost_ret (results_none rfl _ _ _) rfl ?_;exact ⟨⟨_,rfl⟩,.inr hx⟩
  have iZ:¬ (k:Int)<=1000:=by omega
  gi_wp2
  refine ⟨trivial,?_⟩
  gi_wp2
  go_end0
  exact ⟨⟨_,rfl⟩,.inl ⟨k,.inl (by omega),oX⟩⟩
theorem ZdO {g:Operand} {ps:Array Tmp} {assign body:Code} {Q:Exit->Act->World->Prop} {a:Act} {w:World} {n:Nat} (hn:3<=n) (bO:ps.size=1) {bd bs:Nat} {d0 st:Int}
 (hg:a.eval g=.func (.func 212) #[] #[pQ bd,pQ bs]) (ay:st=1\/st=-1) (oW:0<=d0) (gY:d0<=3652058) (jU:bd<w.heap.size)
 (I I':Nat->World->Prop) (Ix:World->Prop)
 (hI:∀ k W W',I k W->Below w.heap.size W W'->I k W') (hI':∀ k W W',I' k W->Below w.heap.size W W'->I' k W') (hIx:∀ W W',Ix W->Below w.heap.size W W'->Ix W')
 (hc:∀ (k:Nat) W,I k W->W.cell? ⟨bd,0,none⟩=some (.I (d0+st * k))/\W.cell? ⟨bs,0,none⟩=some (.I st))
 (hc':∀ (k:Nat) W,I' k W->W.cell? ⟨bd,0,none⟩=some (.I (d0+st * k))/\W.frozen? ⟨bd,0,none⟩=false/\W.cell? ⟨bs,0,none⟩=some (.I st))
 (hstep:∀ (k:Nat) W,I' k W->I (k+1) (W.setCell ⟨bd,0,none⟩ (.I (d0+st * k+st)))) (h0:I 0 w) (a₁:Int->Act)
 (hassign : ∀ (l : Nat) (X : Int) (W : World) (K : Act -> World -> Prop), K (a₁ X) W->
   assign.wpIn (Fence.wide.inRound l) (n - 1 - 1) Tryz.prog (Exit.then K (λ_ _ _=>False)) { tmps:=(ps.zip #[Value.int .i64 X]).foldl (λt (p,v)=>t.setIfInBounds p v) a.tmps,defers:=[] } W)
 (hbody : ∀ (l : Nat) (k : Nat) (W : World), I k W -> k <= 1000 -> ZK (d0 + st * k) = true -> body.wpIn (Fence.wide.inRound l) (n - 1 - 1) Tryz.prog
   (λe _ W'=>(∀ b,w.heap.size<=b->b<W.heap.size->W'.heap[b]?=W.heap[b]?)/\match e with|.normal=>I' k W'|.ret=>Ix W'|_=>False) (a₁ (d0+st * k)) W)
 (hdone:∀ (D k:Nat) (W:World),w.heap.size<=D->(1000<k\/ZK (d0+st * k)=false)->I k W->W.heap[D]?=some (.deferred (some []))->Q .normal { a with defers:={ target:=.collected D,args:=#[] } :: a.defers } W)
 (hstop:∀ (D:Nat) (W:World),w.heap.size<=D->Ix W->W.heap[D]?=some (.deferred (some []))->Q .ret { a with defers:={ target:=.collected D,args:=#[] } :: a.defers } W) :
 (Code.rangeFunc g ps assign body).wpIn Fence.wide n Tryz.prog Q a w:=by
 refine wpIn_rangeFunc ?_;intro fn qf;obtain ⟨rec,bq⟩:∃ rec:LoopState->Option Code->Loop,rec=λst pe=>{ state:=st,pending:=pe,fn,tmps:=a.tmps,params:=ps,assign,body,defers:=w.heap.size }:=⟨_,rfl⟩
 obtain ⟨W1,fR⟩:∃ W1,(w.alloc (.deferred (some []))).alloc (.loop (rec .ready none))=W1:=⟨_,rfl⟩
 have kW:W1.heap[w.heap.size+1]?=some (.loop (rec .ready none)):=by
  rw [<- fR];have:=World.alloc_heap_new (w.alloc (.deferred (some []))) (.loop (rec .ready none));rwa [World.size_alloc] at this
 have qN:W1.heap[w.heap.size]?=some (.deferred (some [])):=by
  rw [<- fR];exact (Below.heap_alloc _ _ _ (by simp)).trans (World.alloc_heap_new w _)
 have aX:Below w.heap.size w W1:=by
  rw [<- fR];exact ((Below.refl _ w).alloc (Xn _) _).alloc (by simp) _
 have bput:∀ (W:World) (l:Nat) (o:Obj),w.heap.size<=l->Below w.heap.size W (W.putObj l o):=λW l o hl=>
  ⟨rfl,rfl,rfl,by simp,λk hk=>World.putObj_heap_other (by omega)⟩
 refine ⟨w.heap.size+1,[{ target:=.collected w.heap.size,args:=#[] }],W1,{ target:=.fn (.func 212) #[pQ bd,pQ bs],args:=#[.func (.yield (w.heap.size+1)) #[] #[]] },W1,212,
  #[.func (.yield (w.heap.size+1)) #[] #[]]++#[pQ bd,pQ bs],W1,?_,?_,?_,?_,λh=>(by cases h),?_⟩
 rw [<- fR,bq];exact run_enterLoop_outer _ _ _ _ _;simp only [resolve,hg];simp [go_sem];intro f' tf;trivial;have eg:=enters_of Tryz.func212 (by kernel_rfl) rfl;simp [invoke,go_sem,eg]
 refine (ZjV (n - 1) (by omega) (w.heap.size+1) bd bs d0 st ay oW gY
  (λk W=>I k W/\W.heap[w.heap.size+1]?=some (.loop (rec .ready none))/\W.heap[w.heap.size]?=some (.deferred (some [])))
  (λW=>Ix W/\W.heap[w.heap.size+1]?=some (.loop (rec .done (some .ret)))/\W.heap[w.heap.size]?=some (.deferred (some [])))
  (λk W h=>hc k W h.1) ?_ W1 ⟨hI _ _ _ h0 aX,kW,qN⟩).mono ?_
 . rintro k W ⟨hi,hl,hk⟩ im bK
   have hlt:w.heap.size+1<W.heap.size:=(Xk.1 hl).1;have hy:=run_yield (P:=Tryz.prog) (args:=#[Value.int .i64 (d0+st * k)]) hl (by rw [bq];simp [bO]);rw [bq] at hy;refine ⟨fn,_,assign,body,hy,roundIn_of_wpIn qf (hassign _ _ W _ ⟨_,run_beginRound hl (by rw [bq]),?_⟩)⟩;have dR:(W.putObj (w.heap.size+1) (.loop { rec .ready none with state:=.busy })).heap[w.heap.size+1]?=some (.loop { rec .ready none with state:=.busy }):=World.putObj_heap_same hlt;have db:(W.putObj (w.heap.size+1) (.loop { rec .ready none with state:=.busy })).heap[w.heap.size]?=some (.deferred (some [])):=(World.putObj_heap_other (by omega)).trans hk;refine wpIn_mono (hbody _ k _ (hI _ _ _ hi (bput _ _ _ (by omega))) im bK) ?_
   have fin:∀ (jump:Option Code) (W3:World),(∀ b,w.heap.size<=b->b<(W.putObj (w.heap.size+1) (.loop { rec .ready none with state:=.busy })).heap.size->W3.heap[b]?=(W.putObj (w.heap.size+1) (.loop { rec .ready none with state:=.busy })).heap[b]?)->
    (Instr.endRound (w.heap.size+1) jump).run Tryz.prog W3=.ok (.B jump.isNone) (W3.putObj (w.heap.size+1) (.loop (rec (if jump.isNone then .ready else .done) jump)))/\
    (W3.putObj (w.heap.size+1) (.loop (rec (if jump.isNone then .ready else .done) jump))).heap[w.heap.size+1]?=some (.loop (rec (if jump.isNone then .ready else .done) jump))/\
    (W3.putObj (w.heap.size+1) (.loop (rec (if jump.isNone then .ready else .done) jump))).heap[w.heap.size]?=some (.deferred (some [])):=λjump W3 jN=>by
    have ii:=(jN (w.heap.size+1) (by omega) (by simp;omega)).trans dR;have nG:=(jN w.heap.size (by omega) (by simp;omega)).trans db;have:=run_endRound (P:=Tryz.prog) jump ii;rw [bq] at this ⊢;exact ⟨this,World.putObj_heap_same (Xk.1 ii).1,(World.putObj_heap_other (by omega)).trans nG⟩
   rintro e a3 W3 ⟨jN,hp⟩;cases e with
   | normal=>
     obtain ⟨hr,rg,nG⟩:=fin none W3 jN;have tJ:=hI' _ _ _ hp (bput W3 (w.heap.size+1) (.loop (rec .ready none)) (by omega));obtain ⟨p1,p2,p3⟩:=hc' _ _ tJ;refine ⟨_,_,hr,.inl ⟨rfl,p1,p2,p3,hstep _ _ tJ,?_,?_⟩⟩;exact (Below.heap_setCell _ ⟨bd,0,none⟩ _ _ (by show w.heap.size+1≠bd;omega)).trans rg;exact (Below.heap_setCell _ ⟨bd,0,none⟩ _ _ (by show w.heap.size≠bd;omega)).trans nG
   | ret=>
     obtain ⟨hr,rg,nG⟩:=fin (some .ret) W3 jN;exact ⟨_,_,hr,.inr ⟨rfl,hIx _ _ hp (bput W3 (w.heap.size+1) _ (by omega)),rg,nG⟩⟩
   | exit id=>exact hp.elim
   | goto t=>exact hp.elim
   | panic ch=>exact hp.elim
   | outgrown=>exact hp.elim
 rintro e W2 ⟨⟨v,rfl⟩,(⟨k,eE,hi,hl,hk⟩|⟨hi,hl,hk⟩)⟩;exact ⟨none,_,by have:=run_endLoop (P:=Tryz.prog) hl (by rw [bq];simp);rw [bq] at this;exact this,hdone _ k _ (Xn _) eE (hI _ _ _ hi (bput _ _ _ (by omega))) ((World.putObj_heap_other (by omega)).trans hk)⟩;refine ⟨some .ret,_,by have:=run_endLoop (P:=Tryz.prog) hl (by rw [bq];simp);rw [bq] at this;exact this,?_⟩;exact wpIn_ret (hstop _ _ (Xn _) (hIx _ _ hi (bput _ _ _ (by omega))) ((World.putObj_heap_other (by omega)).trans hk))
theorem ZjW (d st:Int) (w):CC 152 #[.I d,.I st] w λr w'=>∃ b2 b3,r=.func (.func 212) #[] #[pQ b2,pQ b3]/\w.heap.size<=b2/\b2<b3/\Blk w' b2 3 [.I d]/\Blk w' b3 3 [.I st]/\Stp [] w w':=by
 refine cW2 6 Tryz.func152 ?_;refine W ?_;refine Z0 (Zo rfl) rfl ?_;rintro _ w1 ⟨b2,rfl,cu,k2,hS⟩;replace k2:Blk w1 b2 3 [.I d]:=k2;refine Z0 (Zo rfl) rfl ?_;rintro _ w2 ⟨b3,rfl,d8,k3,ah⟩;replace k3:Blk w2 b3 3 [.I st]:=k3;have:=k2.lt;replace k2:=k2.up ah;refine RT ?_;exact ⟨b2,b3,rfl,cu,by omega,k2,k3,hS.trans ah⟩
theorem Z6T {P:Program} {t b:Nat} {D:TypeDesc} {u:Value} {w:World} [hu:Und P t D] (hA:Z0C D=false) (hc:w.cell? ⟨b,0,none⟩=some u):(loadVar t ⟨b,0,none⟩).run P w=.ok u w:=by
 simp [loadVar,Und.isAgg,hA,hc]
theorem ZaM (b:Nat) (v:Value) (w):Stp [b] w (w.setCell ⟨b,0,none⟩ v):=⟨rfl,rfl,rfl,(KeepsOthers.setCell w ⟨b,0,none⟩ v).size,λk hk hn=>Below.heap_setCell w ⟨b,0,none⟩ v k (λe=>hn (by simp [e]))⟩
theorem Z5I (opn:Int->Bool) (st:Int):∀ (m:Nat) (d:Int) (k:Nat),(∀ j:Nat,j<k->opn (d+st * j)=false)->(m<=k\/ZK (d+st * k)=false)->Z3L opn st m d=(0,31)
 | 0,d,k,_,_=>rfl
 | m + 1, d, k, h, hk => by
   unfold Z3L;cases hd:ZK d with
   | false=>rfl
   | true=>
     rw [if_pos rfl];cases k with
     | zero=>
       rcases hk with hk|hk
       omega;rw [show d+st * ((0:Nat):Int)=d by simp,hd] at hk;cases hk
     | succ k=>
       have h0:=h 0 (by omega);rw [show d+st * ((0:Nat):Int)=d by simp] at h0;rw [if_neg (by rw [h0];simp)];have es:∀ j:Nat,d+st+st * (j:Int)=d+st * ((j+1:Nat):Int):=λj=>by
        rw [Ybl,Int.mul_add];simp;omega
       exact Z5I opn st m (d+st) k (λj hj=>by rw [es];exact h (j+1) (by omega)) (hk.imp (λh=>by omega) (λh=>by rw [es];exact h))
theorem Z8k (opn:Int->Bool) (st:Int):∀ (m:Nat) (d:Int) (k:Nat),k<m->(∀ j:Nat,j<=k->ZK (d+st * j)=true)->(∀ j:Nat,j<k->opn (d+st * j)=false)->opn (d+st * k)=true->Z3L opn st m d=(d+st * k,0)
 | 0,d,k,h,_,_,_=>absurd h (Xt _)
 | m + 1, d, k, gH, hi, h, ho => by
   have hd:=hi 0 (Xq _);rw [show d+st * ((0:Nat):Int)=d by simp] at hd;unfold Z3L;rw [hd,if_pos rfl];cases k with
   | zero=>
     rw [show d+st * ((0:Nat):Int)=d by simp] at ho ⊢;rw [if_pos ho]
   | succ k=>
     have h0:=h 0 (by omega);rw [show d+st * ((0:Nat):Int)=d by simp] at h0;rw [if_neg (by rw [h0];simp)];have es:∀ j:Nat,d+st+st * (j:Int)=d+st * ((j+1:Nat):Int):=λj=>by
      rw [Ybl,Int.mul_add];simp;omega
     rw [<- es];exact Z8k opn st m (d+st) k (by omega) (λj hj=>by rw [es];exact hi (j+1) (by omega)) (λj hj=>by rw [es];exact h (j+1) (by omega)) (by rw [es];exact ho)
theorem ZeQ {W:World} {b8 b9:Nat} {u v:Value} (c8:W.cell? ⟨b8,0,none⟩=some u) (c9:W.cell? ⟨b9,0,none⟩=some v) (n:b8≠b9) (x y:Value) :
 ((W.setCell ⟨b8,0,none⟩ x).setCell ⟨b9,0,none⟩ y).cell? ⟨b8,0,none⟩=some x/\((W.setCell ⟨b8,0,none⟩ x).setCell ⟨b9,0,none⟩ y).cell? ⟨b9,0,none⟩=some y:=by
 have h1:(W.setCell ⟨b8,0,none⟩ x).cell? ⟨b8,0,none⟩=some x:=World.cell?_setCell_same _ _ _ c8;have h2:(W.setCell ⟨b8,0,none⟩ x).cell? ⟨b9,0,none⟩=some v:=(World.cell?_setCell_other _ _ _ _ (λh=>n (by injection h))).trans c9;exact ⟨(World.cell?_setCell_other _ _ _ _ (λh=>n (by injection h with h;exact h.symm))).trans h1,World.cell?_setCell_same _ _ _ h2⟩
theorem Z5J (b8 b9:Nat) (x y:Value) (w):Stp [b8,b9] w ((w.setCell ⟨b8,0,none⟩ x).setCell ⟨b9,0,none⟩ y):=((ZaM b8 x w).mono (S':=[b8,b9]) (by simp)).trans ((ZaM b9 y _).mn)
theorem ZdP {tmps:Array Value} {W:World} {b8 b9:Nat} {x y:Value} (h8:tmps.getD 8 undef=pQ b8) (h9:tmps.getD 9 undef=pQ b9) (c8:W.cell? ⟨b8,0,none⟩=some x) (c9:W.cell? ⟨b9,0,none⟩=some y) :
 (results Tryz.f84 tmps).run Tryz.prog W=.ok (.tuple #[x,y]) W:=by
 rw [Xz] at h8 h9;have l8:=Z6T (P:=Tryz.prog) (t:=3) (hu:=(inferInstance:Und Tryz.prog 3 (.int .i64))) rfl c8;have l9:=Z6T (P:=Tryz.prog) (t:=92) (hu:=(inferInstance:Und Tryz.prog 92 (.int .i64))) rfl c9;simp [results,h8,h9,asAddr,l8,l9]
theorem ZjX (d kn st:Int) (ay:st=1\/st=-1) (c:Cal) (hv cv zo zs hr:Value) (w) (h:Z6q w c hv cv zo zs hr) :
 CallsIn Fence.wide 5 Tryz.prog 84 #[Z6r c hv cv zo zs hr,.I d,.I kn,.I st] w λe W'=>e=.returned (.tuple #[.I (Jo (Zu c kn) st d).1,.I (Jo (Zu c kn) st d).2])/\Stp [] w W':=by
 refine callsIn_of_wp_marks Tryz.func84 rfl trivial ?_ rfl;simp only [Tryz.ntmps84,Yas,Xe,Xf,Nat.reduceAdd,Nat.reduceSub,Array.replicate_succ,Array.replicate_zero,List.push_toArray,List.append_toArray,XC,XS]
 gi_wp2
 obtain ⟨W1,fR⟩:∃ W1,W1=((w.alloc (.cells (Z08 c hv cv zo zs hr).toArray 35)).alloc (.cells #[.I 0] 3)).alloc (.cells #[.I 0] 92):=⟨_,rfl⟩
 rw [<- fR];have kc:Blk W1 w.heap.size 35 (Z08 c hv cv zo zs hr):=by
  rw [fR];exact (Blk.up (World.alloc_heap_new w _) (Stp.alloc _ _ _)).up (Stp.alloc _ _ _)
 have k8:Blk W1 (w.heap.size+1) 3 [.I 0]:=by
  rw [fR];have:=World.alloc_heap_new (w.alloc (.cells (Z08 c hv cv zo zs hr).toArray 35)) (.cells #[.I 0] 3);rw [World.size_alloc] at this;exact Blk.up this (Stp.alloc _ _ _)
 have k9:Blk W1 (w.heap.size+1+1) 92 [.I 0]:=by
  rw [fR];have:=World.alloc_heap_new ((w.alloc (.cells (Z08 c hv cv zo zs hr).toArray 35)).alloc (.cells #[.I 0] 3)) (.cells #[.I 0] 92);rw [World.size_alloc,World.size_alloc] at this;exact this
 have ae:Stp [] w W1:=by
  rw [fR];exact ((Stp.alloc _ _ _).trans (Stp.alloc _ _ _)).trans (Stp.alloc _ _ _)
 have ym:w.heap.size<=w.heap.size+1:=by omega
 have yn:w.heap.size<=w.heap.size+1+1:=by omega
 generalize iS:w.heap.size+1+1=b9 at *;generalize fk:w.heap.size+1=b8 at *;generalize bD:w.heap.size=b4 at *;clear fR;have n89:b8≠b9:=by omega
 have c8:=Boxed.cell (show Boxed W1 b8 3 (.I 0) from k8);have f8:=Boxed.frozen (show Boxed W1 b8 3 (.I 0) from k8);have c9:=Boxed.cell (show Boxed W1 b9 92 (.I 0) from k9);have f9:=Boxed.frozen (show Boxed W1 b9 92 (.I 0) from k9);refine ⟨trivial,?_⟩;refine (callsIn_wide.2 (Z3V d W1)).mono ?_;rintro e w' ⟨v,rfl,rfl,rfl⟩;cases hd:ZK d with
 | false=>
   gi_wp2
   have gC:Jo (Zu c kn) st d=(0,5):=by unfold Jo;rw [hd];rfl
   obtain ⟨g8,g9⟩:=ZeQ c8 c9 n89 (.I 0) (.I 5);refine ⟨_,ZdP rfl rfl g8 g9,?_,?_⟩;rw [gC];exact ae.own (Z5J b8 b9 _ _ _) (λx hx=>by simp at hx;omega)
 | true=>
   have q:=λ(j:Nat) (u:Value) (hu:(Z08 c hv cv zo zs hr)[j]?=some u)=>kc.cell hu;have q0:=q 0 _ rfl;have q1:=q 1 _ rfl;have q2:=q 2 _ rfl;have q3:=q 3 _ rfl;have q4:=q 4 _ rfl;have q5:=q 5 _ rfl;have q6:=q 6 _ rfl;have q7:=q 7 _ rfl;have q8:=q 8 _ rfl;have q9:=q 9 _ rfl;have q10:=q 10 _ rfl;have q11:=q 11 _ rfl
   gi_wp2
   refine ⟨trivial,?_⟩;refine (callsIn_wide.2 (ZjU kn c hv cv zo zs hr w')).mono ?_;rintro e W2 ⟨v,rfl,⟨b2,b3,rfl,k2,k3⟩,ah⟩;have f8':=Boxed.frozen (show Boxed W2 b8 3 (.I 0) from k8.up ah);have f9':=Boxed.frozen (show Boxed W2 b9 92 (.I 0) from k9.up ah);have c8':=Boxed.cell (show Boxed W2 b8 3 (.I 0) from k8.up ah);have c9':=Boxed.cell (show Boxed W2 b9 92 (.I 0) from k9.up ah);have cN:=Boxed.cell (Boxed.new W2 178 .nilFunc);have fN:=Boxed.frozen (Boxed.new W2 178 .nilFunc);have vZ:(store ⟨W2.heap.size,0,none⟩ (.func (.func 154) #[] #[pQ b2,pQ b3])).run Tryz.prog (W2.alloc (.cells #[.nilFunc] 178))=.ok () ((W2.alloc (.cells #[.nilFunc] 178)).setCell ⟨W2.heap.size,0,none⟩ (.func (.func 154) #[] #[pQ b2,pQ b3])):=by
    rw [run_store _ _ _ _ _ rfl];simp [cN,fN]
   gi_wp2
   refine ⟨trivial,?_⟩;refine (callsIn_wide.2 (ZjW d st _)).mono ?_;rintro e W3 ⟨v,rfl,bd,bs,rfl,jU,dD,kd,ks,am⟩;have bZ:W3.cell? ⟨W2.heap.size,0,none⟩=some (.func (.func 154) #[] #[pQ b2,pQ b3]):=am.cell (by simp) (Boxed.cell (Boxed.new W2 178 _));have cH:Stp [] W2 W3:=(Stp.alloc [] W2 _).trans am
   gi_wp2
   have dx:Stp [] w' W3:=ah.trans cH;have h3:=(h.up ae).up dx;have v8:=(k2.up cH).lt;have k2':=k2.up cH;have k3':=k3.up cH;have k8':=k8.up dx;have k9':=k9.up dx;have wu:=cH.size;have yo:W2.heap.size<W3.heap.size:=by have:=block_lt_of_cell bZ;simpa using this
   have ww:W2.heap.size<bd:=by simp at jU;omega
   have k8l:=(k8.up ah).lt;have k9l:=(k9.up ah).lt;have k2l:=k2.lt;have k3l:=k3.lt;have oW:=(ZL.1 hd).1;have gY:=(ZL.1 hd).2;have wx:w.heap.size<=bd:=by have:=ae.size;have:=dx.size;have:=ah.size;omega
   have g1:3<w.heap.size:=by have:=block_lt_of_cell (h.len 0 0 rfl);simpa using this
   have g2:4<w.heap.size:=by have:=block_lt_of_cell (h.mov 0 0 rfl);simpa using this
   have wB:=h.hols.ext (X':=[bd]) (ae.trans dx) (by simp) (λb hb=>.inr (by simp at hb;omega));have wC:=h.clos.ext (X':=[bd]) (ae.trans dx) (by simp) (λb hb=>.inr (by simp at hb;omega));have yp:=(ae.trans dx).size;have cal:∀ W,Stp [bd] W3 W->Z6q W c hv cv zo zs hr:=λW hS=>⟨wB.ext (X':=[]) hS (λb hb=>hb) (by simp),wC.ext (X':=[]) hS (λb hb=>hb) (by simp),h3.len.ext hS (by simp;omega),h3.mov.ext hS (by simp;omega),h.ok⟩
   have sb:∀ {S:List Nat} {W W':World},Stp S W3 W->Below W3.heap.size W W'->Stp S W3 W':=λhS hB=>⟨hB.os.trans hS.os,hB.tape.trans hS.tape,hB.output.trans hS.output,Xg hS.size hB.size,λi hi hn=>(hB.block i hi).trans (hS.block i hi hn)⟩
   have ej:=kd.lt;have yq:=ks.lt
   refine ZdO (by omega) rfl rfl ay oW gY kd.lt
    (λk W=>Stp [bd] W3 W/\Boxed W bd 3 (.I (d+st * k))/\∀ j:Nat,j<k->Zu c kn (d+st * j)=false)
    (λk W=>(Stp [bd] W3 W/\Boxed W bd 3 (.I (d+st * k))/\∀ j:Nat,j<k->Zu c kn (d+st * j)=false)/\Zu c kn (d+st * k)=false)
    (λW=>Stp [bd,b8,b9] W3 W/\∃ k:Nat,k<=1000/\ZK (d+st * k)=true/\(∀ j:Nat,j<k->Zu c kn (d+st * j)=false)/\Zu c kn (d+st * k)=true/\W.cell? ⟨b8,0,none⟩=some (.I (d+st * k))/\W.cell? ⟨b9,0,none⟩=some (.I 0))
    ?hI ?hI' ?hIx ?hc ?hc' ?hstep ?h0 (λX=>{ tmps:=#[Z6r c hv cv zo zs hr,.I d,.I kn,.I st,pQ b4,undef,undef,undef,pQ b8,pQ b9,.pointer (some ⟨W2.heap.size,0,none⟩),.I X,.I d,.B true,.B false,Z6r c hv cv zo zs hr,.I kn,.func (.func 154) #[] #[pQ b2,pQ b3],.I d,.I st,.func (.func 212) #[] #[pQ bd,pQ bs],.I X,undef,undef,undef,undef,undef],defers:=[] }) ?hassign ?hbody ?hdone ?hstop
   case hI=>exact λk W W' ⟨a,b,e⟩ hB=>⟨sb a hB,(hB.block bd ej).trans b,e⟩
   case hI'=>exact λk W W' ⟨⟨a,b,e⟩,f⟩ hB=>⟨⟨sb a hB,(hB.block bd ej).trans b,e⟩,f⟩
   case hIx=>exact λW W' ⟨a,k,p1,p2,p3,p4,p5,p6⟩ hB=>⟨sb a hB,k,p1,p2,p3,p4,(World.cell?_of_block (hB.block b8 (by omega))).trans p5,(World.cell?_of_block (hB.block b9 (by omega))).trans p6⟩
   case hc=>exact λk W ⟨a,b,e⟩=>⟨b.cell,a.cell (by simp;omega) (ks.cell rfl)⟩
   case hc'=>exact λk W ⟨⟨a,b,e⟩,f⟩=>⟨b.cell,b.frozen,a.cell (by simp;omega) (ks.cell rfl)⟩
   case hstep=>
    rintro k W ⟨⟨a,b,e⟩,f⟩;have e1:d+st * ((k+1:Nat):Int)=d+st * k+st:=by rcases ay with rfl|rfl<;>omega
    refine ⟨a.trans (ZaM bd _ _),by rw [e1];exact b.set _,λj hj=>?_⟩;by_cases ib:j=k;subst ib;exact f;exact e j (by omega)
   case h0=>exact ⟨Stp.refl _ _,by rw [show d+st * ((0:Nat):Int)=d by simp];exact kd,λj hj=>absurd hj (Xt _)⟩
   case hassign=>
    intro l X W K hK
    gi_wp2
    exact hK
   case hbody=>
    rintro l k W ⟨a,bx,e⟩ im bK;have wD:=a.cell (b:=W2.heap.size) (o:=0) (by simp;omega) bZ;obtain ⟨x0,x1⟩:=ZL.1 bK
    gi_wp2
    refine ⟨trivial,(CallsIn.inRound l (callsIn_wide.2 (Zgh (d+st * k) kn b2 b3 c hv cv zo zs hr W (cal W a) (k2'.ext a (by simp;omega)) (k3'.ext a (by simp;omega)) x0 x1))).mono ?_⟩;rintro e5 W5 ⟨v,rfl,rfl,aD⟩;have a5:=a.trans aD.mn;cases dH:Zew c kn (d+st * k) with
    | true=>
      gi_wp2
      exact ⟨λb h1 h2=>aD.block b h2 (by simp),⟨Blk.up (show Blk W bd 3 [.I (d+st * k)] from bx) aD,e⟩,by unfold Zu;rw [bK,dH];rfl⟩
    | false=>
      have f8:=Boxed.frozen (show Boxed W5 b8 3 (.I 0) from k8'.ext a5 (by simp;omega));have f9:=Boxed.frozen (show Boxed W5 b9 92 (.I 0) from k9'.ext a5 (by simp;omega));have c8:=Boxed.cell (show Boxed W5 b8 3 (.I 0) from k8'.ext a5 (by simp;omega));have c9:=Boxed.cell (show Boxed W5 b9 92 (.I 0) from k9'.ext a5 (by simp;omega))
      gi_wp2
      exact ⟨λb h1 h2=>((Z5J b8 b9 _ _ W5).block b (Xa h2 aD.size) (by simp;omega)).trans (aD.block b h2 (by simp)),a5.mn.trans ((Z5J b8 b9 _ _ W5).mn),k,im,bK,e,by unfold Zu;rw [bK,dH];rfl,rfl⟩
   case hdone=>
    rintro D k W hD eE ⟨a,bx,e⟩ fT;have f8:=Boxed.frozen (show Boxed W b8 3 (.I 0) from k8'.ext a (by simp;omega));have f9:=Boxed.frozen (show Boxed W b9 92 (.I 0) from k9'.ext a (by simp;omega));have c8:=Boxed.cell (show Boxed W b8 3 (.I 0) from k8'.ext a (by simp;omega));have c9:=Boxed.cell (show Boxed W b9 92 (.I 0) from k9'.ext a (by simp;omega))
    gi_wp2
    obtain ⟨y8,y9⟩:=ZeQ c8 c9 n89 (.I 0) (.I 31);have wF:D<W.heap.size:=(Xk.1 fT).1;have nH:=((Z5J b8 b9 (.I 0) (.I 31) W).block D wF (by simp;omega)).trans fT;have gC:Jo (Zu c kn) st d=(0,31):=by
     unfold Jo;rw [hd,if_pos rfl];exact Z5I _ _ _ _ k e (eE.imp (λh=>by omega) id)
    refine ⟨by simp,.inl ⟨_,_,rfl,run_takeDeferred nH,_,ZdP rfl rfl ((World.cell?_of_block (World.putObj_heap_other (by show b8≠D;omega))).trans y8) ((World.cell?_of_block (World.putObj_heap_other (by show b9≠D;omega))).trans y9),?_,?_⟩⟩;rw [gC];have t1:=((ae.trans dx).ow a).own (Z5J b8 b9 (.I 0) (.I 31) W) (λx hx=>.inr (by simp at hx;omega));refine ⟨t1.os,t1.tape,t1.output,by simpa using t1.size,λq hq hn=>(World.putObj_heap_other (by omega)).trans (t1.block q hq hn)⟩
   case hstop=>
    rintro D W hD ⟨a,k,p1,p2,p3,p4,p5,p6⟩ fT
    gi_wp2
    obtain ⟨x0,x1⟩:=ZL.1 p2;have gC:Jo (Zu c kn) st d=(d+st * k,0):=by
     unfold Jo;rw [hd,if_pos rfl];refine Z8k _ _ _ _ k (by omega) (λj hj=>ZL.2 ?_) p3 p4;rcases ay with rfl|rfl<;>omega
    refine ⟨by simp,.inl ⟨_,_,rfl,run_takeDeferred fT,_,ZdP rfl rfl ((World.cell?_of_block (World.putObj_heap_other (by show b8≠D;omega))).trans p5) ((World.cell?_of_block (World.putObj_heap_other (by show b9≠D;omega))).trans p6),?_,?_⟩⟩;rw [gC];have t1:=(ae.trans dx).ow a;exact ⟨t1.os,t1.tape,t1.output,by simpa using t1.size,λq hq hn=>(World.putObj_heap_other (by omega)).trans (t1.block q hq hn)⟩
theorem Z36 (d kn st:Int) (c:Cal) (hv cv zo zs hr:Value) (w) (h:Z6q w c hv cv zo zs hr) (ay:st=1\/st=-1) :
 CC 84 #[Z6r c hv cv zo zs hr,.I d,.I kn,.I st] w λr w'=>r=.tuple #[.I (Jo (Zu c kn) st d).1,.I (Jo (Zu c kn) st d).2]/\Stp [] w w':=by
 refine Calls.mono (callsIn_wide.1 (ZjX d kn st ay c hv cv zo zs hr w h)) ?_;rintro e W' ⟨rfl,hS⟩;exact .mk ⟨rfl,hS⟩
theorem Z9x (d kn:Int) (c:Cal) (hv cv zo zs hr:Value) (w) (h:Z6q w c hv cv zo zs hr) :
 CC 52 #[Z6r c hv cv zo zs hr,.I d,.I kn] w λr w'=>r=.tuple #[.I (Jo (Zu c kn) (1) d).1,.I (Jo (Zu c kn) (1) d).2]/\Stp [] w w':=by
 refine cW3 14 Tryz.func52 ?_;refine W ?_;refine Z0 (Zo rfl) rfl ?_;rintro _ w1 ⟨b3,rfl,d8,ac,hS⟩;replace ac:Blk w1 b3 35 (Z08 c hv cv zo zs hr):=ac;replace h:=h.up hS;refine W ?_;refine CM (Z72 rfl rfl rfl rfl) (Z36 d kn (1) c hv cv zo zs hr _ h (by omega)) ?_;rintro _ w2 ⟨rfl,ah⟩;refine RT ?_;exact ⟨rfl,hS.trans ah⟩
theorem Z8Q (d kn:Int) (c:Cal) (hv cv zo zs hr:Value) (w) (h:Z6q w c hv cv zo zs hr) :
 CC 210 #[Z6r c hv cv zo zs hr,.I d,.I kn] w λr w'=>r=.tuple #[.I (Jo (Zu c kn) (-1) d).1,.I (Jo (Zu c kn) (-1) d).2]/\Stp [] w w':=by
 refine cW3 14 Tryz.func210 ?_;refine W ?_;refine Z0 (Zo rfl) rfl ?_;rintro _ w1 ⟨b3,rfl,d8,ac,hS⟩;replace ac:Blk w1 b3 35 (Z08 c hv cv zo zs hr):=ac;replace h:=h.up hS;refine W ?_;refine CM (Z72 rfl rfl rfl rfl) (Z36 d kn (-1) c hv cv zo zs hr _ h (by omega)) ?_;rintro _ w2 ⟨rfl,ah⟩;refine RT ?_;exact ⟨rfl,hS.trans ah⟩
theorem ZmU (d n kn:Int) (c:Cal) (hv cv zo zs hr:Value) (w) (h:Z6q w c hv cv zo zs hr) :
 CC 209 #[Z6r c hv cv zo zs hr,.I d,.I n,.I kn] w λr w'=>r=.tuple #[.I (Z6e (Zu c kn) d n).1,.I (Z6e (Zu c kn) d n).2]/\Stp [] w w':=by
 refine cW4 46 Tryz.func209 ?_;refine W ?_;refine Z0 (Zo rfl) rfl ?_;rintro _ w1 ⟨b4,rfl,bD,ac,hS⟩;replace ac:Blk w1 b4 35 (Z08 c hv cv zo zs hr):=ac;replace h:=h.up hS;refine W ?_;refine CL (Z3V d _) ?_;rintro _ w1 ⟨rfl,rfl⟩;unfold Z6e;cases hd:ZK d with
 | false=>
   rw [if_neg (by simp)];refine RT ?_;exact ⟨rfl,hS⟩
 | true=>
   rw [if_pos rfl];by_cases hn:n < -1000\/1000<n
   . rw [if_pos hn]
     repeat'(first|refine W1 ?_|omega|refine VG ?_ ?_<;>intro hg|refine VC ?_ ?_<;>intro hc)
     all_goals refine WR ?_
     all_goals exact .mk ⟨rfl,hS⟩
   rw [if_neg hn];by_cases gE:n<0;have qI:(n.natAbs:Int)=(-n):=by omega
   have ri:(if n<0 then (-1:Int) else 1)=-1:=by split<;>omega
   rw [ri];refine QO ?_
   refine Zr (σ:=Nat×Int) (λq=>[(1,.I q.2),(3,.I kn),(4,pQ b4),(10,.I (-1)),(28,.I (-n)),(29,.I (q.1:Int))])
    (λq w'=>q.1<=n.natAbs/\ZK q.2=true/\Z6d (Zu c kn) (-1) (n.natAbs - q.1) q.2=Z6d (Zu c kn) (-1) n.natAbs d/\Stp [] w1 w') (λq=>n.natAbs - q.1) (0,d) ⟨rfl,rfl,rfl,rfl,rfl,rfl,trivial⟩ ⟨Xq _,hd,rfl,Stp.refl _ _⟩ ?_
   rintro ⟨k,q⟩ w2 ⟨hk,hq,ft,ah⟩;dsimp only at hk hq ft ⊢;have aQ:=ac.up ah;have h2:=h.up ah;have wG:=ZL.1 hq;by_cases hlt:k<n.natAbs;have e1:n.natAbs - k=(n.natAbs - (k+1))+1:=by omega
   rw [e1,Z6d] at ft;refine QO ?_;refine CM (Z72 rfl rfl rfl rfl) (Z36 (q+(-1)) kn (-1) c hv cv zo zs hr _ h2 (by omega)) ?_;rintro _ w3 ⟨rfl,am⟩;by_cases he:(Jo (Zu c kn) (-1) (q+(-1))).2=0;rw [if_pos he] at ft;rw [he];refine W ?_;exact Zw (k+1,(Jo (Zu c kn) (-1) (q+(-1))).1) ⟨rfl,rfl,rfl,rfl,rfl,rfl,trivial⟩ ⟨by dsimp only;omega,(Z3O he).1,ft,ah.trans am⟩ (by dsimp only;omega);rw [if_neg he] at ft;refine QO ?_;refine WR ?_;rw [<- ft];exact .mk ⟨rfl,(hS.trans ah).trans am⟩;have e1:n.natAbs - k=0:=by omega
   rw [e1,Z6d] at ft;refine QO ?_;refine WR ?_;rw [<- ft];exact .mk ⟨rfl,hS.trans ah⟩;have qI:(n.natAbs:Int)=n:=by omega
   have ri:(if n<0 then (-1:Int) else 1)=1:=by split<;>omega
   rw [ri];refine QO ?_
   refine Zr (σ:=Nat×Int) (λq=>[(1,.I q.2),(3,.I kn),(4,pQ b4),(10,.I (1)),(28,.I n),(29,.I (q.1:Int))])
    (λq w'=>q.1<=n.natAbs/\ZK q.2=true/\Z6d (Zu c kn) (1) (n.natAbs - q.1) q.2=Z6d (Zu c kn) (1) n.natAbs d/\Stp [] w1 w') (λq=>n.natAbs - q.1) (0,d) ⟨rfl,rfl,rfl,rfl,rfl,rfl,trivial⟩ ⟨Xq _,hd,rfl,Stp.refl _ _⟩ ?_
   rintro ⟨k,q⟩ w2 ⟨hk,hq,ft,ah⟩;dsimp only at hk hq ft ⊢;have aQ:=ac.up ah;have h2:=h.up ah;have wG:=ZL.1 hq;by_cases hlt:k<n.natAbs;have e1:n.natAbs - k=(n.natAbs - (k+1))+1:=by omega
   rw [e1,Z6d] at ft;refine QO ?_;refine CM (Z72 rfl rfl rfl rfl) (Z36 (q+(1)) kn (1) c hv cv zo zs hr _ h2 (by omega)) ?_;rintro _ w3 ⟨rfl,am⟩;by_cases he:(Jo (Zu c kn) (1) (q+(1))).2=0;rw [if_pos he] at ft;rw [he];refine W ?_;exact Zw (k+1,(Jo (Zu c kn) (1) (q+(1))).1) ⟨rfl,rfl,rfl,rfl,rfl,rfl,trivial⟩ ⟨by dsimp only;omega,(Z3O he).1,ft,ah.trans am⟩ (by dsimp only;omega);rw [if_neg he] at ft;refine QO ?_;refine WR ?_;rw [<- ft];exact .mk ⟨rfl,(hS.trans ah).trans am⟩;have e1:n.natAbs - k=0:=by omega
   rw [e1,Z6d] at ft;refine QO ?_;refine WR ?_;rw [<- ft];exact .mk ⟨rfl,hS.trans ah⟩
theorem Z8R (d n:Int) (w) (hL:Z0A w) (h0:0<=d) (h1:d<=3652058) :
 CC 208 #[.I d,.I n] w λr w'=>r=.tuple #[.I (ZbR d n).1,.I (ZbR d n).2]/\Stp [] w w':=by
 obtain ⟨y1,y2,m1,m2,d1,d2,gG⟩:=Zai h0 h1;have bK:ZK d=true:=ZL.2 ⟨h0,h1⟩;have g1:3<w.heap.size:=by have:=block_lt_of_cell (hL 0 0 rfl);simpa using this
 unfold ZbR;refine cW2 56 Tryz.func208 ?_;by_cases hn:n < -200000\/200000<n
 . rw [if_pos hn]
   repeat'(first|refine W1 ?_|omega|refine VG ?_ ?_<;>intro hg|refine VC ?_ ?_<;>intro hc)
   all_goals refine WR ?_
   all_goals exact .mk ⟨rfl,Stp.refl _ _⟩
 rw [if_neg hn,if_pos bK];refine QO ?_;refine CL (Zao d _ h0 h1) ?_;rintro _ w1 ⟨rfl,hS⟩;replace hL:=hL.up hS;refine W ?_;refine Z0 Z2 rfl ?_;rintro _ w2 ⟨b6,rfl,eB,e6,ah⟩;refine W ?_;refine SB (us:=[.I (ofM d).y,.I (ofM d).m,.I (ofM d).d]) (by intro u hu;simp at hu;rcases hu with rfl|rfl|rfl<;>rfl) e6 ?_;rintro _ w3 ⟨hT,k6⟩;have kM:w.heap.size<=b6:=by have:=hS.size;omega
 replace hS:=hS.trans (ah.ow hT);replace hL:=hL.up (ah.ow hT);clear e6 hT ah;generalize hM:12 * (ofM d).y+(ofM d).m - 1+n=M;by_cases hr:M<12\/120000<=M
 . rw [if_pos hr]
   refine W ?_;rw [hM];repeat'(first|refine W1 ?_|omega|refine VG ?_ ?_<;>intro hg|refine VC ?_ ?_<;>intro hc)
   all_goals refine WR ?_
   all_goals exact .mk ⟨rfl,hS⟩
 rw [if_neg hr];have fe:=Z2T (M / 12) (M % 12+1);have cB:=Z2b (y:=M / 12) (k:=(M % 12).toNat) (by omega);rw [show (((M % 12).toNat:Int))=M % 12 by omega] at cB;refine W ?_;rw [hM];refine QO ?_;refine S1 (u:=.I (M / 12)) k6 ?_;rintro _ w4 ⟨aJ,k6⟩;refine W ?_;refine S1 (u:=.I (M % 12+1)) k6 ?_;rintro _ w5 ⟨aD,k6⟩;replace hL:=(hL.ext aJ (by simp;omega)).ext aD (by simp;omega);replace hS:=(hS.ow aJ).ow aD;clear aJ aD;refine W ?_;refine ZDr 10 [] [9] [(0,0),(1,1),(2,0),(3,1),(4,0),(5,1),(6,2),(7,0),(8,0),(9,2)] (λw1 ae=>?_);replace hL:=hL.up ae;replace k6:=k6.up ae;replace hS:=hS.trans ae;clear ae;refine D ?_;refine Za rfl trivial (Z4 rfl (Zf rfl rfl) (Z2Y (M / 12) (M % 12+1) _ hL (by omega) (by omega))) (λ_ _ h=>by rw [h.2];exact Stp.refl _ _) rfl ?_;rintro _ _ ⟨rfl,rfl⟩;refine D ?_;refine Jm rfl trivial (Zb (u:=.I (min (ofM d).d (ZG (M / 12) (M % 12+1)))) rfl rfl rfl rfl k6 (by simp)) rfl ?_;rintro _ w6 ⟨dh,k6⟩;replace hS:=hS.ow dh;refine D ?_;refine W ?_;refine CM (ZN rfl) (Z4Y (M / 12) (M % 12+1) (min (ofM d).d (ZG (M / 12) (M % 12+1))) _ (by omega) (by omega) (by omega) (by omega) (by omega) (by omega) (by omega)) ?_;rintro _ w7 ⟨rfl,aR⟩;refine RT ?_;exact ⟨rfl,hS.trans aR⟩
theorem ZmV (a b:Int) (w):(Instr.build 75 #[(0,.I a),(1,.I b)]).run Tryz.prog w=.ok (agg ((a,b):Spn)) w:=by kernel_rfl
theorem ZjY (d:Spn) (w):(Instr.buildSlice 27 1 #[(0,agg d)]).run Tryz.prog w=.ok (.slice (some ⟨w.heap.size,0,none⟩) 1 1) (w.alloc (.cells (Z3.enc d).toArray 75)):=by kernel_rfl
section
variable {K:MK} {w w':World} {sv pv:Value} {st:List Int} {sp:List Spn} {at_ er:Int} {dn:Bool}
theorem Mch.cal (hK:KOk K) (h:Mch K w sv pv st sp at_ er dn):Z6q w K.c K.hv K.cv K.zo K.zs K.hr:=
 ⟨(h.hols hK).ext (Stp.refl [] w) (by simp) (by simp),(h.clos hK).ext (Stp.refl [] w) (by simp) (by simp),h.len hK,h.mov hK,hK.cal⟩
theorem Mch.spans (hK:KOk K) (h:Mch K w sv pv st sp at_ er dn) {bs:Nat} (hk:K.nk=some bs) {pv':Value} {sp':List Spn} {w2:World} (hS:Stp (ob pv) w w') (hr:Row [] w' K.w0.heap.size 75 pv' sp') (ho:∀ b∈ob pv',b∈ob pv\/w.heap.size<=b)
 (ah:Stp [bs] w' w2) (hb:Blk w2 bs 27 [pv']):Mch K w2 sv pv' st sp' at_ er dn:=by
 have kN:=hK.bml;have hn:=hK.nkl bs hk;obtain ⟨h1,h2⟩:=h.nt bs hk;have kH:=λb hb=>(hr.ob_le b hb).1;have fP:=λb hb=>(h2.ob_le b hb).1;have rj:=λb hb=>(h.row.ob_le b hb).1;have rk:=λb hb=>(h.row.ob_le b hb).2;refine ⟨(h.blk.ext hS (λhx=>by have:=fP _ hx;omega)).ext ah (by have:=hn.2;simp;exact λe=>this e.symm),(h.row.keep hS (λb hb hp=>h.ap b hp hb)).keep ah (λb hb hx=>by have:=rj _ hx;simp at hb;omega),λbs' dD=>?_,(λh0=>by rw [hk] at h0;cases h0),λb hb hp=>?_,?_,λp hp=>?_⟩;have dD:bs'=bs:=by rw [hk] at dD;exact (XQ dD).symm
 subst dD;exact ⟨hb,hr.keep ah (λb hb hx=>by have:=kH _ hx;simp at hb;omega)⟩;rcases ho b hp with h3|h3
 exact h.ap b hb h3;have:=rk b hb;omega;exact (h.stp.own (S':=ob pv) hS (λb hb=>.inr (fP b hb))).trans (ah.mono (by simp [MK.own,hk]));obtain ⟨a,b,c,d⟩:=h.prot p hp;have hlt:=(Xk.1 a).1;have a2:=(hS.block p.1 hlt d).trans a;have a3:=(ah.block p.1 (Xk.1 a2).1 (λe=>b (by simp at e;rw [e];simp [MK.own,hk]))).trans a2;exact ⟨a3,b,c,λh3=>(ho _ h3).elim d (λh4=>by omega)⟩
theorem Zgi (hK:KOk K) (h:Mch K w sv pv st sp at_ er dn) {bs:Nat} (hk:K.nk=some bs) (a b:Int) (hl:sp.length<=100000) :
 CC 80 #[.I a,.I b,pQ bs] w λr w'=>r=.tuple #[]/\∃ pv',Mch K w' sv pv' st (sp++[(a,b)]) at_ er dn:=by
 obtain ⟨ac,ab⟩:=h.nt bs hk;have hn:=hK.nkl bs hk;have fP:=λb hb=>(ab.ob_le b hb).1;refine cW3 11 Tryz.func80 ?_;refine W ?_;refine Z7 (vs:=[(0,.I a),(1,.I b)]) rfl (ZmV _ _) rfl ?_;refine Z0 (Z1 (vs:=[(0,agg ((a,b):Spn))]) rfl (ZjY _)) rfl ?_;rintro bv w1 hN;have ae:=Z9.stp hN;have an:SlV (ob pv++[]) w1 bv [((a,b):Spn)]:=hN.slv (λb hb=>by simp at hb;exact (ab.ob_le b hb).2) rfl rfl (by simp [maxLen]);replace h:=h.up ae;replace ab:=ab.up ae;replace ac:=ac.up ae;refine Z0 (Zx rfl (by decide) rfl rfl ab an (by simp;omega) (by simp [maxLen];omega) (h.stp.size)) rfl ?_;rintro pv' w2 ⟨df,ah,ho⟩;have aQ:=ac.ext ah (λhx=>by have:=fP _ hx;omega);refine W ?_;have h1:=df.slv (X:=[]) (by simp);refine Z6 (Zb (u:=pv') rfl rfl h1.cells h1.one aQ (by simp)) ?_;rintro _ w3 ⟨am,aL⟩;refine RT ?_;exact ⟨rfl,pv',h.spans hK hk ah df ho am aL⟩
theorem Z7i {P:Nat} {e:Env} {d:Option Nat} {ty:TypeId} {pos:String} {af:Array Edge} {g:Option (Nat×Bool)} {x y z:Operand} {ts:Array TypeId} (hK:KOk K) (h:Mch K w sv pv st sp at_ er dn) {a b:Int} (hl:sp.length<=100000)
 (hx:ev e x=some (ZnR K.nk)) (hy:ev e y=some (.I a)) (hz:ev e z=some (.I b)) :
 OE Tryz.prog P ⟨d,.call { callee:=.value x,args:=#[y,z],argTypes:=ts },ty,pos,af,g⟩ e w (λv w'=>v=.tuple #[]/\∃ pv',Mch K w' sv pv' st (sp++[(a,b)]) at_ er dn):=by
 cases hk:K.nk with
 | none=>
   exact absurd hk hK.nks
 | some bs=>
   rw [hk] at hx;exact Z0a (f:=80) hx (Zf hy hz) rfl (Zgi hK h hk a b hl)
theorem Res.err {r:Int×Int} {st':List Int} {sp':List Spn} (h:Res K w st sp at_ r) (he:¬ r.2=0):Res K w st' sp' at_ r:=by
 obtain ⟨a,b,c,d,h1,h2⟩:=h;exact ⟨a,b,c,d,h1,λh0=>absurd h0 he⟩
theorem ZmW (hK:KOk K) {a b:Int} (h:Mch K w sv pv (st++[a,b]) sp at_ 0 false) (hl:st.length<=100000) (n:Int) (hr:ZK a=true) :
 CC 142 #[mP K,.I n] w λr w'=>r=.tuple #[]/\Res K w' st sp at_ (ZbR a b):=by
 obtain ⟨d0,d1⟩:=ZL.1 hr;refine cW2 18 Tryz.func142 ?_;refine W ?_;refine CL (JZ hK h) ?_;rintro _ w1 ⟨rfl,sv1,h1⟩;refine W ?_;refine CL (Z8R a b _ (h1.len hK) d0 d1) ?_;rintro _ w2 ⟨rfl,hS⟩;replace h1:=h1.up hS;refine W ?_;refine CL (Z0h hK h1 hl _ _) ?_;rintro _ w3 ⟨rfl,h2⟩;refine RT ?_;exact ⟨rfl,h2⟩
theorem ZvZ (hK:KOk K) {b:Int} (h:Mch K w sv pv (st++[b]) sp at_ 0 false) (hl:st.length<=100000) (gj:sp.length<=100000) (n:Int) :
 CC 144 #[mP K,.I n] w λr w'=>r=.tuple #[]/\Res K w' st (sp++[(b,(Jo (Zu K.c K.kn) 1 b).1)]) at_ (Jo (Zu K.c K.kn) (1) b):=by
 refine cW2 35 Tryz.func144 ?_;refine W ?_;refine CL (Z34 hK h) ?_;rintro _ w1 ⟨rfl,sv1,h1⟩;refine W ?_;refine ZDr 15 [] [] [(0,0),(1,0),(2,0),(3,1),(4,0),(5,0),(6,0),(7,0),(8,1),(9,2),(10,0),(11,0),(12,0),(13,0),(14,0)] (λw1 ae=>?_);replace h1:=h1.up ae;have ac:=h1.blk;unfold Z5z at ac;refine D ?_;refine WD_read rfl trivial (λw' aP=>Zl (us:=Z08 K.c K.hv K.cv K.zo K.zs K.hr) rfl rfl (ac.up aP) rfl rfl) rfl ?_;refine D ?_;refine DC (Z9x b K.kn K.c K.hv K.cv K.zo K.zs K.hr _ (h1.cal hK)) (λ_ _ h=>h.2) ?_;rintro _ w2 ⟨rfl,ah⟩;replace h1:=h1.up ah;replace ac:=ac.up ah;refine D ?_;by_cases he:(Jo (Zu K.c K.kn) (1) b).2=0;refine QO ?_;refine Z0 (Z7i hK h1 gj rfl rfl rfl) rfl ?_;rintro _ w3 ⟨rfl,pv1,h2⟩;refine W ?_;refine CL (Z0h hK h2 hl _ _) ?_;rintro _ w4 ⟨rfl,h3⟩;refine RT ?_;exact ⟨rfl,h3⟩;refine QO ?_;refine CL (Z0h hK h1 hl _ _) ?_;rintro _ w4 ⟨rfl,h3⟩;refine RT ?_;exact ⟨rfl,h3.err he⟩
theorem Zw0 (hK:KOk K) {b:Int} (h:Mch K w sv pv (st++[b]) sp at_ 0 false) (hl:st.length<=100000) (gj:sp.length<=100000) (n:Int) :
 CC 145 #[mP K,.I n] w λr w'=>r=.tuple #[]/\Res K w' st (sp++[((Jo (Zu K.c K.kn) (-1) b).1,b)]) at_ (Jo (Zu K.c K.kn) (-1) b):=by
 refine cW2 35 Tryz.func145 ?_;refine W ?_;refine CL (Z34 hK h) ?_;rintro _ w1 ⟨rfl,sv1,h1⟩;refine W ?_;refine ZDr 15 [] [] [(0,0),(1,0),(2,0),(3,1),(4,0),(5,0),(6,0),(7,0),(8,1),(9,2),(10,0),(11,0),(12,0),(13,0),(14,0)] (λw1 ae=>?_);replace h1:=h1.up ae;have ac:=h1.blk;unfold Z5z at ac;refine D ?_;refine WD_read rfl trivial (λw' aP=>Zl (us:=Z08 K.c K.hv K.cv K.zo K.zs K.hr) rfl rfl (ac.up aP) rfl rfl) rfl ?_;refine D ?_;refine DC (Z8Q b K.kn K.c K.hv K.cv K.zo K.zs K.hr _ (h1.cal hK)) (λ_ _ h=>h.2) ?_;rintro _ w2 ⟨rfl,ah⟩;replace h1:=h1.up ah;replace ac:=ac.up ah;refine D ?_;by_cases he:(Jo (Zu K.c K.kn) (-1) b).2=0;refine QO ?_;refine Z0 (Z7i hK h1 gj rfl rfl rfl) rfl ?_;rintro _ w3 ⟨rfl,pv1,h2⟩;refine W ?_;refine CL (Z0h hK h2 hl _ _) ?_;rintro _ w4 ⟨rfl,h3⟩;refine RT ?_;exact ⟨rfl,h3⟩;refine QO ?_;refine CL (Z0h hK h1 hl _ _) ?_;rintro _ w4 ⟨rfl,h3⟩;refine RT ?_;exact ⟨rfl,h3.err he⟩
theorem ZsD (hK:KOk K) {a b:Int} (h:Mch K w sv pv (st++[a,b]) sp at_ 0 false) (hl:st.length<=100000) (gj:sp.length<=100000) (n:Int) (hr:ZK a=true) :
 CC 143 #[mP K,.I n] w λr w'=>r=.tuple #[]/\Res K w' st (sp++JX 18 a b (Z6e (Zu K.c K.kn) a b).1) at_ (Z6e (Zu K.c K.kn) a b):=by
 obtain ⟨d0,d1⟩:=ZL.1 hr;refine cW2 57 Tryz.func143 ?_;refine W ?_;refine CL (JZ hK h) ?_;rintro _ w1 ⟨rfl,sv1,h1⟩;refine W ?_;refine ZDr 16 [] [] [(0,0),(1,0),(2,0),(3,1),(4,0),(5,0),(6,0),(7,0),(8,0),(9,1),(10,2),(11,0),(12,0),(13,0),(14,0),(15,0)] (λw1 ae=>?_);replace h1:=h1.up ae;have ac:=h1.blk;unfold Z5z at ac;refine D ?_;refine WD_read rfl trivial (λw' aP=>Zl (us:=Z08 K.c K.hv K.cv K.zo K.zs K.hr) rfl rfl (ac.up aP) rfl rfl) rfl ?_;refine D ?_;refine DC (ZmU a b K.kn K.c K.hv K.cv K.zo K.zs K.hr _ (h1.cal hK)) (λ_ _ h=>h.2) ?_;rintro _ w2 ⟨rfl,ah⟩;replace h1:=h1.up ah;replace ac:=ac.up ah;refine D ?_;have bB:JX 18 a b (Z6e (Zu K.c K.kn) a b).1=if 0<b then [(a+1,(Z6e (Zu K.c K.kn) a b).1)] else if b<0 then [((Z6e (Zu K.c K.kn) a b).1,a - 1)] else []:=rfl
 rw [bB];by_cases he:(Z6e (Zu K.c K.kn) a b).2=0;by_cases lP:b=0;rw [if_neg (by omega),if_neg (by omega),XH];refine QO ?_;refine CL (Z0h hK h1 hl _ _) ?_;rintro _ w4 ⟨rfl,h3⟩;refine RT ?_;exact ⟨rfl,h3⟩;by_cases aX:0<b;rw [if_pos aX];refine QO ?_;refine Z0 (Z7i hK h1 gj rfl rfl rfl) rfl ?_;rintro _ w3 ⟨rfl,pv1,h2⟩;refine W ?_;refine CL (Z0h hK h2 hl _ _) ?_;rintro _ w4 ⟨rfl,h3⟩;refine RT ?_;exact ⟨rfl,h3⟩;rw [if_neg aX,if_pos (by omega)];refine QO ?_;refine Z0 (Z7i hK h1 gj rfl rfl rfl) rfl ?_;rintro _ w3 ⟨rfl,pv1,h2⟩;refine W ?_;refine CL (Z0h hK h2 hl _ _) ?_;rintro _ w4 ⟨rfl,h3⟩;refine RT ?_;exact ⟨rfl,h3⟩;refine QO ?_;refine CL (Z0h hK h1 hl _ _) ?_;rintro _ w4 ⟨rfl,h3⟩;refine RT ?_;exact ⟨rfl,h3.err he⟩
end
structure Zck (code:List Ins) (st:List (Option Shp)) (i:Nat) (s nx:Shp):Prop where
 at_:st.getD i none=some s
 next:Je (code.getD i ⟨0,0⟩) s=some nx
 stop:(code.getD i ⟨0,0⟩).op=24->i+1=st.length/\s.length=1
 jump:(code.getD i ⟨0,0⟩).op=13\/(code.getD i ⟨0,0⟩).op=14->(i:Int)<(code.getD i ⟨0,0⟩).n/\(code.getD i ⟨0,0⟩).n<st.length/\st.getD (code.getD i ⟨0,0⟩).n.toNat none=some nx
 on:(code.getD i ⟨0,0⟩).op≠24->(code.getD i ⟨0,0⟩).op≠13->i+1<st.length/\st.getD (i+1) none=some nx
theorem Z2g {st st':List (Option Shp)} {t:Int} {nx:Shp} (h:JA st t nx=some st'):(∀ i s,st.getD i none=some s->st'.getD i none=some s)/\0<=t/\t<st.length/\st'.getD t.toNat none=some nx:=by
 unfold JA at h;split at h;rename_i hr;split at h;rename_i s0 bg;split at h;rename_i he;subst he;cases h;exact ⟨λi s h=>h,hr.1,hr.2,bg⟩;cases h;rename_i hn;cases h;refine ⟨λi s h=>?_,hr.1,hr.2,?_⟩;by_cases hi:t.toNat=i;subst hi;rw [hn] at h;cases h;have:(st.set t.toNat (some nx)).getD i none=st.getD i none:=by
  simp [List.getD,hi]
 rw [this];exact h;have:t.toNat<st.length:=by omega
 simp [List.getD,this];cases h
theorem Zck.keeps {code:List Ins} {st st':List (Option Shp)} {i:Nat} {s nx:Shp} (h:Zck code st i s nx) (hk:∀ i s,st.getD i none=some s->st'.getD i none=some s) (hl:st'.length=st.length):Zck code st' i s nx:=
 ⟨hk _ _ h.at_,h.next,λh1=>by rw [hl];exact h.stop h1,λh1=>by rw [hl];exact ⟨(h.jump h1).1,(h.jump h1).2.1,hk _ _ (h.jump h1).2.2⟩,λh1 h2=>by rw [hl];exact ⟨(h.on h1 h2).1,hk _ _ (h.on h1 h2).2⟩⟩
theorem Zgj {code:List Ins} {st st':List (Option Shp)} {i:Nat} (h:JG st i (code.getD i ⟨0,0⟩)=some st'):(∀ i s,st.getD i none=some s->st'.getD i none=some s)/\st'.length=st.length/\∃ s nx,Zck code st' i s nx:=by
 unfold JG at h;cases hs:st.getD i none with
 | none=>rw [hs] at h;cases h
 | some s=>
   rw [hs] at h;dsimp only at h;cases hn:Je (code.getD i ⟨0,0⟩) s with
   | none=>rw [hn] at h;cases h
   | some nx=>
     rw [hn] at h;dsimp only at h;by_cases cW:(code.getD i ⟨0,0⟩).op=24;rw [if_pos cW] at h;split at h;rename_i hc;cases h;exact ⟨λ_ _ h=>h,rfl,s,nx,hs,hn,λ_=>hc,λh=>by omega,λh=>absurd cW h⟩;cases h;rw [if_neg cW] at h;by_cases cT:(code.getD i ⟨0,0⟩).op=13;rw [if_pos cT] at h;split at h;rename_i hc;obtain ⟨k1,k2,k3,k4⟩:=Z2g h;have hl:=Jv h;exact ⟨k1,hl,s,nx,k1 _ _ hs,hn,λh=>absurd h cW,λ_=>⟨hc,by omega,k4⟩,λ_ h=>absurd cT h⟩;cases h;rw [if_neg cT] at h;by_cases dW:(code.getD i ⟨0,0⟩).op=14;rw [if_pos dW] at h;split at h;rename_i hc;obtain ⟨s1,r1,r2⟩:=XX.1 h;obtain ⟨k1,k2,k3,k4⟩:=Z2g r1;obtain ⟨m1,m2,m3,m4⟩:=Z2g r2;have hl:=Jv r1;have dR:=Jv r2;exact ⟨λi s h=>m1 _ _ (k1 _ _ h),by omega,s,nx,m1 _ _ (k1 _ _ hs),hn,λh=>absurd h cW,λ_=>⟨hc,by omega,m1 _ _ k4⟩,λ_ _=>⟨by omega,m4⟩⟩;cases h;rw [if_neg dW] at h;obtain ⟨k1,k2,k3,k4⟩:=Z2g h;have hl:=Jv h;exact ⟨k1,hl,s,nx,k1 _ _ hs,hn,λh=>absurd h cW,λh=>absurd h (not_or.2 ⟨cT,dW⟩),λ_ _=>⟨by omega,k4⟩⟩
theorem Zcl {code:List Ins} {st0:List (Option Shp)}:∀ (k:Nat) (st:List (Option Shp)),Z3g code k st0=some st->(∀ i s,st0.getD i none=some s->st.getD i none=some s)/\st.length=st0.length/\∀ i,i<k->∃ s nx,Zck code st i s nx
 | 0,st,h=>by cases h;exact ⟨λ_ _ h=>h,rfl,λi hi=>by omega⟩
 | k + 1, st, h => by
   obtain ⟨s1,h1,h2⟩:=XX.1 h;obtain ⟨a1,a2,a3⟩:=Zcl k s1 h1;obtain ⟨b1,b2,b3⟩:=Zgj h2;refine ⟨λi s h=>b1 _ _ (a1 _ _ h),by omega,λi hi=>?_⟩;by_cases hk:i=k;subst hk;exact b3;obtain ⟨s,nx,hg⟩:=a3 i (by omega);exact ⟨s,nx,hg.keeps b1 b2⟩
theorem Z8l {code:List Ins} {t:Int} (h:Z1t code=(t,0)):0<code.length/\code.length<=200/\∃ st:List (Option Shp),st.length=code.length/\ZbL st/\(∀ s,some s∈st->s.length<=16)/\st.getD 0 none=some []/\st.getD (code.length - 1) none=some [t]/\∀ i,i<code.length->∃ s nx,Zck code st i s nx:=by
 unfold Z1t at h;by_cases hl:code.length=0\/code.length > 200;rw [if_pos hl] at h;cases h;rw [if_neg hl] at h;cases hr:Z3g code code.length (some [] :: List.replicate (code.length - 1) none) with
 | none=>rw [hr] at h;cases h
 | some st=>
   rw [hr] at h;dsimp only at h;obtain ⟨a1,a2,a3⟩:=Zcl _ _ hr;have h0:ZbL ((some []) :: List.replicate (code.length - 1) none):=by
    intro s hs;simp at hs;subst hs;intro k hk;cases hk
   have ai:st.length=code.length:=by rw [a2];simp;omega
   have gk:∀ (k:Nat) (st:List (Option Shp)),Z3g code k (some [] :: List.replicate (code.length - 1) none)=some st->∀ s,some s∈st->s.length<=16:=by
    intro k
    induction k with
    | zero=>
      intro st h s hs;cases h;simp at hs;subst hs;simp
    | succ k ih=>
      intro st h;obtain ⟨s1,h1,h2⟩:=XX.1 h;exact Zjg (ih s1 h1) h2
   refine ⟨by omega,by omega,st,ai,(Zjd h0 _ _ hr).1,gk _ _ hr,a1 0 [] rfl,?_,a3⟩;obtain ⟨s,nx,hg⟩:=a3 (code.length - 1) (by omega);have fz:=hg.at_;rw [fz] at h ⊢;by_cases cW:(code.getD (code.length - 1) ⟨0,0⟩).op=24;have:=(hg.stop cW).2;obtain ⟨k,rfl⟩:=Ya9.1 this;simp at h;rw [h];by_cases cT:(code.getD (code.length - 1) ⟨0,0⟩).op=13;have:=hg.jump (.inl cT);omega;have:=hg.on cW cT;omega
abbrev ZjZ:List (Int×Value):=[(1,fnV 128),(2,fnV 128),(3,fnV 128),(4,fnV 129),
 (5,fnV 130),(6,fnV 131),(7,fnV 132),(8,fnV 133),
 (9,fnV 134),(10,fnV 135),(11,fnV 136),(12,fnV 137),
 (13,fnV 138),(14,fnV 139),(15,fnV 140),(16,fnV 141),
 (17,fnV 142),(18,fnV 143),(19,fnV 144),(20,fnV 145),
 (21,fnV 146),(22,fnV 147),(23,fnV 148),(24,fnV 149)]
abbrev Zw1 (z:Int):Value:=.I z
theorem Zgk (w):CC 81 #[] w λr w'=>∃ m,r=.map (some m)/\w.heap.size<=m/\JF Zw1 w' m ZjZ/\Stp [] w w':=by
 refine cW0 3 Tryz.func81 ?_;refine W ?_;refine Z0 (Z0P Zw1) rfl ?_;rintro _ w1 ⟨m,rfl,hm,au,hS⟩;refine Z6 (Zs (a:=(1:Int)) rfl rfl rfl au (by decide)) ?_;clear au;rintro _ w2 ⟨au,hT⟩;replace hS:=hS.ow hT;clear hT;refine Z6 (Zs (a:=(2:Int)) rfl rfl rfl au (by decide)) ?_;clear au;rintro _ w2 ⟨au,hT⟩;replace hS:=hS.ow hT;clear hT;refine Z6 (Zs (a:=(3:Int)) rfl rfl rfl au (by decide)) ?_;clear au;rintro _ w2 ⟨au,hT⟩;replace hS:=hS.ow hT;clear hT;refine Z6 (Zs (a:=(4:Int)) rfl rfl rfl au (by decide)) ?_;clear au;rintro _ w2 ⟨au,hT⟩;replace hS:=hS.ow hT;clear hT;refine Z6 (Zs (a:=(5:Int)) rfl rfl rfl au (by decide)) ?_;clear au;rintro _ w2 ⟨au,hT⟩;replace hS:=hS.ow hT;clear hT;refine Z6 (Zs (a:=(6:Int)) rfl rfl rfl au (by decide)) ?_;clear au;rintro _ w2 ⟨au,hT⟩;replace hS:=hS.ow hT;clear hT;refine Z6 (Zs (a:=(7:Int)) rfl rfl rfl au (by decide)) ?_;clear au;rintro _ w2 ⟨au,hT⟩;replace hS:=hS.ow hT;clear hT;refine Z6 (Zs (a:=(8:Int)) rfl rfl rfl au (by decide)) ?_;clear au;rintro _ w2 ⟨au,hT⟩;replace hS:=hS.ow hT;clear hT;refine Z6 (Zs (a:=(9:Int)) rfl rfl rfl au (by decide)) ?_;clear au;rintro _ w2 ⟨au,hT⟩;replace hS:=hS.ow hT;clear hT;refine Z6 (Zs (a:=(10:Int)) rfl rfl rfl au (by decide)) ?_;clear au;rintro _ w2 ⟨au,hT⟩;replace hS:=hS.ow hT;clear hT;refine Z6 (Zs (a:=(11:Int)) rfl rfl rfl au (by decide)) ?_;clear au;rintro _ w2 ⟨au,hT⟩;replace hS:=hS.ow hT;clear hT;refine Z6 (Zs (a:=(12:Int)) rfl rfl rfl au (by decide)) ?_;clear au;rintro _ w2 ⟨au,hT⟩;replace hS:=hS.ow hT;clear hT;refine Z6 (Zs (a:=(13:Int)) rfl rfl rfl au (by decide)) ?_;clear au;rintro _ w2 ⟨au,hT⟩;replace hS:=hS.ow hT;clear hT;refine Z6 (Zs (a:=(14:Int)) rfl rfl rfl au (by decide)) ?_;clear au;rintro _ w2 ⟨au,hT⟩;replace hS:=hS.ow hT;clear hT;refine Z6 (Zs (a:=(15:Int)) rfl rfl rfl au (by decide)) ?_;clear au;rintro _ w2 ⟨au,hT⟩;replace hS:=hS.ow hT;clear hT;refine Z6 (Zs (a:=(16:Int)) rfl rfl rfl au (by decide)) ?_;clear au;rintro _ w2 ⟨au,hT⟩;replace hS:=hS.ow hT;clear hT;refine Z6 (Zs (a:=(17:Int)) rfl rfl rfl au (by decide)) ?_;clear au;rintro _ w2 ⟨au,hT⟩;replace hS:=hS.ow hT;clear hT;refine Z6 (Zs (a:=(18:Int)) rfl rfl rfl au (by decide)) ?_;clear au;rintro _ w2 ⟨au,hT⟩;replace hS:=hS.ow hT;clear hT;refine Z6 (Zs (a:=(19:Int)) rfl rfl rfl au (by decide)) ?_;clear au;rintro _ w2 ⟨au,hT⟩;replace hS:=hS.ow hT;clear hT;refine Z6 (Zs (a:=(20:Int)) rfl rfl rfl au (by decide)) ?_;clear au;rintro _ w2 ⟨au,hT⟩;replace hS:=hS.ow hT;clear hT;refine Z6 (Zs (a:=(21:Int)) rfl rfl rfl au (by decide)) ?_;clear au;rintro _ w2 ⟨au,hT⟩;replace hS:=hS.ow hT;clear hT;refine Z6 (Zs (a:=(22:Int)) rfl rfl rfl au (by decide)) ?_;clear au;rintro _ w2 ⟨au,hT⟩;replace hS:=hS.ow hT;clear hT;refine Z6 (Zs (a:=(23:Int)) rfl rfl rfl au (by decide)) ?_;clear au;rintro _ w2 ⟨au,hT⟩;replace hS:=hS.ow hT;clear hT;refine Z6 (Zs (a:=(24:Int)) rfl rfl rfl au (by decide)) ?_;clear au;rintro _ w2 ⟨au,hT⟩;replace hS:=hS.ow hT;clear hT;refine RT ?_;exact ⟨m,rfl,hm,au,hS⟩
theorem ZdQ {x:Ins} {s nx:Shp} {st:List Int} (hn:Je x s=some nx) (hs:Z0e s st):(Zz x).2.2.2=true/\∃ st0 vs ts,st=st0++vs/\(ts=(Zz x).1\/(Zz x).2.1≠[]/\ts=(Zz x).2.1)/\Z0e ts vs:=by
 unfold Je at hn;dsimp only at hn;split at hn;rename_i hc;obtain ⟨c1,c2,c3,c4⟩:=hc;exact ⟨c1,st.take (s.length - (Zz x).1.length),st.drop (s.length - (Zz x).1.length),_,(XI _ _).symm,c3,hs.drop _⟩;cases hn
def Z0c (K:MK) (w:World) (x:Ins) (st:List Int) (sp:List Spn) (sv pv:Value) (at_:Int):Prop:=
 if x.op=24 then Mch K w sv pv st sp at_ 0 true
 else if x.op=13 then Mch K w sv pv st sp x.n 0 false
 else if x.op=14 then ∃ sv',Mch K w sv' pv st.dropLast sp (if Z01 st 0=0 then x.n else at_) 0 false
 else Res K w (st.take (st.length - arM x.op)) (sp++JX x.op (Z01 st 1) (Z01 st 0) (Z07 (Zu K.c K.kn) K.ev x (Z01 st 1) (Z01 st 0)).1) at_ (Z07 (Zu K.c K.kn) K.ev x (Z01 st 1) (Z01 st 0))
theorem Z5K {t v:Int} (h:vOk t v):-2147483647<=v/\v<=2147483647:=by unfold vOk at h;omega
theorem ZwQ {t u a b:Int} (ha:vOk t a) (hb:vOk u b):I64 (a * b):=by
 have h1:=Z5K ha;have h2:=Z5K hb;have h3:(a * b).natAbs<=2147483647 * 2147483647:=by rw [Int.natAbs_mul];exact Ybb (by omega) (by omega)
 unfold I64;omega
section
variable {K:MK} {w w':World} {sv pv:Value} {st:List Int} {sp:List Spn} {at_ er:Int} {dn:Bool}
theorem ZmX {P:Nat} {e:Env} {d:Option Nat} {ty:TypeId} {pos:String} {af:Array Edge} {g:Option (Nat×Bool)} {y1 y2 y3:Operand} {ts:Array TypeId} (hK:KOk K) {x:Ins} {s nx:Shp}
 (h:Mch K w sv pv st sp at_ 0 false) (hn:Je x s=some nx) (hs:Z0e s st) (hl:st.length<=100000) (gj:sp.length<=100000)
 (hx:ev e y1=some (Z3p ZjZ x.op .nilFunc)) (hy:ev e y2=some (mP K)) (hz:ev e y3=some (.I x.n)) :
 OE Tryz.prog P ⟨d,.call { callee:=.value y1,args:=#[y2,y3],argTypes:=ts },ty,pos,af,g⟩ e w (λv w'=>v=.tuple #[]/\Z0c K w' x st sp sv pv at_):=by
 obtain ⟨jV,st0,vs,ts',rfl,ce,dE⟩:=ZdQ hn hs;have hr:=Z83 jV;obtain ⟨op,n⟩:=x;dsimp only at *;have cB:st0.length<=100000:=by rw [Xc] at hl;omega
 have fD:op=1\/op=2\/op=3\/op=4\/op=5\/op=6\/op=7\/op=8\/op=9\/op=10\/op=11\/op=12\/op=13\/op=14\/op=15\/op=16\/op=17\/op=18\/op=19\/op=20\/op=21\/op=22\/op=23\/op=24:=by omega
 rcases fD with rfl|rfl|rfl|rfl|rfl|rfl|rfl|rfl|rfl|rfl|rfl|rfl|rfl|rfl|rfl|rfl|rfl|rfl|rfl|rfl|rfl|rfl|rfl|rfl
 all_goals (simp [Zz] at jV ce)
 all_goals (try subst ce)
 case inl|inr.inl|inr.inr.inl=>
  refine (Z4 (f:=128) hx (Zf hy hz) (Zsw hK h hl n)).mono ?_;rintro v w' ⟨rfl,az⟩;refine ⟨rfl,?_⟩;unfold Z0c;have et:List.take (st0.length+vs.length) (st0++vs)=st0++vs:=XJ (by simp);simpa [arM,JX,Z07,et] using az
 case inr.inr.inr.inl=>
  refine (Z4 (f:=129) hx (Zf hy hz) (Zsz hK h hl n (by omega) (by omega))).mono ?_;rintro v w' ⟨rfl,az⟩;refine ⟨rfl,?_⟩;unfold Z0c;have et:List.take (st0.length+vs.length) (st0++vs)=st0++vs:=XJ (by simp);simpa [arM,JX,Z07,et] using az
 case inr.inr.inr.inr.inl=>
  obtain ⟨a,b,rfl,ha,hb⟩:=dE.two_inv;refine (Z4 (f:=130) hx (Zf hy hz) (ZwK hK h cB n (by have:=Z5K ha;have:=Z5K hb;unfold I64;omega))).mono ?_;rintro v w' ⟨rfl,az⟩;refine ⟨rfl,?_⟩;unfold Z0c;simpa [arM,JX,Z07,Z3N,Jj] using az
 case inr.inr.inr.inr.inr.inl=>
  obtain ⟨a,b,rfl,ha,hb⟩:=dE.two_inv;refine (Z4 (f:=131) hx (Zf hy hz) (ZwL hK h cB n (by have:=Z5K ha;have:=Z5K hb;unfold I64;omega))).mono ?_;rintro v w' ⟨rfl,az⟩;refine ⟨rfl,?_⟩;unfold Z0c;simpa [arM,JX,Z07,Z3N,Jj] using az
 case inr.inr.inr.inr.inr.inr.inl=>
  obtain ⟨a,b,rfl,ha,hb⟩:=dE.two_inv;refine (Z4 (f:=132) hx (Zf hy hz) (ZwM hK h cB n (ZwQ ha hb))).mono ?_;rintro v w' ⟨rfl,az⟩;refine ⟨rfl,?_⟩;unfold Z0c;simpa [arM,JX,Z07,Z3N,Jj] using az
 case inr.inr.inr.inr.inr.inr.inr.inr.inl=>
  obtain ⟨a,b,rfl⟩:∃ a b,vs=[a,b]:=by
   rcases ce with rfl|rfl
   all_goals
    obtain ⟨a,b,h1,-⟩:=dE.two_inv;exact ⟨a,b,h1⟩
  refine (Z4 (f:=134) hx (Zf hy hz) (ltV hK h cB n trivial)).mono ?_;rintro v w' ⟨rfl,az⟩;refine ⟨rfl,?_⟩;unfold Z0c;simpa [arM,JX,Z07,Z3N,Jj] using az
 case inr.inr.inr.inr.inr.inr.inr.inr.inr.inl=>
  obtain ⟨a,b,rfl⟩:∃ a b,vs=[a,b]:=by
   rcases ce with rfl|rfl
   all_goals
    obtain ⟨a,b,h1,-⟩:=dE.two_inv;exact ⟨a,b,h1⟩
  refine (Z4 (f:=135) hx (Zf hy hz) (leV hK h cB n trivial)).mono ?_;rintro v w' ⟨rfl,az⟩;refine ⟨rfl,?_⟩;unfold Z0c;simpa [arM,JX,Z07,Z3N,Jj] using az
 case inr.inr.inr.inr.inr.inr.inr.inr.inr.inr.inl=>
  obtain ⟨a,b,rfl⟩:∃ a b,vs=[a,b]:=by
   rcases ce with rfl|rfl
   all_goals
    obtain ⟨a,b,h1,-⟩:=dE.two_inv;exact ⟨a,b,h1⟩
  refine (Z4 (f:=136) hx (Zf hy hz) (eqV hK h cB n trivial)).mono ?_;rintro v w' ⟨rfl,az⟩;refine ⟨rfl,?_⟩;unfold Z0c;simpa [arM,JX,Z07,Z3N,Jj] using az
 case inr.inr.inr.inr.inr.inr.inr.inr.inr.inr.inr.inr.inr.inr.inl=>
  obtain ⟨a,b,rfl,ha,hb⟩:=dE.two_inv;refine (Z4 (f:=140) hx (Zf hy hz) (ZvR hK h cB n (by have:=Z5K ha;have:=Z5K hb;unfold I64;omega))).mono ?_;rintro v w' ⟨rfl,az⟩;refine ⟨rfl,?_⟩;unfold Z0c;simpa [arM,JX,Z07,Z3N,Jj] using az
 case inr.inr.inr.inr.inr.inr.inr.inr.inr.inr.inr.inr.inr.inr.inr.inl=>
  obtain ⟨a,b,rfl,ha,hb⟩:=dE.two_inv;refine (Z4 (f:=141) hx (Zf hy hz) (Zsx hK h cB n (by have:=Z5K ha;have:=Z5K hb;unfold I64;omega))).mono ?_;rintro v w' ⟨rfl,az⟩;refine ⟨rfl,?_⟩;unfold Z0c;simpa [arM,JX,Z07,Z3N,Jj] using az
 case inr.inr.inr.inr.inr.inr.inr.inr.inr.inr.inr.inr.inr.inr.inr.inr.inl=>
  obtain ⟨a,b,rfl,ha,hb⟩:=dE.two_inv;refine (Z4 (f:=142) hx (Zf hy hz) (ZmW hK h cB n (ZL.2 ha.d))).mono ?_;rintro v w' ⟨rfl,az⟩;refine ⟨rfl,?_⟩;unfold Z0c;simpa [arM,JX,Z07,Z3N,Jj] using az
 case inr.inr.inr.inr.inr.inr.inr.inr.inr.inr.inr.inr.inr.inr.inr.inr.inr.inl=>
  obtain ⟨a,b,rfl,ha,hb⟩:=dE.two_inv;refine (Z4 (f:=143) hx (Zf hy hz) (ZsD hK h cB gj n (ZL.2 ha.d))).mono ?_;rintro v w' ⟨rfl,az⟩;refine ⟨rfl,?_⟩;unfold Z0c;simpa [arM,JX,Z07,Z3N,Jj] using az
 case inr.inr.inr.inr.inr.inr.inr.inr.inr.inr.inr.inr.inr.inr.inr.inr.inr.inr.inr.inr.inl=>
  obtain ⟨a,b,rfl,ha,hb⟩:=dE.two_inv;refine (Z4 (f:=146) hx (Zf hy hz) (Zsy hK h cB n trivial)).mono ?_;rintro v w' ⟨rfl,az⟩;refine ⟨rfl,?_⟩;unfold Z0c;simpa [arM,JX,Z07,Z3N,Jj] using az
 case inr.inr.inr.inr.inr.inr.inr.inr.inr.inr.inr.inr.inr.inr.inr.inr.inr.inr.inr.inr.inr.inl=>
  obtain ⟨a,b,rfl,ha,hb⟩:=dE.two_inv;refine (Z4 (f:=147) hx (Zf hy hz) (ZjL hK h cB n trivial)).mono ?_;rintro v w' ⟨rfl,az⟩;refine ⟨rfl,?_⟩;unfold Z0c;simpa [arM,JX,Z07,Z3N,Jj] using az
 case inr.inr.inr.inr.inr.inr.inr.inr.inr.inr.inr.inr.inr.inr.inr.inr.inr.inr.inr.inr.inr.inr.inl=>
  obtain ⟨a,b,rfl,ha,hb⟩:=dE.two_inv;refine (Z4 (f:=148) hx (Zf hy hz) (ZjM hK h cB n (by have:=Z5K ha;have:=Z5K hb;unfold I64;omega))).mono ?_;rintro v w' ⟨rfl,az⟩;refine ⟨rfl,?_⟩;unfold Z0c;have e:Z4y (b - a)=(b - a,0):=by
   have:=ha.d;have:=hb.d;unfold Z4y;rw [if_neg (by omega)]
  rw [e] at az;simpa [arM,JX,Z07,Z3N,Jj] using az
 case inr.inr.inr.inr.inr.inr.inr.inl=>
  obtain ⟨b,rfl,hb⟩:=dE.one_inv;refine (Z4 (f:=133) hx (Zf hy hz) (ZwN hK h cB n (by have:=Z5K hb;unfold I64;omega))).mono ?_;rintro v w' ⟨rfl,az⟩;refine ⟨rfl,?_⟩;unfold Z0c;have e:Z4y (-b)=(-b,0):=by
   have:=Z5K hb;unfold Z4y;rw [if_neg (by omega)]
  rw [e] at az;simpa [arM,JX,Z07,ZbT,Z1I] using az
 case inr.inr.inr.inr.inr.inr.inr.inr.inr.inr.inr.inl=>
  obtain ⟨b,rfl,hb⟩:=dE.one_inv;refine (Z4 (f:=137) hx (Zf hy hz) (ZwO hK h cB n)).mono ?_;rintro v w' ⟨rfl,az⟩;refine ⟨rfl,?_⟩;unfold Z0c;have e:Z3M (decide (b=0))=1 - b:=by
   rcases hb.b with rfl|rfl<;>rfl
  rw [e] at az;simpa [arM,JX,Z07,ZbT,Z1I] using az
 case inr.inr.inr.inr.inr.inr.inr.inr.inr.inr.inr.inr.inr.inr.inr.inr.inr.inr.inl=>
  obtain ⟨b,rfl,hb⟩:=dE.one_inv;refine (Z4 (f:=144) hx (Zf hy hz) (ZvZ hK h cB gj n)).mono ?_;rintro v w' ⟨rfl,az⟩;refine ⟨rfl,?_⟩;unfold Z0c;simpa [arM,JX,Z07,ZbT,Z1I] using az
 case inr.inr.inr.inr.inr.inr.inr.inr.inr.inr.inr.inr.inr.inr.inr.inr.inr.inr.inr.inl=>
  obtain ⟨b,rfl,hb⟩:=dE.one_inv;refine (Z4 (f:=145) hx (Zf hy hz) (Zw0 hK h cB gj n)).mono ?_;rintro v w' ⟨rfl,az⟩;refine ⟨rfl,?_⟩;unfold Z0c;simpa [arM,JX,Z07,ZbT,Z1I] using az
 case inr.inr.inr.inr.inr.inr.inr.inr.inr.inr.inr.inr.inl=>
  refine (Z4 (f:=138) hx (Zf hy hz) (ZvS hK h n)).mono ?_;rintro v w' ⟨rfl,az⟩;refine ⟨rfl,?_⟩;unfold Z0c;simpa using az
 case inr.inr.inr.inr.inr.inr.inr.inr.inr.inr.inr.inr.inr.inl=>
  obtain ⟨b,rfl,hb⟩:=dE.one_inv;refine (Z4 (f:=139) hx (Zf hy hz) (ZmJ hK h n)).mono ?_;rintro v w' ⟨rfl,az⟩;refine ⟨rfl,?_⟩;unfold Z0c;simpa [Z1I] using az
 case inr.inr.inr.inr.inr.inr.inr.inr.inr.inr.inr.inr.inr.inr.inr.inr.inr.inr.inr.inr.inr.inr.inr=>
  refine (Z4 (f:=149) hx (Zf hy hz) (ZvT hK h n)).mono ?_;rintro v w' ⟨rfl,az⟩;refine ⟨rfl,?_⟩;unfold Z0c;simpa using az
end
abbrev ZmY (ev:List Int):Value:=.agg (evC ev).toArray
theorem ZmZ (ev:List Int) (c:Cal) (hv cv zo zs hr:Value) (kn:Int) (b:Addr) (w) :
 (Instr.build 167 #[(0, ZmY ev), (1, Z6r c hv cv zo zs hr), (2, .I kn), (7, .func (.func 80) #[] #[.pointer (some b)])]).run Tryz.prog w
   = .ok (.agg (evC ev++Z08 c hv cv zo zs hr++([.I kn,.N,.I 0,.I 0,.B false,.func (.func 80) #[] #[.pointer (some b)]]:List Value)).toArray) w:=by kernel_rfl
theorem Zk0 {x:Ins} {s nx:Shp} (hx:x.op=13) (hn:Je x s=some nx):nx=s:=by
 obtain ⟨op,n⟩:=x;dsimp only at hx;subst hx;simp [Je,Zz] at hn;exact hn.2.symm
theorem Zk1 {x:Ins} {s nx:Shp} (hx:x.op=14) (hn:Je x s=some nx):nx=s.dropLast:=by
 obtain ⟨op,n⟩:=x;dsimp only at hx;subst hx;simp [Je,Zz] at hn;rw [YaD];exact hn.2.symm
def Zn0 (K:MK) (code:List Ins) (sh:List (Option Shp)) (q:Nat×Bool) (w:World):Prop:=
 ∃ sv pv st sp at_ er, Mch K w sv pv st sp at_ er q.2/\
   (q.2=false->er=0/\at_=(q.1:Int)/\q.1<code.length/\sp.length<=q.1/\(∃ s,sh.getD q.1 none=some s/\Z0e s st)/\∃ f,code.length<=f+q.1/\Z75 (Zu K.c K.kn) K.ev code f q.1 st sp=J8 (Zu K.c K.kn) K.ev code)/\
   (q.2=true->(er=0/\∃ x,st=[x]/\J8 (Zu K.c K.kn) K.ev code=(x,sp,0))\/(er≠0/\J8 (Zu K.c K.kn) K.ev code=(0,[],er)))
theorem Zn0.step {K:MK} {code:List Ins} {sh:List (Option Shp)} {i:Nat} {x:Ins} {s nx:Shp} {st:List Int} {sp:List Spn} {w} {sv pv:Value} {f:Nat} (hK:KOk K) (hi:i<code.length) (hx:code.getD i ⟨0,0⟩=x) (ai:sh.length=code.length)
 (hg:Zck code sh i s nx) (gk:∀ s,some s∈sh->s.length<=16) (ay:Z0e s st) (bB:sp.length<=i) (hf:code.length<=f+i) (hr:Z75 (Zu K.c K.kn) K.ev code f i st sp=J8 (Zu K.c K.kn) K.ev code)
 (h:Z0c K w x st sp sv pv ((i+1:Nat):Int)):∃ q:Nat×Bool,Zn0 K code sh q w/\(if q.2=true then 0 else code.length+1 - q.1)<code.length+1 - i:=by
 obtain ⟨f,rfl⟩:∃ f',f=f'+1:=⟨f - 1,by omega⟩
 rw [Z75] at hr;rw [hx] at hr;have hn:=hg.next;rw [hx] at hn;unfold Z0c at h;by_cases cW:x.op=24;rw [if_pos cW] at h hr;obtain ⟨cm,br⟩:=hg.stop (by rw [hx];exact cW);have fe:st.length=1:=by rw [<- ay.1];exact br
 obtain ⟨a,rfl⟩:=Ya9.1 fe;refine ⟨(i,true),⟨sv,pv,[a],sp,_,0,h,(λhq=>by cases hq),λ_=>.inl ⟨rfl,a,rfl,?_⟩⟩,by simp;omega⟩;rw [<- hr];rfl;rw [if_neg cW] at h hr;by_cases cT:x.op=13;rw [if_pos cT] at h hr;obtain ⟨j1,j2,j3⟩:=hg.jump (.inl (by rw [hx];exact cT));rw [hx] at j1 j2 j3;have dg:=Zk0 cT hn;subst dg;refine ⟨(x.n.toNat,false),⟨sv,pv,st,sp,_,0,h,λ_=>⟨rfl,by omega,by omega,by dsimp only;omega,⟨_,j3,ay⟩,f,by dsimp only;omega,hr⟩,λhq=>by cases hq⟩,by simp;omega⟩;rw [if_neg cT] at h hr;by_cases dW:x.op=14;rw [if_pos dW] at h hr;obtain ⟨j1,j2,j3⟩:=hg.jump (.inr (by rw [hx];exact dW));obtain ⟨o1,o2⟩:=hg.on (by rw [hx];exact cW) (by rw [hx];exact cT);rw [hx] at j1 j2 j3;have dg:=Zk1 dW hn;have iD:Z0e nx st.dropLast:=by
  rw [dg,YaD,YaD,<- ay.1];exact ay.take _
 obtain ⟨sv',h⟩:=h;by_cases hb:Z01 st 0=0;rw [if_pos hb] at h hr;exact ⟨(x.n.toNat,false),⟨sv',pv,st.dropLast,sp,_,0,h,λ_=>⟨rfl,by omega,by omega,by dsimp only;omega,⟨_,j3,iD⟩,f,by dsimp only;omega,hr⟩,λhq=>by cases hq⟩,by simp;omega⟩;rw [if_neg hb] at h hr;exact ⟨(i+1,false),⟨sv',pv,st.dropLast,sp,_,0,h,λ_=>⟨rfl,rfl,by omega,by dsimp only;omega,⟨_,o2,iD⟩,f,by dsimp only;omega,hr⟩,λhq=>by cases hq⟩,by simp;omega⟩;rw [if_neg dW] at h hr;obtain ⟨o1,o2⟩:=hg.on (by rw [hx];exact cW) (by rw [hx];exact cT);obtain ⟨sv',pv',st',sp',hM,aO⟩:=h;by_cases he:(Z07 (Zu K.c K.kn) K.ev x (Z01 st 1) (Z01 st 0)).2=0
 . rw [if_pos he] at hr
   obtain ⟨e1,e2⟩:=aO he;subst e1 e2;rw [he] at hM;have ax:(JX x.op (Z01 st 1) (Z01 st 0) (Z07 (Zu K.c K.kn) K.ev x (Z01 st 1) (Z01 st 0)).1).length<=1:=by
    unfold JX;repeat' split
    all_goals simp
   refine ⟨(i+1,false),⟨sv',pv',_,_,_,0,hM,λ_=>⟨rfl,rfl,by omega,by dsimp only;rw [Xc];omega,⟨_,o2,ZbV hK.ev hn cW cT dW ay he⟩,f,by dsimp only;omega,hr⟩,λhq=>by cases hq⟩,by simp;omega⟩
 rw [if_neg he] at hr;have hd:decide (¬ (Z07 (Zu K.c K.kn) K.ev x (Z01 st 1) (Z01 st 0)).2=0)=true:=decide_eq_true he;rw [hd] at hM;exact ⟨(i,true),⟨sv',pv',_,_,_,_,hM,(λhq=>by cases hq),λ_=>.inr ⟨he,hr.symm⟩⟩,by simp;omega⟩
theorem Zcm (v:Value) (code:List Ins) (t kn:Int) (ev:List Int) (c:Cal) (hv cv zo zs hr:Value) (w) (hs:SlV [] w v code) (rm:Z1t code=(t,0)) (dB:Z6q w c hv cv zo zs hr) (bR:Zdy ev) (ho:zo.oneCell'=true/\zs.oneCell'=true/\hr.oneCell'=true) :
 CC 50 #[v,ZmY ev,Z6r c hv cv zo zs hr,.I kn] w λr w'=>∃ pv,r=.tuple #[.I (J8 (Zu c kn) ev code).1,pv,.I (J8 (Zu c kn) ev code).2.2]/\ZE 75 w w' pv (J8 (Zu c kn) ev code).2.1:=by
 obtain ⟨cB,tK,sh,ai,aO,gk,ld,nI,de⟩:=Z8l rm;refine cW4 63 Tryz.func50 ?_;refine W ?_;refine Z0 (Zo rfl) rfl ?_;rintro _ w1 ⟨b5,rfl,ji,k5,hS⟩;replace k5:Blk w1 b5 113 (evC ev):=k5;refine Z0 (Zo rfl) rfl ?_;rintro _ w2 ⟨b6,rfl,eB,k6,ah⟩;replace k6:Blk w2 b6 35 (Z08 c hv cv zo zs hr):=k6;replace k5:=k5.up ah;replace hS:=hS.trans ah;refine W ?_;refine Z0 Z2 rfl ?_;rintro _ w3 ⟨bs,rfl,dD,ks,am⟩;replace k5:=k5.up am;replace k6:=k6.up am;have wH:w.heap.size<=bs:=Xg hS.size dD;replace hS:=hS.trans am;refine W ?_;refine Z7 (vs:=[(0,ZmY ev),(1,Z6r c hv cv zo zs hr),(2,.I kn),(7,.func (.func 80) #[] #[pQ bs])]) rfl (ZmZ ev c hv cv zo zs hr kn _) rfl ?_;refine Z0 (Zo rfl) rfl ?_;rintro _ w4 ⟨bm,rfl,kN,km,aJ⟩;replace km:Blk w4 bm 167 (evC ev++Z08 c hv cv zo zs hr++[.I kn,.N,.I 0,.I 0,.B false,.func (.func 80) #[] #[pQ bs]]):=km;have wI:w.heap.size<=bm:=Xg hS.size kN;have rn:bm≠bs:=by have:=ks.lt;omega
 replace ks:=ks.up aJ;replace hS:=hS.trans aJ;clear k5 k6 ah am aJ;refine W ?_;refine CL (Zgk _) ?_;rintro _ w5 ⟨m,rfl,hm,au,aD⟩;obtain ⟨K,e1,e2,hk,e4,e5,e6,e7,e8,e9,e10,e11,e12⟩:∃ K:MK,K.w0=w5/\K.bm=bm/\K.nk=some bs/\K.ev=ev/\K.c=c/\K.kn=kn/\K.hv=hv/\K.cv=cv/\K.zo=zo/\K.zs=zs/\K.hr=hr/\K.pr=[]:=⟨⟨w5,bm,some bs,ev,c,kn,hv,cv,zo,zs,hr,[]⟩,rfl,rfl,rfl,rfl,rfl,rfl,rfl,rfl,rfl,rfl,rfl,rfl⟩
 subst e1 e2 e4 e5 e6 e7 e8 e9 e10 e11;have mg:=hS.trans aD;have own_ge:∀ b∈K.own,w.heap.size<=b:=λb hb=>by simp [MK.own,hk] at hb;omega
 have rp:m∉K.own:=λhb=>by
  have:=km.lt;have:=ks.lt;simp [MK.own,hk] at hb;omega
 have rq:=dB.up mg;have g1:3<w.heap.size:=by have:=block_lt_of_cell (dB.len 0 0 rfl);simpa using this
 have g2:4<w.heap.size:=by have:=block_lt_of_cell (dB.mov 0 0 rfl);simpa using this
 have hK:KOk K:=
  { hols := dB.hols.ext mg (by simp) (λb hb => .inr (own_ge b hb))
    clos:=dB.clos.ext mg (by simp) (λb hb=>.inr (own_ge b hb))
    ozo:=ho.1,ozs:=ho.2.1,ohr:=ho.2.2
    len:=rq.len,mov:=rq.mov
    bml:=(km.up aD).lt
    nkl:=λb hb=>by rw [hk] at hb;cases hb;exact ⟨(ks.up aD).lt,λh=>rn h.symm⟩
    gl:=λb hb=>by have:=own_ge b hb;omega
    cal:=dB.ok
    ev:=bR,nks:=by rw [hk];simp }
 have hM:Mch K K.w0 (.N) (.N) [] [] 0 0 false:=
  { blk := by unfold Z5z; rw [hk]; exact km.up aD
    row:=Row.nil
    nt:=λb hb=>by rw [hk] at hb;cases hb;exact ⟨ks.up aD,Row.nil⟩
    nt0:=λ_=>rfl
    ap:=by simp [ob]
    stp:=Stp.refl _ _
    prot:=λp hp=>by rw [e12] at hp;cases hp }
 have bg:SlV K.own K.w0 v code:=hs.ext mg (by simp) (λb hb=>.inr (own_ge b hb));clear hs km ks rq;refine W ?_
 refine Zr (σ:=Nat×Bool) (λ_=>[(0,v),(11,pQ bs),(13,mP K),(14,.map (some m))])
  (λq w'=>Zn0 K code sh q w') (λq=>if q.2=true then 0 else code.length+1 - q.1) (0,false) ⟨rfl,rfl,rfl,rfl,trivial⟩ ⟨_,_,[],[],0,0,hM,λ_=>⟨rfl,rfl,cB,Xn _,⟨[],ld,Z0e.nil⟩,code.length,Xn _,rfl⟩,λh=>by cases h⟩ ?_
 clear hM;rintro ⟨i,dn⟩ w6 ⟨sv,pv,st,sp,at_,er,hM,bj,hdone⟩;dsimp only at hM bj hdone ⊢;have ac:=hM.blk;unfold Z5z at ac;cases dn with
 | false=>
   obtain ⟨rfl,rfl,hi,bB,⟨s,ju,ay⟩,f,hf,hr⟩:=bj rfl;obtain ⟨s',nx,hg⟩:=de i hi;have j0:s'=s:=by have:=hg.at_;rw [ju] at this;exact (XQ this).symm
   subst j0;have ax:=bg.ext (X':=[]) hM.stp (λb hb=>hb) (by simp);have hx:code.getD i ⟨0,0⟩=code[i]:=by simp [List.getD,hi]
   have hn:=hg.next;rw [hx] at hn;have wJ:s'.length<=16:=gk _ (by
    have kA:i<sh.length:=by omega
    rw [XA,XB kA] at ju;simp only [Yax] at ju;rw [<- ju];exact Xd kA)
   refine W ?_;refine Z0 Z2 rfl ?_;rintro _ w7 ⟨b15,rfl,rt,e15,aR⟩;have lQ:=ac.lt;refine W ?_;refine SA (us:=Z3.enc code[i]) e15 ?_;rintro _ w8 ⟨hT,k15⟩;replace aR:=aR.ow hT;clear e15 hT;replace hM:=hM.up aR;replace ac:=ac.up aR;refine W ?_;refine Z6 (Zb (u:=.I ((i:Int)+1)) rfl rfl rfl rfl ac (by simp [evC,Z08])) ?_;rintro _ w9 ⟨gf,nJ⟩;replace hM:=hM.put hK (at':=((i+1:Nat):Int)) (er':=0) (dn':=false) gf nJ;replace k15:=k15.ext gf (by simp;omega);have aN:=au.ext hM.stp rp;refine W ?_;refine Z8 (Z1G rfl rfl aN) rfl ?_;refine W ?_;refine Z0 (ZmX hK hM hn ay (by rw [<- ay.1];omega) (by omega) rfl rfl rfl) rfl ?_;rintro _ w10 ⟨rfl,az⟩;obtain ⟨q,hq,hlt⟩:=Zn0.step hK hi hx ai hg gk ay bB hf hr az;refine W ?_;exact QL q hq (by simpa using hlt)
 | true=>
   have fin:∀ w' pv',Stp K.own K.w0 w'->Row [] w' K.w0.heap.size 75 pv' (J8 (Zu K.c K.kn) K.ev code).2.1->ZE 75 w w' pv' (J8 (Zu K.c K.kn) K.ev code).2.1:=λw' pv' h1 h2=>
    ⟨h2.lower mg.size,mg.own h1 (λb hb=>.inr (own_ge b hb))⟩
   rcases hdone rfl with ⟨rfl,x,rfl,hR⟩|⟨he,hR⟩
   obtain ⟨ks,ab⟩:=hM.nt bs hk;refine W ?_;refine ZDr 6 ([K.bm]) [] [(0,0),(2,1),(1,2),(3,0),(4,0),(5,0)] (λw1 ae=>?_);replace hM:=hM.up ae;replace ks:=ks.up ae;replace ab:=ab.up ae;refine D ?_;refine DC (Zce (st:=[]) hK hM) (λ_ _ h=>h.2.2) ?_;rintro _ w7 ⟨rfl,⟨sv',tL⟩,aR⟩;obtain ⟨ks7,iC⟩:=tL.nt bs hk;refine D ?_;refine W ?_;refine WR ?_;refine .mk ⟨pv,by rw [hR],fin _ _ tL.stp ?_⟩;rw [hR];exact iC;refine QO ?_;refine ZDr 7 [] [] [(0,0),(1,0),(2,0),(3,1),(4,0),(5,0),(6,0)] (λw1 ae=>?_);replace hM:=hM.up ae;replace ac:=ac.up ae;refine D ?_;refine W ?_;refine WR ?_;refine .mk ⟨.N,by rw [hR],fin _ _ hM.stp ?_⟩;rw [hR];exact Row.nil
theorem Z1n (n a b:Int) (w):CC 48 #[.I n,.I a,.I b] w λr w'=>r=.B (decide (a<=n/\n<=b))/\Stp [] w w':=by
 refine cW3 15 Tryz.func48 ?_
 (refine QP ?_ ?_<;>intro hg)
 refine RU ?_;exact ⟨by congr 1;rw [decide_eq_decide];exact ⟨λh=>⟨by omega,h⟩,λh=>h.2⟩,Stp.refl _ _⟩;refine RU ?_;exact ⟨by congr 1;symm;exact decide_eq_false (λh=>by omega),Stp.refl _ _⟩
theorem Zgl (a b c d e:Int) (w):(Instr.build 113 #[(0,.I a),(1,.I (-1)),(3,.I b),(4,.I c),(5,.I d),(6,.I e)]).run Tryz.prog w=.ok (ZmY [a,-1,0,b,c,d,e]) w:=by kernel_rfl
theorem Zgm (op a b r:Int):(JX op a b r).length<=1:=by
 unfold JX;repeat' split
 all_goals first|exact Xn _|exact Xq _
theorem Z2D (o:Int->Bool) (ev:List Int) (C:List Ins):∀ (f i:Nat) (st:List Int) (sp:List Spn),(Z75 o ev C f i st sp).2.1.length<=sp.length+f
 | 0,_,_,_=>by simp [Z75]
 | f + 1, i, st, sp => by
   rw [Z75];split;simp;split;have:=Z2D o ev C f (C.getD i ⟨0,0⟩).n.toNat st sp;omega;split;have:=Z2D o ev C f (if Z01 st 0=0 then (C.getD i ⟨0,0⟩).n.toNat else i+1) st.dropLast sp;omega;split;refine Xg (Z2D o ev C f _ _ _) ?_;have:=Zgm (C.getD i ⟨0,0⟩).op (Z01 st 1) (Z01 st 0) (Z07 o ev (C.getD i ⟨0,0⟩) (Z01 st 1) (Z01 st 0)).1;rw [Xc];omega;simp
def evL (c:Cas) (f:Fct):List Int:=
 let s:=Z5E c.atts c.crrs f.entry f.to_
 [f.day,if s.2=true then s.1.day else -1,if s.2=true then s.1.extra else 0,f.by_,f.to_,c.court,f.amt]
def opn (c:Cas):Int->Bool:=Zu c.cal c.today
def noD:Dln×Bool:=(default,false)
def mkD (c:Cas) (f:Fct) (r:Int) (q:Cr) (day due:Int) (sp:List Spn):Dln:=
 let s:=Z5E c.atts c.crrs f.entry f.to_
 let a:=Z3Q c.fcts f q.unl due
 { rule := q.name, trig := f, party := f.to_, due := due, stat := if a.2 = true then 1 else if due < c.today then 2 else 0,
   reas:=[⟨1,f.entry,f.day⟩,⟨2,r,0⟩]++(if s.2=true/\(Z3d q.cnd=true\/Z3d q.due=true) then [⟨3,s.1.att,s.1.day⟩] else [])
    ++ sp.map (λx=>⟨4,x.1,x.2⟩)++(Z6P f.day day c.stys).map (λx=>⟨5,x.1,x.2⟩)++(if a.2=true then [⟨6,a.1.entry,a.1.day⟩] else []) }
def Z0K (c:Cas) (f:Fct) (r:Int):Dln×Bool:=
 if ¬ (0<=r/\r<=(c.ruls.length:Int) - 1) then noD else
 let q:=c.ruls.getD r.toNat crZ
 if q.on≠f.kind\/ZfP c.ruls q.name f.day≠r then noD else
 let x:=J8 (opn c) (evL c f) q.cnd
 if x.2.2≠0\/x.1=0 then noD else
 let y:=J8 (opn c) (evL c f) q.due
 if y.2.2≠0 then noD else
 let z:=Z8b f.day y.1 c.stys
 if z.2≠0 then noD else
 if z.1=y.1 then (mkD c f r q y.1 y.1 (x.2.1++y.2.1),true) else
 let n:=Jo (opn c) 1 z.1
 if n.2≠0 then noD else (mkD c f r q y.1 n.1 (x.2.1++y.2.1++[(z.1,n.1)]),true)
structure Z5L (c:Cas):Prop where
 fl:c.fcts.length<=100000
 rl:c.ruls.length<=1024
 cnd:∀ q∈c.ruls,Z1t q.cnd=(2,0)
 due:∀ q∈c.ruls,Z1t q.due=(3,0)
 att:ZmI c.atts c.crrs
 ext:∀ x∈c.crrs,0<=x.extra/\x.extra<=1000
 sty:Z8a c.stys
 court:0<=c.court/\c.court<=15
 today:0<=c.today/\c.today<=3652058
structure Z0o (f:Fct):Prop where
 day:0<=f.day/\f.day<=3652058
 by_:0<=f.by_/\f.by_<=63
 to_:0<=f.to_/\f.to_<=63
 amt:-2147483647<=f.amt/\f.amt<=2147483647
structure Z1D (w:World) (c:Cas) (R:Z0T):Prop where
 ff:SlV [] w R.fv c.fcts
 rr:SlV [] w R.rv c.ruls
 aa:SlV [] w R.av c.atts
 cc:SlV [] w R.cv c.crrs
 ss:SlV [] w R.sv c.stys
 cal:Z6q w c.cal R.hv R.lv R.zo R.zs R.hr
 one:R.zo.oneCell'=true/\R.zs.oneCell'=true/\R.hr.oneCell'=true
theorem Z1D.up {w w':World} {c:Cas} {R:Z0T} (h:Z1D w c R) (hS:Stp [] w w'):Z1D w' c R:=⟨h.ff.up hS,h.rr.up hS,h.aa.up hS,h.cc.up hS,h.ss.up hS,h.cal.up hS,h.one⟩
theorem Z3W {o:Int->Bool} {ev:List Int} {C:List Ins} {t:Int} (bR:Zdy ev) {sh:List (Option Shp)} (ai:sh.length=C.length) (de:∀ i,i<C.length->∃ s nx,Zck C sh i s nx) (dL:sh.getD (C.length - 1) none=some [t]) :
 ∀ (f i:Nat) (s:Shp) (st:List Int) (sp sp':List Spn) (v:Int),i<C.length->sh.getD i none=some s->Z0e s st->C.length<=f+i->Z75 o ev C f i st sp=(v,sp',0)->vOk t v
 | 0,i,s,st,sp,sp',v,hi,hs,ay,hf,hr=>by omega
 | f + 1, i, s, st, sp, sp', v, hi, hs, ay, hf, hr => by
   obtain ⟨s',nx,hg⟩:=de i hi;obtain rfl:s'=s:=by have:=hg.at_;rw [hs] at this;simpa using this.symm
   rw [Z75] at hr;have hn:=hg.next;have hstop:=hg.stop;have j4:=hg.jump;have jn:=hg.on;generalize C.getD i ⟨0,0⟩=x at *
   try dsimp only at hr
   by_cases cW:x.op=24;rw [if_pos cW] at hr;obtain ⟨a1,a2⟩:=hstop cW;rw [show i=C.length - 1 by omega,dL] at hs;obtain rfl:[t]=s':=by simpa using hs
   obtain ⟨u,rfl,hu⟩:=ay.one_inv;simp [Z01] at hr;rw [<- hr.1];exact hu;rw [if_neg cW] at hr;by_cases cT:x.op=13;rw [if_pos cT] at hr;obtain ⟨j1,j2,j3⟩:=j4 (.inl cT);have dg:=Zk0 cT hn;subst dg;exact Z3W bR ai de dL f x.n.toNat _ st sp sp' v (by omega) j3 ay (by omega) hr;rw [if_neg cT] at hr;by_cases dW:x.op=14;rw [if_pos dW] at hr;obtain ⟨j1,j2,j3⟩:=j4 (.inr dW);obtain ⟨o1,o2⟩:=jn cW cT;have dg:=Zk1 dW hn;have iD:Z0e nx st.dropLast:=by
    rw [dg,YaD,YaD,<- ay.1];exact ay.take _
   by_cases hb:Z01 st 0=0;rw [if_pos hb] at hr;exact Z3W bR ai de dL f _ _ _ sp sp' v (by omega) j3 iD (by omega) hr;rw [if_neg hb] at hr;exact Z3W bR ai de dL f _ _ _ sp sp' v (by omega) o2 iD (by omega) hr;rw [if_neg dW] at hr;obtain ⟨o1,o2⟩:=jn cW cT;by_cases he:(Z07 o ev x (Z01 st 1) (Z01 st 0)).2=0;rw [if_pos he] at hr;exact Z3W bR ai de dL f _ _ _ _ sp' v (by omega) o2 (ZbV bR hn cW cT dW ay he) (by omega) hr;rw [if_neg he] at hr;simp only [Prod.mk.injEq] at hr;exact absurd hr.2.2 he
theorem Z8m {o:Int->Bool} {ev:List Int} {C:List Ins} {t:Int} (bR:Zdy ev) (hv:Z1t C=(t,0)) (h:(J8 o ev C).2.2=0):vOk t (J8 o ev C).1:=by
 obtain ⟨h0,ru,sh,ai,aO,gk,ld,nI,de⟩:=Z8l hv;exact Z3W bR ai de nI C.length 0 [] [] [] _ _ h0 ld Z0e.nil (by omega) (show J8 o ev C=((J8 o ev C).1,(J8 o ev C).2.1,0) by rw [<- h])
theorem Z8n {o:Int->Bool} {ev:List Int} {C:List Ins} {t:Int} (hv:Z1t C=(t,0)):(J8 o ev C).2.1.length<=200:=by
 obtain ⟨h0,ru,_⟩:=Z8l hv;have:=Z2D o ev C C.length 0 [] [];unfold J8;simp only [Xf] at this;omega
def Z9y (s:AlS):Prop:=∀ y∈s.out,-1<=y.2/\y.2<=3652058
theorem Zk2 {l:List Rtn} {crrs:List Crr} {s:AlS} {x:Spn} (h:Z9y s) (hx:-1<=x.2/\x.2<=3652058):Z9y (Z0x l crrs s x):=by
 unfold Z0x;dsimp only;split;exact h;have ht:Z9y (if Z1u l crrs x.1<s.least then (⟨Z1u l crrs x.1,false,[]⟩:AlS) else s):=by
  split;intro y hy;cases hy;exact h
 generalize (if Z1u l crrs x.1<s.least then (⟨Z1u l crrs x.1,false,[]⟩:AlS) else s)=t at *;split;rename_i y hy;split;intro z hz;rcases Xh.1 hz with hz|hz
 exact ht z (List.dropLast_subset _ hz);simp only [Xl] at hz;subst hz;exact hx;intro z hz;rcases Xh.1 hz with hz|hz
 exact ht z hz;simp only [Xl] at hz;subst hz;exact hx;intro z hz;rcases Xh.1 hz with hz|hz
 exact ht z hz;simp only [Xl] at hz;subst hz;exact hx
theorem Zcn {l:List Rtn} {crrs:List Crr}:∀ (L:List Spn) (s:AlS),Z9y s->(∀ x∈L,-1<=x.2/\x.2<=3652058)->Z9y (L.foldl (Z0x l crrs) s)
 | [],_,h,_=>h
 | x :: L,s,h,hL=>Zcn L _ (Zk2 h (hL x (by simp))) (λy hy=>hL y (by simp [hy]))
theorem Zk3 (l:List Rtn) (crrs:List Crr) {sent:Int} (hs:0<=sent/\sent<=3652058):-1<=(ZaE l crrs sent).1/\(ZaE l crrs sent).1<=3652058:=by
 unfold ZaE;have ho:Z9y (Zg3 l crrs sent):=Zcn _ _ (λy hy=>by cases hy) (λx hx=>⟨(Z8h hs hx).2.2.1,(Z8h hs hx).2.2.2⟩);dsimp only;split;simp;split;rename_i y hy;exact ho y (List.mem_of_getLast? hy);simp
theorem ZeR (l:List Atp) (crrs:List Crr) (en pa:Int):∀ (k:Nat),k<=l.length->∀ s∈ofG l crrs en pa k,∃ j,∃ h:j<l.length,s=ofE crrs l[j] j
 | 0,_,s,h=>by simp [ofG] at h
 | k + 1, hk, s, h => by
   rw [ofG] at h;rcases Xh.1 h with h|h
   exact ZeR l crrs en pa k (by omega) s h;split at h;simp only [Xl] at h;exact ⟨k,by omega,by rw [h];simp [show k<l.length by omega]⟩;cases h
theorem Z9z (l:List Svc):∀ k,k<l.length->Z2d l k∈l
 | 0,h=>by simp [Z2d,h]
 | k + 1, h => by
   rw [Z2d];split;simp [h];exact Z9z l k (by omega)
theorem Zn1 {l:List Atp} {crrs:List Crr} (en pa:Int) (ho:ZmI l crrs) (hx:∀ x∈crrs,0<=x.extra/\x.extra<=1000) :
 -1<=(Z5E l crrs en pa).1.day/\(Z5E l crrs en pa).1.day<=3652058/\0<=(Z5E l crrs en pa).1.extra/\(Z5E l crrs en pa).1.extra<=1000:=by
 have hm:=ZeR l crrs en pa l.length (Xn _);show -1<=(Z4I (ofG l crrs en pa l.length)).1.day/\(Z4I (ofG l crrs en pa l.length)).1.day<=3652058/\0<=(Z4I (ofG l crrs en pa l.length)).1.extra/\(Z4I (ofG l crrs en pa l.length)).1.extra<=1000;generalize ofG l crrs en pa l.length=L at *;unfold Z4I;split;simp;rename_i aU;obtain ⟨j,hj,e⟩:=hm _ (Z9z L (L.length - 1) (by have:=X8.2 aU;omega));dsimp only;rw [e];have hs:=Zk3 l[j].rets crrs (ho.sent _ (Xd hj));have hc:=ho.crr _ (Xd hj);obtain ⟨m,hm⟩:∃ m:Nat,l[j].crr=m:=⟨l[j].crr.toNat,by omega⟩
 have bH:m<crrs.length:=by omega
 have mc:=hx _ (Xd bH);simp only [ofE,hm];rw [show crrs.getD ((m:Int).toNat) ⟨0,0⟩=crrs[m] by simp [bH]];omega
theorem Zk4 {c:Cas} {f:Fct} (ho:Z5L c) (hf:Z0o f):Zdy (evL c f):=by
 have h:=Zn1 f.entry f.to_ ho.att ho.ext;have h1:=hf.day;have h2:=hf.by_;have h3:=hf.to_;have h4:=hf.amt;have h5:=ho.court;unfold evL;dsimp only;generalize Z5E c.atts c.crrs f.entry f.to_=s at *;refine ⟨rfl,h1,?_,?_⟩;show -1<=(if s.2=true then s.1.day else -1)/\(if s.2=true then s.1.day else -1)<=3652058;split<;>omega
 intro i cn re;obtain rfl|rfl|rfl|rfl|rfl:i=2\/i=3\/i=4\/i=5\/i=6:=by omega
 show -2147483647<=(if s.2=true then s.1.extra else 0)/\(if s.2=true then s.1.extra else 0)<=2147483647;split<;>omega
 show -2147483647<=f.by_/\f.by_<=2147483647;omega;show -2147483647<=f.to_/\f.to_<=2147483647;omega;show -2147483647<=c.court/\c.court<=2147483647;omega;exact h4
theorem Z2h (w):(Instr.build 56 #[]).run Tryz.prog w=.ok (.agg (dlC (default:Dln) Ji).toArray) w:=by kernel_rfl
theorem Z2i:∀ u∈dlC (default:Dln) Ji,u.oneCell'=true:=by decide
theorem Zn2 (ev:List Int):∀ u∈evC ev,u.oneCell'=true:=by
 intro u hu;unfold evC at hu;simp only [Xb,Xj,or_false] at hu;rcases hu with rfl|rfl|rfl|rfl|rfl|rfl|rfl<;>rfl
theorem Zn3 (s:Str) (f:Fct) (a b:Int) (w):(Instr.build 56 #[(0,str s),(1,aG f),(2,.I a),(3,.I b)]).run Tryz.prog w=.ok (.agg (dlC (⟨s,f,a,b,0,[]⟩:Dln) Ji).toArray) w:=by kernel_rfl
theorem Z8o (a b:Int) (w):(Instr.build 75 #[(0,.I a),(1,.I b)]).run Tryz.prog w=.ok (.agg (Z3.enc ((a,b):Spn)).toArray) w:=by kernel_rfl
theorem ZaN (d:Dln) {rv:Value} (h:rv.oneCell'=true):∀ u∈dlC d rv,u.oneCell'=true:=by
 intro u hu;simp only [dlC,Xb,Xj,or_false] at hu;rcases hu with rfl|rfl|rfl|rfl|rfl|rfl|rfl|rfl|rfl|rfl|rfl<;>first|rfl|assumption
theorem Nte.up {w0 w w':World} {bd:Nat} {d:Dln} {rv:Value} (h:Nte w0 bd w d rv) (hT:Stp [] w w'):Nte w0 bd w' d rv:=⟨h.blk.up hT,h.row.up hT,h.stp.trans hT.mn,h.lt,h.len⟩
theorem Nte.stat {w0 w w':World} {bd:Nat} {d d':Dln} {rv:Value} (h:Nte w0 bd w d rv) (hT:Stp [bd] w w') (hb:Blk w' bd 56 (dlC d' rv)) (he:d'.reas=d.reas):Nte w0 bd w' d' rv:=
 ⟨hb,by rw [he];exact h.row.ext hT (λb dr=>⟨dr,λh2=>by have:=(h.row.ob_le b h2).1;have:=h.lt;simp at dr;omega⟩) (λb hb=>.inl hb),h.stp.trans hT,h.lt,by rw [he];exact h.len⟩
abbrev dU (q:Cr) (f:Fct) (due st:Int) (l:List Rsn):Dln:=⟨q.name,f,f.to_,due,st,l⟩
theorem ZeS (c:Cas) (R:Z0T) (f:Fct) (r:Int) (w) (hv:Z1D w c R) (ho:Z5L c) (hf:Z0o f) (hr:I64 r) :
 CC 24 #[.agg (Jw c R).toArray,aG f,.I r] w λv w'=>∃ rv,v=.tuple #[.agg (dlC (Z0K c f r).1 rv).toArray,.B (Z0K c f r).2]/\ZE 67 w w' rv (Z0K c f r).1.reas:=by
 generalize aF:Z0K c f r=o;have iw:=ho.rl;refine cW3 246 Tryz.func24 ?_;refine W ?_;refine BX (Stp.refl [] w) λb3 w1 h3 e3 _ hS=>?_;replace e3:Blk w1 b3 37 (Jw c R):=e3;refine BX hS λb4 w2 h4 e4 hT hS=>?_;replace e4:Blk w2 b4 45 (Z3.enc f):=e4;replace e3:=e3.up hT;refine W ?_;refine Z0 Z2 rfl ?_;rintro _ w3 ⟨b6,rfl,eB,e6,hT⟩;have g6:w.heap.size<=b6:=Xg hS.size eB;replace e6:Blk w3 b6 56 (dlC (default:Dln) Ji):=e6;replace e3:=e3.up hT;replace e4:=e4.up hT;replace hS:=hS.trans hT;clear hT;have nK:=hv.up hS;have dO:=nK.rr;refine W ?_;refine CP hS (Z1n _ _ _ _) λw4 hT hS=>?_;replace e3:=e3.up hT;replace e4:=e4.up hT;replace e6:=e6.up hT;clear hT nK dO;by_cases hw:0<=r/\r<=(c.ruls.length:Int) - 1
 rotate_left
 rw [Z0K,if_pos hw] at aF;rw [decide_eq_false hw];refine QO ?_;refine Z7 (vs:=[]) rfl Z2h rfl ?_;refine SB (us:=dlC (default:Dln) Ji) Z2i e6 ?_;rintro _ wz ⟨hT,e6⟩;refine W ?_;refine Zj rfl rfl rfl e6 rfl rfl ?_;subst aF;exact .mk ⟨Ji,rfl,ZE.nil.up (hS.ow hT)⟩;rw [Z0K,if_neg (not_not_intro hw)] at aF;rw [decide_eq_true hw];obtain ⟨i,rfl⟩:∃ i:Nat,r=i:=⟨r.toNat,by omega⟩
 have hi:i<c.ruls.length:=by omega
 rw [show c.ruls.getD ((i:Int).toNat) crZ=c.ruls[i] by simp [hi]] at aF;dsimp only at aF;have fq:=(ho.cnd _ (Xd hi))
 have fV:=(ho.due _ (Xd hi))
 have eV:=hv.up hS;have dO:=eV.rr;obtain ⟨cs,⟨kc,kd,rfl,gc,gd⟩,ar⟩:=hv.rr.cell hi;refine QO ?_;refine Z8 (Z1W rfl rfl dO hi ⟨kc,kd,rfl,gc.up hS,gd.up hS⟩ (λj u hu=>hS.cell0 (ar j u hu))) rfl ?_;refine Z0 Z2 rfl ?_;rintro _ w5 ⟨b8,rfl,fk,e8,hT⟩;refine SB (us:=crC c.ruls[i] kc kd) (Z0g gc gd) e8 ?_;rintro _ w6 ⟨aq,e8⟩;replace hT:=hT.ow aq;replace e3:=e3.up hT;replace e4:=e4.up hT;replace e6:=e6.up hT;replace hS:=hS.trans hT;clear hT aq ar dO eV;generalize hq:c.ruls[i]=q at *;have dO:=(hv.up hS).rr;have l8:=e8.lt
 (refine QP ?_ ?_<;>intro hg)
 rw [if_pos (.inl (by assumption))] at aF;refine Z7 (vs:=[]) rfl Z2h rfl ?_;refine SB (us:=dlC (default:Dln) Ji) Z2i e6 ?_;rintro _ wz ⟨hT,e6⟩;refine W ?_;refine Zj rfl rfl rfl e6 rfl rfl ?_;subst aF;exact .mk ⟨Ji,rfl,ZE.nil.up (hS.ow hT)⟩;refine CP hS (ZbW R.rv c.ruls q.name f.day _ dO) λw7 hT hS=>?_;replace e3:=e3.up hT;replace e4:=e4.up hT;replace e6:=e6.up hT;replace e8:=e8.up hT;clear dO;by_cases ha:ZfP c.ruls q.name f.day=i
 rotate_left
 rw [if_pos (.inr ha)] at aF;refine QO ?_;refine Z7 (vs:=[]) rfl Z2h rfl ?_;refine SB (us:=dlC (default:Dln) Ji) Z2i e6 ?_;rintro _ wz ⟨hT,e6⟩;refine W ?_;refine Zj rfl rfl rfl e6 rfl rfl ?_;subst aF;exact .mk ⟨Ji,rfl,ZE.nil.up (hS.ow hT)⟩;rw [if_neg (λh=>h.elim (λh=>absurd h (by assumption)) (λh=>h ha))] at aF;refine QO ?_;refine Z7 (vs:=[(0,.I f.day),(1,.I (-1)),(3,.I f.by_),(4,.I f.to_),(5,.I c.court),(6,.I f.amt)]) rfl (Zgl _ _ _ _ _) rfl ?_;refine Z0 Z2 rfl ?_;have l3:=e3.lt;have l4:=e4.lt;have l6:=e6.lt;have l8':=e8.lt;rintro _ w8 ⟨b9,rfl,iS,e9,hT⟩;have g9:w.heap.size<=b9:=Xg hS.size iS;refine SB (us:=evC [f.day,-1,0,f.by_,f.to_,c.court,f.amt]) (Zn2 _) e9 ?_;rintro _ w9 ⟨aq,e9⟩;replace hT:=hT.ow aq;replace e3:=e3.up hT;replace e4:=e4.up hT;replace e6:=e6.up hT;replace e8:=e8.up hT;replace hS:=hS.trans hT;clear hT aq;have rx:=hv.up hS;refine QO ?_;refine CP hS (Zsv R.av R.cv c.atts c.crrs f.entry f.to_ _ rx.aa rx.cc ho.att) λw10 hT hS=>?_;replace e3:=e3.up hT;replace e4:=e4.up hT;replace e6:=e6.up hT;replace e8:=e8.up hT;replace e9:=e9.up hT;clear hT rx;have l9:=e9.lt;generalize bg:Z5E c.atts c.crrs f.entry f.to_=s at *;obtain ⟨s,ok⟩:=s;refine QO ?_;refine Z0 Z2 rfl ?_;rintro _ w11 ⟨b10,rfl,eh,e10,hT⟩;refine SA (us:=Z3.enc s) e10 ?_;rintro _ w12 ⟨aq,e10⟩;replace hT:=hT.ow aq;replace e3:=e3.up hT;replace e4:=e4.up hT;replace e6:=e6.up hT;replace e8:=e8.up hT;replace e9:=e9.up hT;replace hS:=hS.trans hT;clear hT aq;refine W ?_;have e9':=e9
 refine JE (σ:=Unit) (λ_=>[(2,.I (i:Int)),(3,pQ b3),(4,pQ b4),(6,pQ b6),(8,pQ b8),(9,pQ b9),(10,pQ b10),(11,.B ok)])
  (λ_ w'=>Stp [b9] w12 w'/\Blk w' b9 113 (evC (evL c f))) ?_ ?_
 have ry:evL c f=[f.day,if ok=true then s.day else -1,if ok=true then s.extra else 0,f.by_,f.to_,c.court,f.amt]:=by
  unfold evL;rw [bg]
 rw [ry]
 (refine QP ?_ ?_<;>intro hc)
 refine ZDr 8 [b9] [] [(0,0),(1,1),(2,0),(3,1),(4,0),(5,2),(6,0),(7,2)] (λw1 ae=>?_);replace e9:=e9.up ae;replace e10:=e10.up ae;have c10:_=some (Value.int .i64 s.day):=e10.cell (j:=0) rfl;have c11:_=some (Value.int .i64 s.extra):=e10.cell (j:=1) rfl;focus repeat'(first|refine D1 ?_|omega|refine Z17 rfl (by first|exact trivial|exact rfl) rfl rfl (by assumption) rfl ?_|refine Zq rfl rfl rfl rfl (λhg=>?_) (λhg=>?_)|(refine Zm rfl rfl rfl rfl (λhg=>?_) (λhg=>?_)<;>refine D1 ?_)|fail)
 refine Z0p rfl trivial (Zb rfl rfl rfl rfl e9 (by simp [evC])) (λ_ _ h=>h.1) ?_;rintro _ w13 ⟨hT,e9⟩;focus repeat'(first|refine D1 ?_|omega|refine Z17 rfl (by first|exact trivial|exact rfl) rfl rfl (by assumption) rfl ?_|refine Zq rfl rfl rfl rfl (λhg=>?_) (λhg=>?_)|(refine Zm rfl rfl rfl rfl (λhg=>?_) (λhg=>?_)<;>refine D1 ?_)|fail)
 refine Z0p rfl trivial (Zb rfl rfl rfl rfl e9 (by simp [evC])) (λ_ _ h=>h.1) ?_;rintro _ w14 ⟨aq,e9⟩;focus repeat'(first|refine D1 ?_|omega|refine Z17 rfl (by first|exact trivial|exact rfl) rfl rfl (by assumption) rfl ?_|refine Zq rfl rfl rfl rfl (λhg=>?_) (λhg=>?_)|(refine Zm rfl rfl rfl rfl (λhg=>?_) (λhg=>?_)<;>refine D1 ?_)|fail)
 exact QT () ⟨(ae.mn.own hT (λc hc=>.inl hc)).own aq (λc hc=>.inl hc),by rw [show ok=true by assumption];exact e9⟩;rw [show ok=false by simpa using ‹_›];exact QT () ⟨Stp.refl _ _,e9⟩;rintro _ w13 ⟨hT,e9⟩;replace e3:=e3.ext hT (by simp;omega);replace e4:=e4.ext hT (by simp;omega);replace e6:=e6.ext hT (by simp;omega);replace e8:=e8.ext hT (by simp;omega);replace e10:=e10.ext hT (by simp;omega);replace hS:=hS.ow hT;clear hT;have bR:=Zk4 ho hf;have gN:=hv.up hS;have l3:=e3.lt;have l4:=e4.lt;have l6:=e6.lt;have l8:=e8.lt;have l10:=e10.lt;rw [show opn c=Zu c.cal c.today from rfl] at aF;have cP:=hS;have f3:=e3;have f4:=e4;have f6:=e6;have f8:=e8;have f10:=e10;refine W ?_;refine Z8 (Zl rfl rfl e3 (us:=Z08 c.cal R.hv R.lv R.zo R.zs R.hr) rfl rfl) rfl ?_;refine W ?_;refine CL (Zcm kc q.cnd 2 c.today (evL c f) c.cal R.hv R.lv R.zo R.zs R.hr _ (gc.up hS) fq gN.cal bR gN.one) ?_;rintro _ w14 ⟨pv,rfl,fA⟩;have jv:=Z8n (o:=Zu c.cal c.today) (ev:=evL c f) fq;generalize J8 (Zu c.cal c.today) (evL c f) q.cnd=x at *;obtain ⟨x1,xs,xe⟩:=x;dsimp only at aF fA jv ⊢;have hT:=fA.2;replace e3:=e3.up hT;replace e4:=e4.up hT;replace e6:=e6.up hT;replace e8:=e8.up hT;replace e9:=e9.up hT;replace e10:=e10.up hT;replace hS:=hS.trans hT;clear hT gN;by_cases iL:xe=0
 rotate_left
 rw [if_pos (.inl iL)] at aF;refine QO ?_;refine Z7 (vs:=[]) rfl Z2h rfl ?_;refine SB (us:=dlC (default:Dln) Ji) Z2i e6 ?_;rintro _ wz ⟨hT,e6⟩;refine W ?_;refine Zj rfl rfl rfl e6 rfl rfl ?_;subst aF;exact .mk ⟨Ji,rfl,ZE.nil.up (hS.ow hT)⟩;by_cases ku:x1=0;rw [if_pos (.inr ku)] at aF;refine QO ?_;refine Z7 (vs:=[]) rfl Z2h rfl ?_;refine SB (us:=dlC (default:Dln) Ji) Z2i e6 ?_;rintro _ wz ⟨hT,e6⟩;refine W ?_;refine Zj rfl rfl rfl e6 rfl rfl ?_;subst aF;exact .mk ⟨Ji,rfl,ZE.nil.up (hS.ow hT)⟩;rw [if_neg (λh=>h.elim (λh=>h iL) (λh=>ku h))] at aF;have gN:=hv.up hS;refine QO ?_;refine Z8 (Zl rfl rfl e3 (us:=Z08 c.cal R.hv R.lv R.zo R.zs R.hr) rfl rfl) rfl ?_;refine W ?_;refine CL (Zcm kd q.due 3 c.today (evL c f) c.cal R.hv R.lv R.zo R.zs R.hr _ (gd.up hS) fV gN.cal bR gN.one) ?_;rintro _ w15 ⟨pw,rfl,df⟩;have fx:=Z8n (o:=Zu c.cal c.today) (ev:=evL c f) fV;have oY:=Z8m (o:=Zu c.cal c.today) bR fV;generalize J8 (Zu c.cal c.today) (evL c f) q.due=y at *;obtain ⟨y1,ys,ye⟩:=y;dsimp only at aF df fx oY ⊢;have cE:SlV (ob pv) w15 pw ys:=df.slv (λb hb=>(fA.ob_le b hb).2);have hT:=df.2;replace e3:=e3.up hT;replace e4:=e4.up hT;replace e6:=e6.up hT;replace e8:=e8.up hT;replace e9:=e9.up hT;replace e10:=e10.up hT;replace fA:=fA.up hT;replace hS:=hS.trans hT;clear hT gN df;by_cases rz:ye=0
 rotate_left
 rw [if_pos rz] at aF;refine QO ?_;refine Z7 (vs:=[]) rfl Z2h rfl ?_;refine SB (us:=dlC (default:Dln) Ji) Z2i e6 ?_;rintro _ wz ⟨hT,e6⟩;refine W ?_;refine Zj rfl rfl rfl e6 rfl rfl ?_;subst aF;exact .mk ⟨Ji,rfl,ZE.nil.up (hS.ow hT)⟩;rw [if_neg (not_not_intro rz)] at aF;have qU:0<=y1/\y1<=3652058:=by
  rcases oY rz with h|h|h
  omega;omega;exact h.2
 have gN:=hv.up hS;have gC:=hf.day;refine QO ?_;refine CP hS (Z8c f.day y1 R.sv c.stys _ gN.ss ho.sty (by omega) (by omega)) λw16 hT hS=>?_
 replace e3:=e3.up hT;replace e4:=e4.up hT;replace e6:=e6.up hT;replace e8:=e8.up hT;replace e9:=e9.up hT;replace e10:=e10.up hT;replace fA:=fA.up hT;replace cE:=cE.up hT;clear hT gN;generalize Z8b f.day y1 c.stys=z at *;obtain ⟨z1,ze⟩:=z;dsimp only at aF ⊢;by_cases tM:ze=0
 rotate_left
 rw [if_pos tM] at aF;refine QO ?_;refine Z7 (vs:=[]) rfl Z2h rfl ?_;refine SB (us:=dlC (default:Dln) Ji) Z2i e6 ?_;rintro _ wz ⟨hT,e6⟩;refine W ?_;refine Zj rfl rfl rfl e6 rfl rfl ?_;subst aF;exact .mk ⟨Ji,rfl,ZE.nil.up (hS.ow hT)⟩;rw [if_neg (not_not_intro tM)] at aF;refine QO ?_;refine Z0 (Jy (β:=Spn) rfl (by decide) rfl rfl fA cE (Xg (Xo _ (show xs.length+ys.length<=400 by omega)) (by decide)) (by simp only [maxLen];omega)) rfl ?_;rintro pu w17 ⟨hr,-,-⟩;clear fA cE e3 e4 e6 e8 e9 e10 hS;have oZ:(xs++ys).length<=400:=by rw [Xc];omega
 refine W ?_
 refine JE (σ:=Int×Value×List Spn) (λq=>[(2,.I (i:Int)),(3,pQ b3),(4,pQ b4),(6,pQ b6),(8,pQ b8),(10,pQ b10),(11,.B ok),(13,q.2.1),(15,.I y1),(17,.I q.1)])
  (λp w'=>ZE 75 w13 w' p.2.1 p.2.2/\p.2.2.length<=1000/\(mkD c f i q y1 p.1 p.2.2,true)=o) ?_ ?_
 by_cases rA:z1=y1;rw [if_pos rA] at aF;refine QO ?_;exact QT (z1,pu,xs++ys) ⟨hr,by dsimp only;omega,by rw [rA];exact aF⟩
 . rw [if_neg rA] at aF
   have e3:=f3.up hr.2;have e6:=f6.up hr.2;have hS:=cP.trans hr.2;have gN:=hv.up hS;refine QO ?_;refine Z8 (Zl rfl rfl e3 (us:=Z08 c.cal R.hv R.lv R.zo R.zs R.hr) rfl rfl) rfl ?_;refine W ?_;refine CP hS (Z9x z1 c.today c.cal R.hv R.lv R.zo R.zs R.hr _ gN.cal) λw18 hT hS=>?_;replace e3:=e3.up hT;replace e6:=e6.up hT;replace hr:=hr.up hT;clear hT gN;generalize Jo (Zu c.cal c.today) 1 z1=nn at *;obtain ⟨n1,ne⟩:=nn;dsimp only at aF ⊢;by_cases aU:ne=0
   rotate_left
   rw [if_pos aU] at aF;refine QO ?_;refine Z7 (vs:=[]) rfl Z2h rfl ?_;refine SB (us:=dlC (default:Dln) Ji) Z2i e6 ?_;rintro _ wz ⟨hT,e6⟩;refine W ?_;refine Zj rfl rfl rfl e6 rfl rfl ?_;subst aF;exact .mk ⟨Ji,rfl,ZE.nil.up (hS.ow hT)⟩;rw [if_neg (not_not_intro aU)] at aF;refine QO ?_;refine Z7 (vs:=[(0,.I z1),(1,.I n1)]) rfl (Z8o _ _) rfl ?_;refine AP1 ((z1,n1):Spn) hr (by omega) λv1 v' w' bM _=>?_
   refine W ?_;exact ZA (n1,v',xs++ys++[(z1,n1)]) ⟨rfl,rfl,rfl,rfl,rfl,rfl,rfl,rfl,rfl,rfl,trivial⟩ ⟨bM,by simp only [Xc,Xe,Xf] at oZ ⊢;omega,aF⟩
 clear aF hr oZ;rintro ⟨due,sv,sp⟩ w18 ⟨hr,bB,aF⟩;dsimp only at hr bB aF ⊢;subst aF;have e3:=f3.up hr.2;have e4:=f4.up hr.2;have e6:=f6.up hr.2;have e8:=f8.up hr.2;have e10:=f10.up hr.2;have hS:=cP.trans hr.2;have iR:SlV [] w18 sv sp:=hr.slv (by simp);clear hr f3 f4 f6 f8 f10 cP;refine W ?_;refine Z7 (vs:=[(0,str q.name),(1,aG f),(2,.I f.to_),(3,.I due)]) rfl (Zn3 _ _ _ _) rfl ?_;refine Z0 Z2 rfl ?_;rintro _ w19 ⟨b19,rfl,rB,e19,hT⟩;refine SB (us:=dlC (⟨q.name,f,f.to_,due,0,[]⟩:Dln) Ji) (ZaN _ rfl) e19 ?_;rintro _ w20 ⟨aq,e19⟩;replace hT:=hT.ow aq;have l3:=e3.lt;have l4:=e4.lt;have l6:=e6.lt;have l8:=e8.lt;have l10:=e10.lt;replace e3:=e3.up hT;replace e4:=e4.up hT;replace e6:=e6.up hT;replace e8:=e8.up hT;replace e10:=e10.up hT;replace iR:SlV [b19] w20 sv sp:=iR.ext hT (by simp) (λb hb=>.inr (by simp at hb;omega));have g19:w.heap.size<=b19:=Xg hS.size rB;replace hS:=hS.trans hT;clear hT aq;have hN:Nte w20 b19 w20 ⟨q.name,f,f.to_,due,0,[]⟩ Ji:=⟨e19,Row.nil,Stp.refl _ _,e19.lt,by simp⟩
 clear e19;refine W ?_;refine Z0 (Z0a rfl (ZI rfl rfl rfl) rfl (Z2B w20 b19 _ _ 1 f.entry f.day _ hN (by simp))) rfl ?_;rintro _ w21 ⟨r1,hN,-,-⟩;have f4:=e4.ext hN.stp (by simp;omega);refine W ?_;refine Z0 (Z0a rfl (ZI rfl rfl rfl) rfl (Z2B w20 b19 _ _ 2 i 0 _ hN (by simp))) rfl ?_;rintro _ w22 ⟨r2,hN,-,-⟩;clear f4;have f8:=e8.ext hN.stp (by simp;omega);have lf:Stp [] w w22:=hS.own hN.stp (λc hc=>.inr (by simp at hc;omega));have bG:=gc.up lf;have db:=gd.up lf;refine W ?_;refine Z5n (σ:=Unit) (λ_=>[(2,.I (i:Int)),(3,pQ b3),(4,pQ b4),(6,pQ b6),(8,pQ b8),(15,.I y1),(17,.I due),(19,pQ b19),(20,.func (.func 53) #[] #[pQ b19]),(10,pQ b10),(13,sv),(185,.B (ok && (Z3d q.cnd || Z3d q.due)))]) (λ_ w'=>Stp [] w22 w') ?_ ?_
 . cases ok with
   | false=>
     refine QO ?_;exact QT () (Stp.refl _ _)
   | true=>
     refine QO ?_;refine CP (Stp.refl [] w22) (ZbZ kc q.cnd _ bG) λw23 hT hS=>?_;replace f8:=f8.up hT;replace db:=db.up hT;cases h1:Z3d q.cnd with
     | true=>
       refine QO ?_;exact QT () hS
     | false=>
       refine QO ?_;refine CP hS (ZbZ kd q.due _ db) λw24 hT hS=>?_;cases h2:Z3d q.due
       all_goals
        refine QO ?_;exact QT () hS
 rintro _ w23 hT;replace hN:=hN.up hT;clear bG db f8 lf hT;generalize lQ:(ok && (Z3d q.cnd || Z3d q.due))=bb at *;refine W ?_;refine JE (σ:=Value) (λ_=>[(2,.I (i:Int)),(3,pQ b3),(4,pQ b4),(6,pQ b6),(8,pQ b8),(15,.I y1),(17,.I due),(19,pQ b19),(20,.func (.func 53) #[] #[pQ b19]),(13,sv)]) (λrv w'=>Nte w20 b19 w' (dU q f due 0 ([⟨1,f.entry,f.day⟩,⟨2,i,0⟩]++if bb=true then [⟨3,s.att,s.day⟩] else [])) rv) ?_ ?_
 . cases bb with
   | false=>
     refine QO ?_;exact QT r2 hN
   | true=>
     have f10:=e10.ext hN.stp (by simp;omega);refine QO ?_;refine Z0 (Z0a rfl (ZI rfl rfl rfl) rfl (Z2B w20 b19 _ _ 3 s.att s.day _ hN (by simp))) rfl ?_;rintro _ w24 ⟨r3,hN,-,-⟩;refine W ?_;exact QT r3 hN
 clear hN;rintro r3 w24 hN;generalize kW:([⟨1,f.entry,f.day⟩,⟨2,i,0⟩]++if bb=true then [⟨3,s.att,s.day⟩] else []:List Rsn)=L1 at *;have wK:L1.length<=3:=by rw [<- kW];split<;>simp
 have gF:=iR.max;refine W ?_;refine LP (σ:=Nat×Value) (λp=>[(2,.I (i:Int)),(3,pQ b3),(4,pQ b4),(6,pQ b6),(8,pQ b8),(15,.I y1),(17,.I due),(19,pQ b19),(20,.func (.func 53) #[] #[pQ b19]),(192,sv),(193,.I sp.length),(194,.I p.1)]) (λp w'=>p.1<=sp.length/\Nte w20 b19 w' (dU q f due 0 (L1++(sp.take p.1).map (λx=>(⟨4,x.1,x.2⟩:Rsn)))) p.2) (λp=>sp.length - p.1) (0,r3) ⟨by omega,by simpa using hN⟩ ?_;clear hN;rintro ⟨k,r4⟩ w25 ⟨hk,hN⟩;dsimp only at hk hN ⊢;by_cases hlt:k<sp.length;have tN:SlV [] w25 sv sp:=iR.ext hN.stp (λb hb=>hb) (by simp);have ay:(sp.take (k+1)).map (λx=>(⟨4,x.1,x.2⟩:Rsn))=(sp.take k).map (λx=>(⟨4,x.1,x.2⟩:Rsn))++[⟨4,sp[k].1,sp[k].2⟩]:=by rw [Xi hlt,XM];rfl
 refine QO ?_;refine Z0 Z2 rfl ?_;rintro _ w26 ⟨b22,rfl,wL,e22,hA⟩;refine SA (us:=Z3.enc sp[k]) e22 ?_;rintro _ w27 ⟨dl,e22⟩;replace hA:=hA.ow dl;replace hN:=hN.up hA;refine QO ?_;refine Z0 (Z0a rfl (ZI rfl rfl rfl) rfl (Z2B w20 b19 _ _ 4 sp[k].1 sp[k].2 _ hN (by simp only [Xc,Xs,Xw];omega))) rfl ?_;rintro _ w28 ⟨r5,hN,-,-⟩;refine QO ?_;exact QL (k+1,r5) ⟨hlt,by rw [ay,<- Xx];exact hN⟩ (by dsimp only;omega);obtain rfl:k=sp.length:=by omega
 rw [Xp] at hN;have dx:=hS.own hN.stp (λc hc=>.inr (by simp at hc;omega));have f3:=e3.ext hN.stp (by simp;omega);have f4:=e4.ext hN.stp (by simp;omega);have gC:=hf.day;refine QO ?_;refine CG (Zjs f.day y1 R.sv c.stys _ (hv.up dx).ss ho.sty (by omega) (by omega)) ?_;intro uv w26 hu;have eu:(Z6P f.day y1 c.stys).length<=1000:=by
  have:=ho.sty.len;unfold Z6P;split;simp;exact Xg (XW _ _) this
 generalize hU:Z6P f.day y1 c.stys=us at *;have d7:SlV (b19 :: ob r4) w26 uv us:=hu.slv (λb hb=>by
  rcases Xb.1 hb with rfl|hb
  exact hN.blk.lt;exact (hN.row.ob_le b hb).2)
 replace hN:=hN.up hu.2;clear f3 f4 hu dx iR;have oA:=d7.max;refine QO ?_;generalize tO:L1++sp.map (λx=>(⟨4,x.1,x.2⟩:Rsn))=L2 at *;have wM:L2.length<=1003:=by rw [<- tO,Xc,Xs];omega
 refine LP (σ:=Nat×Value) (λp=>[(2,.I (i:Int)),(3,pQ b3),(4,pQ b4),(6,pQ b6),(8,pQ b8),(15,.I y1),(17,.I due),(19,pQ b19),(20,.func (.func 53) #[] #[pQ b19]),(210,uv),(211,.I us.length),(212,.I p.1)]) (λp w'=>p.1<=us.length/\Nte w20 b19 w' (dU q f due 0 (L2++(us.take p.1).map (λx=>(⟨5,x.1,x.2⟩:Rsn)))) p.2/\SlV (b19 :: ob p.2) w' uv us) (λp=>us.length - p.1) (0,r4) ⟨by omega,by simpa using hN,d7⟩ ?_;clear hN d7;rintro ⟨k,r5⟩ w27 ⟨hk,hN,d7⟩;dsimp only at hk hN ⊢;by_cases hlt:k<us.length;have tP:SlV [] w27 uv us:=d7.ext (Stp.refl [] w27) (by simp) (by simp);have ay:(us.take (k+1)).map (λx=>(⟨5,x.1,x.2⟩:Rsn))=(us.take k).map (λx=>(⟨5,x.1,x.2⟩:Rsn))++[⟨5,us[k].1,us[k].2⟩]:=by rw [Xi hlt,XM];rfl
 refine QO ?_;refine Z0 Z2 rfl ?_;rintro _ w28 ⟨b24,rfl,wN,e24,hA⟩;refine SA (us:=Z3.enc us[k]) e24 ?_;rintro _ w29 ⟨dl,e24⟩;replace hA:=hA.ow dl;replace hN:=hN.up hA;refine QO ?_;refine Z0 (Z0a rfl (ZI rfl rfl rfl) rfl (Z2B w20 b19 _ _ 5 us[k].1 us[k].2 _ hN (by simp only [Xc,Xs,Xw];omega))) rfl ?_;rintro _ w30 ⟨r6,mO,jw,rC⟩;refine QO ?_;exact QL (k+1,r6) ⟨hlt,by rw [ay,<- Xx];exact mO,(d7.up hA).ext jw (λb hb=>hb) (λb hb=>by
  rcases Xb.1 hb with rfl|hb
  exact .inl (by simp);exact (rC b hb).imp (λh=>by simp [h]) id)⟩ (by dsimp only;omega)
 obtain rfl:k=us.length:=by omega
 rw [Xp] at hN;generalize tQ:L2++us.map (λx=>(⟨5,x.1,x.2⟩:Rsn))=L3 at *;have wO:L3.length<=2003:=by rw [<- tQ,Xc,Xs];omega
 clear d7 oA;have dx:=hS.own hN.stp (λc hc=>.inr (by simp at hc;omega));have f3:=e3.ext hN.stp (by simp;omega);have f4:=e4.ext hN.stp (by simp;omega);have f8:=e8.ext hN.stp (by simp;omega);refine QO ?_;refine CP dx (ZdA c R f q.unl due _ (hv.up dx).ff (by have:=ho.fl;omega)) λw28 hT _=>?_
 replace hN:=hN.up hT;clear f3 f4 f8 hT dx;generalize hA:Z3Q c.fcts f q.unl due=a at *;obtain ⟨g,met⟩:=a;refine QO ?_;refine Z0 Z2 rfl ?_;rintro _ w29 ⟨b25,rfl,wP,e25,mh⟩;refine SA (us:=Z3.enc g) e25 ?_;rintro _ w30 ⟨dl,e25⟩;replace mh:=mh.ow dl;have rD:b25≠b19:=by have:=hN.blk.lt;omega
 replace hN:=hN.up mh;clear mh dl;refine W ?_;refine JE (σ:=Value) (λ_=>[(6,pQ b6),(19,pQ b19)]) (λrv w'=>Nte w20 b19 w' (mkD c f i q y1 due sp) rv) ?_ ?_
 . have aB:mkD c f i q y1 due sp=dU q f due (if met=true then 1 else if due<c.today then 2 else 0) (L3++if met=true then [⟨6,g.entry,g.day⟩] else []):=by
    unfold mkD;rw [hA,bg,hU];dsimp only;rw [<- tQ,<- tO,<- kW,<- lQ];simp only [Xm,YaE]
   rw [aB];cases met with
   | true=>
     refine QO ?_;refine Z6 (Zb (u:=.I 1) rfl rfl rfl rfl hN.blk (by simp)) ?_;rintro _ w31 ⟨hT,e19⟩;replace e25:=e25.ext hT (by simpa using rD);replace hN:=hN.stat (d':=dU q f due 1 L3) hT e19 rfl;refine QO ?_;refine Z0 (Z0a rfl (ZI rfl rfl rfl) rfl (Z2B w20 b19 _ _ 6 g.entry g.day _ hN (by dsimp only;omega))) rfl ?_;rintro _ w32 ⟨r7,hN,-,-⟩;refine W ?_;exact QT r7 hN
   | false=>
     have f3:=e3.ext hN.stp (by simp;omega);by_cases lI:due<c.today;refine QO ?_;refine Z6 (Zb (u:=.I 2) rfl rfl rfl rfl hN.blk (by simp)) ?_;rintro _ w31 ⟨hT,e19⟩;replace hN:=hN.stat (d':=dU q f due 2 L3) hT e19 rfl;refine QO ?_;exact QT r5 (by simpa [lI] using hN);refine QO ?_;exact QT r5 (by simpa [lI] using hN)
 clear hN e25;rintro rv w31 hN;have f6:=e6.ext hN.stp (by simp;omega);have iu:rv.oneCell'=true:=(hN.row.slv (X:=[]) (by simp)).one;have hk:=hN.blk;refine W ?_;refine SB (us:=dlC (mkD c f i q y1 due sp) rv) (ZaN _ iu) f6 ?_;rintro _ w32 ⟨hT,f6⟩;refine W ?_;refine Zj rfl rfl rfl f6 rfl rfl ?_;have dx:=hS.own hN.stp (λc hc=>.inr (by simp at hc;omega));have bh:=λb hb=>(hN.row.ob_le b hb).1;refine .mk ⟨rv,rfl,?_,dx.ow hT⟩;exact Z1X (Row.ext (Z1X (X':=[b6]) (Row.lower hN.row (by have:=hS.size;omega))) hT (λb hb=>⟨hb,λh=>by have:=bh b h;have:=hN.lt;simp at hb;omega⟩) (λb hb=>.inl hb))
abbrev DI:=Dln×Nat
structure Yld (fv:Value) (g:Nat) (cap:Array Value) (J:List DI->List Nat->World->Prop) (Pd:List DI->Dln->Nat->Prop):Prop where
 fv:fv=.func (.func g) #[] cap
 lt:∀ pre F W,J pre F W->∀ b∈F,b<W.heap.size
 up:∀ pre F W W',J pre F W->Stp [] W W'->J pre F W'
 call:∀ pre F d dv i W,J pre F W->SlV F W dv d.reas->Pd pre d i->CC g (#[.agg (dlC d dv).toArray,.I (i:Nat)]++cap) W λr W'=>∃ F',J (pre++[(d,i)]) F' W'/\Stp F W W'/\∀ b∈F',b∈F\/W.heap.size<=b
def Z76 (c:Cas) (f:Fct):Nat->List DI
 | 0=>[]
 | i+1=>Z76 c f i++if (Z0K c f i).2=true then [((Z0K c f i).1,i)] else []
def Z1E (c:Cas) (fs:List Fct):List DI:=fs.flatMap (λf=>Z76 c f c.ruls.length)
theorem Zgn (c:Cas) (fs:List Fct) (k:Nat) (h:k<fs.length):Z1E c (fs.take (k+1))=Z1E c (fs.take k)++Z76 c fs[k] c.ruls.length:=by
 unfold Z1E;rw [Xi h,Yai];simp
theorem Zco {fv:Value} {g:Nat} {fn:Func} {cap:Array Value} {J:List DI->List Nat->World->Prop} {Pd:List DI->Dln->Nat->Prop} [hf:Fun Tryz.prog g fn] (hy:Yld fv g cap J Pd)
 (c:Cas) (R:Z0T) (lv:Value) (fs:List Fct) (F0:List Nat) (w) (ho:Z5L c) (ca:∀ W,Stp F0 w W->Z1D W c R) (hl:∀ W,Stp F0 w W->SlV [] W lv fs) (fS:∀ f∈fs,Z0o f)
 (hP:∀ k (hk:k<fs.length) (i:Nat),i<c.ruls.length->(Z0K c fs[k] i).2=true->Pd (Z1E c (fs.take k)++Z76 c fs[k] i) (Z0K c fs[k] i).1 i) (h0:J [] F0 w) :
 CC 44 #[.agg (Jw c R).toArray,lv,fv] w λr W=>∃ F,J (Z1E c fs) F W/\Stp F0 w W/\∀ b∈F,b∈F0\/w.heap.size<=b:=by
 have aT:=(hl w (Stp.refl _ _)).max;have iw:=ho.rl;have fQ:=hy.fv;subst fQ;refine cW3 37 Tryz.func44 ?_;refine W ?_;refine BX (Stp.refl [] w) λb3 w1 h3 e3 _ hS=>?_;replace e3:Blk w1 b3 37 (Jw c R):=e3;have fe:=hl w1 hS.mn;refine W ?_
 refine Zr (σ:=Nat×List Nat) (λq=>[(2,.func (.func g) #[] cap),(3,pQ b3),(11,lv),(12,.I fs.length),(13,.I q.1)])
  (λq W=>q.1<=fs.length/\J (Z1E c (fs.take q.1)) q.2 W/\Stp F0 w W/\Blk W b3 37 (Jw c R)/\b3∉q.2/\∀ b∈q.2,b∈F0\/w.heap.size<=b) (λq=>fs.length - q.1) (0,F0) ⟨rfl,rfl,rfl,rfl,rfl,trivial⟩
  ⟨by omega,by simpa [Z1E] using hy.up _ _ _ _ h0 hS,hS.mn,e3,λh=>by have:=hy.lt _ _ _ h0 _ h;omega,λb hb=>.inl hb⟩ ?_
 clear e3 fe hS;rintro ⟨k,F⟩ w2 ⟨hk,hJ,hS,e3,eK,iT⟩;dsimp only at hk hJ eK iT ⊢;have dR:=hl w2 hS;by_cases hlt:k<fs.length;have wQ:=fS _ (Xd hlt);have hstep:=Zgn c fs k hlt;refine QO ?_;refine Z0 Z2 rfl ?_;rintro _ w3 ⟨b7,rfl,fg,e7,hA⟩;refine SA (us:=Z3.enc fs[k]) e7 ?_;rintro _ w4 ⟨dl,e7⟩;replace hA:=hA.ow dl;have lg:b7∉F:=λh=>by have:=hy.lt _ _ _ hJ _ h;omega
 replace e3:=e3.up hA;replace hJ:=hy.up _ _ _ _ hJ hA;replace hS:=hS.trans hA.mn;clear hA dl dR;have dO:=(ca w4 hS).rr;refine QO ?_
 refine Zr (σ:=Nat×List Nat) (λq=>[(2,.func (.func g) #[] cap),(3,pQ b3),(7,pQ b7),(11,lv),(12,.I fs.length),(13,.I k),(19,.I c.ruls.length),(20,.I q.1)])
  (λq W=>q.1<=c.ruls.length/\J (Z1E c (fs.take k)++Z76 c fs[k] q.1) q.2 W/\Stp F0 w W/\Blk W b3 37 (Jw c R)/\Blk W b7 45 (Z3.enc fs[k])/\b3∉q.2/\b7∉q.2/\∀ b∈q.2,b∈F0\/w.heap.size<=b) (λq=>c.ruls.length - q.1) (0,F) ⟨rfl,rfl,rfl,rfl,rfl,rfl,rfl,rfl,trivial⟩
  ⟨by omega,by simpa [Z76] using hJ,hS,e3,e7,eK,lg,iT⟩ ?_
 clear hJ hS e3 e7 eK lg iT dO;rintro ⟨i,F⟩ w5 ⟨hi,hJ,hS,e3,e7,eK,lg,iT⟩;dsimp only at hi hJ eK lg iT ⊢;by_cases lh:i<c.ruls.length
 . have cU:=ca w5 hS
   have ay:Z76 c fs[k] (i+1)=Z76 c fs[k] i++if (Z0K c fs[k] i).2=true then [((Z0K c fs[k] i).1,i)] else []:=rfl
   have tR:=hP k hlt i lh;refine QO ?_;refine CM (ZI rfl rfl rfl) (ZeS c R fs[k] i w5 cU ho wQ (by unfold I64;omega)) ?_;rintro _ w6 ⟨rv,rfl,ab⟩;have hA:=ab.2;have ax:SlV F w6 rv (Z0K c fs[k] i).1.reas:=ab.slv (λb hb=>hy.lt _ _ _ hJ b hb);replace e3:=e3.up hA;replace e7:=e7.up hA;replace hJ:=hy.up _ _ _ _ hJ hA;replace hS:=hS.trans hA.mn;clear hA ab cU;generalize Z0K c fs[k] i=o at *;obtain ⟨d,ok⟩:=o;dsimp only at ay tR ax;have bC:=ax.one;refine QO ?_;refine Z0 Z2 rfl ?_;rintro _ w7 ⟨b9,rfl,iS,e9,hA⟩;refine SB (us:=dlC d rv) (ZaN _ bC) e9 ?_;rintro _ w8 ⟨dl,e9⟩;replace hA:=hA.ow dl;have yr:b9∉F:=λh=>by have:=hy.lt _ _ _ hJ _ h;omega
   replace e3:=e3.up hA;replace e7:=e7.up hA;replace hJ:=hy.up _ _ _ _ hJ hA;replace hS:=hS.trans hA.mn;replace ax:=ax.up hA;clear hA dl;cases ok with
   | false=>
     refine QO ?_;exact QL (i+1,F) ⟨lh,by rw [ay,if_neg (by simp),XH];exact hJ,hS,e3,e7,eK,lg,iT⟩ (by dsimp only;omega)
   | true=>
     refine QO ?_;refine Z0 (Z0a rfl (Zf rfl rfl) rfl (hy.call _ F d rv i w8 hJ ax (tR rfl))) rfl ?_;rintro _ w9 ⟨F',my,hA,lj⟩;refine QO ?_;have z3:=e3.lt;have z7:=e7.lt;refine QL (i+1,F') ⟨lh,by rw [ay,if_pos rfl,<- Xx];exact my,hS.own hA iT,e3.ext hA eK,e7.ext hA lg,λh=>?_,λh=>?_,λb hb=>?_⟩ (by dsimp only;omega);rcases lj _ h with h|h
     exact eK h;omega;rcases lj _ h with h|h
     exact lg h;omega;rcases lj _ hb with h|h
     exact iT _ h;exact .inr (by have:=hS.size;omega)
 obtain rfl:i=c.ruls.length:=by omega
 refine QO ?_;exact QL (k+1,F) ⟨hlt,by rw [hstep];exact hJ,hS,e3,eK,iT⟩ (by dsimp only;omega);obtain rfl:k=fs.length:=by omega
 rw [Xp] at hJ;refine RT ?_;exact ⟨F,hJ,hS,iT⟩
abbrev Z77 (x:Fct):Value:=aG x
theorem ZsE (x y:Fct) (w):(Op.equal 45 (Z77 x) (Z77 y)).run Tryz.prog w=.ok (decide (x=y)) w:=by
 have h1:Program.stoodInHeld Tryz.prog 45=false:=by kernel_rfl
 obtain ⟨i,hi⟩:∃ i,Tryz.prog.info? 3=some i:=by
  have:=(inferInstance:Siz Tryz.prog 3 1).h;cases h:Tryz.prog.info? 3 with
  | none=>rw [h] at this;cases this
  | some i=>exact ⟨i,rfl⟩
 obtain ⟨a,b,c,d,e,f⟩:=x;obtain ⟨a',b',c',d',e',f'⟩:=y;simp [Z77,Z3.enc,Op.equal,Op.maxDepth,run_equalIn_struct,h1,Program.fieldsOf,Tryz.underlying45,Op.eqFields,part,Und.isAgg,Siz.run,Z0C,run_equalIn_int w _ _ .i64 .i64 _ _ Tryz.underlying3,run_equalIn_string w _ _ _ _ Tryz.underlying9];repeat' split
 all_goals simp_all
theorem Zn4 (em:Bool) (x:Fct) (w):(Instr.checkKey em 10000 45 (Z77 x)).run Tryz.prog w=.ok () w:=by kernel_rfl
instance:Zbc Tryz.prog 45 Fct where
 enc:=Z77
 chk:=Zn4
 find:=λa es l w hk=>by
  have h2:=run_findKey_eq (P:=Tryz.prog) (k:=45) w (by kernel_rfl) (Z77 a) es;have h3:=Z2l Z77 ZsE a w es l 0 hk;simp only [XK] at h3;exact h2.trans h3
theorem ZeT {κ:Type} [DecidableEq κ] (l:List κ) (a:κ):Z3p (l.map (λx=>(x,Value.bool true))) a (.B false)=.B (decide (a∈l)):=by
 unfold Z3p;cases h:(l.map (λx=>(x,Value.bool true))).find? (λp=>decide (p.1=a)) with
 | none=>
   rw [Yao] at h;rw [decide_eq_false (λha=>absurd (h (a,.B true) (XG.2 ⟨a,ha,rfl⟩)) (by simp))]
 | some p=>
   have h1:=X2 h;have h2:=Ybk h;obtain ⟨x,hx,rfl⟩:=XG.1 h1;have:x=a:=by simpa using h2
   subst this;simp [hx]
def Z0L (c:Cas) (s:List Fct×List Fct) (p:DI):List Fct×List Fct:=
 let f:=Zcc c p.1 p.2
 if f.2=true/\f.1∉s.1 then (s.1++[f.1],s.2++[f.1]) else s
theorem Zgo (c:Cas) (s:List Fct×List Fct) (p:DI):(Z0L c s p).2.length<=s.2.length+1:=by
 unfold Z0L;dsimp only;split<;>simp
theorem Z6s (c:Cas):∀ (l:List DI) (s:List Fct×List Fct),(l.foldl (Z0L c) s).2.length<=s.2.length+l.length
 | [],s=>by simp
 | p :: l, s => by
   have h1:=Z6s c l (Z0L c s p);have h2:=Zgo c s p;rw [X5,Xe];omega
structure FcK where
 c:Cas
 R:Z0T
 w0:World
 b1:Nat
 b3:Nat
 r:Nat
 b9:Nat
 known:List Fct
structure ZnT (K:FcK):Prop where
 d1:K.b1≠K.r/\K.b1≠K.b9
 d2:K.b3≠K.r/\K.b3≠K.b9
 d3:K.r≠K.b9
 l1:K.b1<K.w0.heap.size
 l3:K.b3<K.w0.heap.size
 lr:K.r<K.w0.heap.size
 l9:K.b9<K.w0.heap.size
 e1:Blk K.w0 K.b1 37 (Jw K.c K.R)
 e3:Blk K.w0 K.b3 108 [.map (some K.r)]
 rr:∀ W,Stp [K.r,K.b9] K.w0 W->SlV [] W K.R.rv K.c.ruls
structure FcJ (K:FcK) (pre:List DI) (F:List Nat) (W:World):Prop where
 ex:∃ nv,F=K.r :: K.b9 :: ob nv/\Blk W K.b9 24 [nv]/\Row [K.r,K.b9] W K.w0.heap.size 45 nv (pre.foldl (Z0L K.c) (K.known,[])).2
 map:JF Z77 W K.r ((pre.foldl (Z0L K.c) (K.known,[])).1.map (λf=>(f,.B true)))
 stp:Stp [K.r,K.b9] K.w0 W
theorem ZdR (K:FcK) (hK:ZnT K):Yld (.func (.func 46) #[] #[.pointer (some ⟨K.b1,0,none⟩),.pointer (some ⟨K.b3,0,none⟩),.pointer (some ⟨K.b9,0,none⟩)]) 46 #[.pointer (some ⟨K.b1,0,none⟩),.pointer (some ⟨K.b3,0,none⟩),.pointer (some ⟨K.b9,0,none⟩)] (FcJ K)
 (λpre d i=>i<K.c.ruls.length/\(-1000000000<=d.due/\d.due<=1000000000/\-1000000000<=d.trig.day/\d.trig.day<=1000000000)/\pre.length<=300000000000):=by
 obtain ⟨⟨d1,d1'⟩,⟨d2,d2'⟩,d3,l1,l3,lr,l9,E1,E3,dO⟩:=hK;refine ⟨rfl,?_,?_,?_⟩;rintro pre F Y ⟨⟨nv,rfl,e9,ab⟩,hm,hS⟩ b hb;have:=hS.size;simp only [Xb] at hb;rcases hb with rfl|rfl|hb
 omega;omega;exact (ab.ob_le b hb).2;rintro pre F Y Y' ⟨⟨nv,rfl,e9,ab⟩,hm,hS⟩ hT;exact ⟨⟨nv,rfl,e9.up hT,ab.up hT⟩,hm.up hT,hS.trans hT.mn⟩
 . rintro pre F d dv i Y ⟨⟨nv,rfl,e9,ab⟩,hm,hS⟩ ax ⟨hi,hb,cr⟩
   have dS:=Z6s K.c pre (K.known,[]);simp only [Xf,XK] at dS;have ay:∀ p:DI,(pre++[p]).foldl (Z0L K.c) (K.known,[])=Z0L K.c (pre.foldl (Z0L K.c) (K.known,[])) p:=λp=>by simp
   have ay:=ay (d,i);have bC:=ax.one;have hW:=hS.size;have eC:=λb hb=>(ab.ob_le b hb)
   generalize pre.foldl (Z0L K.c) (K.known,[])=s at *;refine cW5 29 Tryz.func46 ?_;refine W ?_;refine BX (Stp.refl [] Y) λb5 w1 h5 e5 hT _=>?_;replace e5:Blk w1 b5 56 (dlC d dv):=e5;have e1:=E1.ext (hS.trans hT.mn) (by simp [d1,d1']);have e3:=E3.ext (hS.trans hT.mn) (by simp [d2,d2']);have fA:=dO w1 (hS.trans hT.mn);replace e9:=e9.up hT;replace ab:=ab.up hT;replace hm:=hm.up hT;have jx:SlV [] w1 dv d.reas:=ax.ext hT (by simp) (by simp);have dI:=hT;clear hT;refine W ?_;refine CP (Stp.refl [] w1) (Zcd K.c K.R d dv i w1 fA jx hi hb) λw2 hT _=>?_;have g2:Y.heap.size<=w2.heap.size:=Xg dI.size hT.size;generalize j6:Zcc K.c d i=fo at *;obtain ⟨f,ok⟩:=fo;refine W ?_;refine Z0 Z2 rfl ?_;rintro _ w3 ⟨b7,rfl,fg,e7,aq⟩;refine SA (us:=Z3.enc f) e7 ?_;rintro _ w4 ⟨cD,e7⟩;replace hT:=hT.trans (aq.ow cD);clear aq cD;replace e1:=e1.up hT;replace e3:=e3.up hT;replace e9:=e9.up hT;replace ab:=ab.up hT;replace hm:=hm.up hT;replace dI:=dI.trans hT;clear hT e5 fA jx;have g7:Y.heap.size<=b7:=by omega
   have nL:Z0L K.c s (d,i)=if ok=true/\f∉s.1 then (s.1++[f],s.2++[f]) else s:=by unfold Z0L;rw [j6]
   rw [nL] at ay;clear nL;have skip:(¬ (ok=true/\f∉s.1))->∀ w',Stp [] w4 w'->∃ F',FcJ K (pre++[(d,i)]) F' w'/\Stp (K.r :: K.b9 :: ob nv) Y w'/\∀ b∈F',b∈K.r :: K.b9 :: ob nv\/Y.heap.size<=b:=λhn w' hT=>by
    rw [if_neg hn] at ay;exact ⟨_,⟨⟨nv,rfl,e9.up hT,by rw [ay];exact ab.up hT⟩,by rw [ay];exact hm.up hT,hS.trans ((dI.trans hT).mn)⟩,(dI.trans hT).mn,λb hb=>.inl hb⟩
   cases ok with
   | false=>
     refine QO ?_;refine WR ?_;exact .mk (skip (by simp) _ (Stp.refl _ _))
   | true=>
     refine QO ?_;refine Z8 (Z1G (a:=f) rfl rfl hm) rfl ?_;rw [ZeT];by_cases bK:f∈s.1;rw [decide_eq_true bK];refine QO ?_;refine WR ?_;exact .mk (skip (by simp [bK]) _ (Stp.refl _ _));rw [if_pos ⟨rfl,bK⟩] at ay;rw [decide_eq_false bK];clear skip;refine QO ?_;refine Z6 (Z1F (a:=f) rfl rfl rfl hm (λp hp=>by
      obtain ⟨x,hx,rfl⟩:=XG.1 hp;exact λh=>bK (h ▸ hx))) ?_
     rintro _ w5 ⟨tS,dV⟩;have z9:K.b9<w4.heap.size:=e9.lt;replace e9:=e9.ext dV (by simp;omega);replace e7:=e7.ext dV (by simp;omega);replace ab:=ab.ext (X':=[K.r,K.b9]) dV (λb hb=>⟨by simp at hb;simp [hb],λh=>by simp at hb;have:=(eC b h).1;omega⟩) (λb hb=>.inl hb);refine QO ?_;refine APG (X:=[K.r,K.b9]) (base:=K.w0.heap.size) f ab (λb hb=>by have:=dV.size;have:=dI.size;simp at hb;omega) (by have:=dV.size;have:=dI.size;omega) rfl (by omega) (by simp only [maxLen];omega) λv1 nv' w6 rE jw bh=>?_
     replace e9:=e9.ext jw (λh=>by have:=(eC _ h).1;omega);focus repeat'(first|refine W1 ?_|omega|refine VG ?_ ?_<;>intro hg|refine VC ?_ ?_<;>intro hc)
     have nM:SlV [K.r,K.b9] w6 nv' (s.2++[f]):=rE.slv (λb hb=>by simp at hb;omega);refine Z6 (Zb (u:=nv') rfl rfl nM.cells nM.one e9 (by simp)) ?_;rintro _ w7 ⟨rF,e9⟩;refine QO ?_;refine WR ?_;have rG:=λb hb=>rE.ob_le b hb;have nN:Stp (K.r :: K.b9 :: ob nv) w4 w7:=(dV.mn.trans (jw.mono (λb hb=>by simp [hb]))).trans rF.mn;refine .mk ⟨K.r :: K.b9 :: ob nv',⟨⟨nv',rfl,e9,?_⟩,?_,?_⟩,dI.mn.trans nN,λb hb=>?_⟩;rw [ay];exact rE.ext rF (λb hb=>⟨by simp at hb;simp [hb],λh=>by simp at hb;have:=(rG b h).1;omega⟩) (λb hb=>.inl hb);rw [ay];have wR:JF Z77 w7 K.r (s.1.map (λf=>(f,Value.bool true))++[(f,Value.bool true)]):=(tS.ext jw (λh=>by have:=(eC _ h).1;omega)).ext rF (by simp;omega);rw [XM];exact wR;exact (hS.trans dI.mn).own nN (λb hb=>by
      simp only [Xb] at hb;rcases hb with rfl|rfl|hb
      exact .inl (by simp);exact .inl (by simp);exact .inr (eC b hb).1)
     simp only [Xb] at hb ⊢;rcases hb with rfl|rfl|hb
     exact .inl (.inl rfl);exact .inl (.inr (.inl rfl));rcases bh b hb with h|h
     exact .inl (.inr (.inr h));exact .inr (by have:=dV.size;have:=dI.size;omega)
open Go Go.Eng Go.RowKit Go.Shelf Go.Sort
structure Z4J {α:Type} (cf:α->α->Int):Prop where
 anti:∀ x y,cf x y<0↔0<cf y x
 trans:∀ x y z,cf x y<=0->cf y z<=0->cf x z<=0
theorem Z4J.swo {α:Type} {cf:α->α->Int} (h:Z4J cf):SWO (ltOf cf):=by
 have e:∀ x y,ltOf cf x y=decide (cf x y<0):=λ_ _=>rfl;refine ⟨λx=>?_,λx y z h1 h2=>?_,λx y z h1 h2=>?_⟩;have:=h.anti x x;rw [e];simp;omega;rw [e] at *;simp only [decide_eq_true_eq] at *;have a1:=h.anti x y;have a2:=h.anti x z;by_cases hz:cf x z<0;exact hz;have:=h.trans y z x (by omega) (by omega);omega;rw [e] at *;simp only [decide_eq_false_iff_not] at *;have a1:=h.anti x y;have a2:=h.anti y z;have a3:=h.anti x z;have:=h.trans z y x (by omega) (by omega);omega
theorem Z2E {α:Type} (f:α->Int):Z4J (λx y:α=>cmI (f x) (f y)):=by
 have key:∀ a b:Int,(cmI a b<0↔a<b)/\(0<cmI a b↔b<a):=by
  intro a b;unfold cmI;by_cases h1:a<b;simp [h1];omega;by_cases h2:b<a;simp [h1,h2];simp [h1,h2]
 refine ⟨λx y=>?_,λx y z h1 h2=>?_⟩;rw [(key _ _).1,(key _ _).2];have a1:=key (f x) (f y);have a2:=key (f y) (f z);have a3:=key (f x) (f z)
 try dsimp only at *
 by_cases h:0<cmI (f x) (f z);have:=a3.2.1 h;have:¬ f y<f x:=λhh=>by have:=a1.2.2 hh;omega
 have:¬ f z<f y:=λhh=>by have:=a2.2.2 hh;omega
 omega;omega
theorem Z6t:∀ a:Str,ltS a a=false
 | []=>rfl
 | x :: a => by
   show (decide (x<x) || (x == x && ltS a a))=false;rw [Z6t a];simp
theorem ZaO:∀ a b:Str,ltS a b=true\/a=b\/ltS b a=true
 | [],[]=>.inr (.inl rfl)
 | [],_ :: _=>.inl rfl
 | _ :: _,[]=>.inr (.inr rfl)
 | x :: a, y :: b => by
   have e1:ltS (x :: a) (y :: b)=(decide (x<y) || (x == y && ltS a b)):=rfl;have e2:ltS (y :: b) (x :: a)=(decide (y<x) || (y == x && ltS b a)):=rfl;rw [e1,e2];rcases Nat.lt_trichotomy x.toNat y.toNat with h|h|h
   exact .inl (by simp [UInt8.lt_iff_toNat_lt,h]);obtain rfl:x=y:=UInt8.toNat_inj.1 h;rcases ZaO a b with h|h|h
   exact .inl (by simp [h]);exact .inr (.inl (by rw [h]));exact .inr (.inr (by simp [h]));exact .inr (.inr (by simp [UInt8.lt_iff_toNat_lt,h]))
theorem Z8p:∀ a b c:Str,ltS a b=true->ltS b c=true->ltS a c=true
 | [],[],_,h,_=>by cases h
 | [],_ :: _,[],_,h=>by cases h
 | [],_ :: _,_ :: _,_,_=>rfl
 | _ :: _,[],_,h,_=>by cases h
 | _ :: _,_ :: _,[],_,h=>by cases h
 | x :: a, y :: b, z :: c, h1, h2 => by
   have e1:ltS (x :: a) (y :: b)=(decide (x<y) || (x == y && ltS a b)):=rfl;have e2:ltS (y :: b) (z :: c)=(decide (y<z) || (y == z && ltS b c)):=rfl;have e3:ltS (x :: a) (z :: c)=(decide (x<z) || (x == z && ltS a c)):=rfl;rw [e1] at h1;rw [e2] at h2;rw [e3];simp only [YaE,decide_eq_true_eq,Xm,beq_iff_eq,UInt8.lt_iff_toNat_lt] at *;rcases h1 with h1|⟨rfl,h1⟩
   rcases h2 with h2|⟨rfl,h2⟩
   exact .inl (by omega);exact .inl h1;rcases h2 with h2|⟨rfl,h2⟩
   exact .inl h2;exact .inr ⟨rfl,Z8p a b c h1 h2⟩
theorem Z21 (a b:Str):(Z3P a b<0↔ltS a b=true)/\(0<Z3P a b↔ltS b a=true):=by
 unfold Z3P;cases h1:ltS a b with
 | true=>
   have h2:ltS b a=false:=by
    cases h:ltS b a with
    | false=>rfl
    | true=>have:=Z8p a b a h1 h;rw [Z6t] at this;cases this
   simp [h2]
 | false=>
   rcases ZaO a b with h|rfl|h
   rw [h1] at h;cases h;simp [h1];have aU:a≠b:=λe=>by subst e;rw [Z6t] at h;cases h
   simp [h,aU]
theorem Zgp {α:Type} (f:α->Str):Z4J (λx y:α=>Z3P (f x) (f y)):=by
 refine ⟨λx y=>?_,λx y z h1 h2=>?_⟩;rw [(Z21 _ _).1,(Z21 _ _).2]
 try dsimp only at *
 by_cases h:0<Z3P (f x) (f z)
 . exfalso
   have g:=(Z21 _ _).2.1 h;have n1:ltS (f y) (f x)=false:=by
    cases hh:ltS (f y) (f x) with
    | false=>rfl
    | true=>have:=(Z21 (f x) (f y)).2.2 hh;omega
   have n2:ltS (f z) (f y)=false:=by
    cases hh:ltS (f z) (f y) with
    | false=>rfl
    | true=>have:=(Z21 (f y) (f z)).2.2 hh;omega
   rcases ZaO (f x) (f y) with a|a|a
   have:=Z8p _ _ _ g a;rw [n2] at this;cases this;rw [a] at g;rw [n2] at g;cases g;rw [n1] at a;cases a
 omega
def lx (a b:Int):Int:=if a≠0 then a else b
theorem Z4J.lx {α:Type} {c1 c2:α->α->Int} (h1:Z4J c1) (h2:Z4J c2):Z4J (λx y=>lx (c1 x y) (c2 x y)):=by
 refine ⟨λx y=>?_,λx y z a b=>?_⟩;have:=h1.anti x y;have:=h1.anti y x;have:=h2.anti x y;unfold YtipfkbkkndacjaaGreatDoor.lx
 try dsimp only
 split<;>split<;>omega
 unfold YtipfkbkkndacjaaGreatDoor.lx at *
 try dsimp only at *
 have a1:=h1.anti x y;have a1':=h1.anti y x;have a2:=h1.anti y z;have a2':=h1.anti z y;have a3:=h1.anti x z;have a3':=h1.anti z x;have t1:=h1.trans x y z;have t2:=h1.trans y z x;have t3:=h1.trans z x y;have t4:=h2.trans x y z;split at a<;>split at b<;>split<;>omega
theorem Zk5 (a:Int) (l:List Int):orL (a :: l)=lx a (orL l):=by
 unfold orL lx;by_cases h:a=0<;>simp [h]
theorem ZeU (f g:Fct):Z4z f g=lx (cmI f.day g.day) (lx (cmI f.entry g.entry) (lx (Z3P f.kind g.kind) (lx (cmI f.by_ g.by_) (lx (cmI f.to_ g.to_) (cmI f.amt g.amt))))):=by
 unfold Z4z;simp only [Zk5];congr 5;unfold lx orL;by_cases h:cmI f.amt g.amt=0<;>simp [h]
theorem Z4s:Z4J Z4z:=by
 have:Z4z=λf g:Fct=>lx (cmI f.day g.day) (lx (cmI f.entry g.entry) (lx (Z3P f.kind g.kind) (lx (cmI f.by_ g.by_) (lx (cmI f.to_ g.to_) (cmI f.amt g.amt))))):=by
  funext f g;exact ZeU f g
 rw [this];exact (Z2E _).lx ((Z2E _).lx ((Zgp _).lx ((Z2E _).lx ((Z2E _).lx (Z2E _)))))
theorem Z5M {a b:Int} (h:lx a b=0):a=0/\b=0:=by
 unfold lx at h;split at h<;>omega
theorem Z3X {a b:Int} (h:cmI a b=0):a=b:=by
 unfold cmI at h;split at h;omega;split at h<;>omega
theorem Zgq {a b:Str} (h:Z3P a b=0):a=b:=by
 rcases ZaO a b with g|g|g
 have:=(Z21 a b).1.2 g;omega;exact g;have:=(Z21 a b).2.2 g;omega
theorem Zgr {f g:Fct} (h:Z4z f g=0):f=g:=by
 rw [ZeU] at h;obtain ⟨h1,h⟩:=Z5M h;obtain ⟨h2,h⟩:=Z5M h;obtain ⟨h3,h⟩:=Z5M h;obtain ⟨h4,h⟩:=Z5M h;obtain ⟨h5,h6⟩:=Z5M h;obtain ⟨a,b,c,d,e,k⟩:=f;obtain ⟨a',b',c',d',e',k'⟩:=g
 try dsimp only at *
 rw [Z3X h1,Z3X h2,Zgq h3,Z3X h4,Z3X h5,Z3X h6]
theorem Z9A {α:Type} {cf:α->α->Int} (h:Z4J cf) (h0:∀ x y,cf x y=0->x=y):∀ {l m:List α},l.Perm m->l.Pairwise (λa b=>¬ cf b a<0)->m.Pairwise (λa b=>¬ cf b a<0)->l=m
 | [],m,hp,_,_=>(List.nil_perm.1 hp).symm
 | x :: l,[],hp,_,_=>by have:=hp.length_eq;simp at this
 | x :: l, y :: m, hp, h1, h2 => by
   rw [X0] at h1 h2;have oZ:x=y:=by
    rcases Xb.1 (hp.mem_iff.1 (YaO)) with e|e
    exact e;rcases Xb.1 (hp.symm.mem_iff.1 (YaO)) with e'|e'
    exact e'.symm;have a1:=h2.1 x e;have a2:=h1.1 y e';have b1:=h.anti x y;have b2:=h.anti y x;exact h0 x y (by omega)
   subst oZ;rw [Z9A h h0 hp.cons_inv h1.2 h2.2]
def ZdS (s:Fct):List Fct->List Fct
 | []=>[s]
 | x :: l=>if Z4z s x<=0 then s :: x :: l else x :: ZdS s l
def Z6U (l:List Fct):List Fct:=l.foldr ZdS []
theorem Z6u (s:Fct):∀ l,(ZdS s l).Perm (s :: l)
 | []=>YaB _
 | x :: l => by
   rw [ZdS];split;exact YaB _
   . exact ((Z6u s l).cons x).trans (List.Perm.swap _ _ _)
theorem Z6V (s:Fct):∀ l:List Fct,l.Pairwise (λa b=>¬ Z4z b a<0)->(ZdS s l).Pairwise (λa b=>¬ Z4z b a<0)
 | [],_=>by simp [ZdS]
 | x :: l, h => by
   rw [ZdS];rw [X0] at h;split;rename_i hlt;refine X0.2 ⟨λy hy=>?_,X0.2 h⟩;rcases Xb.1 hy with rfl|hy
   have:=Z4s.anti y s;omega;have a1:=h.1 y hy;have a2:=Z4s.anti y x;have a3:=Z4s.anti y s;have:=Z4s.trans s x y hlt (by omega);omega;rename_i hlt;refine X0.2 ⟨λy hy=>?_,Z6V s l h.2⟩;rcases Xb.1 ((Z6u s l).mem_iff.1 hy) with rfl|hy
   omega;exact h.1 y hy
theorem Z0U:∀ l,(Z6U l).Perm l
 | []=>YaB _
 | x :: l=>(Z6u x _).trans ((Z0U l).cons x)
theorem Z5N:∀ l,(Z6U l).Pairwise (λa b=>¬ Z4z b a<0)
 | []=>List.Pairwise.nil
 | x :: l=>Z6V x _ (Z5N l)
theorem Zk6 {l m:List Fct} (hp:m.Perm l) (hs:m.Pairwise (λa b=>¬ Z4z b a<0)):m=Z6U l:=Z9A Z4s (λ_ _=>Zgr) (hp.trans (Z0U l).symm) hs (Z5N l)
theorem Z6W {X:List Nat} {base:Nat} {v:Value} {zs:List Fct} {w} (h:Row X w base 45 v zs) (bE:zs.length<=400000000000) :
 CC 42 #[v,.func (.func 43) #[] #[]] w λr w'=>r=.tuple #[]/\Row X w' base 45 v (Z6U zs)/\Stp (ob v) w w':=by
 refine Calls.ret (Z9p (β:=Fct) (by decide) Tryz.sortFct Tryz.isAgg45 Tryz.sizeOf45 Z4z Z4s.swo 43 (λx y w=>ZvO x y w) h (by omega)) ?_;rintro _ w' ⟨rfl,zs',hp,hs,hr,hS⟩;rw [<- Zk6 hp (Yak.2 λi j hi hj dC=>hs i j hi hj dC)];exact ⟨rfl,hr,hS⟩
def ZX (c:Cas):Nat->List Fct×List Fct×List Fct
 | 0=>(c.fcts,c.fcts,[])
 | k+1=>let s:=ZX c k;let r:=(Z1E c s.2.1).foldl (Z0L c) (s.1,[]);(r.1,r.2,s.2.2++r.2)
def Z1a (c:Cas):List Fct:=Z6U (ZX c 16).2.2
theorem Z6X (c:Cas) {k:Nat} (h:(ZX c k).2.1=[]):∀ j,(ZX c (k+j)).2.2=(ZX c k).2.2/\(ZX c (k+j)).2.1=[]
 | 0=>⟨rfl,h⟩
 | j + 1 => by
   obtain ⟨h1,h2⟩:=Z6X c h j;rw [<- Yaq,ZX];dsimp only;rw [h2];simp [Z1E,h1]
theorem Z5O (c:Cas) (f:Fct):∀ i,(Z76 c f i).length<=i
 | 0=>Xn _
 | i + 1 => by
   rw [Z76,Xc];have:=Z5O c f i;split<;>simp<;>omega
theorem Z5P (c:Cas):∀ fs:List Fct,(Z1E c fs).length<=fs.length * c.ruls.length
 | []=>by simp [Z1E]
 | f :: fs => by
   have h1:=Z5P c fs;have h2:=Z5O c f c.ruls.length;unfold Z1E at h1 ⊢;rw [YaT,Xc,Xe,X9];omega
theorem Zcp {c:Cas} {f:Fct} {p:DI}:∀ i,p∈Z76 c f i->p.2<i/\p.1=(Z0K c f p.2).1/\(Z0K c f p.2).2=true
 | 0,h=>by cases h
 | i + 1, h => by
   rw [Z76] at h;rcases Xh.1 h with h|h
   obtain ⟨h1,h2⟩:=Zcp i h;exact ⟨by omega,h2⟩;split at h;rename_i ht;simp only [Xl] at h;subst h;exact ⟨by dsimp only;omega,rfl,ht⟩;cases h
theorem Zcq {c:Cas} {fs:List Fct} {p:DI} (h:p∈Z1E c fs):∃ f∈fs,p.2<c.ruls.length/\p.1=(Z0K c f p.2).1/\(Z0K c f p.2).2=true:=by
 unfold Z1E at h;obtain ⟨f,hf,hp⟩:=YbB.1 h;exact ⟨f,hf,Zcp _ hp⟩
theorem Z7j {c:Cas} {f:Fct} {r:Int} (ho:Z5L c) (hf:Z0o f) (h:(Z0K c f r).2=true):(Z0K c f r).1.trig=f/\0<=(Z0K c f r).1.due/\(Z0K c f r).1.due<=3652058:=by
 have bR:=Zk4 ho hf;have no:∀ {P:Prop},(noD.2=true)->P:=λh=>by cases h
 unfold Z0K at h ⊢;by_cases hr:¬ (0<=r/\r<=(c.ruls.length:Int) - 1);rw [if_pos hr] at h;exact no h;rw [if_neg hr] at h ⊢;have hq:c.ruls.getD r.toNat crZ∈c.ruls:=by
  have hl:r.toNat<c.ruls.length:=by omega
  simp [hl]
 have fV:=ho.due _ hq;generalize c.ruls.getD r.toNat crZ=q at *;dsimp only at h ⊢;have oY:=Z8m (o:=opn c) bR fV;generalize J8 (opn c) (evL c f) q.due=y at *;generalize J8 (opn c) (evL c f) q.cnd=x at *;split at h;exact no h;split at h;exact no h;split at h;exact no h;rename_i g1 g2 g3;rw [if_neg g1,if_neg g2,if_neg g3];have hy:0<=y.1/\y.1<=3652058:=by
  rcases oY (Decidable.not_not.1 g3) with h|h|h
  omega;omega;exact h.2
 generalize Z8b f.day y.1 c.stys=z at *;split at h;exact no h;rename_i g4;rw [if_neg g4];split at h;rename_i g5;rw [if_pos g5];exact ⟨rfl,hy⟩;rename_i g5;rw [if_neg g5];split at h;exact no h;rename_i g6;rw [if_neg g6];have:=ZL.1 (Z3O (Decidable.not_not.1 g6)).1;exact ⟨rfl,this⟩
theorem ZsF {c:Cas} {d:Dln} {i:Nat} (ho:Z5L c) (hf:Z0o d.trig) (h:(Zcc c d i).2=true):Z0o (Zcc c d i).1:=by
 have h1:=hf.day;have h2:=ho.today;unfold Zcc at h;simp only [decide_eq_true_eq] at h;refine ⟨?_,hf.to_,hf.by_,hf.amt⟩;show 0<=max d.due d.trig.day+1/\max d.due d.trig.day+1<=3652058;omega
theorem Zcr {c:Cas} (ho:Z5L c):∀ (l:List DI) (s:List Fct×List Fct),(∀ p∈l,Z0o p.1.trig)->(∀ f∈s.2,Z0o f)->∀ f∈(l.foldl (Z0L c) s).2,Z0o f
 | [],s,_,hs=>hs
 | p :: l, s, hl, hs => by
   rw [X5];refine Zcr ho l _ (λq hq=>hl q (by simp [hq])) ?_;unfold Z0L;dsimp only;split;rename_i hc;intro f hf;rcases Xh.1 hf with h|h
   exact hs f h;simp only [Xl] at h;subst h;exact ZsF ho (hl p (by simp)) hc.1;exact hs
theorem Zk7 {c:Cas} (ho:Z5L c) {fs:List Fct} (fS:∀ f∈fs,Z0o f) (known:List Fct):∀ f∈((Z1E c fs).foldl (Z0L c) (known,[])).2,Z0o f:=
 Zcr ho _ _ (λp hp=>by
  obtain ⟨f,hf,_,he,ht⟩:=Zcq hp;rw [he,(Z7j ho (fS f hf) ht).1];exact fS f hf) (by simp)
theorem Z9B (c:Cas) (hr:c.ruls.length<=4) (fs known:List Fct):((Z1E c fs).foldl (Z0L c) (known,[])).2.length<=fs.length * 4:=by
 have h1:=Z6s c (Z1E c fs) (known,[]);have h2:=Z5P c fs;have h3:=Nat.mul_le_mul_left fs.length hr;simp only [Xf] at h1;omega
structure Z55 (c:Cas):Prop where
 ok:Z5L c
 fl:c.fcts.length<=16
 rl:c.ruls.length<=4
 fo:∀ f∈c.fcts,Z0o f
 nd:c.fcts.Nodup
theorem Z8q {c:Cas} (h:Z55 c):∀ k,(ZX c k).2.1.length<=16 * 4 ^ k/\3 * (ZX c k).2.2.length<=16 * 4 ^ (k+1)
 | 0=>⟨by simpa [ZX] using h.fl,by simp [ZX]⟩
 | k + 1 => by
   obtain ⟨h1,h2⟩:=Z8q h k;have h3:=Z9B c h.rl (ZX c k).2.1 (ZX c k).1;rw [ZX];dsimp only;rw [Xc];have e1:4 ^ (k+1)=4 ^ k * 4:=Ybo 4 k;have e2:4 ^ (k+2)=4 ^ (k+1) * 4:=Ybo 4 (k+1);constructor<;>omega
theorem Z8r {c:Cas} (h:Z55 c) {k:Nat} (hk:k<=16):(ZX c k).2.1.length<=70000000000/\(ZX c k).2.2.length<=92000000000:=by
 obtain ⟨h1,h2⟩:=Z8q h k;have e1:4 ^ k<=4 ^ 16:=Nat.pow_le_pow_right (by decide) hk;have e2:4 ^ (k+1)<=4 ^ 17:=Nat.pow_le_pow_right (by decide) (by omega);have n1:4 ^ 16=4294967296:=by decide
 have n2:4 ^ 17=17179869184:=by decide
 constructor<;>omega
theorem Z56 {c:Cas} (h:Z55 c):∀ k,(∀ f∈(ZX c k).2.1,Z0o f)/\(∀ f∈(ZX c k).2.2,Z0o f)
 | 0=>⟨h.fo,by simp [ZX]⟩
 | k + 1 => by
   obtain ⟨h1,h2⟩:=Z56 h k;have h3:=Zk7 h.ok h1 (ZX c k).1;rw [ZX];dsimp only;exact ⟨h3,λf hf=>(Xh.1 hf).elim (h2 f) (h3 f)⟩
end Go.Proofs.YtipfkbkkndacjaaGreatDoor
namespace Go.Eng
open Go
def Z8s (ops:Array Oper) (Lt:List Nat) (i q:Nat) (r1 r2:List (Nat×Nat)):List Nat->Array Bool->Bool
 | [],listed=>Region.ready .any ops listed == [i,q] && ZY ops Lt r1 (listed.setIfInBounds i true) && ZY ops Lt r2 (listed.setIfInBounds q true)
 | j :: p,listed=>(Region.ready .any ops listed).contains j && Region.free .any ops listed j && Z8s ops Lt i q r1 r2 p (listed.setIfInBounds j true)
structure WDF (P:Program) (n:Nat) (ops:Array Oper) (S:List Nat) (Lt:List Nat) (Q:Exit->Act->World->Prop) (i q:Nat) (r1 r2:List (Nat×Nat)) (p:List Nat) (e:Env) (w:World):Prop where
 h:∀ listed:Array Bool,Region.noSelect ops=true->Z8s ops Lt i q r1 r2 p listed=true->∀ a,Has n e a->Za2 P .any ops S (λj=>Lt.contains j) (λa w=>Q .normal a w) (p.length+(wt r1+1)) listed a w
section
variable {P:Program} {n:Nat} {Q:Exit->Act->World->Prop} {e:Env} {w:World} {ops:Array Oper} {S:List Nat} {Lt:List Nat}
theorem Zgs {id:Nat} {l:List Oper} (m:Nat) (S:List Nat) (Lt:List Nat) (p:List Nat) (i q:Nat) (r1 r2:List (Nat×Nat)) (cp:l.length=m) (hm:P.follows .mixedOrders=true) (hs:Region.noSelect l.toArray=true) (hl:Nat.beq (p.length+(wt r1+1)) l.length=true)
 (hB:Z8s l.toArray Lt i q r1 r2 p (Array.replicate m false)=true)
 (h:∀ w',Stp [] w w'->WDF P n l.toArray S Lt Q i q r1 r2 p e w'):WC P n (.region id l.toArray true) Q e w:=by
 subst cp;refine ⟨λa ha=>wp_region_any hm ?_⟩;have h1:=(h { w with drawn:=w.drawn+1 } (Stp.drew [] w)).h _ hs hB a ha;have h2:=Z0O (Q:=Q) (λa w hz=>hz) _ _ _ _ h1;rw [XL hl] at h2;simpa using h2
theorem Z8t {i q j d:Nat} {r1 r2:List (Nat×Nat)} {p:List Nat} {op:Op} {ty:TypeId} {pos:String} {af:Array Edge} {gd:Option (Nat×Bool)} {v:Value} (hi:ops[j]?=some ⟨some d,op,ty,pos,af,gd⟩) (hg:JT ops e gd) (hp:∀ w',PR P n ⟨some d,op,ty,pos,af,gd⟩ e w' v) (aw:Nat.blt d n=true)
 (k:WDF P n ops S Lt Q i q r1 r2 p ((d,v) :: e) w):WDF P n ops S Lt Q i q r1 r2 (j :: p) e w:=by
 refine ⟨λlisted hs hB a ha=>?_⟩;simp only [Z8s,Xm] at hB;obtain ⟨⟨h1,h2⟩,h3⟩:=hB;have hk:=k.h _ hs h3 _ (ha.put (v:=v) aw);have e1:(j :: p).length+(wt r1+1)=p.length+(wt r1+1)+1:=by simp only [Xe];omega
 rw [e1];exact Z58 (oi:=⟨some d,op,ty,pos,af,gd⟩) (R:=λ_ _=>True) (λ_=>trivial) (λ_ _ _ _ _=>trivial) hi (λ_ _ _ _ _ _ _ _=>trivial) (Region.noSelect_spec hs) _ _ _ _ (Region.free_spec hi h2) (λ_=>trivial) (by simpa using h1) (.inl ⟨Js ha hg,λw' _=>(hp w').h a ha⟩) hk
theorem Zk8 {i q:Nat} {r1 r2:List (Nat×Nat)} (hw:Nat.beq (wt r1) (wt r2)=true) (h1:WD1 P n ops S Lt Q i r1 e w) (h2:WD1 P n ops S Lt Q q r2 e w):WDF P n ops S Lt Q i q r1 r2 [] e w:=by
 refine ⟨λlisted hs hB a ha=>?_⟩;simp only [Z8s,Xm,beq_iff_eq] at hB;obtain ⟨⟨hr,c1⟩,c2⟩:=hB;have e1:([]:List Nat).length+(wt r1+1)=wt r1+1:=by simp
 rw [e1];refine ⟨λh0=>absurd (hr ▸ h0) (by simp),λj hj=>?_⟩;rw [hr] at hj;have fZ:j=i\/j=q:=by simpa using hj
 rcases fZ with rfl|rfl
 exact h1.h _ hs c1 a ha;rw [XL hw];exact h2.h _ hs c2 a ha
theorem Z8u {i q j d:Nat} {r1 r2:List (Nat×Nat)} {p:List Nat} {x:Operand} {ty:TypeId} {pos:String} {af:Array Edge} {gd:Option (Nat×Bool)} {v:Value} (hi:ops[j]?=some ⟨some d,.move x,ty,pos,af,gd⟩) (hg:JT ops e gd) (hx:ev e x=some v) (aw:Nat.blt d n=true)
 (k:WDF P n ops S Lt Q i q r1 r2 p ((d,v) :: e) w):WDF P n ops S Lt Q i q r1 r2 (j :: p) e w:=Z8t hi hg (λ_=>ZM hx) aw k
theorem Zcs {i q j d:Nat} {r1 r2:List (Nat×Nat)} {p:List Nat} {x y:Operand} {t u:TypeId} {a b:Int} {ty:TypeId} {pos:String} {af:Array Edge} {gd:Option (Nat×Bool)} (hi:ops[j]?=some ⟨some d,.binOp .rem t x y u,ty,pos,af,gd⟩) (hg:JT ops e gd) (hx:ev e x=some (.I a)) (hy:ev e y=some (.I b)) (h0:0<=a) (hb:0<b) (hr:I64 a) (aw:Nat.blt d n=true)
 (k:WDF P n ops S Lt Q i q r1 r2 p ((d,.I (a % b)) :: e) w):WDF P n ops S Lt Q i q r1 r2 (j :: p) e w:=Z8t hi hg (λ_=>Zeb hx hy h0 hb hr) aw k
theorem Zk9 {i q j d:Nat} {r1 r2:List (Nat×Nat)} {p:List Nat} {x y:Operand} {t u:TypeId} {a b:Int} {ty:TypeId} {pos:String} {af:Array Edge} {gd:Option (Nat×Bool)} (hi:ops[j]?=some ⟨some d,.binOp .quo t x y u,ty,pos,af,gd⟩) (hg:JT ops e gd) (hx:ev e x=some (.I a)) (hy:ev e y=some (.I b)) (h0:0<=a) (hb:0<b) (hr:I64 a) (aw:Nat.blt d n=true)
 (k:WDF P n ops S Lt Q i q r1 r2 p ((d,.I (a / b)) :: e) w):WDF P n ops S Lt Q i q r1 r2 (j :: p) e w:=Z8t hi hg (λ_=>Zec hx hy h0 hb hr) aw k
end
end Go.Eng
namespace Go.Proofs.YtipfkbkkndacjaaGreatDoor
open Go Go.Eng Go.RowKit Go.Proofs
theorem Zgt (z:Int) (w) (hz:I64 z):CC 28 #[.I z] w λr w'=>(∃ s∈Z1s,r=str s)/\Stp [] w w':=by
 refine cW1 10 Tryz.func28 ?_;refine W ?_;refine Z0 (Z1 (vs:=[(0,str [99,108,97,105,109]),(1,str [97,110,115,119,101,114]),(2,str [109,111,116,105,111,110]),(3,str [111,114,100,101,114]),(4,str [97,112,112,101,97,108]),(5,str [108,97,112,115,101])]) rfl (bS6 _ _ _ _ _ _)) rfl ?_;rintro v w1 hN;have hv:SlV [] w1 v Z1s:=hN.slv (by simp) rfl rfl (by decide);have hS:=Z9.stp hN;clear hN;refine W ?_;refine CM (Zf rfl rfl) (Jz z 6 _ (by decide) hz) ?_;rintro _ w2 ⟨rfl,hT⟩;have hr:=Jk (if z<0 then -(z+1) else z) 6 (by decide);generalize (if z<0 then -(z+1) else z) % 6=y at hr ⊢;obtain ⟨q,rfl⟩:∃ q:Nat,y=(q:Int):=⟨y.toNat,by omega⟩
 replace hv:=hv.up hT;have cG:q<Z1s.length:=by show q<6;omega
 refine RT ?_;exact ⟨⟨_,Xd cG,rfl⟩,hS.trans hT⟩
theorem Z1b (v:Value) (l:List Int) (k:Nat) (w) (hs:SlV [] w v l) :
 CC 33 #[v,.I (k:Int)] w λr w'=>SlV [] w r (l.drop k)/\w'=w:=by
 have aT:=hs.max;refine cW2 11 Tryz.func33 ?_;refine W ?_;have hm:(if (l.length:Int)<(k:Int) then (l.length:Int) else (k:Int))=((min k l.length:Nat):Int):=by split<;>omega
 refine Z8 (Z4O (l:=min k l.length) rfl hs rfl (by omega) (by omega)) rfl ?_;refine W ?_;refine WR ?_;have h:=hs.slc (l:=min k l.length) (r:=l.length) (by omega) (Xn _);rw [Xp] at h;have e:l.drop (min k l.length)=l.drop k:=by
  by_cases hk:k<=l.length;rw [Yad hk];rw [Yby (by omega),YaV,Yav (by omega)]
 rw [e] at h;exact .mk ⟨h,rfl⟩
structure Z9C (f:Fct):Prop where
 kind:f.kind∈Z1s
 day:739616<=f.day/\f.day<=739655
 by_:0<=f.by_/\f.by_<=2
 to_:0<=f.to_/\f.to_<=2
 amt:-20<=f.amt/\f.amt<=179
theorem Z9C.ok {f:Fct} (h:Z9C f):Z0o f:=⟨by have:=h.day;omega,by have:=h.by_;omega,by have:=h.to_;omega,by have:=h.amt;omega⟩
theorem Zn5 (f:Fct) (w):(Instr.build 45 #[(0,.I f.entry),(1,str f.kind),(2,.I f.day),(3,.I f.by_),(4,.I f.to_),(5,.I f.amt)]).run Tryz.prog w=.ok (aG f) w:=by kernel_rfl
theorem Zgu (en z:Int) (w) (hz:I64 z) :
 CC 26 #[.I en,.I z] w λr w'=>∃ f:Fct,r=aG f/\f.entry=en/\Z9C f/\Stp [] w w':=by
 refine cW2 26 Tryz.func26 ?_;refine W ?_;refine Z0 Z2 rfl ?_;rintro _ w1 ⟨b4,rfl,bD,k4,hS⟩;refine W ?_;refine CM (Zf rfl rfl) (Jz z 100000000 _ (by decide) hz) ?_;rintro _ w2 ⟨rfl,hT⟩;have hr:=Jk (if z<0 then -(z+1) else z) 100000000 (by decide);generalize (if z<0 then -(z+1) else z) % 100000000=y at hr ⊢;replace k4:=k4.up hT;replace hS:=hS.trans hT;clear hT;refine W ?_;refine CM (ZN rfl) (Zgt y _ (by unfold I64;omega)) ?_;rintro _ w3 ⟨⟨s,hs,rfl⟩,hT⟩;replace k4:=k4.up hT;replace hS:=hS.trans hT;clear hT;refine W ?_;have hf:Z9C (⟨en,s,739616+y / 6 % 40,y / 240 % 3,y / 720 % 3,y / 2160 % 200 - 20⟩:Fct):=by
  refine ⟨hs,?_,?_,?_,?_⟩<;>dsimp only<;>omega
 refine Z7 rfl (Zn5 (⟨en,s,739616+y / 6 % 40,y / 240 % 3,y / 720 % 3,y / 2160 % 200 - 20⟩:Fct)) rfl ?_;generalize hg:(⟨en,s,739616+y / 6 % 40,y / 240 % 3,y / 720 % 3,y / 2160 % 200 - 20⟩:Fct)=f at hf;have he:f.entry=en:=by rw [<- hg]
 refine SA (us:=Z3.enc f) k4 ?_;rintro _ w4 ⟨hT,k4⟩;replace hS:=hS.ow hT;refine W ?_;refine J0 rfl rfl rfl k4 rfl ?_;exact .mk ⟨f,rfl,he,hf,hS⟩
structure Z9D (x:Crr):Prop where
 ext:0<=x.extra/\x.extra<=1000
 tol:0<=x.tol/\x.tol<=1000
theorem Z7k (a b c d:Int) (w):(Instr.buildSlice 23 4 #[(0,.I a),(1,.I b),(2,.I c),(3,.I d)]).run Tryz.prog w=.ok (.slice (some ⟨w.heap.size,0,none⟩) 4 4) (w.alloc (.cells #[.I a,.I b,.I c,.I d] 3)):=by kernel_rfl
theorem Z9E (x:Crr) (w):(Instr.build 143 #[(0,.I x.extra),(1,.I x.tol)]).run Tryz.prog w=.ok (aG x) w:=by kernel_rfl
theorem Z9F (x:Crr) (w):(Instr.buildSlice 26 1 #[(0,aG x)]).run Tryz.prog w=.ok (.slice (some ⟨w.heap.size,0,none⟩) 1 1) (w.alloc (.cells (Z3.enc x).toArray 143)):=by kernel_rfl
theorem ZaP (lv:Value) (l:List Int) (w) (hs:SlV [] w lv l) (hl:∀ a∈l,I64 a) :
 CC 34 #[lv] w λr w'=>∃ cs:List Crr,1<=cs.length/\cs.length<=4/\(∀ x∈cs,Z9D x)/\ZE 143 w w' r cs:=by
 refine cW1 32 Tryz.func34 ?_;refine W ?_;refine LP (σ:=Nat×Value×List Crr) (λq=>[(0,lv),(3,q.2.1),(4,.I (q.1:Int))]) (λq W=>q.1<=4/\q.2.2.length=q.1/\(∀ x∈q.2.2,Z9D x)/\Row [] W w.heap.size 143 q.2.1 q.2.2/\Stp [] w W) (λq=>4 - q.1) (0,.N,[]) ⟨by decide,rfl,by simp,Row.nil,Stp.refl _ _⟩ ?_;rintro ⟨j,ov,cs⟩ w1 ⟨hj,ai,aO,ab,hS⟩;dsimp only at hj ai aO ab ⊢;have bh:=λb hb=>ab.ob_le b hb;have cm:=hs.up hS;refine W ?_;refine CM (ZI rfl rfl rfl) (ZV [] _ l 0 4 _ (by decide) (by unfold I64;omega) cm hl) ?_;rintro _ w2 ⟨q,rfl,hq,hT⟩;replace ab:=ab.up hT;replace cm:=cm.up hT;replace hS:=hS.trans hT;clear hT;by_cases hlt:(j:Int)<=(q:Int);refine QO ?_;refine CM (ZI rfl rfl rfl) (ZV [] _ l (1+(j:Int)) 1000 _ (by decide) (by unfold I64;omega) cm hl) ?_;rintro _ w3 ⟨x,rfl,hx,hT⟩;replace ab:=ab.up hT;replace cm:=cm.up hT;replace hS:=hS.trans hT;clear hT;refine W ?_;refine Zgs 16 (ob ov) [] [0,2,3,7,8,9] 1 6 [(4,0),(5,1),(6,2),(10,0),(11,1),(12,0),(13,2),(14,2),(15,0)] [(10,0),(11,1),(1,2),(4,0),(5,1),(12,0),(13,2),(14,2),(15,0)] rfl mixed (by kernel_rfl) (by kernel_rfl) (by kernel_rfl) (λw1 ae=>?_);replace ab:=ab.up ae;replace hS:=hS.trans ae;clear ae;have za:=hS.size;refine Z8u rfl trivial rfl rfl ?_;refine Z8u rfl trivial rfl rfl ?_;refine Zcs rfl trivial rfl rfl (by omega) (by decide) (by unfold I64;omega) rfl ?_;refine Z8u rfl trivial rfl rfl ?_;refine Zk9 rfl trivial rfl rfl (by omega) (by decide) (by unfold I64;omega) rfl ?_;refine Zcs rfl trivial rfl rfl (by omega) (by decide) (by unfold I64;omega) rfl ?_;obtain ⟨k1,bG,hq1⟩:∃ k:Nat,(x:Int) % 4=(k:Int)/\k<([0,3,5,2]:List Int).length:=⟨x % 4,by omega,YbC _ (by decide)⟩
 obtain ⟨k2,db,hq2⟩:∃ k:Nat,(x:Int) / 4 % 4=(k:Int)/\k<([0,0,1,2]:List Int).length:=⟨x / 4 % 4,by omega,YbC _ (by decide)⟩
 rw [bG,db];apply Zk8 rfl;refine Z1d rfl trivial (Z1 (vs:=[(0,.I 0),(1,.I 3),(2,.I 5),(3,.I 2)]) rfl (Z7k _ _ _ _)) (λ_ _ h=>(Z9.stp h).mn) rfl ?_;rintro va wa hN;have dZ:SlV (ob ov) wa va ([0,3,5,2]:List Int):=hN.slv (λb hb=>(ab.ob_le b hb).2) rfl rfl (by simp [maxLen]);have hT:=Z9.stp hN;clear hN;replace ab:=ab.up hT;replace hS:=hS.trans hT;clear hT;refine QD ?_;refine Za rfl trivial (Z1 (vs:=[(0,.I 0),(1,.I 0),(2,.I 1),(3,.I 2)]) rfl (Z7k _ _ _ _)) (λ_ _ h=>(Z9.stp h).mn) rfl ?_;rintro vb wb hN;have gu:SlV (ob ov) wb vb ([0,0,1,2]:List Int):=hN.slv (λb hb=>(ab.ob_le b hb).2) rfl rfl (by simp [maxLen]);have hT:=Z9.stp hN;clear hN;replace ab:=ab.up hT;replace dZ:=dZ.up hT;replace hS:=hS.trans hT;clear hT;refine QD ?_;have hy:Z9D (⟨([0,3,5,2]:List Int)[k1]'hq1,([0,0,1,2]:List Int)[k2]'hq2⟩:Crr):=by
  constructor;have:=Xd hq1;dsimp only;generalize ([0,3,5,2]:List Int)[k1]'hq1=A at this ⊢;simp only [Xb,Xj,or_false] at this;omega;have:=Xd hq2;dsimp only;generalize ([0,0,1,2]:List Int)[k2]'hq2=A at this ⊢;simp only [Xb,Xj,or_false] at this;omega
 refine Ja rfl trivial (λw'=>Z0j rfl (λw=>Z9E (⟨([0,3,5,2]:List Int)[k1]'hq1,([0,0,1,2]:List Int)[k2]'hq2⟩:Crr) w)) rfl ?_;generalize (⟨([0,3,5,2]:List Int)[k1]'hq1,([0,0,1,2]:List Int)[k2]'hq2⟩:Crr)=y at hy ⊢;refine Za rfl trivial (Z1 rfl (Z9F y)) (λ_ _ h=>(Z9.stp h).mn) rfl ?_;rintro vs wd hN;have cE:SlV (ob ov++[]) wd vs [y]:=hN.slv (λb hb=>(ab.ob_le b (by simpa using hb)).2) rfl (by simp) (by simp [maxLen]);have hT:=Z9.stp hN;clear hN;replace ab:=ab.up hT;replace hS:=hS.trans hT;clear hT;have zd:=hS.size;refine Za rfl trivial (Zx (α:=Crr) (X:=[]) (base:=w.heap.size) rfl (by decide) rfl rfl ab cE (Xg (Xo _ (show cs.length+[y].length<=10 by simp;omega)) (by decide)) (by simp [maxLen];omega) (by omega)) (λ_ _ h=>h.2.1) rfl ?_;rintro ov' we ⟨dA,cD,eo⟩;refine QD ?_;refine W ?_;exact QL (j+1,ov',cs++[y]) ⟨by dsimp only;omega,by simp [ai],λz hz=>by
  rcases Xh.1 hz with h|h
  exact aO z h;simp only [Xl] at h;subst h;exact hy,dA,hS.own cD (λb hb=>.inr (ab.ob_le b hb).1)⟩ (by dsimp only;omega)
 refine Z1d rfl trivial (Z1 (vs:=[(0,.I 0),(1,.I 0),(2,.I 1),(3,.I 2)]) rfl (Z7k _ _ _ _)) (λ_ _ h=>(Z9.stp h).mn) rfl ?_;rintro vb wb hN;have gu:SlV (ob ov) wb vb ([0,0,1,2]:List Int):=hN.slv (λb hb=>(ab.ob_le b hb).2) rfl rfl (by simp [maxLen]);have hT:=Z9.stp hN;clear hN;replace ab:=ab.up hT;replace hS:=hS.trans hT;clear hT;refine QD ?_;refine Za rfl trivial (Z1 (vs:=[(0,.I 0),(1,.I 3),(2,.I 5),(3,.I 2)]) rfl (Z7k _ _ _ _)) (λ_ _ h=>(Z9.stp h).mn) rfl ?_;rintro va wa hN;have dZ:SlV (ob ov) wa va ([0,3,5,2]:List Int):=hN.slv (λb hb=>(ab.ob_le b hb).2) rfl rfl (by simp [maxLen]);have hT:=Z9.stp hN;clear hN;replace ab:=ab.up hT;replace gu:=gu.up hT;replace hS:=hS.trans hT;clear hT;refine QD ?_;have hy:Z9D (⟨([0,3,5,2]:List Int)[k1]'hq1,([0,0,1,2]:List Int)[k2]'hq2⟩:Crr):=by
  constructor;have:=Xd hq1;dsimp only;generalize ([0,3,5,2]:List Int)[k1]'hq1=A at this ⊢;simp only [Xb,Xj,or_false] at this;omega;have:=Xd hq2;dsimp only;generalize ([0,0,1,2]:List Int)[k2]'hq2=A at this ⊢;simp only [Xb,Xj,or_false] at this;omega
 refine Ja rfl trivial (λw'=>Z0j rfl (λw=>Z9E (⟨([0,3,5,2]:List Int)[k1]'hq1,([0,0,1,2]:List Int)[k2]'hq2⟩:Crr) w)) rfl ?_;generalize (⟨([0,3,5,2]:List Int)[k1]'hq1,([0,0,1,2]:List Int)[k2]'hq2⟩:Crr)=y at hy ⊢;refine Za rfl trivial (Z1 rfl (Z9F y)) (λ_ _ h=>(Z9.stp h).mn) rfl ?_;rintro vs wd hN;have cE:SlV (ob ov++[]) wd vs [y]:=hN.slv (λb hb=>(ab.ob_le b (by simpa using hb)).2) rfl (by simp) (by simp [maxLen]);have hT:=Z9.stp hN;clear hN;replace ab:=ab.up hT;replace hS:=hS.trans hT;clear hT;have zd:=hS.size;refine Za rfl trivial (Zx (α:=Crr) (X:=[]) (base:=w.heap.size) rfl (by decide) rfl rfl ab cE (Xg (Xo _ (show cs.length+[y].length<=10 by simp;omega)) (by decide)) (by simp [maxLen];omega) (by omega)) (λ_ _ h=>h.2.1) rfl ?_;rintro ov' we ⟨dA,cD,eo⟩;refine QD ?_;refine W ?_;exact QL (j+1,ov',cs++[y]) ⟨by dsimp only;omega,by simp [ai],λz hz=>by
  rcases Xh.1 hz with h|h
  exact aO z h;simp only [Xl] at h;subst h;exact hy,dA,hS.own cD (λb hb=>.inr (ab.ob_le b hb).1)⟩ (by dsimp only;omega)
 . refine QO ?_
   all_goals
    refine RU ?_;exact ⟨cs,by omega,by omega,aO,ab,hS⟩
theorem Zgv (x:Spn) (w):(Instr.buildSlice 27 1 #[(0,aG x)]).run Tryz.prog w=.ok (.slice (some ⟨w.heap.size,0,none⟩) 1 1) (w.alloc (.cells (Z3.enc x).toArray 75)):=by kernel_rfl
structure ZeV (x:Spn):Prop where
 lo:0<=x.1
 le:x.1<=x.2
 hi:x.2<=3652058
theorem Zct (lv:Value) (l:List Int) (w) (hs:SlV [] w lv l) (hl:∀ a∈l,I64 a) (h4:l.length<=4) :
 CC 38 #[lv,.I 739616] w λr w'=>∃ xs:List Spn,xs.length<=2/\(∀ x∈xs,ZeV x)/\ZE 75 w w' r xs:=by
 refine cW2 44 Tryz.func38 ?_;refine W ?_;refine LP (σ:=Nat×Value×List Spn) (λq=>[(0,lv),(1,.I 739616),(5,q.2.1),(6,.I ((2 * q.1:Nat):Int))]) (λq W=>q.1<=2/\q.2.2.length=q.1/\(∀ x∈q.2.2,ZeV x)/\Row [] W w.heap.size 75 q.2.1 q.2.2/\Stp [] w W) (λq=>4 - q.1) (0,.N,[]) ⟨by decide,rfl,by simp,Row.nil,Stp.refl _ _⟩ ?_;rintro ⟨j,ov,xs⟩ w1 ⟨hj,ai,aO,ab,hS⟩;dsimp only at hj ai aO ab ⊢;have bh:=λb hb=>ab.ob_le b hb;have cm:=hs.up hS;by_cases hlt:2 * j+1<l.length;have hlt0:2 * j<l.length:=by omega
 refine QO ?_;have iI:=hl _ (Xd hlt0);have qU:=hl _ (Xd hlt);refine CM (Zf rfl rfl) (Jz (l[2 * j]'hlt0) 80 _ (by decide) iI) ?_;rintro _ w2 ⟨rfl,hT⟩;have hr:=Jk (if l[2 * j]<0 then -(l[2 * j]+1) else l[2 * j]) 80 (by decide);generalize (if l[2 * j]<0 then -(l[2 * j]+1) else l[2 * j]) % 80=y at hr ⊢;replace ab:=ab.up hT;replace cm:=cm.up hT;replace hS:=hS.trans hT;clear hT;refine QO ?_;have yt:2 * j+1<l.length:=hlt;refine CM (Zf rfl rfl) (Jz (l[2 * j+1]'hlt) 15 _ (by decide) qU) ?_;rintro _ w3 ⟨rfl,hT⟩;have df:=Jk (if l[2 * j+1]<0 then -(l[2 * j+1]+1) else l[2 * j+1]) 15 (by decide);generalize (if l[2 * j+1]<0 then -(l[2 * j+1]+1) else l[2 * j+1]) % 15=z at df ⊢;replace ab:=ab.up hT;replace cm:=cm.up hT;replace hS:=hS.trans hT;clear hT;refine QO ?_;obtain ⟨f0,rI⟩:∃ f0:Int,max 0 (min 3652058 (739616 - 20+y))=f0:=⟨_,rfl⟩
 obtain ⟨f1,qn⟩:∃ f1:Int,min 3652058 (f0+z)=f1:=⟨_,rfl⟩
 rw [rI,qn];have ay:ZeV (f0,f1):=by constructor<;>dsimp only<;>omega
 refine Z7 (vs:=[(0,.I f0),(1,.I f1)]) rfl (Z8o _ _) rfl ?_;have zS:=hS.size;refine APG ((f0,f1):Spn) ab (by simp) (by omega) rfl (Xg (Xo _ (show xs.length+1<=10 by omega)) (by decide)) (by simp [maxLen];omega) (λv1 ov' w4 dA cD eo=>?_);refine QO ?_;exact Zw (j+1,ov',xs++[(f0,f1)]) ⟨rfl,rfl,rfl,rfl,trivial⟩ ⟨by dsimp only;omega,by simp [ai],λz hz=>by
  rcases Xh.1 hz with h|h
  exact aO z h;simp only [Xl] at h;subst h;exact ay,dA,hS.own cD (λb hb=>.inr (bh b hb).1)⟩ (by dsimp only;omega)
 . refine QO ?_
   all_goals
    refine RU ?_;exact ⟨xs,by omega,aO,ab,hS⟩
structure ZeW (n:Nat) (r:Rtn):Prop where
 crr:0<=r.crr/\r.crr<n
 lo:0<=r.lo/\r.lo<=3652058
 hi:0<=r.hi/\r.hi<=3652058
 kind:(r.kind=1/\r.lo<=r.hi)\/(r.kind=2/\r.lo=0)\/(r.kind=3/\r.lo=0/\r.hi=0)
theorem ZeX (w):(Instr.buildSlice 23 8 #[(0,.I 1),(1,.I 1),(2,.I 1),(3,.I 1),(4,.I 2),(5,.I 2),(6,.I 3),(7,.I 1)]).run Tryz.prog w=.ok (.slice (some ⟨w.heap.size,0,none⟩) 8 8) (w.alloc (.cells #[.I 1,.I 1,.I 1,.I 1,.I 2,.I 2,.I 3,.I 1] 3)):=by kernel_rfl
theorem ZeY (a k:Int) (w):(Instr.build 80 #[(0,.I a),(1,.I k)]).run Tryz.prog w=.ok (aG (⟨a,k,0,0⟩:Rtn)) w:=by kernel_rfl
def K8:List Int:=[1,1,1,1,2,2,3,1]
theorem ZsG {k:Nat} (h:k<K8.length):K8[k]=1\/K8[k]=2\/K8[k]=3:=by
 have:=Xd h;generalize K8[k]=z at this ⊢;simp only [K8,Xb,Xj,or_false] at this;omega
theorem Zcu (lv cv:Value) (l:List Int) (cs:List Crr) (day:Int) (w) (hs:SlV [] w lv l) (hl:∀ a∈l,I64 a) (h3:l.length<=3) (ca:SlV [] w cv cs) (hc:1<=cs.length/\cs.length<=4) (hd:739616<=day/\day<=739655) :
 CC 39 #[lv,cv,.I day] w λr w'=>∃ xs:List Rtn,xs.length<=3/\(∀ x∈xs,ZeW cs.length x)/\ZE 80 w w' r xs:=by
 refine cW3 69 Tryz.func39 ?_;refine W ?_;refine LP (σ:=Nat×Value×List Rtn) (λq=>[(0,lv),(1,cv),(2,.I day),(7,q.2.1),(8,.I (q.1:Int))]) (λq W=>q.1<=3/\q.2.2.length=q.1/\(∀ x∈q.2.2,ZeW cs.length x)/\Row [] W w.heap.size 80 q.2.1 q.2.2/\Stp [] w W) (λq=>4 - q.1) (0,.N,[]) ⟨by decide,rfl,by simp,Row.nil,Stp.refl _ _⟩ ?_;rintro ⟨j,ov,xs⟩ w1 ⟨hj,ai,aO,ab,hS⟩;dsimp only at hj ai aO ab ⊢;have bh:=λb hb=>ab.ob_le b hb;have cm:=hs.up hS;have bQ:=ca.up hS;by_cases hlt:j<l.length;refine QO ?_;have iI:=hl _ (Xd hlt);refine CM (Zf rfl rfl) (Jz (l[j]'hlt) 1000000 _ (by decide) iI) ?_;rintro _ w2 ⟨rfl,hT⟩;have hr:=Jk (if l[j]<0 then -(l[j]+1) else l[j]) 1000000 (by decide);generalize (if l[j]<0 then -(l[j]+1) else l[j]) % 1000000=y at hr ⊢;replace ab:=ab.up hT;replace bQ:=bQ.up hT;replace hS:=hS.trans hT;clear hT cm;refine W ?_;have zS:=hS.size
 refine JE (σ:=Nat×Int×Int) (λq=>[(0,lv),(1,cv),(2,.I day),(7,ov),(8,.I (j:Int)),(9,.I y),(10,.pointer (some ⟨q.1,0,none⟩))])
  (λq w'=>w2.heap.size<=q.1/\Stp [] w2 w'/\(0<=q.2.1/\q.2.1<cs.length)/\(q.2.2=1\/q.2.2=2\/q.2.2=3)/\Blk w' q.1 80 (Z3.enc (⟨q.2.1,q.2.2,0,0⟩:Rtn))) ?_ ?_
 refine ZDr 14 [] [13] [(0,0),(1,0),(2,0),(3,0),(4,0),(6,0),(7,0),(8,0),(5,15),(9,0),(10,1),(11,0),(12,2),(13,2)] (λw1 ae=>?_);have hB:=ae;have iE:=bQ.up ae;clear ae;obtain ⟨k1,bG,hq1⟩:∃ k:Nat,y / 4 % 8=(k:Int)/\k<K8.length:=⟨(y / 4 % 8).toNat,by omega,by simp only [K8,Xe,Xf];omega⟩
 obtain ⟨a0,rJ⟩:∃ a0:Int,y % max 1 (cs.length:Int)=a0:=⟨_,rfl⟩
 have np:0<=a0/\a0<cs.length:=by
  have h1:=Ya2 y (show max 1 (cs.length:Int)≠0 by omega);have h2:=YaN y (show 0<max 1 (cs.length:Int) by omega);omega
 have hK:=ZsG hq1;refine QD ?_;rw [bG,rJ];apply Za1 rfl;refine Z1d rfl trivial (Z1 rfl ZeX) (λ_ _ h=>Z9.stp h) rfl ?_;rintro va wa hN;have dZ:SlV [] wa va K8:=hN.slv (by simp) rfl rfl (by simp [maxLen,K8]);have hT:=Z9.stp hN;clear hN;replace hB:=hB.trans hT;clear hT;refine QD ?_;refine Ja rfl trivial (λw'=>Z0j rfl (λw=>ZeY a0 (K8[k1]'hq1) w)) rfl ?_;focus repeat'(first|refine D1 ?_|omega|refine Zq rfl rfl rfl rfl (λhg=>?_) (λhg=>?_)|(refine Zm rfl rfl rfl rfl (λhg=>?_) (λhg=>?_)<;>refine D1 ?_)|fail)
 have zB:=hB.size;refine Za rfl trivial Z2 (λ_ _ h=>h.choose_spec.2.2.2) rfl ?_;rintro _ wb ⟨b,rfl,hb,e3,hT⟩;have gb:w2.heap.size<=b:=by omega
 replace hB:=hB.trans hT;replace dZ:=dZ.up hT;clear hT;focus repeat'(first|refine D1 ?_|omega|refine Zq rfl rfl rfl rfl (λhg=>?_) (λhg=>?_)|(refine Zm rfl rfl rfl rfl (λhg=>?_) (λhg=>?_)<;>refine D1 ?_)|fail)
 refine Jm rfl trivial (Zi (us:=Z3.enc (⟨a0,K8[k1]'hq1,0,0⟩:Rtn)) rfl rfl rfl rfl (Z3.one _) e3 rfl) rfl ?_;rintro _ wc ⟨aq,e3⟩;refine QD ?_;exact QT (b,a0,K8[k1]'hq1) ⟨gb,hB.ow aq,np,hK,e3⟩;have zB:=hB.size;refine Z1d rfl trivial Z2 (λ_ _ h=>h.choose_spec.2.2.2) rfl ?_;rintro _ wb ⟨b,rfl,hb,e3,hT⟩;have gb:w2.heap.size<=b:=by omega
 replace hB:=hB.trans hT;clear hT;focus repeat'(first|refine D1 ?_|omega|refine Zq rfl rfl rfl rfl (λhg=>?_) (λhg=>?_)|(refine Zm rfl rfl rfl rfl (λhg=>?_) (λhg=>?_)<;>refine D1 ?_)|fail)
 refine Za rfl trivial (Z1 rfl ZeX) (λ_ _ h=>Z9.stp h) rfl ?_;rintro va wa hN;have dZ:SlV [] wa va K8:=hN.slv (by simp) rfl rfl (by simp [maxLen,K8]);have hT:=Z9.stp hN;clear hN;replace hB:=hB.trans hT;replace e3:=e3.up hT;clear hT;refine QD ?_;refine Ja rfl trivial (λw'=>Z0j rfl (λw=>ZeY a0 (K8[k1]'hq1) w)) rfl ?_;focus repeat'(first|refine D1 ?_|omega|refine Zq rfl rfl rfl rfl (λhg=>?_) (λhg=>?_)|(refine Zm rfl rfl rfl rfl (λhg=>?_) (λhg=>?_)<;>refine D1 ?_)|fail)
 refine Jm rfl trivial (Zi (us:=Z3.enc (⟨a0,K8[k1]'hq1,0,0⟩:Rtn)) rfl rfl rfl rfl (Z3.one _) e3 rfl) rfl ?_;rintro _ wc ⟨aq,e3⟩;refine QD ?_;exact QT (b,a0,K8[k1]'hq1) ⟨gb,hB.ow aq,np,hK,e3⟩;rintro ⟨b,a,k⟩ w3 ⟨hb,hT,ha,hk,e3⟩;dsimp only at hb ha hk e3 ⊢;rcases hk with rfl|rfl|rfl
 refine QO ?_;have lk:0<=(max 0 (min 3652058 (day - 3+y / 32 % 40)))/\(max 0 (min 3652058 (day - 3+y / 32 % 40)))<=3652058:=by omega
 generalize (max 0 (min 3652058 (day - 3+y / 32 % 40)))=f0 at lk ⊢;refine Z6 (Zb (u:=.I f0) rfl rfl rfl rfl e3 (show (2:Nat)<4 by decide)) ?_;rintro _ w4 ⟨aq,e3⟩;replace e3:Blk w4 b 80 (Z3.enc (⟨a,1,f0,0⟩:Rtn)):=e3;replace hT:=hT.ow aq;clear aq;refine QO ?_;have rK:f0<=min 3652058 (f0+y / 1280 % 5)/\min 3652058 (f0+y / 1280 % 5)<=3652058:=by omega
 generalize min 3652058 (f0+y / 1280 % 5)=f1 at rK ⊢;refine Z6 (Zb (u:=.I f1) rfl rfl rfl rfl e3 (show (3:Nat)<4 by decide)) ?_;rintro _ w5 ⟨aq,e3⟩;replace e3:Blk w5 b 80 (Z3.enc (⟨a,1,f0,f1⟩:Rtn)):=e3;replace hT:=hT.ow aq;clear aq;have z4:=hT.size;have dy:=ab.up hT;have aJ:=hS.trans hT;have zS4:=aJ.size;refine QO ?_;refine APG (⟨a,1,f0,f1⟩:Rtn) dy (by simp) (by omega) rfl (Xg (Xo _ (show xs.length+1<=10 by omega)) (by decide)) (by simp [maxLen];omega) (λv1 ov' w4 dA cD eo=>?_);refine QO ?_;exact QL (j+1,ov',xs++[⟨a,1,f0,f1⟩]) ⟨by dsimp only;omega,by simp [ai],λz hz=>by
  rcases Xh.1 hz with h|h
  exact aO z h;simp only [Xl] at h;subst h;constructor<;>dsimp only<;>omega,dA,aJ.own cD (λb hb=>.inr (dy.ob_le b hb).1)⟩ (by dsimp only;omega)
 refine QO ?_;have lk:0<=(max 0 (min 3652058 (day - 3+y / 32 % 40)))/\(max 0 (min 3652058 (day - 3+y / 32 % 40)))<=3652058:=by omega
 generalize (max 0 (min 3652058 (day - 3+y / 32 % 40)))=f0 at lk ⊢;refine Z6 (Zb (u:=.I f0) rfl rfl rfl rfl e3 (show (3:Nat)<4 by decide)) ?_;rintro _ w4 ⟨aq,e3⟩;replace e3:Blk w4 b 80 (Z3.enc (⟨a,2,0,f0⟩:Rtn)):=e3;replace hT:=hT.ow aq;clear aq;have z4:=hT.size;have dy:=ab.up hT;have aJ:=hS.trans hT;have zS4:=aJ.size;refine QO ?_;refine APG (⟨a,2,0,f0⟩:Rtn) dy (by simp) (by omega) rfl (Xg (Xo _ (show xs.length+1<=10 by omega)) (by decide)) (by simp [maxLen];omega) (λv1 ov' w4 dA cD eo=>?_);refine QO ?_;exact QL (j+1,ov',xs++[⟨a,2,0,f0⟩]) ⟨by dsimp only;omega,by simp [ai],λz hz=>by
  rcases Xh.1 hz with h|h
  exact aO z h;simp only [Xl] at h;subst h;constructor<;>dsimp only<;>omega,dA,aJ.own cD (λb hb=>.inr (dy.ob_le b hb).1)⟩ (by dsimp only;omega)
 have z4:=hT.size;have dy:=ab.up hT;have aJ:=hS.trans hT;have zS4:=aJ.size;refine QO ?_;refine APG (⟨a,3,0,0⟩:Rtn) dy (by simp) (by omega) rfl (Xg (Xo _ (show xs.length+1<=10 by omega)) (by decide)) (by simp [maxLen];omega) (λv1 ov' w4 dA cD eo=>?_);refine QO ?_;exact QL (j+1,ov',xs++[⟨a,3,0,0⟩]) ⟨by dsimp only;omega,by simp [ai],λz hz=>by
  rcases Xh.1 hz with h|h
  exact aO z h;simp only [Xl] at h;subst h;constructor<;>dsimp only<;>omega,dA,aJ.own cD (λb hb=>.inr (dy.ob_le b hb).1)⟩ (by dsimp only;omega)
 . refine QO ?_
   all_goals
    refine RU ?_;exact ⟨xs,by omega,aO,ab,hS⟩
theorem Z37 (z:Int) (m:Int) (w) (hm:0<m) (hz:I64 z):CC 102 #[.I z,.I m] w λr w'=>r=.I ((if z<0 then -(z+1) else z) % m)/\Stp [] w w':=by
 unfold I64 at hz;refine cW2 13 Tryz.func102 ?_;by_cases h:z<0;refine RT ?_;exact ⟨by rw [if_pos h],Stp.refl _ _⟩;refine RT ?_;exact ⟨by rw [if_neg h],Stp.refl _ _⟩
theorem ZdT (X:List Nat) (v:Value) (l:List Int) (i m:Int) (w) (hm:0<m) (hi:I64 i) (hs:SlV X w v l) (hl:∀ a∈l,I64 a):CC 101 #[v,.I i,.I m] w λr w'=>∃ q:Nat,r=.I (q:Int)/\(q:Int)<m/\Stp [] w w':=by
 unfold I64 at hi;have aT:=hs.max;refine cW3 21 Tryz.func101 ?_;refine W ?_;by_cases ja:0<=i/\i<l.length;obtain ⟨h0,h1⟩:=ja;obtain ⟨k,rfl⟩:∃ k:Nat,i=(k:Int):=⟨i.toNat,by omega⟩
 have hk:k<l.length:=by omega
 refine QO ?_;refine CL (Z37 _ m _ hm (hl _ (Xd hk))) ?_;rintro _ w2 ⟨rfl,hS⟩;refine W ?_;refine WR ?_;have:=Jk (if l[k]<0 then -(l[k]+1) else l[k]) m hm;exact .mk ⟨_,by rw [YaY this.1],by rw [YaY this.1];exact this.2,hS⟩
 . repeat'(first|refine W1 ?_|omega|refine VG ?_ ?_<;>intro hg|refine VC ?_ ?_<;>intro hc)
   all_goals first
    | (refine RU ?_
       exact ⟨0,rfl,by simpa using hm,Stp.refl _ _⟩)
theorem Zn6 (a:Int) (w):(Instr.build 33 #[(0,.I a)]).run Tryz.prog w=.ok (.agg #[.I a,.N]) w:=by kernel_rfl
theorem Zn7 (a b:Int) (w):(Instr.build 141 #[(0,.I a),(1,.I b)]).run Tryz.prog w=.ok (agg ((a,b):Spn)) w:=by kernel_rfl
theorem Zka (d:Spn) (w):(Instr.buildSlice 31 1 #[(0,agg d)]).run Tryz.prog w=.ok (.slice (some ⟨w.heap.size,0,none⟩) 1 1) (w.alloc (.cells (Z3.enc d).toArray 141)):=by kernel_rfl
def Zcv (x:Spn):Prop:=0<=x.1/\x.1<=2000000
theorem Z8v (v:Value) (l:List Int) (w) (hs:SlV [] w v l) (hl:∀ a∈l,I64 a) :
 CC 64 #[v] w λr w'=>∃ (o:Int) (zs:Value) (xs:List Spn),r=.agg #[.I o,zs]/\(∀ x∈xs,Zcv x)/\xs.length<=100/\ZE 141 w w' zs xs:=by
 have aT:=hs.max;refine cW1 45 Tryz.func64 ?_;refine W ?_;refine Z0 Z2 rfl ?_;rintro _ w1 ⟨b2,rfl,cu,k2,hS⟩;refine W ?_;refine CM (ZI rfl rfl rfl) (ZdT [] _ l 0 1801 _ (by decide) (by unfold I64;omega) (hs.up hS) hl) ?_;rintro _ w2 ⟨q0,rfl,rJ,ah⟩;replace k2:=k2.up ah;replace hS:=hS.trans ah;clear ah;refine W ?_;refine Z7 (vs:=[(0,.I ((q0:Int) - 900))]) rfl (Zn6 _) rfl ?_;have k2lt:=k2.lt;refine Z0 Z2 rfl ?_;rintro _ w3 ⟨b3,rfl,d8,k3,am⟩;replace k2:=k2.up am;replace hS:=hS.trans am;clear am;refine W ?_;have n23:b2≠b3:=by omega
 refine SB (us:=[.I ((q0:Int) - 900),.N]) (by simp [Value.oneCell']) k3 ?_;rintro _ w4 ⟨aJ,k3⟩;replace k2:=k2.ext aJ (by simpa using n23);replace hS:=hS.ow aJ;clear aJ;have bE:=hS.size;have k3lt:=k3.lt;have k2lt':=k2.lt;refine W ?_;refine Z0f (σ:=Value×List Spn) (λq=>[(2,pQ b2),(3,pQ b3)]) (λq w'=>Blk w' b2 33 (.agg #[.I 0,.N]:Value).cells.toList/\Blk w' b3 33 [.I ((q0:Int) - 900),q.1]/\Row [] w' w4.heap.size 141 q.1 q.2/\q.2.length<=42/\(∀ x∈q.2,Zcv x)/\Stp [b3] w4 w') ?_ ?_
 refine Zr (σ:=Nat×Int×Value×List Spn) (λq=>[(0,v),(2,pQ b2),(3,pQ b3),(4,.I q.2.1),(5,.I (q.1:Int))])
  (λq w'=>(1<=q.1/\q.1<=43/\0<=q.2.1/\q.2.1<=25000 * q.1/\q.2.2.2.length<q.1)/\Blk w' b2 33 (.agg #[.I 0,.N]:Value).cells.toList/\Blk w' b3 33 [.I ((q0:Int) - 900),q.2.2.1]/\Row [] w' w4.heap.size 141 q.2.2.1 q.2.2.2/\(∀ x∈q.2.2.2,Zcv x)/\Stp [b3] w4 w') (λq=>43 - q.1)
  (1,0,.N,[]) ⟨rfl,rfl,rfl,rfl,rfl,trivial⟩ ⟨⟨by decide,by decide,by decide,by decide,by decide⟩,k2,k3,Row.nil,by simp,Stp.refl _ _⟩ ?_
 rintro ⟨k,at_,zs,xs⟩ w5 ⟨⟨bG,rL,np,qP,jv⟩,k2,k3,ab,iU,aD⟩;dsimp only at bG rL np qP jv k3 ab iU ⊢;have jy:Stp [] w w5:=hS.ow aD;have bg:=hs;replace hs:=hs.up jy;by_cases hlt:k+1<l.length/\k<41;obtain ⟨hlt,yu⟩:=hlt;have im:k<l.length:=by omega
 refine QO ?_;refine CM (Zf rfl rfl) (Z37 _ 20000 _ (by decide) (hl _ (Xd im))) ?_;rintro _ w6 ⟨rfl,dh⟩;have hr:=Jk (if l[k]<0 then -(l[k]+1) else l[k]) 20000 (by decide);generalize (if l[k]<0 then -(l[k]+1) else l[k]) % 20000=m at hr ⊢;refine W ?_;replace k2:=k2.up dh;replace k3:=k3.up dh;replace ab:=ab.up dh;replace hs:=hs.up dh;replace aD:=aD.trans dh.mn;clear dh jy;have n3:b3∉ob zs:=λh=>by have:=(ab.ob_le _ h).1;omega
 have n2:b2∉ob zs:=λh=>by have:=(ab.ob_le _ h).1;omega
 replace hs:SlV (ob zs) w6 v l:=bg.ext (X':=ob zs) (hS.ow aD) (by simp) (λb hb=>.inr (by have:=(ab.ob_le b hb).1;omega));refine WC_drawn 15 (ob zs) [14] [(0,0),(1,1),(2,0),(3,0),(4,0),(5,0),(6,0),(7,1),(8,2),(9,0),(10,0),(11,2),(12,2),(13,0),(14,2)] rfl mixed (by kernel_rfl) (by kernel_rfl) (by kernel_rfl) (λw1 ae=>?_);replace k2:=k2.up ae;replace k3:=k3.up ae;replace ab:=ab.up ae;replace hs:=hs.up ae;replace aD:=aD.trans ae.mn;clear ae;refine D ?_;refine Za rfl trivial (Z4 rfl (Zf rfl rfl) (Z37 _ 1801 _ (by decide) (hl _ (Xd hlt)))) (λ_ _ h=>h.2.mn) rfl ?_;rintro _ w7 ⟨rfl,aR⟩;have df:=Jk (if l[k+1]<0 then -(l[k+1]+1) else l[k+1]) 1801 (by decide);generalize (if l[k+1]<0 then -(l[k+1]+1) else l[k+1]) % 1801=m2 at df ⊢;replace k2:=k2.up aR;replace k3:=k3.up aR;replace ab:=ab.up aR;replace aD:=aD.trans aR.mn;clear aR;refine D ?_;refine Ja rfl trivial (λw'=>Z0j (vs:=[(0,.I (at_+m)),(1,.I (m2 - 900))]) rfl (Zn7 _ _)) rfl ?_;refine D ?_;refine Za rfl trivial (Z1 (vs:=[(0,agg ((at_+m,m2 - 900):Spn))]) rfl (Zka _)) (λ_ _ h=>(Z9.stp h).mn) rfl ?_;rintro bv w8 hN;have an:SlV (ob zs++[]) w8 bv [((at_+m,m2 - 900):Spn)]:=hN.slv (λb hb=>(ab.ob_le b (by simpa using hb)).2) rfl rfl (by simp [maxLen]);have hT:=Z9.stp hN;clear hN;replace k2:=k2.up hT;replace k3:=k3.up hT;replace ab:=ab.up hT;replace aD:=aD.trans hT.mn;clear hT;have aY:=aD.size;have bh:=ab.ob_le;refine D ?_;refine Za rfl trivial (Zx (X:=[]) (base:=w4.heap.size) rfl (by decide) rfl rfl ab an (by simp only [Xe,Xf];omega) (by simp only [Xe,Xf,maxLen];omega) aY) (λ_ _ h=>h.2.1) rfl ?_;rintro zs' w9 ⟨ab,hT,gO⟩;replace k2:=k2.ext hT (λh=>by have:=(bh _ h).1;omega);replace k3:=k3.ext hT (λh=>by have:=(bh _ h).1;omega);replace aD:Stp [b3] w4 w9:=aD.own hT (λc hc=>.inr (bh c hc).1);clear hT;refine D ?_;refine Jm rfl trivial (Zb (u:=zs') rfl rfl (Row.slv (X:=[]) ab (by simp)).cells (Row.slv (X:=[]) ab (by simp)).one k3 (by simp)) rfl ?_;rintro _ w10 ⟨hT,k3⟩;replace k3:Blk w10 b3 33 [.I ((q0:Int) - 900),zs']:=k3;replace k2:=k2.ext hT (by simpa using n23);have bA:=ab.ob_le;replace ab:=ab.keep hT (λb hb h=>by have:=bA _ h;simp at hb;omega);replace aD:=aD.trans hT;clear hT;refine D ?_;refine W ?_;refine Zw (k+2,at_+m+2880,zs',xs++[((at_+m,m2 - 900):Spn)]) ⟨rfl,rfl,rfl,rfl,rfl,trivial⟩ ⟨⟨by dsimp only;omega,by dsimp only;omega,by dsimp only;omega,by dsimp only;omega,by dsimp only;rw [Xc];simp only [Xe,Xf];omega⟩,k2,k3,ab,?_,aD⟩ (by dsimp only;omega);intro x hx;rcases Xh.1 hx with h|h
 exact iU x h;rw [Xl.1 h];unfold Zcv;dsimp only;omega
 . repeat'(first|refine W1 ?_|omega|refine VG ?_ ?_<;>intro hg|refine VC ?_ ?_<;>intro hc)
   all_goals exact QT (zs,xs) ⟨k2,k3,ab,(by dsimp only;omega),iU,aD⟩
 rintro ⟨zs,xs⟩ w5 ⟨k2,k3,ab,jv,iU,aD⟩;dsimp only at k3 ab jv iU ⊢;refine W ?_;have bh:=ab.ob_le;have jy:Stp [] w w5:=hS.ow aD;refine SB (us:=[.I ((q0:Int) - 900),zs]) (by intro u hu;simp at hu;rcases hu with rfl|rfl;exact rfl;exact (Row.slv (X:=[]) ab (by simp)).one) k2 ?_;rintro _ w6 ⟨hT,k2⟩;replace ab:=ab.keep hT (λb hb h=>by have:=bh _ h;simp at hb;omega);refine W ?_;refine J0 rfl rfl rfl k2 rfl ?_;exact .mk ⟨_,zs,xs,rfl,iU,by omega,ab.lower bE,jy.ow hT⟩
end Go.Proofs.YtipfkbkkndacjaaGreatDoor
