/-
Contracts and plain laws, merged out of own texts.
-/
import Derived.Test.YtgdicjnjhchooaaGreatDoorM6
set_option linter.unusedVariables false
set_option linter.unusedSimpArgs false
set_option maxHeartbeats 4000000
set_option maxRecDepth 20000
namespace Go.Proofs.YtgdicjnjhchooaaGreatDoor
open Go Go.Eng Go.RowKit Go.Proofs
theorem Zjm:∀ (l:List Spn) (d M:Int),d<=M->(∀ s∈l,s.2<=M)->swM l d<=M
 | [],d,M,h,_=>h
 | s :: l, d, M, h, hl => by
   have:=hl s (by simp);refine Zjm l (swS d s) M ?_ (λt ht=>hl t (by simp [ht]));unfold swS;split<;>omega
theorem Zeo (l:List Spn) (d M:Int) (h:d<=M) (hl:∀ s∈l,s.2<=M):∀ k,itM l d k<=M
 | 0=>h
 | k+1=>Zjm l _ M (Zeo l d M h hl k) hl
theorem ZfF (v:Value) (l:List Spn) (d:Int) (w) (hs:SlV [] w v l) (ho:∀ s∈l,0<=s.1/\s.1<=s.2/\s.2<=3652059) (hd:-1<=d/\d<=3652059):CC 191 #[v,.I d] w λr w'=>r=.I (Z4u l d)/\Stp [] w w':=by
 have hm:=hs.max;refine cW2 44 Tryz.func191 ?_;refine W ?_;refine LP (σ:=Nat) (λk=>[(0,v),(5,.I (itM l d k)),(6,.I (k:Int))]) (λk W=>k<=l.length/\W=w) (λk=>l.length - k) 0 ⟨Xr _,rfl⟩ ?_;rintro k W' ⟨hk,rfl⟩;by_cases hlt:k<l.length;have i1:=Zei l d k;have i2:=Zeo l d 3652059 hd.2 (λs hs=>(ho s hs).2.2) k;have aQ:itM l d (k+1)=(l.take l.length).foldl swS (itM l d k):=by rw [Xs];rfl
 generalize itM l d k=z at i1 i2 aQ ⊢;refine QO ?_;refine LP (σ:=Nat) (λj=>[(0,v),(5,.I ((l.take j).foldl swS z)),(6,.I (k:Int)),(7,.I (j:Int))]) (λj W=>j<=l.length/\W=W') (λj=>l.length - j) 0 ⟨Xr _,rfl⟩ ?_;rintro j W2 ⟨hj,rfl⟩;by_cases aT:j<l.length
 . have ax:(l.take (j+1)).foldl swS z=swS ((l.take j).foldl swS z) l[j]:=by rw [Xg aT,XP];rfl
   have b1:=Zbx (l.take j) z;have b2:=Zjm (l.take j) z 3652059 i2 (λs hs=>(ho s (Yad hs)).2.2);unfold swM at b1 b2;have hv:=ho _ (Xb aT);generalize (l.take j).foldl swS z=y at ax b1 b2 ⊢;repeat'(first|refine W1 ?_|omega|refine VG ?_ ?_<;>intro hg|refine VC ?_ ?_<;>intro hc)
   all_goals
    refine Zd (j+1) ⟨rfl,?_,rfl,rfl,trivial⟩ ⟨aT,rfl⟩ (Xp aT (Xt j));rw [ax];unfold swS;first
    | (rw [if_pos (by omega)];rfl)
    | (rw [if_neg (by omega)];rfl)
 obtain rfl:j=l.length:=by omega
 rw [<- aQ];refine QO ?_;exact QL (k+1) ⟨hlt,rfl⟩ (Xp hlt (Xt k));obtain rfl:k=l.length:=by omega
 refine RT ?_;exact ⟨rfl,Stp.refl _ _⟩
theorem ZbC (a b:Int) (w):(Instr.build 94 #[(0,.I a),(1,.I b)]).run Tryz.prog w=.ok (.agg (Z2.enc ((a,b):Spn)).toArray) w:=by kernel_rfl
theorem Zjn (l:List Spn):∀ k,(mrR l k).1.length<=k
 | 0=>Xl _
 | k + 1 => by
   have:=Zjn l k;rw [mrR]
   try dsimp only
   split;rw [Xa];simp only [Xe,Xi];omega;omega
theorem Zjo {l:List Spn} (ho:∀ s∈l,0<=s.1/\s.1<=s.2/\s.2<=3652059):∀ k,-1<=(mrR l k).2/\(mrR l k).2<=3652059
 | 0=>⟨XI _,by show (-1:Int)<=3652059;decide⟩
 | k + 1 => by
   have:=Zjo ho k;rw [mrR]
   try dsimp only
   rcases Z3E l (mrR l k).2 l.length (Xl _) with ⟨h1,h2⟩|⟨j,h1,hj,aT,h3,h4⟩
   rw [h1,if_neg (by decide)];exact this;rw [h1,if_pos (by omega)];have ej:l.getD ((j:Int)).toNat (0,0)=l[j]:=by simp [aT]
   rw [ej];have hv:=ho _ (Xb aT);have a1:=Zei l l[j].1 l.length;have a2:=Zeo l l[j].1 3652059 (by omega) (λs hs=>(ho s hs).2.2) l.length;unfold Z4u;omega
theorem Z6a (v:Value) (l:List Spn) (w) (hs:SlV [] w v l) (hl:l.length<=1000000) (ho:∀ s∈l,0<=s.1/\s.1<=s.2/\s.2<=3652059):CC 133 #[v] w λr w'=>Zk 94 w w' r (Ja l):=by
 rw [<- Zjf (λs hs=>⟨(ho s hs).1,(ho s hs).2.1⟩)];refine cW1 67 Tryz.func133 ?_;refine W ?_;refine LP (σ:=Nat×Value) (λq=>[(0,v),(3,q.2),(4,.I (mrR l q.1).2),(5,.I (q.1:Int))]) (λq W=>q.1<=l.length/\Zk 94 w W q.2 (mrR l q.1).1) (λq=>l.length - q.1) (0,.N) ⟨Xr _,Zk.nil⟩ ?_;rintro ⟨k,ov⟩ w1 ⟨hk,hr⟩;dsimp only at hk hr ⊢;have bB:=hs.up hr.2;by_cases hlt:k<l.length;have jf:=Zjo ho k;have fm:=Zjn l k;have aQ:mrR l (k+1)=if 0<=Z48 l (mrR l k).2 l.length then ((mrR l k).1++[((l.getD (Z48 l (mrR l k).2 l.length).toNat (0,0)).1,Z4u l (l.getD (Z48 l (mrR l k).2 l.length).toNat (0,0)).1)],Z4u l (l.getD (Z48 l (mrR l k).2 l.length).toNat (0,0)).1) else mrR l k:=rfl
 generalize mrR l k=s at hr jf fm aQ ⊢;obtain ⟨out,fr⟩:=s;dsimp only at hr jf fm aQ ⊢;refine QO ?_;refine LP (σ:=Nat) (λj=>[(0,v),(3,ov),(4,.I fr),(5,.I (k:Int)),(6,.I (Z48 l fr j)),(7,.I (j:Int))]) (λj W=>j<=l.length/\Stp [] w1 W) (λj=>l.length - j) 0 ⟨Xr _,Stp.refl _ _⟩ ?_;rintro j w2 ⟨hj,hT⟩;have aX:=bB.up hT;by_cases aT:j<l.length;have ej:l.getD j (0,0)=l[j]:=by simp [aT]
 have hv:=ho _ (Xb aT);rcases Z3E l fr j hj with ⟨h1,-⟩|⟨i,h1,cW,cR,h3,-⟩
 . have ax:Z48 l fr (j+1)=if l[j].1 > fr then (j:Int) else -1:=by
    rw [Z48,ej,h1];by_cases hc:l[j].1 > fr;rw [if_pos ⟨hc,.inl (by decide)⟩,if_pos hc];rw [if_neg (λh=>hc h.1),if_neg hc]
   rw [h1];refine QO ?_;refine ZDr 24 [] [] [(0,0),(1,0),(2,0),(3,0),(4,1),(5,0),(6,0),(7,0),(8,0),(9,0),(10,0),(11,0),(12,0),(13,0),(14,0),(15,1),(16,0),(17,0),(18,0),(19,0),(20,1),(21,0),(22,0),(23,0)] (λw1 ae=>?_);replace aX:=aX.up ae;replace hT:=hT.trans ae
   (refine QE ?_ ?_<;>intro hg)
   all_goals (try refine QO ?_)
   all_goals
    refine Zd (j+1) ⟨rfl,rfl,rfl,rfl,?_,rfl,trivial⟩ ⟨aT,hT⟩ (Xp aT (Xt j));rw [ax];first
    | (rw [if_pos (by omega)];rfl)
    | (rw [if_neg (by omega)];rfl)
 . have ei:l.getD ((i:Int)).toNat (0,0)=l[i]:=by simp [cR]
   have ax:Z48 l fr (j+1)=if l[j].1 > fr/\l[j].1<l[i].1 then (j:Int) else (i:Int):=by
    rw [Z48,ej,h1,ei];by_cases hc:l[j].1 > fr/\l[j].1<l[i].1;rw [if_pos ⟨hc.1,.inr hc.2⟩,if_pos hc];rw [if_neg (λh=>hc ⟨h.1,h.2.resolve_left (by omega)⟩),if_neg hc]
   rw [h1];refine QO ?_;refine ZDr 24 [] [] [(0,0),(1,0),(2,0),(3,0),(4,1),(5,0),(6,0),(7,0),(8,0),(9,0),(10,0),(11,0),(12,0),(13,0),(14,0),(15,1),(16,0),(17,0),(18,0),(19,0),(20,1),(21,0),(22,0),(23,0)] (λw1 ae=>?_);replace aX:=aX.up ae;replace hT:=hT.trans ae
   (refine QE ?_ ?_<;>intro hg)
   all_goals (try repeat'(first|refine W1 ?_|omega|refine VG ?_ ?_<;>intro hg|refine VC ?_ ?_<;>intro hc))
   all_goals
    refine Zd (j+1) ⟨rfl,rfl,rfl,rfl,?_,rfl,trivial⟩ ⟨aT,hT⟩ (Xp aT (Xt j));rw [ax];first
    | (rw [if_pos (by omega)];rfl)
    | (rw [if_neg (by omega)];rfl)
 obtain rfl:j=l.length:=by omega
 replace hr:=hr.up hT;rcases Z3E l fr l.length (Xl _) with ⟨h1,-⟩|⟨i,h1,cW,cR,h3,-⟩
 rw [h1] at aQ ⊢;rw [if_neg (by decide)] at aQ;refine QO ?_;exact Zd (k+1,ov) ⟨rfl,rfl,by rw [aQ];rfl,rfl,trivial⟩ ⟨hlt,by rw [aQ];exact hr⟩ (Xp hlt (Xt k));have ei:l.getD ((i:Int)).toNat (0,0)=l[i]:=by simp [cR]
 have hv:=ho _ (Xb cR);rw [h1] at aQ ⊢;rw [if_pos (by omega),ei] at aQ;have hE:=Zeo l l[i].1 3652059 (by omega) (λs hs=>(ho s hs).2.2) l.length;refine QO ?_;refine CP hr.2 (ZfF v l l[i].1 _ aX ho (by omega)) λw3 hU hS=>?_
 replace hr:=hr.up hU;have dH:=aX.up hU;refine QO ?_;refine Z5 rfl (ZbC l[i].1 (Z4u l l[i].1)) rfl ?_;refine AP1 ((l[i].1,Z4u l l[i].1):Spn) hr (by omega) λv1 v' w' aO _=>?_
 refine QO ?_;exact Zd (k+1,v') ⟨rfl,rfl,by rw [aQ];rfl,rfl,trivial⟩ ⟨hlt,by rw [aQ];exact aO⟩ (Xp hlt (Xt k));obtain rfl:k=l.length:=by omega
 refine QO ?_;refine WR ?_;exact .mk hr
theorem ZbD (m:List Spn) {d e:Int} (h:d<=e):(m.filter (λt=>decide (e<t.2))).length<=(m.filter (λt=>decide (d<t.2))).length:=by
 induction m with
 | nil=>simp
 | cons s m ih=>
   simp only [XT,decide_eq_true_eq];split;rw [if_pos (by omega)];simpa using ih;split;simp only [Xe];omega;exact ih
def nuM (d:Int):Option Spn->Int×Int
 | none=>(3652059,3652059)
 | some s=>(max s.1 (d+1),s.2)
theorem Z5d (start due:Int) (v:Value) (l:List Spn) (w) (hs:SlV [] w v l) (ho:ZaI l) (h1:-1000000000<=start/\start<=3652058) (h2:-1000000000<=due/\due<=1000000000) :
 CC 79 #[.I start,.I due,v] w λr w'=>∃ a:Int,r=.tuple #[.I a,.I (Z0N start due l).2]/\((Z0N start due l).2=0->a=(Z0N start due l).1)/\Stp [] w w':=by
 have ak:=ho.len;unfold Z0N;refine cW3 81 Tryz.func79 ?_;by_cases hd:due<=start;rw [if_pos hd];refine RT ?_;exact ⟨due,rfl,λ_=>rfl,Stp.refl _ _⟩;rw [if_neg hd];refine QO ?_;refine CM (ZS rfl) (Z6a v l w hs (by omega) (λs hs=>by have:=ho.rng s hs;omega)) ?_;rintro mv w1 nZ;have hm:SlV [] w1 mv (Ja l):=nZ.slv (by simp);have hS:=nZ.2;obtain ⟨ma,mv2⟩:=Z3D (l:=l) (λs hs=>(ho.rng s hs).2.1);have mrg:∀ s∈Ja l,s.1<=3652058/\s.2<=3652058/\0<=s.1:=λs bP=>by
  have e2:inB (Ja l) s.2=true:=J1.2 ⟨s,bP,mv2 s bP,XI _⟩;have e1:inB (Ja l) s.1=true:=J1.2 ⟨s,bP,XI _,mv2 s bP⟩;rw [Z7t (λs hs=>(ho.rng s hs).2.1)] at e1 e2;obtain ⟨t,ht,g1,g2⟩:=J1.1 e2;obtain ⟨u,hu,k1,k2⟩:=J1.1 e1;have:=ho.rng t ht;have:=ho.rng u hu;have:=mv2 s bP;omega
 obtain ⟨E,hE⟩:∃ E,Z1i start (Ja l) due=E:=⟨_,rfl⟩
 have hI:ExI (Ja l) E start (due - start):=by
  unfold ExI;rw [<- Z5K start _ _ (by omega) mv2,show start+(due - start)=due by omega,hE]
 rw [hE];clear nZ hE;generalize Ja l=m at *;have dQ:=hm.max;refine W ?_;refine Zm (σ:=Int×Int) (λq=>[(8,mv),(9,.I q.1),(10,.I q.2)]) (λq W=>((0<=q.2/\q.2<=3000000000)/\(-1000000000<=q.1/\q.1<=3652058)/\ExI m E q.1 q.2/\(q.2=0->q.1=E))/\Stp [] w1 W) (λq=>(m.filter (λt=>decide (q.1<t.2))).length+if 0<q.2 then 1 else 0) (start,due - start) ⟨rfl,rfl,rfl,trivial⟩ ⟨⟨by dsimp only;omega,by dsimp only;omega,hI,λh=>by dsimp only at h;omega⟩,Stp.refl _ _⟩ ?_;rintro ⟨d,left⟩ w2 ⟨⟨hl,ib,hx,h0⟩,hT⟩;dsimp only at hl ib hx h0 ⊢;have fe:=hm.up hT;by_cases aZ:0<left
 . rw [if_pos aZ]
   refine QO ?_;refine Zm (σ:=Nat) (λj=>[(8,mv),(9,.I d),(10,.I left),(11,.I (nuM d ((m.drop j).find? (λt=>decide (d<t.2)))).1),(12,.I (nuM d ((m.drop j).find? (λt=>decide (d<t.2)))).2),(13,.I ((j:Int) - 1))]) (λj W=>j<=m.length/\Stp [] w2 W) (λj=>j) m.length ⟨rfl,rfl,rfl,by rw [Ybg];rfl,by rw [Ybg];rfl,rfl,trivial⟩ ⟨Xl _,Stp.refl _ _⟩ ?_;rintro j w3 ⟨hj,hU⟩;have nN:=fe.up hU;cases j with
   | succ j=>
     have aT:j<m.length:=by omega
     have hz:((j+1:Nat):Int) - 1=(j:Int):=by omega
     have lc:m.drop j=m[j] :: m.drop (j+1):=YaS aT;have hv:=mrg _ (Xb aT);rw [hz];by_cases hc:d<m[j].2;have hf:(m.drop j).find? (λt=>decide (d<t.2))=some m[j]:=by rw [lc,YbQ,decide_eq_true hc]
     refine QO ?_;refine Zd j ⟨rfl,rfl,rfl,by rw [hf];rfl,by rw [hf];rfl,rfl,trivial⟩ ⟨by omega,hU⟩ (Xt j);have hf:(m.drop j).find? (λt=>decide (d<t.2))=(m.drop (j+1)).find? (λt=>decide (d<t.2)):=by rw [lc,YbQ,decide_eq_false hc]
     refine QO ?_;refine Zd j ⟨rfl,rfl,rfl,by rw [hf];rfl,by rw [hf];rfl,rfl,trivial⟩ ⟨by omega,hU⟩ (Xt j)
   | zero=>
     rw [Ybb];have an:=hT.trans hU;cases jh:m.find? (λt=>decide (d<t.2)) with
     | none=>
       have e:=Zjg hx jh;show WC _ _ _ _ [(8,mv),(9,.I d),(10,.I left),(11,.I 3652059),(12,.I 3652059),(13,.I (((0:Nat):Int) - 1))] _;by_cases hc:left<=3652058 - d;have em:min left (3652059 - 1 - d)=left:=by omega
       refine QO ?_;refine Zd (E,0) ⟨rfl,?_,?_,trivial⟩ ⟨⟨⟨by dsimp only;omega,by dsimp only;omega⟩,⟨by dsimp only;omega,by dsimp only;omega⟩,?_,λ_=>rfl⟩,an⟩ ?_;show some (Value.int .i64 _)=some (.I E);congr 2;omega;show some (Value.int .i64 _)=some (.I 0);congr 2;omega;unfold ExI at hx ⊢;have:m.filter (λt=>decide (E<t.2))=[]:=by
        rw [List.filter_eq_nil_iff];intro a ha cj;have:=YaO.1 jh a ha;simp only [decide_eq_true_eq] at this cj;omega
       dsimp only;rw [this];show E+0=E;omega;dsimp only;have:=ZbD m (d:=d) (e:=E) (by omega);rw [if_neg (by decide)];omega;refine QO ?_;refine WR ?_;refine .mk ⟨0,?_,λh=>?_,hS.trans an⟩;rw [if_pos (by omega)];rw [if_pos (by omega)] at h;exact absurd h (by decide)
     | some s=>
       obtain ⟨g1,g2,g3,g4⟩:=Z5a m d s ma mv2 jh;obtain ⟨x1,x2⟩:=Zjh ma mv2 hx aZ jh;have cX:=Zmi ma mv2 jh;have iJ:=mrg s g3;have xB:=mv2 s g3;show WC _ _ _ _ [(8,mv),(9,.I d),(10,.I left),(11,.I (max s.1 (d+1))),(12,.I s.2),(13,.I (((0:Nat):Int) - 1))] _;by_cases hc:left<=max s.1 (d+1) - 1 - d;obtain ⟨y1,y2⟩:=x1 hc;have em:min left (max s.1 (d+1) - 1 - d)=left:=by omega
       refine QO ?_;refine Zd (E,0) ⟨rfl,?_,?_,trivial⟩ ⟨⟨⟨by dsimp only;omega,by dsimp only;omega⟩,⟨by dsimp only;omega,by dsimp only;omega⟩,?_,λ_=>rfl⟩,an⟩ ?_;show some (Value.int .i64 _)=some (.I E);congr 2;omega;show some (Value.int .i64 _)=some (.I 0);congr 2;omega
       . unfold ExI
         dsimp only;cases hq:m.filter (λt=>decide (E<t.2)) with
         | nil=>show E+0=E;omega
         | cons t r=>
           have ht:t∈m.filter (λt=>decide (d<t.2)):=by
            have hq2:t∈m.filter (λt=>decide (E<t.2)):=by rw [hq];simp
            have q1:=XW.1 hq2;refine XW.2 ⟨q1.1,?_⟩;have:=of_decide_eq_true q1.2;exact decide_eq_true (by omega)
           rw [g1] at ht;have pg:E<t.1:=by
            rcases Xc.1 ht with rfl|ht
            omega;have:=g2 t ht;omega
           rw [Z1i,if_pos (by omega)];omega
       dsimp only;have:=ZbD m (d:=d) (e:=E) (by omega);rw [if_neg (by decide)];omega;obtain ⟨y1,y2⟩:=x2 (by omega);have em:min left (max s.1 (d+1) - 1 - d)=max s.1 (d+1) - 1 - d:=by omega
       by_cases iE:s.2<3652058;refine QO ?_;refine Zd (s.2,left - (max s.1 (d+1) - 1 - d)) ⟨rfl,rfl,?_,trivial⟩ ⟨⟨⟨by dsimp only;omega,by dsimp only;omega⟩,⟨by dsimp only;omega,by dsimp only;omega⟩,y1,λh=>by dsimp only at h;omega⟩,an⟩ ?_;show some (Value.int .i64 _)=some (.I _);congr 2;omega;dsimp only;rw [if_pos (by omega)];omega;refine QO ?_;refine WR ?_;refine .mk ⟨0,?_,λh=>?_,hS.trans an⟩;rw [if_pos (by omega)];rw [if_pos (by omega)] at h;exact absurd h (by decide)
 obtain rfl:left=0:=by omega
 obtain rfl:=h0 rfl;rw [if_neg (show ¬ 3652058<d by omega)];refine RT ?_;exact ⟨d,rfl,λ_=>rfl,hS.trans hT⟩
theorem Z7w (start due:Int) (v:Value) (l:List Spn) (w) (hs:SlV [] w v l) (ho:ZaI l) (h1:-1000000000<=start/\start<=3652058) (h2:-1000000000<=due/\due<=1000000000):CC 43 #[.I start,.I due,v] w λr w'=>Zk 94 w w' r (Z23 start due l):=by
 have ak:=ho.len;refine cW3 55 Tryz.func43 ?_;refine QO ?_;refine CL (Z5d start due v l w hs ho h1 h2) ?_;rintro _ w1 ⟨a,rfl,ha,hS⟩;refine W ?_;refine Js (σ:=Unit) (λ_=>[(0,.I start),(1,.I due),(2,v),(7,.I (ZaL start due l))]) (λ_ w'=>Stp [] w w') ?_ ?_;unfold ZaL;by_cases hc:(Z0N start due l).2=0;rw [if_neg (by simpa using hc),<- ha hc];refine QO ?_;exact QT () hS;rw [if_pos hc];refine QO ?_;exact QT () hS;rintro _ w2 aj;unfold Z23;generalize ZaL start due l=E;clear ha hS;refine W ?_;refine LP (σ:=Nat×Value) (λq=>[(0,.I start),(1,.I due),(2,v),(7,.I E),(9,q.2),(10,.I (q.1:Int))]) (λq w'=>q.1<=l.length/\Zk 94 w w' q.2 (if due<=start then [] else (l.take q.1).filter (Z1U start E))) (λq=>l.length - q.1) (0,.N) ⟨Xr _,by simpa using Zk.pre aj Zk.nil⟩ ?_;rintro ⟨k,rv⟩ w3 ⟨hk,hr⟩;dsimp only at hk hr ⊢;have dH:=hs.up hr.2;by_cases hlt:k<l.length;have hstep:=Z5Y (Z1U start E) l k hlt;by_cases hd:due<=start;rw [if_pos hd] at hr;refine QO ?_;exact QL (k+1,rv) ⟨hlt,by rw [if_pos hd];exact hr⟩ (Xp hlt (Xt k));rw [if_neg hd] at hr;by_cases hu:start<l[k].2/\l[k].1<=E;refine QO ?_;refine AP1 l[k] hr (Xh (XG _ _) (by simp;omega)) λv1 v' w' aO _=>?_
 refine QO ?_;exact QL (k+1,v') ⟨hlt,by
  rw [if_neg hd,hstep,if_pos (show Z1U start E l[k]=true from decide_eq_true hu)];exact aO⟩ (Xp hlt (Xt k))
 . repeat'(first|refine W1 ?_|omega|refine VG ?_ ?_<;>intro hg|refine VC ?_ ?_<;>intro hc)
   all_goals exact QL (k+1,rv) ⟨hlt,by
    rw [if_neg hd,hstep,if_neg (show ¬ Z1U start E l[k]=true by simpa [Z1U] using hu),Xz];exact hr⟩ (Xp hlt (Xt k))
 obtain rfl:k=l.length:=by omega
 rw [Xs] at hr;refine QO ?_;refine WR ?_;exact .mk hr
theorem ZbE (r:Rtn) (day:Int) (w):CC 293 #[aG r,.I day] w λv w'=>v=.B (Jv r day)/\Stp [] w w':=by
 unfold Jv;refine cW2 31 Tryz.func293 ?_;refine W ?_;refine BX (Stp.refl [] w) λb2 w1 h2 e2 _ hS=>?_;replace e2:Blk w1 b2 137 (Z2.enc r):=e2;simp only [Z2.enc] at e2;by_cases h1:r.kind=1
 . rw [if_pos h1]
   (refine QP ?_ ?_<;>intro hg)
   all_goals
    refine RU ?_;exact ⟨by congr 1;first|(rw [decide_eq_true (by omega)];done)|(symm;rw [decide_eq_decide];constructor<;>intro _<;>omega)|(symm;exact decide_eq_true (by omega))|(symm;exact decide_eq_false (by omega)),hS⟩
 rw [if_neg h1];by_cases h2:r.kind=2
 . rw [if_pos h2]
   (refine QP ?_ ?_<;>intro hg)
   all_goals
    refine RU ?_;exact ⟨by congr 1;first|(symm;rw [decide_eq_decide];constructor<;>intro _<;>omega)|(symm;exact decide_eq_true (by omega))|(symm;exact decide_eq_false (by omega)),hS⟩
 rw [if_neg h2];refine RT ?_;exact ⟨rfl,hS⟩
theorem Zep (day:Int) (k:Nat):∀ l:List Rtn,((l.filter (λr=>decide (r.crr<(k:Int)))).length:Int)+Z0T l day k<=((l.filter (λr=>decide (r.crr<((k+1:Nat):Int)))).length:Int)
 | []=>by simp [Z0T]
 | r :: l => by
   have ih:=Zep day k l;have e:Z0T (r :: l) day k=(if r.crr=(k:Int)/\Jv r day=true then 1 else 0)+Z0T l day k:=by
    unfold Z0T;by_cases h:r.crr=(k:Int)/\Jv r day=true;have:(decide (r.crr=(k:Int)) && Jv r day)=true:=by simp [h]
    rw [XT,if_pos this,if_pos h,Xe];omega;have:¬ (decide (r.crr=(k:Int)) && Jv r day)=true:=by simpa using h
    rw [XT,if_neg this,if_neg h];omega
   rw [e,XT,XT];simp only [decide_eq_true_eq];split<;>split<;>split<;>(try simp only [Xe])<;>omega
theorem Zd8 (l:List Rtn) (day c:Int):0<=Z0T l day c:=by unfold Z0T;omega
theorem Zd9 (l:List Rtn) (crrs:List Crr) (day:Int) (ht:∀ c∈crrs,0<=c.tol):∀ k:Nat,0<=exG l crrs day k/\exG l crrs day k<=((l.filter (λr=>decide (r.crr<(k:Int)))).length:Int)
 | 0=>⟨XI _,by rw [exG];omega⟩
 | k + 1 => by
   have ih:=Zd9 l crrs day ht k;have:=Zep day k l;have h0:0<=(crrs.getD k ⟨0,0⟩).tol:=by
    by_cases h:k<crrs.length;rw [show crrs.getD k ⟨0,0⟩=crrs[k] by simp [h]];exact ht _ (Xb h);rw [show crrs.getD k ⟨0,0⟩=⟨0,0⟩ by simp [h]];exact XI _
   have:=Zd8 l day k;rw [exG];omega
theorem Z9Q (lv cv:Value) (l:List Rtn) (crrs:List Crr) (day:Int) (w) (hl:SlV [] w lv l) (hc:SlV [] w cv crrs) (ht:∀ c∈crrs,0<=c.tol/\c.tol<=1000000):CC 249 #[lv,cv,.I day] w λr w'=>r=.I (exG l crrs day crrs.length)/\Stp [] w w':=by
 have eT:=hl.max;have xC:=hc.max;refine cW3 51 Tryz.func249 ?_;refine W ?_;refine LP (σ:=Nat) (λk=>[(0,lv),(1,cv),(2,.I day),(7,.I (exG l crrs day k)),(8,.I (k:Int))]) (λk W=>k<=crrs.length/\Stp [] w W) (λk=>crrs.length - k) 0 ⟨Xr _,Stp.refl _ _⟩ ?_;rintro k w1 ⟨hk,hS⟩;have fV:=hl.up hS;have dR:=hc.up hS;by_cases hlt:k<crrs.length;have fg:=ht _ (Xb hlt);have du:=Zd9 l crrs day (λc hc=>(ht c hc).1) k;have eD:=XG (λr:Rtn=>decide (r.crr<(k:Int))) l;have m7:=Zd9 l crrs day (λc hc=>(ht c hc).1) (k+1);have vN:=XG (λr:Rtn=>decide (r.crr<((k+1:Nat):Int))) l;have mr:=Zd8 l day k;have bY:Z0T l day k<=l.length:=by
  have:=XG (λr:Rtn=>decide (r.crr=(k:Int)) && Jv r day) l;unfold Z0T;omega
 have aQ:exG l crrs day (k+1)=exG l crrs day k+max 0 (Z0T l day k - crrs[k].tol):=by rw [exG,show crrs.getD k ⟨0,0⟩=crrs[k] by simp [hlt]]
 generalize exG l crrs day k=x at du aQ ⊢;rw [aQ] at m7;refine QO ?_;refine LP (σ:=Nat) (λj=>[(0,lv),(1,cv),(2,.I day),(7,.I x),(8,.I (k:Int)),(9,.I (Z0T (l.take j) day k)),(10,.I (j:Int))]) (λj W=>j<=l.length/\Stp [] w1 W) (λj=>l.length - j) 0 ⟨Xr _,Stp.refl _ _⟩ ?_;rintro j w2 ⟨hj,hT⟩;have dK:=fV.up hT;have eC:=dR.up hT;by_cases aT:j<l.length;have ax:Z0T (l.take (j+1)) day k=Z0T (l.take j) day k+if l[j].crr=(k:Int)/\Jv l[j] day=true then 1 else 0:=by rw [Xg aT,Z5b]
 have b1:=Zd8 (l.take j) day k;have b2:Z0T (l.take j) day k<=j:=by
  have:=XG (λr:Rtn=>decide (r.crr=(k:Int)) && Jv r day) (l.take j);rw [Xx] at this;unfold Z0T;omega
 generalize Z0T (l.take j) day k=y at ax b1 b2 ⊢;by_cases ic:l[j].crr=(k:Int)
 refine QO ?_;refine CP hT (ZbE l[j] day w2) λw3 _ hT=>?_;cases hw:Jv l[j] day;rw [hw,if_neg (by simp)] at ax;rw [Int.add_zero] at ax;refine QO ?_;exact Zd (j+1) ⟨rfl,rfl,rfl,rfl,rfl,by rw [ax];rfl,rfl,trivial⟩ ⟨aT,hT⟩ (Xp aT (Xt j));rw [hw,if_pos ⟨ic,rfl⟩] at ax;refine QO ?_;exact Zd (j+1) ⟨rfl,rfl,rfl,rfl,rfl,by rw [ax];rfl,rfl,trivial⟩ ⟨aT,hT⟩ (Xp aT (Xt j));rw [if_neg (λh=>ic h.1),Int.add_zero] at ax;refine QO ?_;exact Zd (j+1) ⟨rfl,rfl,rfl,rfl,rfl,by rw [ax];rfl,rfl,trivial⟩ ⟨aT,hT⟩ (Xp aT (Xt j));obtain rfl:j=l.length:=by omega
 rw [Xs];generalize Z0T l day k=y at mr bY aQ m7 ⊢;refine QO ?_;exact Zd (k+1) ⟨rfl,rfl,rfl,by rw [aQ];rfl,rfl,trivial⟩ ⟨hlt,hS.trans hT⟩ (Xp hlt (Xt k));obtain rfl:k=crrs.length:=by omega
 refine RT ?_;exact ⟨rfl,hS⟩
theorem Zeq (x:Int):∀ (l:List Int) (j:Nat),j<=l.length->(∀ i (h:i<l.length),i<j->l[i]<x)->(∀ h:j<l.length,¬ l[j]<x)->Z2Y x l=l.take j++x :: l.drop j
 | [],0,_,_,_=>rfl
 | y :: l, 0, _, _, h => by
   have hy:¬ y<x:=h (Nat.succ_pos _);rw [Z2Y,if_neg hy];rfl
 | y :: l, j + 1, hj, h1, h2 => by
   have hy:y<x:=h1 0 (by simp) (by omega);rw [Z2Y,if_pos hy,Zeq x l j (by simpa using hj) (λi h cW=>h1 (i+1) (Ybx h) (by omega)) (λh=>h2 (Ybx h))];rfl
theorem Zjp (x:Int) (l:List Int):(Z2Y x l).length=l.length+1:=by rw [(Z2y x l).length_eq,Xe]
theorem Z8A (l:List Int) (x:Int):Z5c (l++[x])=Z2Y x (Z5c l):=by
 unfold Z5c;rw [XP];rfl
theorem Z5e (l:List Int):∀ k,k<=l.length->(Z5c (l.take k)).length=k
 | 0,_=>rfl
 | k+1,h=>by rw [Xg (by omega:k<l.length),Z8A,Zjp,Z5e l k (by omega)]
theorem Z9R (v:Value) (l:List Int) (w) (hs:SlV [] w v l) (hl:l.length<=1000000):CC 292 #[v] w λr w'=>Zk 3 w w' r (Z5c l):=by
 refine cW1 48 Tryz.func292 ?_;refine W ?_;refine LP (σ:=Nat×Value) (λq=>[(0,v),(3,q.2),(4,.I (q.1:Int))]) (λq W=>q.1<=l.length/\Zk 3 w W q.2 (Z5c (l.take q.1))) (λq=>l.length - q.1) (0,.N) ⟨Xr _,Zk.nil⟩ ?_;rintro ⟨k,ov⟩ w1 ⟨hk,hr⟩;dsimp only at hk hr ⊢;have bB:=hs.up hr.2;by_cases hlt:k<l.length;have aQ:Z5c (l.take (k+1))=Z2Y l[k] (Z5c (l.take k)):=by rw [Xg hlt,Z8A]
 have eD:=Z5e l k hk;generalize Z5c (l.take k)=S at hr aQ eD ⊢;have iI:SlV [] w1 ov S:=hr.slv (by simp);refine QO ?_;refine LP (σ:=Nat) (λj=>[(0,v),(3,ov),(4,.I (k:Int)),(5,.I (j:Int))]) (λj W=>(j<=S.length/\∀ i (h:i<S.length),i<j->S[i]<l[k])/\Stp [] w1 W) (λj=>S.length - j) 0 ⟨⟨Xr _,λi h hi=>absurd hi (XF i)⟩,Stp.refl _ _⟩ ?_;rintro j w2 ⟨⟨hj,hp⟩,hT⟩;have aX:=bB.up hT;have cE:=iI.up hT;by_cases hc:∃ h:j<S.length,S[j]<l[k]
 . obtain ⟨aT,gk⟩:=hc
   refine W ?_;refine ZDr 15 [] [] [(0,0),(1,0),(2,0),(3,0),(4,0),(5,0),(6,0),(7,0),(8,1),(9,0),(10,0),(11,0),(12,1),(13,0),(14,0)] (λw1 ae=>?_);replace aX:=aX.up ae;replace cE:=cE.up ae;replace hT:=hT.trans ae;refine QD ?_;all_goals (try refine QO ?_)
   all_goals
    refine QL (j+1) ⟨⟨aT,λi h hi=>?_⟩,hT⟩ (Xp aT (Xt j));by_cases e:i=j;subst e;exact gk;exact hp i h (by omega)
 have ez:=Zeq l[k] S j hj hp (λh h2=>hc ⟨h,h2⟩);rw [ez] at aQ;by_cases aT:j<S.length
 . have kT:¬ S[j]<l[k]:=λh=>hc ⟨aT,h⟩
   refine W ?_;refine ZDr 15 [] [] [(0,0),(1,0),(2,0),(3,0),(4,0),(5,0),(6,0),(7,0),(8,1),(9,0),(10,0),(11,0),(12,1),(13,0),(14,0)] (λw1 ae=>?_);replace aX:=aX.up ae;replace cE:=cE.up ae;replace hT:=hT.trans ae;refine QD ?_;all_goals (try refine QO ?_)
   refine Z9 (Z09 rfl cE rfl rfl hj) rfl ?_;refine W ?_;refine Z0 (ZZ (β:=Int) rfl (by decide) rfl rfl Zk.nil ((cE.slc (Xr j) hj).ext (Stp.refl [] _) (by simp) (by simp [ob])) (by simp;omega) (by simp [maxLen];omega)) rfl ?_;rintro nv1 w3 ⟨g1,g2,-⟩;rw [XO,Ybb] at g1;have dH:=aX.up g1.2;refine QO ?_;refine AP1 l[k] g1 (by simp;omega) λv1 nv2 w4 g3 _=>?_
   refine QO ?_;refine Z9 (Z0Z rfl (cE.up g3.2) rfl rfl hj) rfl ?_;refine W ?_;refine Z0 (ZZ (β:=Int) rfl (by decide) rfl rfl g3 (((cE.slc hj (Xl _)).ext g3.2 (by simp) (λb hb=>.inr (g3.ob_le b hb).1))) (by simp;omega) (by simp [maxLen];omega)) rfl ?_;rintro nv3 w5 ⟨g4,g5,-⟩;refine QO ?_;refine QL (k+1,nv3) ⟨hlt,?_⟩ (Xp hlt (Xt k));have g6:=Zk.pre (hr.2.trans hT) g4;rw [aQ];simpa using g6
 . refine W ?_
   refine ZDr 15 [] [] [(0,0),(1,0),(2,0),(3,0),(4,0),(5,0),(6,0),(7,0),(8,1),(9,0),(10,0),(11,0),(12,1),(13,0),(14,0)] (λw1 ae=>?_);replace aX:=aX.up ae;replace cE:=cE.up ae;replace hT:=hT.trans ae;refine QD ?_;all_goals (try refine QO ?_)
   refine Z9 (Z09 rfl cE rfl rfl hj) rfl ?_;refine W ?_;refine Z0 (ZZ (β:=Int) rfl (by decide) rfl rfl Zk.nil ((cE.slc (Xr j) hj).ext (Stp.refl [] _) (by simp) (by simp [ob])) (by simp;omega) (by simp [maxLen];omega)) rfl ?_;rintro nv1 w3 ⟨g1,g2,-⟩;rw [XO,Ybb] at g1;have dH:=aX.up g1.2;refine QO ?_;refine AP1 l[k] g1 (by simp;omega) λv1 nv2 w4 g3 _=>?_
   refine QO ?_;refine Z9 (Z0Z rfl (cE.up g3.2) rfl rfl hj) rfl ?_;refine W ?_;refine Z0 (ZZ (β:=Int) rfl (by decide) rfl rfl g3 (((cE.slc hj (Xl _)).ext g3.2 (by simp) (λb hb=>.inr (g3.ob_le b hb).1))) (by simp;omega) (by simp [maxLen];omega)) rfl ?_;rintro nv3 w5 ⟨g4,g5,-⟩;refine QO ?_;refine QL (k+1,nv3) ⟨hlt,?_⟩ (Xp hlt (Xt k));have g6:=Zk.pre (hr.2.trans hT) g4;rw [aQ];simpa using g6
 obtain rfl:k=l.length:=by omega
 rw [Xs] at hr;refine QO ?_;refine WR ?_;exact .mk hr
theorem Zmk (a:Int) (w):(Instr.buildSlice 22 1 #[(0,.I a)]).run Tryz.prog w=.ok (.slice (some ⟨w.heap.size,0,none⟩) 1 1) (w.alloc (.cells #[.I a] 3)):=by kernel_rfl
theorem Zml (a b:Int) (w):(Instr.buildSlice 22 2 #[(0,.I a),(1,.I b)]).run Tryz.prog w=.ok (.slice (some ⟨w.heap.size,0,none⟩) 2 2) (w.alloc (.cells #[.I a,.I b] 3)):=by kernel_rfl
theorem Z7x (sent:Int) (out:List Int) (d:Int):(Z1l sent out d).length<=out.length+1:=by
 unfold Z1l;split;simp;omega
theorem Z6t (l:List Rtn) (sent:Int):∀ k,k<=l.length->(stR (l.take k) sent).length<=2 * k+1
 | 0,_=>by simp [stR]
 | k + 1, h => by
   have ih:=Z6t l sent k (by omega);have e:stR (l.take (k+1)) sent=Z1l sent (Z1l sent (stR (l.take k) sent) l[k].lo) (l[k].hi+1):=by
    rw [Xg h];unfold stR;rw [XP];rfl
   have:=Z7x sent (Z1l sent (stR (l.take k) sent) l[k].lo) (l[k].hi+1);have:=Z7x sent (stR (l.take k) sent) l[k].lo;rw [e];omega
theorem Z9S (v:Value) (l:List Rtn) (sent:Int) (w) (hs:SlV [] w v l) (hl:l.length<=100000) (hb:∀ r∈l,(0<=r.lo/\r.lo<=3652058)/\0<=r.hi/\r.hi<=3652058) (hd:0<=sent/\sent<=3652058):CC 248 #[v,.I sent] w λr w'=>Zk 3 w w' r (Z5c (stR l sent)++[3652059]):=by
 refine cW2 66 Tryz.func248 ?_;refine W ?_;refine Z0 (Z1 (l:=[(0,.tmp 9)]) (vs:=[(0,.I sent)]) rfl (Zmk sent)) rfl ?_;rintro v1 w1 hN;have jk:Zk 3 w w1 v1 [sent]:=Zk.one hN rfl rfl (by simp [maxLen]);clear hN;refine W ?_;refine LP (σ:=Nat×Value) (λq=>[(0,v),(1,.I sent),(5,q.2),(6,.I (q.1:Int))]) (λq W=>q.1<=l.length/\Zk 3 w W q.2 (stR (l.take q.1) sent)) (λq=>l.length - q.1) (0,v1) ⟨Xr _,jk⟩ ?_;clear jk;rintro ⟨k,ov⟩ w2 ⟨hk,hr⟩;dsimp only at hk hr ⊢;have aX:=hs.up hr.2;by_cases hlt:k<l.length
 . have xD:=hb _ (Xb hlt)
   have eD:=Z6t l sent k hk;have aQ:stR (l.take (k+1)) sent=[l[k].lo,l[k].hi+1].foldl (Z1l sent) (stR (l.take k) sent):=by
    rw [Xg hlt];unfold stR;rw [XP];rfl
   generalize stR (l.take k) sent=S at hr eD aQ ⊢;refine QO ?_;refine ZDr 13 [] [] [(0,0),(1,0),(2,0),(3,0),(4,1),(5,0),(6,0),(7,0),(8,0),(9,1),(10,0),(11,2),(12,0)] (λw1 ae=>?_);replace aX:=aX.up ae;replace hr:=hr.up ae;refine QD ?_;refine Z7 rfl trivial (Z1 (l:=[(0,.tmp 21),(1,.tmp 27)]) (vs:=[(0,.I l[k].lo),(1,.I (l[k].hi+1))]) rfl (Zml _ _)) (λ_ _ h=>h.choose_spec.2.2.2) rfl ?_;rintro dv w4 ⟨bd,rfl,iK,ab,hT⟩;have sG:Row [bd] w4 w.heap.size 3 ov S:=hr.1.ext hT (by simp) (λb hb=>.inr (by simp at hb;omega));have bg:bd∉ob ov:=λh=>by have:=(hr.ob_le bd h).2;omega
   replace hT:=hr.2.trans hT;have jc:∃ D:List Int,D=[l[k].lo,l[k].hi+1]:=⟨_,rfl⟩
   obtain ⟨D,hD⟩:=jc;have sH:D.length=2:=by rw [hD];rfl
   rw [<- hD] at aQ;replace ab:Blk w4 bd 3 (D.map (Value.int .i64)):=by rw [hD];exact ab
   clear hr aX;refine QD ?_;all_goals (try refine QO ?_)
   refine LP (σ:=Nat×Value) (λq=>[(0,v),(1,.I sent),(5,q.2),(6,.I (k:Int)),(7,.slice (some ⟨bd,0,none⟩) 2 2),(8,.I (q.1:Int))]) (λq W=>q.1<=2/\Row [bd] W w.heap.size 3 q.2 ((D.take q.1).foldl (Z1l sent) S)/\Stp [] w W/\Blk W bd 3 (D.map (Value.int .i64))/\bd∉ob q.2) (λq=>2 - q.1) (0,ov) ⟨Xr _,sG,hT,ab,bg⟩ ?_;clear sG hT ab bg;rintro ⟨j,uv⟩ w5 ⟨hj,hr,hT,ab,bg⟩;dsimp only at hj hr ⊢;have ry:=ab.lt;have eV:SlV [] w5 (.slice (some ⟨bd,0,none⟩) 2 2) D:=Z9n sH ab (by simp) (by simp [sH]) (by simp [maxLen]) (by omega) (λi h=>by simp [h]);have cp:SlV [] w5 uv ((D.take j).foldl (Z1l sent) S):=(Row.low hr (Xr _)).slv (by simp);by_cases aT:j<2;have ax:(D.take (j+1)).foldl (Z1l sent) S=Z1l sent ((D.take j).foldl (Z1l sent) S) (D[j]'(by omega)):=by rw [Xg (by omega),XP];rfl
   have vO:((D.take j).foldl (Z1l sent) S).length<=S.length+j:=by
    have:j=0\/j=1:=by omega
    rcases this with rfl|rfl
    simp;rw [hD];exact Z7x sent S _
   generalize (D.take j).foldl (Z1l sent) S=U at hr cp ax vO ⊢;have vP:j<D.length:=by omega
   have xE:0<=D[j]/\D[j]<=3652059:=by
    have hm:∀ x∈D,0<=x/\x<=3652059:=by
     rw [hD];intro x hx;simp only [Xc,Xn,or_false] at hx;omega
    exact hm _ (Xb vP)
   by_cases h1:sent<D[j];by_cases h2:D[j]<=3652058;refine QO ?_;refine CP (Stp.refl [] w5) (Zfs uv U D[j] w5 cp) λw6 _ dI=>?_;replace eV:=eV.up dI;by_cases hm:D[j]∈U;rw [decide_eq_true hm];refine QO ?_;refine QL (j+1,uv) ⟨aT,?_,hT.trans dI,ab.up dI,bg⟩ (Xp aT (Xt j));rw [ax,Z1l,if_neg (λh=>h.2.2 hm)];exact hr.up dI;rw [decide_eq_false hm];refine QO ?_;refine APR (X:=[bd]) (base:=w.heap.size) D[j] (hr.up dI) (λc hc=>by have:=dI.size;simp at hc;omega) (hT.trans dI).size (by omega) λv1 v' w7 aO lj aJ=>?_
   refine QO ?_;refine QL (j+1,v') ⟨aT,?_,(hT.trans dI).own lj (λb hb=>.inr (hr.ob_le b hb).1),(ab.up dI).ext lj bg,λhb=>(aJ bd hb).elim bg (λh=>by have:=dI.size;omega)⟩ (Xp aT (Xt j));rw [ax,Z1l,if_pos ⟨h1,h2,hm⟩];exact aO;refine QO ?_;refine QL (j+1,uv) ⟨aT,?_,hT,ab,bg⟩ (Xp aT (Xt j));rw [ax,Z1l,if_neg (λh=>h2 h.2.1)];exact hr;refine QO ?_;refine QL (j+1,uv) ⟨aT,?_,hT,ab,bg⟩ (Xp aT (Xt j));rw [ax,Z1l,if_neg (λh=>h1 h.1)];exact hr;obtain rfl:j=2:=by omega
   rw [XS (by omega),<- aQ] at hr;refine QO ?_;exact QL (k+1,uv) ⟨hlt,Row.low hr (Xl _),hT⟩ (Xp hlt (Xt k))
 obtain rfl:k=l.length:=by omega
 have eD:=Z6t l sent l.length (Xl _);rw [Xs] at hr eD;refine QO ?_;refine CG (Z9R ov (stR l sent) w2 (hr.slv (by simp)) (by omega)) ?_;rintro sv w3 bK;refine W ?_;refine AP1 (3652059:Int) bK (by rw [<- Xs (l:=stR l sent),Z5e _ _ (Xl _)];omega) λv1 v' w4 bU _=>?_
 refine QO ?_;refine WR ?_;exact .mk (Zk.pre hr.2 bU)
theorem Zmm (l:List Rtn) (sent:Int) (hs:0<=sent/\sent<=3652058):∀ d∈Z0D l sent,0<=d/\d<=3652059:=by
 intro d hd;have h:=((Z0v ([sent,3652059]++l.flatMap (λr=>[r.lo,r.hi+1].filter (λd=>decide (sent<d/\d<=3652058))))).2 d).1 hd;simp only [Xd,Xc,Xn,or_false,Ybf,XW,decide_eq_true_eq] at h;rcases h with (rfl|rfl)|⟨r,hr,h,h2⟩<;>omega
theorem ZqU (l:List Rtn) (sent:Int):(stR l sent).length<=2 * l.length+1:=by
 have:=Z6t l sent l.length (Xl _)
 rwa [Xs] at this
theorem Zmn (l:List Rtn) (sent:Int) (hs:0<=sent/\sent<=3652058):(Z0D l sent).length<=2 * l.length+2:=by
 rw [<- Zjj l sent hs,Xa];have e:(Z5c (stR l sent)).length=(stR l sent).length:=by
  have:=Z5e (stR l sent) _ (Xl _)
  rwa [Xs] at this
 have:=ZqU l sent;simp only [Xe,Xi];omega
def sgX (D:List Int):List Spn:=(D.zip D.tail).map (λp=>(p.1,p.2 - 1))
theorem ZqV (D:List Int):(sgX D).length=D.length - 1:=by
 unfold sgX;simp
theorem Zda (D:List Int) (i:Nat) (h:i<(sgX D).length) (h1:i<D.length) (h2:i+1<D.length):(sgX D)[i]=(D[i],D[i+1] - 1):=by
 simp only [sgX,List.getElem_map,List.getElem_zip,List.getElem_tail]
theorem Z7W (lv cv:Value) (l:List Rtn) (crrs:List Crr) (sent:Int) (w) (hs:SlV [] w lv l) (hc:SlV [] w cv crrs) (hl:l.length<=100000) (hb:∀ r∈l,(0<=r.lo/\r.lo<=3652058)/\0<=r.hi/\r.hi<=3652058) (hr:∀ r∈l,0<=r.crr/\r.crr<crrs.length) (ht:∀ c∈crrs,0<=c.tol/\c.tol<=1000000) (hd:0<=sent/\sent<=3652058) :
 CC 184 #[lv,cv,.I sent] w λr w'=>∃ v,r=.tuple #[v,.B (decide (ZA l crrs (-1)=Z14 (ZA l crrs) (ZA l crrs (-1)) (Z1w l sent)))]/\Zk 94 w w' v (Ja (Zd7 l crrs sent)):=by
 have iZ:∀ day,ZA l crrs day=exG l crrs day crrs.length:=λday=>(Zur crrs (λc hc=>(ht c hc).1) day l hr).2;have hX:∀ (day:Int) (W:World),SlV [] W lv l->SlV [] W cv crrs->CC 249 #[lv,cv,.I day] W λr w'=>r=.I (ZA l crrs day)/\Stp [] W w':=λday W h1 h2=>by
  rw [iZ];exact Z9Q lv cv l crrs day W h1 h2 ht
 refine cW3 72 Tryz.func184 ?_;refine W ?_;refine CG (Z9S lv l sent w hs hl hb hd) ?_;rintro sv w1 hD;rw [Zjj l sent hd] at hD;have mb:Z1w l sent=sgX (Z0D l sent):=rfl;have jc:=Zmn l sent hd;have ib:=Zmm l sent hd;have iW:Zd7 l crrs sent=(sgX (Z0D l sent)).filter (λx=>decide (ZA l crrs x.1=Z14 (ZA l crrs) (ZA l crrs (-1)) (sgX (Z0D l sent)))):=rfl;have eV:=hD.slv (X:=[]) (by simp);obtain ⟨a1,a2⟩:=Zen l sent;rw [mb] at a1 a2 ⊢;rw [iW];replace hD:=hD.2;clear iW mb;generalize Z0D l sent=D at eV jc ib a1 a2 ⊢;refine W ?_;refine CP hD (hX (-1) w1 (hs.up hD) (hc.up hD)) λw2 hT lw=>?_;replace eV:=eV.up hT;clear hT hD;have rL:=ZqV D;refine W ?_;refine LP (σ:=Nat) (λk=>[(0,lv),(1,cv),(8,sv),(9,.I (ZA l crrs (-1))),(10,.I (Z14 (ZA l crrs) (ZA l crrs (-1)) ((sgX D).take k))),(11,.I (k:Int))]) (λk W=>k<=(sgX D).length/\Stp [] w2 W) (λk=>(sgX D).length - k) 0 ⟨Xr _,Stp.refl _ _⟩ ?_;rintro k w3 ⟨hk,hT⟩;have dH:=hs.up (lw.trans hT);have sI:=hc.up (lw.trans hT);have kG:=eV.up hT;by_cases hlt:k<(sgX D).length;have h1:k<D.length:=by omega
 have h2:k+1<D.length:=by omega
 have ax:Z14 (ZA l crrs) (ZA l crrs (-1)) ((sgX D).take (k+1))=min (Z14 (ZA l crrs) (ZA l crrs (-1)) ((sgX D).take k)) (ZA l crrs D[k]):=by rw [Xg hlt,Z7v,Zda D k hlt h1 h2]
 generalize Z14 (ZA l crrs) (ZA l crrs (-1)) ((sgX D).take k)=y at ax ⊢;refine QO ?_;refine CP hT (hX D[k] w3 dH sI) λw4 _ hT=>?_;refine QO ?_;exact Zd (k+1) ⟨rfl,rfl,rfl,rfl,by rw [ax];rfl,rfl,trivial⟩ ⟨hlt,hT⟩ (Xp hlt (Xt k));obtain rfl:k=(sgX D).length:=by omega
 rw [Xs];generalize vQ:Z14 (ZA l crrs) (ZA l crrs (-1)) (sgX D)=y;refine QO ?_;refine LP (σ:=Nat×Value) (λq=>[(0,lv),(1,cv),(8,sv),(9,.I (ZA l crrs (-1))),(10,.I y),(12,q.2),(13,.I (q.1:Int))]) (λq W=>q.1<=(sgX D).length/\Zk 94 w3 W q.2 (((sgX D).take q.1).filter (λx=>decide (ZA l crrs x.1=y)))) (λq=>(sgX D).length - q.1) (0,.N) ⟨Xr _,Zk.nil⟩ ?_;rintro ⟨k,ov⟩ w4 ⟨hk,hr⟩;dsimp only at hk hr ⊢;have jV:=dH.up hr.2;have dF:=sI.up hr.2;have kH:=kG.up hr.2;by_cases hlt:k<(sgX D).length;have h1:k<D.length:=by omega
 have h2:k+1<D.length:=by omega
 have ax:((sgX D).take (k+1)).filter (λx=>decide (ZA l crrs x.1=y))=((sgX D).take k).filter (λx=>decide (ZA l crrs x.1=y))++if ZA l crrs D[k]=y then [(D[k],D[k+1] - 1)] else []:=by
  rw [Xg hlt,YaD,Zda D k hlt h1 h2];congr 1;by_cases h:ZA l crrs D[k]=y;rw [if_pos h,XT,if_pos (decide_eq_true h)];rfl;rw [if_neg h,XT,if_neg (by simpa using h)];rfl
 have cX:(((sgX D).take k).filter (λx=>decide (ZA l crrs x.1=y))).length<=(sgX D).length:=Xh (XG _ _) (by rw [Xx];omega);have cO:=ib _ (Xb h1);have bK:=ib _ (Xb h2);generalize ((sgX D).take k).filter (λx=>decide (ZA l crrs x.1=y))=S at hr ax cX ⊢;refine QO ?_;refine CP (Stp.refl [] w4) (hX D[k] w4 jV dF) λw5 _ hT=>?_;replace hr:=hr.up hT;replace kH:=kH.up hT;by_cases hy:ZA l crrs D[k]=y
 . rw [if_pos hy] at ax
   refine QO ?_;have m9:SlV (ob ov) w5 sv D:=(kG.ext hr.2 (by simp) (λb hb=>.inr (hr.ob_le b hb).1))
   clear kH kG eV;refine WC_drawn 15 (ob ov) [] [(0,0),(1,0),(2,0),(3,0),(4,1),(5,0),(6,0),(7,0),(8,0),(9,1),(10,0),(11,0),(12,2),(13,2),(14,0)] rfl mixed (by kernel_rfl) (by kernel_rfl) (by kernel_rfl) (λw1 ae=>?_);replace hr:=hr.up ae;replace m9:=m9.up ae;refine QD ?_;generalize la:D[k]=z1 at *;generalize pd:D[k+1]=z2 at *;refine QD ?_;apply Z1I;exact rfl;apply Z1J (vs:=[(0,.I z1),(1,.I (z2 - 1))]);exact trivial;exact rfl;exact ZbC _ _;exact rfl;refine Z7 rfl trivial (Z1 (T:=94) (l:=[(0,.tmp 64)]) (vs:=[(0,agg ((z1,z2 - 1):Spn))]) (cs:=Z2.enc ((z1,z2 - 1):Spn)) rfl (by intro w;kernel_rfl)) (λ_ _ h=>h.choose_spec.2.2.2.mn) rfl ?_;rintro bv w7 hN;have aI:SlV (ob ov) w7 bv [((z1,z2 - 1):Spn)]:=hN.slv (λb hb=>(hr.ob_le b hb).2) rfl (by simp) (by simp [maxLen]);replace hr:=hr.up hN.choose_spec.2.2.2;clear hN;refine Z7 rfl trivial (ZZ (β:=Spn) rfl (by decide) rfl rfl hr aI (by simp;omega) (by simp [maxLen];omega)) (λ_ _ h=>h.2.1) rfl ?_;rintro nv w8 ⟨bU,-⟩;refine QD ?_;all_goals (try refine QO ?_)
   refine QL (k+1,nv) ⟨hlt,?_⟩ (Xp hlt (Xt k));rw [ax];exact bU
 rw [if_neg hy,Xz] at ax;refine QO ?_;refine QL (k+1,ov) ⟨hlt,?_⟩ (Xp hlt (Xt k));rw [ax];exact hr;obtain rfl:k=(sgX D).length:=by omega
 rw [Xs] at hr;refine QO ?_;refine CG (Z6a ov _ w4 (hr.slv (by simp)) (Xh (XG _ _) (by omega)) (λs hs=>?_)) ?_;obtain ⟨i,hi,rfl⟩:=XB (XW.1 hs).1;have hv:=a2 _ (Xb hi);have g1:=ib _ (Xb (show i<D.length by omega));have g2:=ib _ (Xb (show i+1<D.length by omega));rw [Zda D i hi (by omega) (by omega)] at hv ⊢;dsimp only at hv ⊢;omega;rintro mv w5 hm;refine RT ?_;exact ⟨mv,rfl,Zk.pre ((lw.trans hT).trans hr.2) hm⟩
theorem Z9T (lv cv:Value) (l:List Rtn) (crrs:List Crr) (sent:Int) (w) (hs:SlV [] w lv l) (hc:SlV [] w cv crrs) (hl:l.length<=100000) (hb:∀ r∈l,(0<=r.lo/\r.lo<=3652058)/\0<=r.hi/\r.hi<=3652058) (hr:∀ r∈l,0<=r.crr/\r.crr<crrs.length) (ht:∀ c∈crrs,0<=c.tol/\c.tol<=1000000) (hd:0<=sent/\sent<=3652058) :
 CC 129 #[lv,cv,.I sent] w λr w'=>r=.tuple #[.I (Z4R l crrs sent).1,.B (Z4R l crrs sent).2]/\Stp [] w w':=by
 rw [ZqT];refine cW3 30 Tryz.func129 ?_;refine W ?_;refine CG (Z7W lv cv l crrs sent w hs hc hl hb hr ht hd) ?_;rintro _ w1 ⟨v,rfl,hm⟩;have hT:=hm.2;have fJ:=hm.slv (X:=[]) (by simp);clear hm;by_cases h1:Z14 (ZA l crrs) (ZA l crrs (-1)) (Z1w l sent)=ZA l crrs (-1);rw [if_pos h1,decide_eq_true h1.symm];refine RT ?_;exact ⟨rfl,hT⟩;rw [if_neg h1,decide_eq_false (λh=>h1 h.symm)];rcases J0 (Ja (Zd7 l crrs sent)) with e|⟨A,t,e⟩
 rw [e] at fJ ⊢;refine RT ?_;exact ⟨rfl,hT⟩;rw [e] at fJ ⊢;rw [Z9P];have iE:=fJ.max;obtain ⟨L,n,hL,hn,rP⟩:∃ (L:List Spn) (n:Nat),L=A++[t]/\L.length=n+1/\∀ h:n<L.length,L[n]=t:=⟨_,A.length,rfl,by simp,λ_=>by simp⟩
 rw [<- hL] at fJ iE;clear e hL;refine QO ?_;refine ZpY (i:=n) rfl fJ rfl (by omega) (by omega) rfl ?_;have hi:n<L.length:=by omega
 refine RT ?_;exact ⟨by rw [rP],hT⟩
theorem ZbF (l:List Svc) (x d:Svc) (k:Nat) (h:k<l.length):(l++[x]).getD k d=l.getD k d:=by rw [XA,XA,X1 h]
theorem Z8B (l:List Svc) (x:Svc):∀ k,k<l.length->Z0k (l++[x]) k=Z0k l k
 | 0, h => by
   rw [Z0k,Z0k,ZbF _ _ _ _ h]
 | k + 1, h => by
   rw [Z0k,Z0k,Z8B l x k (by omega),ZbF _ _ _ _ h]
theorem ZfG (l:List Svc) (x:Svc):JY (l++[x])=(if (JY l).2=true/\¬ x.day<(JY l).1.day then (JY l).1 else x,true):=by
 unfold JY;rw [if_neg (by simp)];by_cases h:l=[]
 subst h;rfl
 . have h0:0<l.length:=by
    cases l with
    | nil=>exact absurd rfl h
    | cons a l=>simp
   rw [if_neg h];have e:(l++[x]).length - 1=(l.length - 1)+1:=by simp;omega
   rw [e,Z0k,Z8B l x _ (by omega)];have e2:(l++[x]).getD (l.length - 1+1) ⟨0,0,0⟩=x:=by
    rw [show l.length - 1+1=l.length by omega];simp
   rw [e2];dsimp only;by_cases hx:x.day<(Z0k l (l.length - 1)).day;rw [if_pos hx,if_neg (λh=>h.2 hx)];rw [if_neg hx,if_pos ⟨rfl,hx⟩]
theorem ZfH (w):(Instr.build 85 #[]).run Tryz.prog w=.ok (aG (⟨0,0,0⟩:Svc)) w:=by kernel_rfl
theorem Zjq (lv cv:Value) (l:List Atp) (crrs:List Crr) (en pa:Int) (w) (hl:SlV [] w lv l) (ic:SlV [] w cv crrs) (ho:Zic l crrs) :
 CC 74 #[lv,.I en,.I pa,cv] w λr w'=>r=.tuple #[.agg (Z2.enc (Z1x l crrs en pa).1).toArray,.B (Z1x l crrs en pa).2]/\Stp [] w w':=by
 have ak:=ho.len;refine cW4 78 Tryz.func74 ?_;refine W ?_;refine Z0 Z4 rfl ?_;rintro _ w1 ⟨b8,rfl,dG,e8,hS⟩;replace e8:Blk w1 b8 85 (Z2.enc (⟨0,0,0⟩:Svc)):=e8;refine W ?_;refine Z5 (vs:=[]) rfl (λw=>ZfH w) rfl ?_;refine Z0 Z4 rfl ?_;rintro _ w2 ⟨b10,rfl,eP,e10,aj⟩;replace e10:Blk w2 b10 85 (Z2.enc (⟨0,0,0⟩:Svc)):=e10;have bi:b8≠b10:=λh=>by have:=e8.lt;omega
 replace e8:=e8.up aj;have sJ:w.heap.size<=b10:=by have:=hS.size;omega
 replace hS:=hS.trans aj;clear aj;refine SA (us:=Z2.enc (⟨0,0,0⟩:Svc)) e10 ?_;rintro _ w3 ⟨hA,e10⟩;replace e8:=e8.ext hA (by simpa using bi);replace hS:=hS.ow hA;clear hA;refine W ?_;refine LP (σ:=Nat) (λk=>[(0,lv),(1,.I en),(2,.I pa),(3,cv),(8,pQ b8),(10,pQ b10),(11,.B (JY (ofG l crrs en pa k)).2),(12,.I (k:Int))]) (λk W=>k<=l.length/\Stp [] w W/\Blk W b8 85 (Z2.enc (⟨0,0,0⟩:Svc))/\Blk W b10 85 (Z2.enc (JY (ofG l crrs en pa k)).1)) (λk=>l.length - k) 0 ⟨Xr _,hS,e8,e10⟩ ?_;clear hS e8 e10;rintro k w4 ⟨hk,hS,e8,e10⟩;by_cases hlt:k<l.length;have lf:=hl.up hS;have dF:=ic.up hS;obtain ⟨cs,⟨tv,rfl,ht⟩,am⟩:=lf.cell hlt;have c0:w4.cell? (Zx lv k 5 0)=some (.I l[k].entry):=am 0 _ rfl;have c1:w4.cell? (Zx lv k 5 1)=some (.I l[k].party):=am 1 _ rfl;have c2:w4.cell? (Zx lv k 5 2)=some (.I l[k].crr):=am 2 _ rfl;have c3:w4.cell? (Zx lv k 5 3)=some (.I l[k].sent):=am 3 _ rfl;have c4:w4.cell? (Zx lv k 5 4)=some tv:=am 4 _ rfl;clear am;have hstep:ofG l crrs en pa (k+1)=ofG l crrs en pa k++if svB crrs en pa l[k]=true then [ofE crrs l[k] k] else []:=by rw [ofG,show l.getD k default=l[k] by simp [hlt]]
 have fF:=ho.ret _ (Xb hlt);have fg:=ho.crr _ (Xb hlt);have cp:=ho.sent _ (Xb hlt);have skip:svB crrs en pa l[k]=false->JY (ofG l crrs en pa (k+1))=JY (ofG l crrs en pa k):=λh=>by rw [hstep,h,if_neg (by simp),Xz]
 have take:svB crrs en pa l[k]=true->JY (ofG l crrs en pa (k+1))=(if (JY (ofG l crrs en pa k)).2=true/\¬ (ofE crrs l[k] k).day<(JY (ofG l crrs en pa k)).1.day then (JY (ofG l crrs en pa k)).1 else ofE crrs l[k] k,true):=λh=>by rw [hstep,h,if_pos rfl,ZfG]
 clear hstep;generalize JY (ofG l crrs en pa k)=s at skip take e10 ⊢;by_cases h1:l[k].entry=en;by_cases h2:l[k].party=pa
 . repeat'(first|refine W1 ?_|omega|refine JU rfl rfl (by assumption) rfl ?_|refine VG ?_ ?_<;>intro hg|refine VC ?_ ?_<;>intro hc)
   refine ZDr 17 [] [] [(0,0),(1,0),(2,0),(3,0),(4,1),(5,0),(6,0),(7,0),(8,0),(9,0),(10,1),(11,2),(12,0),(13,0),(14,0),(15,0),(16,0)] (λw1 ae=>?_);replace hS:=hS.trans ae;replace e8:=e8.up ae;replace e10:=e10.up ae;replace dF:=dF.up ae;replace ht:=ht.up ae;replace c2:=ae.cell0 c2;replace c3:=ae.cell0 c3;replace c4:=ae.cell0 c4;clear c0 c1 lf;repeat'(first|refine D1 ?_|omega|refine Jn rfl (by first|exact trivial|exact rfl) rfl rfl (by assumption) rfl ?_|refine Zl rfl rfl rfl rfl (λhg=>?_) (λhg=>?_)|(refine Zh rfl rfl rfl rfl (λhg=>?_) (λhg=>?_)<;>refine D1 ?_)|fail)
   refine Z7 rfl trivial (Z3 rfl (ZJ rfl rfl rfl) (Z9T tv cv l[k].rets crrs l[k].sent _ ht dF (by have:=fF.len;omega) (λr hr=>by have:=fF.day r hr;omega) fF.crr (λc hc=>by have:=fF.tol c hc;omega) cp)) (λ_ _ h=>h.2) rfl ?_;rintro _ w6 ⟨rfl,hT⟩;replace hS:=hS.trans hT;replace e8:=e8.up hT;replace e10:=e10.up hT;replace dF:=dF.up hT;replace c2:=hT.cell0 c2;clear c3 c4 ht hT;unfold svB at skip take;unfold ofE at take;generalize Z4R l[k].rets crrs l[k].sent=sv at skip take ⊢;obtain ⟨d,ok⟩:=sv;obtain ⟨b,fd⟩:=s;dsimp only at skip take e10 ⊢;refine QD ?_;cases ok with
   | false=>
     refine QO ?_;exact Zd (k+1) ⟨rfl,rfl,rfl,rfl,rfl,rfl,by rw [skip (by simp)];rfl,rfl,trivial⟩ ⟨hlt,hS,e8,by rw [skip (by simp)];exact e10⟩ (Xp hlt (Xt k))
   | true=>
     obtain ⟨j,hj⟩:∃ j:Nat,l[k].crr=j:=⟨l[k].crr.toNat,by omega⟩
     have aT:j<crrs.length:=by omega
     rw [hj] at c2;have take2:=take (by simp [h1,h2]);rw [hj,show crrs.getD ((j:Int).toNat) ⟨0,0⟩=crrs[j] by simp [aT]] at take2;by_cases hu:fd=true/\¬ d<b.day;rw [if_pos hu] at take2;obtain ⟨rfl,hu⟩:=hu;refine QO ?_;exact Zd (k+1) ⟨rfl,rfl,rfl,rfl,rfl,rfl,by rw [take2];rfl,rfl,trivial⟩ ⟨hlt,hS,e8,by rw [take2];exact e10⟩ (Xp hlt (Xt k))
     . rw [if_neg hu] at take2
       cases fd with
       | false=>
         repeat'(first|refine W1 ?_|omega|refine JU rfl rfl (by assumption) rfl ?_|refine VG ?_ ?_<;>intro hg|refine VC ?_ ?_<;>intro hc)
         refine Z5 (vs:=[(0,.I d),(1,.I crrs[j].extra),(2,.I k)]) rfl (Z73 _ _ _) rfl ?_;refine SA (us:=Z2.enc (⟨d,crrs[j].extra,k⟩:Svc)) e10 ?_;rintro _ w7 ⟨hA,e10⟩;replace e8:=e8.ext hA (by simpa using bi);replace hS:=hS.ow hA;refine QO ?_;exact Zd (k+1) ⟨rfl,rfl,rfl,rfl,rfl,rfl,by rw [take2];rfl,rfl,trivial⟩ ⟨hlt,hS,e8,by rw [take2];exact e10⟩ (Xp hlt (Xt k))
       | true=>
         have hd:d<b.day:=by simpa using hu
         repeat'(first|refine W1 ?_|omega|refine JU rfl rfl (by assumption) rfl ?_|refine VG ?_ ?_<;>intro hg|refine VC ?_ ?_<;>intro hc)
         refine Z5 (vs:=[(0,.I d),(1,.I crrs[j].extra),(2,.I k)]) rfl (Z73 _ _ _) rfl ?_;refine SA (us:=Z2.enc (⟨d,crrs[j].extra,k⟩:Svc)) e10 ?_;rintro _ w7 ⟨hA,e10⟩;replace e8:=e8.ext hA (by simpa using bi);replace hS:=hS.ow hA;refine QO ?_;exact Zd (k+1) ⟨rfl,rfl,rfl,rfl,rfl,rfl,by rw [take2];rfl,rfl,trivial⟩ ⟨hlt,hS,e8,by rw [take2];exact e10⟩ (Xp hlt (Xt k))
 focus repeat'(first|refine W1 ?_|omega|refine JU rfl rfl (by assumption) rfl ?_|refine VG ?_ ?_<;>intro hg|refine VC ?_ ?_<;>intro hc)
 have hv:svB crrs en pa l[k]=false:=by simp only [svB,Ybu,decide_eq_false_iff_not];exact .inl (λh=>h2 h.2)
 exact Zd (k+1) ⟨rfl,rfl,rfl,rfl,rfl,rfl,by rw [skip hv];rfl,rfl,trivial⟩ ⟨hlt,hS,e8,by rw [skip hv];exact e10⟩ (Xp hlt (Xt k));focus repeat'(first|refine W1 ?_|omega|refine JU rfl rfl (by assumption) rfl ?_|refine VG ?_ ?_<;>intro hg|refine VC ?_ ?_<;>intro hc)
 have hv:svB crrs en pa l[k]=false:=by simp only [svB,Ybu,decide_eq_false_iff_not];exact .inl (λh=>h1 h.1)
 exact Zd (k+1) ⟨rfl,rfl,rfl,rfl,rfl,rfl,by rw [skip hv];rfl,rfl,trivial⟩ ⟨hlt,hS,e8,by rw [skip hv];exact e10⟩ (Xp hlt (Xt k));obtain rfl:k=l.length:=by omega
 unfold Z1x;refine QO ?_;refine SA (us:=Z2.enc (JY (ofG l crrs en pa l.length)).1) e8 ?_;rintro _ w5 ⟨hA,e8⟩;refine W ?_;refine Zq rfl rfl rfl e8 rfl rfl ?_;exact .mk ⟨rfl,hS.ow hA⟩
theorem Z7y (v:Value) (l:List Ins) (w) (hs:SlV [] w v l):CC 41 #[v] w λr w'=>r=.B (Z0p l)/\Stp [] w w':=by
 have bh:=hs.max;refine cW1 32 Tryz.func41 ?_;refine W ?_;refine LP (σ:=Nat) (λk=>[(0,v),(3,.I (k:Int))]) (λk W=>(k<=l.length/\∀ j (h:j<l.length),j<k->l[j]≠⟨4,1⟩/\l[j]≠⟨4,2⟩)/\W=w) (λk=>l.length - k) 0 ⟨⟨Xr _,λj h hj=>absurd hj (XF j)⟩,rfl⟩ ?_;rintro k W ⟨⟨hk,hp⟩,rfl⟩;by_cases hlt:k<l.length
 . have next:l[k]≠⟨4,1⟩/\l[k]≠⟨4,2⟩->∀ j (h:j<l.length),j<k+1->l[j]≠⟨4,1⟩/\l[j]≠⟨4,2⟩:=λhn j h hj=>by
    by_cases e:j=k;subst e;exact hn;exact hp j h (by omega)
   have jN:l[k]=⟨4,1⟩\/l[k]=⟨4,2⟩->Z0p l=true:=λh=>by
    unfold Z0p;have hm:=Xb hlt;rcases h with h|h<;>rw [h] at hm<;>simp [hm]
   have aR:l[k]=⟨l[k].op,l[k].n⟩:=rfl;by_cases h4:l[k].op=4;by_cases h1:l[k].n=1;rw [jN (.inl (by rw [aR,h4,h1]))];refine RT ?_;exact ⟨rfl,Stp.refl _ _⟩;by_cases h2:l[k].n=2;rw [jN (.inr (by rw [aR,h4,h2]))];refine RT ?_;exact ⟨rfl,Stp.refl _ _⟩
   . refine QO ?_
     exact QL (k+1) ⟨⟨hlt,next ⟨λh=>h1 (by rw [h]),λh=>h2 (by rw [h])⟩⟩,rfl⟩ (Xp hlt (Xt k))
   . refine QO ?_
     exact QL (k+1) ⟨⟨hlt,next ⟨λh=>h4 (by rw [h]),λh=>h4 (by rw [h])⟩⟩,rfl⟩ (Xp hlt (Xt k))
 have bg:Z0p l=false:=by
  unfold Z0p;rw [decide_eq_false,decide_eq_false];rfl;intro h;obtain ⟨j,hj,e⟩:=XB h;exact (hp j hj (by omega)).2 e;intro h;obtain ⟨j,hj,e⟩:=XB h;exact (hp j hj (by omega)).1 e
 rw [bg];refine RT ?_;exact ⟨rfl,Stp.refl _ _⟩
theorem Z3X (a b c:Int) (w):(Instr.build 96 #[(0,.I a),(1,.I b),(2,.I c)]).run Tryz.prog w=.ok (agg (⟨a,b,c⟩:Rsn)) w:=by kernel_rfl
theorem Z0s (kd:Int) (v:Value) (l:List Spn) (w) (hs:SlV [] w v l) (hl:l.length<=1000000):CC 42 #[.I kd,v] w λr w'=>Zk 96 w w' r (l.map (λs=>(⟨kd,s.1,s.2⟩:Rsn))):=by
 refine cW2 29 Tryz.func42 ?_;refine W ?_;refine LP (σ:=Nat×Value) (λq=>[(0,.I kd),(1,v),(5,q.2),(6,.I (q.1:Int))]) (λq W=>q.1<=l.length/\Zk 96 w W q.2 ((l.take q.1).map (λs=>(⟨kd,s.1,s.2⟩:Rsn)))) (λq=>l.length - q.1) (0,.N) ⟨Xr _,Zk.nil⟩ ?_;rintro ⟨k,ov⟩ w1 ⟨hk,hr⟩;dsimp only at hk hr ⊢;by_cases hlt:k<l.length
 . have ax:(l.take (k+1)).map (λs=>(⟨kd,s.1,s.2⟩:Rsn))=(l.take k).map (λs=>(⟨kd,s.1,s.2⟩:Rsn))++[⟨kd,l[k].1,l[k].2⟩]:=by rw [Xg hlt,XL];rfl
   have cX:((l.take k).map (λs=>(⟨kd,s.1,s.2⟩:Rsn))).length<=k:=by rw [Xy,Xx];omega
   generalize (l.take k).map (λs=>(⟨kd,s.1,s.2⟩:Rsn))=S at hr ax cX ⊢;have m9:SlV (ob ov) w1 v l:=(hs.ext hr.2 (by simp) (λb hb=>.inr (hr.ob_le b hb).1))
   have bB:=hs.up hr.2;refine QO ?_;clear bB hs;refine WC_drawn 16 (ob ov) [] [(0,0),(1,0),(2,0),(3,0),(4,0),(5,0),(6,1),(7,0),(8,0),(9,0),(10,0),(11,1),(12,0),(13,2),(14,2),(15,0)] rfl mixed (by kernel_rfl) (by kernel_rfl) (by kernel_rfl) (λw1 ae=>?_);replace hr:=hr.up ae;replace m9:=m9.up ae;refine QD ?_;apply Z1I;exact rfl;apply Z1J (vs:=[(0,.I kd),(1,.I l[k].1),(2,.I l[k].2)]);exact trivial;exact rfl;exact Z3X _ _ _;exact rfl;refine Z7 rfl trivial (Z1 (T:=96) (l:=[(0,.tmp 25)]) (vs:=[(0,agg (⟨kd,l[k].1,l[k].2⟩:Rsn))]) (cs:=Z2.enc (⟨kd,l[k].1,l[k].2⟩:Rsn)) rfl (by intro w;kernel_rfl)) (λ_ _ h=>h.choose_spec.2.2.2.mn) rfl ?_;rintro bv w7 hN;have aI:SlV (ob ov) w7 bv [(⟨kd,l[k].1,l[k].2⟩:Rsn)]:=hN.slv (λb hb=>(hr.ob_le b hb).2) rfl (by simp) (by simp [maxLen]);replace hr:=hr.up hN.choose_spec.2.2.2;clear hN;refine Z7 rfl trivial (ZZ (β:=Rsn) rfl (by decide) rfl rfl hr aI (by simp;omega) (by simp [maxLen];omega)) (λ_ _ h=>h.2.1) rfl ?_;rintro nv w8 ⟨bU,-⟩;refine QD ?_;all_goals (try refine QO ?_)
   refine QL (k+1,nv) ⟨hlt,?_⟩ (Xp hlt (Xt k));rw [ax];exact bU
 obtain rfl:k=l.length:=by omega
 rw [Xs] at hr;have bB:=hs.up hr.2;refine QO ?_;refine WR ?_;exact .mk hr
def Z1m (s:Fct×Bool) (g:Fct):Fct×Bool:=if s.2=true/\¬ (g.day<s.1.day\/g.day=s.1.day/\g.entry<s.1.entry) then s else (g,true)
def Z21 (fs:List Fct) (f:Fct) (unl:Str) (due:Int):Fct×Bool:=(Z6f fs f unl due).foldl Z1m (default,false)
theorem ZfI (fs:List Fct) (f:Fct) (unl:Str) (due:Int) (k:Nat) (h:k<fs.length):Z21 (fs.take (k+1)) f unl due=if Z4N f unl due fs[k]=true then Z1m (Z21 (fs.take k) f unl due) fs[k] else Z21 (fs.take k) f unl due:=by
 unfold Z21;rw [Z8b fs f unl due k h,XP];split<;>rfl
theorem Z9U (c:Cas) (R:Z0o) (f:Fct) (unl:Str) (due:Int) (w) (hs:SlV [] w R.fv c.fcts) (hl:c.fcts.length<=10000000):CC 44 #[.agg (Jc c R).toArray,aG f,str unl,.I due] w λr w'=>r=.tuple #[.agg (Z2.enc (Z21 c.fcts f unl due).1).toArray,.B (Z21 c.fcts f unl due).2]/\Stp [] w w':=by
 refine cW4 86 Tryz.func44 ?_;refine W ?_;refine BX (Stp.refl [] w) λb4 w1 h4 e4 _ hS=>?_;replace e4:Blk w1 b4 37 (Jc c R):=e4;refine BX hS λb5 w2 h5 e5 hT hS=>?_;replace e5:Blk w2 b5 40 (Z2.enc f):=e5;replace e4:=e4.up hT;refine W ?_;refine Z0 Z4 rfl ?_;rintro _ w3 ⟨b8,rfl,dG,e8,hT⟩;replace e8:Blk w3 b8 40 (Z2.enc (default:Fct)):=e8;have g8:w.heap.size<=b8:=Xh hS.size dG;have l8:=e8.lt;have l4:=e4.lt;have l5:=e5.lt;replace e4:=e4.up hT;replace e5:=e5.up hT;replace hS:=hS.trans hT;refine W ?_;refine Z0 Z4 rfl ?_;rintro _ w4 ⟨b10,rfl,eP,e10,hT⟩;replace e10:Blk w4 b10 40 (Z2.enc (default:Fct)):=e10;have n8:b8≠b10:=by omega
 have n4:b4≠b10:=by have:=hS.size;omega
 have n5:b5≠b10:=by omega
 have g10:w.heap.size<=b10:=Xh hS.size eP;replace e4:=e4.up hT;replace e5:=e5.up hT;replace e8:=e8.up hT;replace hS:=hS.trans hT;refine W ?_;refine LP (σ:=Nat) (λk=>[(2,str unl),(3,.I due),(4,pQ b4),(5,pQ b5),(8,pQ b8),(9,.B false),(10,pQ b10),(11,.B (Z21 (c.fcts.take k) f unl due).2),(12,.I (k:Int))]) (λk W=>k<=c.fcts.length/\Stp [] w W/\Blk W b4 37 (Jc c R)/\Blk W b5 40 (Z2.enc f)/\Blk W b8 40 (Z2.enc (default:Fct))/\Blk W b10 40 (Z2.enc (Z21 (c.fcts.take k) f unl due).1)) (λk=>c.fcts.length - k) 0 ⟨Xr _,hS,e4,e5,e8,e10⟩ ?_;clear hS e4 e5 e8 e10 hT;rintro k w5 ⟨hk,hS,e4,e5,e8,e10⟩;have vR:=hs.up hS;by_cases hlt:k<c.fcts.length;have hstep:=ZfI c.fcts f unl due k hlt;have skip:Z4N f unl due c.fcts[k]=false->Z21 (c.fcts.take (k+1)) f unl due=Z21 (c.fcts.take k) f unl due:=λh=>by rw [hstep,h,if_neg (by simp)]
 have take:Z4N f unl due c.fcts[k]=true->Z21 (c.fcts.take (k+1)) f unl due=Z1m (Z21 (c.fcts.take k) f unl due) c.fcts[k]:=λh=>by rw [hstep,h,if_pos rfl]
 clear hstep;generalize Z21 (c.fcts.take k) f unl due=s at skip take e10 ⊢;obtain ⟨b,fd⟩:=s;dsimp only at e10 ⊢;refine QO ?_;refine Z0 Z4 rfl ?_;rintro _ w6 ⟨b13,rfl,vS,e13,hT⟩;have l10:=e10.lt;have l4:=e4.lt;have l5:=e5.lt;have l8:=e8.lt;have g13:w.heap.size<=b13:=by have:=hS.size;omega
 have n13:b10≠b13:=by omega
 replace e4:=e4.up hT;replace e5:=e5.up hT;replace e8:=e8.up hT;replace e10:=e10.up hT;replace hS:=hS.trans hT;refine SA (us:=Z2.enc c.fcts[k]) e13 ?_;rintro _ w7 ⟨an,e13⟩;have n4':b4≠b13:=by omega
 have n5':b5≠b13:=by omega
 have n8':b8≠b13:=by omega
 replace e4:=e4.ext an (by simpa using n4');replace e5:=e5.ext an (by simpa using n5');replace e8:=e8.ext an (by simpa using n8');replace e10:=e10.ext an (by simpa using n13);replace hS:=hS.ow an;clear hT an vR;have fR:∀ W,Stp [] w W->Blk W b4 37 (Jc c R)->Blk W b5 40 (Z2.enc f)->Blk W b8 40 (Z2.enc (default:Fct))->Blk W b10 40 (Z2.enc (Z21 (c.fcts.take (k+1)) f unl due).1)->_:=λW a1 a2 a3 a4 a5=>(⟨hlt,a1,a2,a3,a4,a5⟩:k+1<=c.fcts.length/\Stp [] w W/\Blk W b4 37 (Jc c R)/\Blk W b5 40 (Z2.enc f)/\Blk W b8 40 (Z2.enc (default:Fct))/\Blk W b10 40 (Z2.enc (Z21 (c.fcts.take (k+1)) f unl due).1))
 generalize c.fcts[k]=g at *;unfold Z4N at skip take;cases fd
 . have up:Z1m (b,false) g=(g,true):=by unfold Z1m;rw [if_neg (λh=>by cases h.1)]
   rw [up] at take;clear up;repeat'(first|refine W1 ?_|omega|refine VG ?_ ?_<;>intro hg|refine VC ?_ ?_<;>intro hc)
   all_goals first
    | exact Zd (k+1) ⟨rfl,rfl,rfl,rfl,rfl,rfl,rfl,by rw [skip (by rw [decide_eq_false_iff_not];rintro ⟨a,b,c,d,e⟩;first|contradiction|omega)];rfl,rfl,trivial⟩ (fR _ hS e4 e5 e8 (by rw [skip (by rw [decide_eq_false_iff_not];rintro ⟨a,b,c,d,e⟩;first|contradiction|omega)];exact e10)) (Xp hlt (Xt k))
    | skip
   all_goals (try refine W ?_)
   all_goals
    have jz:=take (by rw [decide_eq_true_iff];refine ⟨?_,?_,?_,?_,?_⟩<;>first|assumption|omega|exact Classical.not_not.1 (by assumption)|(simp only [ne_eq,Classical.not_not] at *;assumption));refine SA (us:=Z2.enc g) e10 ?_;rintro _ w8 ⟨hA,e10⟩;refine QO ?_;exact Zd (k+1) ⟨rfl,rfl,rfl,rfl,rfl,rfl,rfl,by rw [jz];rfl,rfl,trivial⟩ (fR _ (hS.ow hA) (e4.ext hA (by simpa using n4)) (e5.ext hA (by simpa using n5)) (e8.ext hA (by simpa using n8)) (by rw [jz];exact e10)) (Xp hlt (Xt k))
 by_cases hu:g.day<b.day\/g.day=b.day/\g.entry<b.entry
 . have up:Z1m (b,true) g=(g,true):=by unfold Z1m;rw [if_neg (λh=>h.2 hu)]
   rw [up] at take;clear up;repeat'(first|refine W1 ?_|omega|refine VG ?_ ?_<;>intro hg|refine VC ?_ ?_<;>intro hc)
   all_goals first
    | exact Zd (k+1) ⟨rfl,rfl,rfl,rfl,rfl,rfl,rfl,by rw [skip (by rw [decide_eq_false_iff_not];rintro ⟨a,b,c,d,e⟩;first|contradiction|omega)];rfl,rfl,trivial⟩ (fR _ hS e4 e5 e8 (by rw [skip (by rw [decide_eq_false_iff_not];rintro ⟨a,b,c,d,e⟩;first|contradiction|omega)];exact e10)) (Xp hlt (Xt k))
    | skip
   all_goals (try refine W ?_)
   all_goals
    have jz:=take (by rw [decide_eq_true_iff];refine ⟨?_,?_,?_,?_,?_⟩<;>first|assumption|omega|exact Classical.not_not.1 (by assumption)|(simp only [ne_eq,Classical.not_not] at *;assumption));refine SA (us:=Z2.enc g) e10 ?_;rintro _ w8 ⟨hA,e10⟩;refine QO ?_;exact Zd (k+1) ⟨rfl,rfl,rfl,rfl,rfl,rfl,rfl,by rw [jz];rfl,rfl,trivial⟩ (fR _ (hS.ow hA) (e4.ext hA (by simpa using n4)) (e5.ext hA (by simpa using n5)) (e8.ext hA (by simpa using n8)) (by rw [jz];exact e10)) (Xp hlt (Xt k))
 . have up:Z1m (b,true) g=(b,true):=by unfold Z1m;rw [if_pos ⟨rfl,hu⟩]
   rw [up] at take;clear up;repeat'(first|refine W1 ?_|omega|refine VG ?_ ?_<;>intro hg|refine VC ?_ ?_<;>intro hc)
   all_goals first
    | exact Zd (k+1) ⟨rfl,rfl,rfl,rfl,rfl,rfl,rfl,by rw [skip (by rw [decide_eq_false_iff_not];rintro ⟨a,b,c,d,e⟩;first|contradiction|omega)];rfl,rfl,trivial⟩ (fR _ hS e4 e5 e8 (by rw [skip (by rw [decide_eq_false_iff_not];rintro ⟨a,b,c,d,e⟩;first|contradiction|omega)];exact e10)) (Xp hlt (Xt k))
    | skip
   all_goals
    have jz:=take (by rw [decide_eq_true_iff];refine ⟨?_,?_,?_,?_,?_⟩<;>first|assumption|omega|exact Classical.not_not.1 (by assumption)|(simp only [ne_eq,Classical.not_not] at *;assumption));exact Zd (k+1) ⟨rfl,rfl,rfl,rfl,rfl,rfl,rfl,by rw [jz];rfl,rfl,trivial⟩ (fR _ hS e4 e5 e8 (by rw [jz];exact e10)) (Xp hlt (Xt k))
 obtain rfl:k=c.fcts.length:=by omega
 rw [Xs] at e10 ⊢;refine QO ?_;refine SA (us:=Z2.enc (Z21 c.fcts f unl due).1) e8 ?_;rintro _ w6 ⟨hA,e8⟩;refine W ?_;refine Zq rfl rfl rfl e8 rfl rfl ?_;exact .mk ⟨rfl,hS.ow hA⟩
end Go.Proofs.YtgdicjnjhchooaaGreatDoor
namespace Go.Eng
open Go Go.RowKit Go.Proofs
theorem Z8C {P:Program} {n:Nat} {fn:Func} {R:Ending->World->Prop} {e:Env} {w} {t b T T' m t2 b2 T2 T2' m2 s:Nat} {D D2:TypeDesc} {cs cs2:List Value} {v:Value} (hr:fn.results=#[.cell t T',.cell t2 T2',.tmp s]) [hu:Und P T' D] (hA:Z06 D=true) [hs:Siz P T' m] [o7:Und P T2' D2] (cG:Z06 D2=true) [aX:Siz P T2' m2] (ht:look e t=some (pQ b)) (hb:Blk w b T cs) (hl:cs.length=m) (ia:look e t2=some (pQ b2)) (cg:Blk w b2 T2 cs2) (dK:cs2.length=m2)
 (hv:look e s=some v) (h:R (.returned (.tuple #[.agg cs.toArray,.agg cs2.toArray,v])) w):WQ n (bodyPost P fn R) .ret e w:=
 ⟨λa ha => ⟨ha.defers, .tuple #[.agg cs.toArray, .agg cs2.toArray, v], by
   have h1:=ha.vals _ _ ht;have h2:=ha.vals _ _ hv;have h3:=ha.vals _ _ ia;rw [XH] at h1 h2 h3;simp [results,hr,h1,h2,h3,asAddr,Z22 hA hb hl,Z22 cG cg dK],h⟩⟩
end Go.Eng
namespace Go.Proofs.YtgdicjnjhchooaaGreatDoor
open Go Go.Eng Go.RowKit Go.Proofs
theorem ZbG (c:Cas) (R:Z0o) (f:Fct) (w) (hv:Z2R w c R) (ho:Z3x c):CC 38 #[.agg (Jc c R).toArray,aG f] w λr w'=>r=.tuple #[Ziq (evL c f),.agg (Z2.enc (Z1x c.atts c.crrs f.entry f.to_).1).toArray,.B (Z1x c.atts c.crrs f.entry f.to_).2]/\Stp [] w w':=by
 refine cW2 43 Tryz.func38 ?_;refine W ?_;refine BX (Stp.refl [] w) λb2 w1 h2 e2 _ hS=>?_;replace e2:Blk w1 b2 37 (Jc c R):=e2;refine BX hS λb3 w2 h3 e3 hT hS=>?_;replace e3:Blk w2 b3 40 (Z2.enc f):=e3;replace e2:=e2.up hT;refine Z0 Z4 rfl ?_;rintro _ w3 ⟨b4,rfl,br,e4,hT⟩;replace e4:Blk w3 b4 83 (evC []):=e4;have g4:w.heap.size<=b4:=Xh hS.size br;have l2:=e2.lt;have l3:=e3.lt;replace e2:=e2.up hT;replace e3:=e3.up hT;replace hS:=hS.trans hT;refine Z0 Z4 rfl ?_;rintro _ w4 ⟨b5,rfl,jU,e5,hT⟩;replace e5:Blk w4 b5 85 (Z2.enc (⟨0,0,0⟩:Svc)):=e5;have g5:w.heap.size<=b5:=Xh hS.size jU;have l4:=e4.lt;replace e2:=e2.up hT;replace e3:=e3.up hT;replace e4:=e4.up hT;replace hS:=hS.trans hT;clear hT;have fH:=hv.up hS;refine QO ?_;refine CP hS (Zjq R.av R.cv c.atts c.crrs f.entry f.to_ _ fH.aa fH.cc ho.att) λw5 hT hS=>?_;replace e2:=e2.up hT;replace e3:=e3.up hT;replace e4:=e4.up hT;replace e5:=e5.up hT;clear hT fH;have l5:=e5.lt;have fI:evL c f=[f.day,if (Z1x c.atts c.crrs f.entry f.to_).2=true then (Z1x c.atts c.crrs f.entry f.to_).1.day else -1,if (Z1x c.atts c.crrs f.entry f.to_).2=true then (Z1x c.atts c.crrs f.entry f.to_).1.extra else 0,f.by_,f.to_,c.court,f.amt]:=rfl;rw [fI];clear fI;generalize Z1x c.atts c.crrs f.entry f.to_=s;obtain ⟨s,ok⟩:=s;refine QO ?_;refine Z0 Z4 rfl ?_;rintro _ w6 ⟨b7,rfl,jo,e7,hT⟩;have g7:w.heap.size<=b7:=Xh hS.size jo;replace e2:=e2.up hT;replace e3:=e3.up hT;replace e4:=e4.up hT;replace e5:=e5.up hT;replace hS:=hS.trans hT;clear hT;refine SA (us:=Z2.enc s) e7 ?_;rintro _ w7 ⟨hT,e7⟩;replace e2:=e2.ext hT (by simp;omega);replace e3:=e3.ext hT (by simp;omega);replace e4:=e4.ext hT (by simp;omega);replace e5:=e5.ext hT (by simp;omega);replace hS:=hS.ow hT;clear hT;have l7:=e7.lt;refine QO ?_;refine Z5 (vs:=[(0,.I f.day),(1,.I (-1)),(3,.I f.by_),(4,.I f.to_),(5,.I c.court),(6,.I f.amt)]) rfl (Z8k _ _ _ _ _) rfl ?_;refine Z0 Z4 rfl ?_;rintro _ w8 ⟨b9,rfl,ee,e9,hT⟩;have g9:w.heap.size<=b9:=Xh hS.size ee;replace e4:=e4.up hT;replace e5:=e5.up hT;replace e7:=e7.up hT;replace hS:=hS.trans hT;clear hT;refine SB (us:=evC [f.day,-1,0,f.by_,f.to_,c.court,f.amt]) (Z50 _) e9 ?_;rintro _ w9 ⟨hT,e9⟩;replace e4:=e4.ext hT (by simp;omega);replace e5:=e5.ext hT (by simp;omega);replace e7:=e7.ext hT (by simp;omega);replace hS:=hS.ow hT;clear hT e2 e3;have c7:w9.cell? ⟨b7,0,none⟩=some (Value.int .i64 s.day):=e7.cell (j:=0) rfl;have c7':w9.cell? ⟨b7,1,none⟩=some (Value.int .i64 s.extra):=e7.cell (j:=1) rfl;cases ok with
 | false=>
   refine QO ?_;refine ZDr 6 ([b4,b5]) [] [(0,1),(1,1),(2,0),(3,2),(4,2),(5,0)] (λw1 ae=>?_);replace e4:=e4.up ae;replace e5:=e5.up ae;replace e7:=e7.up ae;replace e9:=e9.up ae;replace hS:=hS.trans ae;refine QD ?_;refine Z17 rfl trivial (Zw (us:=evC [f.day,-1,0,f.by_,f.to_,c.court,f.amt]) rfl rfl rfl rfl (Z50 _) e4 rfl) (λ_ _ h=>h.1.mn) ?_;rintro _ w11 ⟨hA,e4⟩;replace e5:=e5.ext hA (by simp;omega);replace hS:=hS.ow hA;repeat'(first|refine D1 ?_|omega|refine Zl rfl rfl rfl rfl (λhg=>?_) (λhg=>?_)|(refine Zh rfl rfl rfl rfl (λhg=>?_) (λhg=>?_)<;>refine D1 ?_)|fail)
   refine Z17 rfl trivial (Zw (us:=Z2.enc s) rfl rfl rfl rfl (Z2.one _) e5 rfl) (λ_ _ h=>h.1.mn) ?_;rintro _ w12 ⟨hB,e5⟩;replace e4:=e4.ext hB (by simp;omega);replace hS:=hS.ow hB;refine QD ?_
   try refine W ?_
   refine Z8C rfl rfl rfl rfl e4 rfl rfl e5 rfl rfl ?_;exact .mk ⟨rfl,hS⟩
 | true=>
   repeat'(first|refine W1 ?_|omega|refine JU rfl rfl (by assumption) rfl ?_|refine VG ?_ ?_<;>intro hg|refine VC ?_ ?_<;>intro hc)
   refine Z8 (Zb (o:=1) (u:=.I s.day) rfl rfl rfl rfl e9 (by simp [evC])) ?_;rintro _ wa ⟨hT,e9⟩;replace e4:=e4.ext hT (by simp;omega);replace e5:=e5.ext hT (by simp;omega);replace e7:=e7.ext hT (by simp;omega);replace c7':=hT.cell (by simp;omega) c7';replace hS:=hS.ow hT;repeat'(first|refine W1 ?_|omega|refine JU rfl rfl (by assumption) rfl ?_|refine VG ?_ ?_<;>intro hg|refine VC ?_ ?_<;>intro hc)
   refine Z8 (Zb (o:=2) (u:=.I s.extra) rfl rfl rfl rfl e9 (by simp [evC])) ?_;rintro _ wb ⟨hT,e9⟩;replace e4:=e4.ext hT (by simp;omega);replace e5:=e5.ext hT (by simp;omega);replace e7:=e7.ext hT (by simp;omega);replace hS:=hS.ow hT;replace e9:Blk wb b9 83 (evC [f.day,s.day,s.extra,f.by_,f.to_,c.court,f.amt]):=e9;refine QO ?_;refine ZDr 6 ([b4,b5]) [] [(0,1),(1,1),(2,0),(3,2),(4,2),(5,0)] (λw1 ae=>?_);replace e4:=e4.up ae;replace e5:=e5.up ae;replace e7:=e7.up ae;replace e9:=e9.up ae;replace hS:=hS.trans ae;refine QD ?_;refine Z17 rfl trivial (Zw (us:=evC [f.day,s.day,s.extra,f.by_,f.to_,c.court,f.amt]) rfl rfl rfl rfl (Z50 _) e4 rfl) (λ_ _ h=>h.1.mn) ?_;rintro _ w11 ⟨hA,e4⟩;replace e5:=e5.ext hA (by simp;omega);replace hS:=hS.ow hA;repeat'(first|refine D1 ?_|omega|refine Zl rfl rfl rfl rfl (λhg=>?_) (λhg=>?_)|(refine Zh rfl rfl rfl rfl (λhg=>?_) (λhg=>?_)<;>refine D1 ?_)|fail)
   refine Z17 rfl trivial (Zw (us:=Z2.enc s) rfl rfl rfl rfl (Z2.one _) e5 rfl) (λ_ _ h=>h.1.mn) ?_;rintro _ w12 ⟨hB,e5⟩;replace e4:=e4.ext hB (by simp;omega);replace hS:=hS.ow hB;refine QD ?_
   try refine W ?_
   refine Z8C rfl rfl rfl rfl e4 rfl rfl e5 rfl rfl ?_;exact .mk ⟨rfl,hS⟩
theorem Z3F (y m d:Int) (w) (hy:1<=y) (dm:y<=9999) (hm:1<=m) (fe:m<=12) (hd:0<=d) (iB:d<=100):CC 253 #[Z99 y m d] w λr w'=>r=.I (Jt y m d)/\Stp [] w w':=by
 obtain ⟨K,rfl⟩:∃ K:Nat,m=(K:Int)+1:=⟨(m - 1).toNat,by omega⟩
 have hK:K<=11:=by omega
 have bE:=λ(k:Nat) (h:k<=12)=>(JM (y:=y) h (Xl _))
 have me:=ZdD y;have bQ:=Z0c hy;have bB:=Z0c dm;have ll:ZG 1=0:=by decide
 have nG:ZG 9999=3651694:=by decide
 have gU:=λ(k:Nat) (h:k<=12)=>(JM (y:=y) (Xr k) h)
 have uL:Ju y 0=0:=rfl;have tX:Ju y 12<=366:=by rw [me];split<;>omega
 refine cW1 25 Tryz.func253 ?_;refine W ?_;refine Z0 (Zp rfl) rfl ?_;rintro _ w1 ⟨b,rfl,hb,ab,hS⟩;replace ab:Blk w1 b 288 [.I y,.I ((K:Int)+1),.I d]:=ab;refine W ?_;refine ZDr 8 [] [] [(0,0),(1,1),(3,0),(4,1),(2,2),(5,0),(6,0),(7,0)] (λw1 ae=>?_);replace ab:=ab.up ae;replace hS:=hS.trans ae;clear ae;refine D ?_;refine Z7 rfl trivial (Z3 rfl (ZS rfl) (Z4o y _ hy (by omega))) (λ_ _ h=>by rw [h.2];exact Stp.refl _ _) rfl ?_;rintro _ _ ⟨rfl,rfl⟩;refine D ?_;refine W ?_
 refine Zm (σ:=Nat) (λk=>[(1,pQ b),(3,.I (ZG y+d - 1+Ju y k)),(4,.I ((k:Int)+1))])
  (λk w'=>k<=K/\Stp [] w w'/\Blk w' b 288 [.I y,.I ((K:Int)+1),.I d]) (λk=>K - k) 0 ⟨rfl,by simp [Zf,Ju],rfl,trivial⟩ ⟨Xr _,hS,ab⟩ ?_
 clear ab hS;rintro k w2 ⟨hk,hS,ab⟩;have b1:=bE k (by omega);have b2:=gU k (by omega);by_cases hlt:k<K;have b3:=bE (k+1) (by omega);have b4:=Z0d (y:=y) (k:=k) (by omega);have aR:Ju y (k+1)=Ju y k+Zo y ((k:Int)+1):=rfl;refine QO ?_;refine CM (Zg rfl rfl) (Z0B y ((k:Int)+1) _ (by omega) (by omega)) ?_;rintro _ _ ⟨rfl,rfl⟩;refine W ?_;refine Zd (k+1) ⟨rfl,?_,?_,trivial⟩ ⟨hlt,hS,ab⟩ (by omega);simp only [Zf];simp;omega;simp only [Zf];simp;obtain rfl:k=K:=by omega
 refine QO ?_;refine WR ?_;refine .mk ⟨?_,hS⟩;rw [Z1c y d k hK];congr 1;omega
theorem Zdb (y m d:Int) (w):CC 381 #[Z99 y m d] w λr w'=>r=.I (if Z0g y m d then 5 else 0)/\Stp [] w w':=by
 refine cW1 36 Tryz.func381 ?_;refine W ?_;refine Z0 (Zp rfl) rfl ?_;rintro _ w1 ⟨b,rfl,hb,ab,hS⟩;replace ab:Blk w1 b 288 [.I y,.I m,.I d]:=ab;refine W ?_;refine ZDr 33 [] [] [(0,0),(1,1),(2,0),(3,0),(4,0),(5,1),(6,0),(7,0),(8,0),(9,0),(10,1),(11,0),(12,0),(13,0),(14,0),(15,1),(16,0),(17,0),(18,0),(19,0),(20,1),(21,0),(22,0),(23,0),(24,0),(25,1),(26,0),(27,1),(28,0),(29,1),(30,2),(31,0),(32,0)] (λw1 ae=>?_);replace ab:=ab.up ae;replace hS:=hS.trans ae;clear ae;by_cases hg:y<1\/9999<y\/m<1\/12<m\/d<1
 . have cq:Z0g y m d:=by unfold Z0g;omega
   rw [if_pos cq];repeat'(first|refine D1 ?_|omega|refine Zl rfl rfl rfl rfl (λhg=>?_) (λhg=>?_)|(refine Zh rfl rfl rfl rfl (λhg=>?_) (λhg=>?_)<;>refine D1 ?_)|fail)
   all_goals refine QO ?_
   all_goals refine WR ?_
   all_goals exact .mk ⟨rfl,hS⟩
 . refine QD ?_
   refine Z7 rfl rfl (Z3 rfl (Zg rfl rfl) (Z0B y m _ (by omega) (by omega))) (λ_ _ h=>by rw [h.2];exact Stp.refl _ _) rfl ?_;rintro _ w3 ⟨rfl,rfl⟩;refine QD ?_;all_goals (refine QP ?_ ?_<;>intro hc)
   refine RU ?_;exact ⟨by rw [if_pos (by unfold Z0g;omega)],hS⟩;refine RU ?_;exact ⟨by rw [if_neg (by unfold Z0g;omega)],hS⟩
theorem ZbH (y m d:Int) (w):CC 368 #[Z99 y m d] w λr w'=>r=.tuple #[.I (if Z0g y m d then 0 else Jt y m d),.I (if Z0g y m d then 5 else 0)]/\Stp [] w w':=by
 refine cW1 12 Tryz.func368 ?_;refine W ?_;refine Z0 (Zp rfl) rfl ?_;rintro _ w1 ⟨b,rfl,hb,ab,hS⟩;replace ab:Blk w1 b 288 [.I y,.I m,.I d]:=ab;refine W ?_;refine CL (Zdb y m d _) ?_;rintro _ w2 ⟨rfl,hT⟩;replace ab:=ab.up hT;replace hS:=hS.trans hT;clear hT;by_cases cq:Z0g y m d;rw [if_pos cq,if_pos cq];refine RT ?_;exact ⟨rfl,hS⟩;rw [if_neg cq,if_neg cq];refine W ?_;have oQ:=Z10 y m;unfold Z0g at cq;refine CM (ZS rfl) (Z3F y m d _ (by omega) (by omega) (by omega) (by omega) (by omega) (by omega)) ?_;rintro _ w3 ⟨rfl,hT⟩;refine RT ?_;exact ⟨rfl,hS.trans hT⟩
theorem Z1z (d:Int) (w) (h0:0<=d) (h1:d<=9000000000):CC 254 #[.I d] w λr w'=>r=.I (d % 7)/\w'=w:=by
 refine cW1 11 Tryz.func254 ?_;refine RT ?_;exact ⟨rfl,rfl⟩
theorem ZfJ (a:Int) (w) (h0:-1000000000<=a) (h1:a<=1000000000):CC 251 #[.I a,.I 12] w λr w'=>r=.I (a / 12)/\w'=w:=by
 obtain ⟨T,hT⟩:∃ T,T=a.tdiv 12:=⟨_,rfl⟩
 obtain ⟨R,hR⟩:∃ R,R=a.tmod 12:=⟨_,rfl⟩
 have hs:(R<0/\T - 1=a / 12)\/(0<=R/\T=a / 12):=by
  rcases Int.lt_or_le a 0 with h|h
  have e1:a.tdiv 12=-((-a) / 12):=by
   rw [<- Yba (by omega),Int.neg_tdiv];omega
  have e2:a.tmod 12=-((-a) % 12):=by
   rw [<- X8 (by omega),Int.neg_tmod];omega
  rw [e1] at hT;rw [e2] at hR;omega;rw [Yba h] at hT;rw [X8 h] at hR;omega
 have hr:-13<R/\R<13:=by
  rcases Int.lt_or_le a 0 with h|h
  have e2:a.tmod 12=-((-a) % 12):=by
   rw [<- X8 (by omega),Int.neg_tmod];omega
  rw [e2] at hR;omega;rw [X8 h] at hR;omega
 refine cW2 16 Tryz.func251 ?_;refine W ?_;refine ZpW rfl rfl (by decide) (by rw [<- hT];unfold I64;omega) rfl ?_;rw [<- hT];refine W ?_;refine ZgW rfl rfl (by decide) (by rw [<- hR];unfold I64;omega) rfl ?_;rw [<- hR];clear hT hR
 (refine QP ?_ ?_<;>intro hc)
 all_goals refine WR ?_
 all_goals exact .mk ⟨by congr 1;omega,rfl⟩
theorem Zjr (e g:Nat):ZdW e g=if e=24\/(e=25/\11<g) then e+1 else e:=by
 unfold ZdW;rw [Bool.cond_eq_ite];congr 1;simp [Nat.beq_eq,Nat.blt_eq]
theorem Zjs (e d:Nat):ZdX e d=(if 44 - e<21 then 44 - e+30 else 44 - e)+7 - (d+(if 44 - e<21 then 44 - e+30 else 44 - e)) % 7:=by
 unfold ZdX;rw [Bool.cond_eq_ite];simp [Nat.blt_eq]
theorem Zv9 (X:Int):(X.tmod 30<0/\-30<X.tmod 30/\X.tmod 30+30=X % 30)\/(0<=X.tmod 30/\X.tmod 30=X % 30):=by
 rcases Int.lt_or_le X 0 with h|h
 obtain ⟨Y,rfl⟩:∃ Y,X=-Y:=⟨-X,by omega⟩
 rw [Int.neg_tmod,X8 (by omega)];omega;rw [X8 h]
 right;omega
theorem ZbI (y:Int) (w):CC 367 #[.I y] w λr w'=>r=.tuple #[.I (if y<1583\/9999<y then 0 else Z1R y),.I (if y<1583\/9999<y then 5 else 0)]/\Stp [] w w':=by
 refine cW1 81 Tryz.func367 ?_;by_cases hy:y<1583\/9999<y
 . rw [if_pos hy,if_pos hy]
   repeat'(first|refine W1 ?_|omega|refine VG ?_ ?_<;>intro hg|refine VC ?_ ?_<;>intro hc)
   all_goals refine WR ?_
   all_goals exact .mk ⟨rfl,Stp.refl _ _⟩
 . rw [if_neg hy,if_neg hy]
   obtain ⟨k,rfl⟩:∃ k:Nat,y=(k:Int):=⟨y.toNat,by omega⟩
   have bz:1583<=k:=by omega
   have cA:k<=9999:=by omega
   rw [Zf6 bz cA];have g1:0<=(k:Int) % 19/\(k:Int) % 19<=18:=by omega
   have g2:15<=(k:Int) / 100/\(k:Int) / 100<=99:=by omega
   have vT:=Z11 (y:=(k:Int)) (m:=3) (d:=1) (by omega) (by omega) (by omega) (by omega) (by omega) (by show (1:Int)<=Zo (k:Int) 3;rw [show Zo (k:Int) 3=31 from rfl];decide);have j8:Z9w k=ZdX (ZdW (Z8h k) (k % 19+1)) (5 * k / 4 - (3 * (k / 100+1) / 4 - 12) - 10):=rfl;rw [Zjr] at j8;obtain ⟨T,hT⟩:∃ T,T=(11 * ((k:Int) % 19+1)+20+((8 * ((k:Int) / 100+1)+5) / 25 - 5) - (3 * ((k:Int) / 100+1) / 4 - 12)).tmod 30:=⟨_,rfl⟩
   have sK:((Z8h k:Nat):Int)=(11 * ((k:Int) % 19+1)+20+((8 * ((k:Int) / 100+1)+5) / 25 - 5) - (3 * ((k:Int) / 100+1) / 4 - 12)) % 30:=by
    have e1:((k % 19:Nat):Int)=(k:Int) % 19:=by omega
    have e2:((k / 100:Nat):Int)=(k:Int) / 100:=by omega
    rw [<- e1,<- e2];unfold Z8h;have b2:15<=k / 100:=by omega
    have b3:k / 100<=99:=by omega
    generalize k / 100=c at b2 b3 ⊢;generalize k % 19=g;have e3:(8 * ((c:Int)+1)+5) / 25=(((8 * (c+1)+5) / 25:Nat):Int):=by omega
    have e4:3 * ((c:Int)+1) / 4=((3 * (c+1) / 4:Nat):Int):=by omega
    have b4:5<=(8 * (c+1)+5) / 25:=by omega
    have b5:12<=3 * (c+1) / 4/\3 * (c+1) / 4<=75:=by omega
    rw [e3,e4];generalize (8 * (c+1)+5) / 25=Z at b4 ⊢;generalize 3 * (c+1) / 4=Y at b5 ⊢;omega
   have vU:=Zv9 (11 * ((k:Int) % 19+1)+20+((8 * ((k:Int) / 100+1)+5) / 25 - 5) - (3 * ((k:Int) / 100+1) / 4 - 12));rw [<- hT,<- sK] at vU;have vV:Z8h k<30:=YbD _ (by decide);have xF:-30<T/\T<30:=by omega
   refine QO ?_;refine ZgW rfl rfl (by decide) (by rw [<- hT];unfold I64;omega) rfl ?_;rw [<- hT];have hX:0<=3 * ((k:Int) / 100+1) / 4 - 12/\3 * ((k:Int) / 100+1) / 4 - 12<=63:=by omega
   obtain ⟨D,hD⟩:∃ D:Nat,D=5 * k / 4 - (3 * (k / 100+1) / 4 - 12) - 10:=⟨_,rfl⟩
   have lw:5 * (k:Int) / 4 - (3 * ((k:Int) / 100+1) / 4 - 12) - 10=(D:Int):=by omega
   have xG:D<=20000:=by omega
   have hG:((k % 19:Nat):Int)=(k:Int) % 19:=by omega
   rw [<- hD] at j8;rw [lw];clear hD lw hX sK g2 hT;generalize Z8h k=E at *;generalize k % 19=G at *;rw [<- hG] at g1 ⊢;clear hG;repeat'(first|refine W1 ?_|omega|refine VG ?_ ?_<;>intro hg|refine VC ?_ ?_<;>intro hc)
   all_goals refine Z5 (vs:=[(0,.I (k:Int)),(1,.I 3),(2,.I 1)]) rfl (Z2L _ _ _) rfl ?_
   all_goals refine CM (ZS rfl) (Z3F (k:Int) 3 1 _ (by omega) (by omega) (by omega) (by omega) (by omega) (by omega)) ?_
   all_goals rintro _ w1 ⟨rfl,hS⟩
   all_goals refine W ?_
   all_goals refine WR ?_
   all_goals refine .mk ⟨?_,hS⟩
   all_goals refine congrArg (λz=>Value.tuple #[.I z,.I 0]) ?_
   all_goals rw [j8,Zjs]
   all_goals (repeat' split)
   all_goals omega
theorem Z7z (d n:Int) (w) (h0:0<=d) (h1:d<=3652058) :
 CC 189 #[.I d,.I n] w λr w'=>r=.tuple #[.I (Z6Q d n).1,.I (Z6Q d n).2]/\Stp [] w w':=by
 obtain ⟨y1,y2,m1,m2,d1,d2,fy⟩:=Z4m h0 h1;have aY:Zu d=true:=Zr.2 ⟨h0,h1⟩;unfold Z6Q;refine cW2 60 Tryz.func189 ?_;by_cases hn:n < -200000\/200000<n
 . rw [if_pos hn]
   repeat'(first|refine W1 ?_|omega|refine VG ?_ ?_<;>intro hg|refine VC ?_ ?_<;>intro hc)
   all_goals refine WR ?_
   all_goals exact .mk ⟨rfl,Stp.refl _ _⟩
 rw [if_neg hn,if_pos aY];refine QO ?_;refine CL (ZdF d _ h0 h1) ?_;rintro _ w1 ⟨rfl,hS⟩;refine W ?_;refine Z0 Z4 rfl ?_;rintro _ w2 ⟨b6,rfl,dS,e6,aj⟩;refine W ?_;refine SB (us:=[.I (ofM d).y,.I (ofM d).m,.I (ofM d).d]) (by intro u hu;simp at hu;rcases hu with rfl|rfl|rfl<;>rfl) e6 ?_;rintro _ w3 ⟨hT,k6⟩;have pH:w.heap.size<=b6:=by have:=hS.size;omega
 replace hS:=hS.trans (aj.ow hT);clear e6 hT aj;generalize hM:12 * (ofM d).y+(ofM d).m - 1+n=M;refine W ?_;rw [hM];refine CM (Zg rfl rfl) (ZfJ M _ (by omega) (by omega)) ?_;rintro _ _ ⟨rfl,rfl⟩;by_cases hr:M<12\/120000<=M
 . rw [if_pos hr]
   repeat'(first|refine W1 ?_|omega|refine VG ?_ ?_<;>intro hg|refine VC ?_ ?_<;>intro hc)
   all_goals refine WR ?_
   all_goals exact .mk ⟨rfl,hS⟩
 rw [if_neg hr];have fV:=Z10 (M / 12) (M % 12+1);have cn:=Z0d (y:=M / 12) (k:=(M % 12).toNat) (by omega);rw [show (((M % 12).toNat:Int))=M % 12 by omega] at cn;refine QO ?_;refine S1 (u:=.I (M / 12)) k6 ?_;rintro _ w4 ⟨aU,k6⟩;refine W ?_;have e12:M - 12 * (M / 12)+1=M % 12+1:=by omega
 rw [e12];refine S1 (u:=.I (M % 12+1)) k6 ?_;rintro _ w5 ⟨aD,k6⟩;replace hS:=(hS.ow aU).ow aD;clear aU aD;refine W ?_;refine ZDr 10 [] [9] [(0,0),(1,1),(2,0),(3,1),(4,0),(5,1),(6,2),(7,0),(8,0),(9,2)] (λw1 ae=>?_);replace k6:=k6.up ae;replace hS:=hS.trans ae;clear ae;refine D ?_;refine Z7 rfl trivial (Z3 rfl (Zg rfl rfl) (Z0B (M / 12) (M % 12+1) _ (by omega) (by omega))) (λ_ _ h=>by rw [h.2];exact Stp.refl _ _) rfl ?_;rintro _ _ ⟨rfl,rfl⟩;refine D ?_;refine ZM rfl trivial (Zb (u:=.I (min (ofM d).d (Zo (M / 12) (M % 12+1)))) rfl rfl rfl rfl k6 (by simp)) rfl ?_;rintro _ w6 ⟨cz,k6⟩;replace hS:=hS.ow cz;refine D ?_;refine W ?_;refine CM (ZS rfl) (Z3F (M / 12) (M % 12+1) (min (ofM d).d (Zo (M / 12) (M % 12+1))) _ (by omega) (by omega) (by omega) (by omega) (by omega) (by omega)) ?_;rintro _ w7 ⟨rfl,aW⟩;refine RT ?_;exact ⟨rfl,hS.trans aW⟩
theorem Z7X (n a b:Int) (w):CC 346 #[.I n,.I a,.I b] w λr w'=>r=.B (decide (a<=n/\n<=b))/\w'=w:=by
 refine cW3 15 Tryz.func346 ?_;by_cases h1:n>=a;by_cases h2:n<=b;rw [decide_eq_true ⟨h1,h2⟩];refine RT ?_;exact ⟨by simp [h2],rfl⟩;rw [decide_eq_false (λh=>h2 h.2)];refine RT ?_;exact ⟨by simp [h2],rfl⟩;rw [decide_eq_false (λh=>h1 h.1)];refine RT ?_;exact ⟨rfl,rfl⟩
def Zjt (o:Option Int) (r:Value):Prop:=∃ (n:Int) (b:Bool),r=.tuple #[.I n,.B b]/\o=if b=true then some n else none
theorem ZbJ (h:Hol) (y:Int) (w) (ho:Z0X h) (gT:0<=y) (jl:y<=10000) :
 CC 345 #[agg h,.I y] w λr w'=>Zjt (Zcu h y) r/\Stp [] w w':=by
 have oY:=ho.f1;have fV:=ho.l1;refine cW2 96 Tryz.func345 ?_;refine W ?_;refine Z0 (Zp rfl) rfl ?_;rintro _ w1 ⟨b,rfl,hb,ab,hS⟩;replace ab:Blk w1 b 120 (Z2.enc h):=ab;by_cases aY:y<h.first\/h.last<y
 . repeat'(first|refine W1 ?_|omega|refine VG ?_ ?_<;>intro hg|refine VC ?_ ?_<;>intro hc)
   all_goals refine WR ?_
   all_goals refine .mk ⟨⟨_,false,rfl,?_⟩,hS⟩
   all_goals unfold Zcu
   all_goals rw [if_pos aY]
   all_goals rfl
 have fB:=ZcF (h:=h) (y:=y) (by omega) (by omega);rw [fB];have bz:=ho.k1;have cA:=ho.k2;by_cases k4:h.kind=4;have e:Z0q h y=((if y<1583\/9999<y then 0 else Z1R y)+h.off,!decide (y<1583\/9999<y)):=by unfold Z0q;rw [if_neg (by omega),if_neg (by omega),if_neg (by omega)]
 rw [e];obtain ⟨o1,o2⟩:=ho.off k4;have hr:0<=(if y<1583\/9999<y then 0 else Z1R y)/\(if y<1583\/9999<y then 0 else Z1R y)<=3652058:=by
  split;omega;have:=Z3u (y:=y) (by omega) (by omega);omega
 refine QO ?_;refine CL (ZbI y _) ?_;rintro _ w2 ⟨rfl,hT⟩;replace ab:=ab.up hT;replace hS:=hS.trans hT;refine W ?_;refine WR ?_;refine .mk ⟨⟨_,_,rfl,?_⟩,hS⟩;by_cases hy:y<1583\/9999<y<;>simp [hy];by_cases k1:h.kind=1;have e:Z0q h y=(if Z0g y h.month h.day then 0 else Jt y h.month h.day,!decide (Z0g y h.month h.day)):=by unfold Z0q;rw [if_pos k1]
 rw [e];refine QO ?_;refine Z5 (vs:=[(0,.I y),(1,.I h.month),(2,.I h.day)]) rfl (Z2L _ _ _) rfl ?_;refine CL (ZbH y _ _ _) ?_;rintro _ w2 ⟨rfl,hT⟩;replace ab:=ab.up hT;replace hS:=hS.trans hT;refine W ?_;refine WR ?_;refine .mk ⟨⟨_,_,rfl,?_⟩,hS⟩;by_cases hb:Z0g y h.month h.day<;>simp [hb];obtain ⟨m1,m2⟩:=ho.month (by omega);obtain ⟨d1,d2⟩:=ho.wd (by omega);obtain ⟨f1,f2,f3,f4,f5⟩:=Z1D (y:=y) (m:=h.month) (by omega) (by omega) m1 m2;obtain ⟨f6,f7⟩:=Z1X (y:=y) (wd:=h.wd) (by omega) (by omega) m1 m2;have xH:Z1t y h.month h.wd=Jt y h.month 1+(h.wd - Jt y h.month 1 % 7+7) % 7:=rfl;refine QO ?_;refine Z5 (vs:=[(0,.I y),(1,.I h.month),(2,.I 1)]) rfl (Z2L _ _ _) rfl ?_;refine CL (ZbH y _ _ _) ?_;rintro _ w2 ⟨rfl,hT⟩;rw [if_neg f1,if_neg f1];replace ab:=ab.up hT;replace hS:=hS.trans hT;refine W ?_;refine CM (Zg rfl rfl) (Z0B y _ _ (by omega) (by omega)) ?_;rintro _ _ ⟨rfl,rfl⟩;by_cases k3:h.kind=3;have e:Z0q h y=(Z1t y h.month h.wd+(Jt y h.month 1+Zo y h.month - 1 - Z1t y h.month h.wd) / 7 * 7,true):=by unfold Z0q;rw [if_neg (by omega),if_neg (by omega),if_pos k3]
 rw [e,if_pos rfl];generalize hB:Jt y h.month 1=B at *;generalize hL:Zo y h.month=L at *;generalize Z1t y h.month h.wd=F at *;refine QO ?_
 refine Zm (σ:=Nat) (λk=>[(2,pQ b),(12,.I (B+L - 1 - (k:Int)))])
  (λk w'=>F+(B+L - 1 - F) / 7 * 7<=B+L - 1 - (k:Int)/\Stp [] w w'/\Blk w' b 120 (Z2.enc h)) (λk=>100 - k) 0 ⟨rfl,by simp [Zf],trivial⟩ ⟨by omega,hS,ab⟩ ?_
 clear ab hS;rintro k w3 ⟨hk,hS,ab⟩;refine W ?_;refine ZDr 5 [] [] [(0,0),(2,0),(3,1),(1,2),(4,0)] (λw1 ae=>?_);replace ab:=ab.up ae;replace hS:=hS.trans ae;clear ae;refine D ?_;refine Z7 rfl trivial (Z3 rfl (ZS rfl) (Z1z _ _ (by omega) (by omega))) (λ_ _ h=>by rw [h.2];exact Stp.refl _ _) rfl ?_;rintro _ _ ⟨rfl,rfl⟩;refine D ?_;by_cases hq:(B+L - 1 - (k:Int)) % 7=h.wd;refine QO ?_;refine WR ?_;refine .mk ⟨⟨_,true,rfl,?_⟩,hS⟩;rw [if_pos rfl];congr 1;omega;refine QO ?_;refine Zd (k+1) ⟨rfl,?_,trivial⟩ ⟨?_,hS,ab⟩ (by omega);simp only [Zf];simp;omega;omega;have e:Z0q h y=(Z1t y h.month h.wd+7 * (h.nth - 1),decide (Z1t y h.month h.wd+7 * (h.nth - 1)<Jt y h.month 1+Zo y h.month)):=by unfold Z0q;rw [if_neg (by omega),if_pos (by omega)]
 obtain ⟨n1,n2⟩:=ho.nth (by omega);rw [e];generalize hB:Jt y h.month 1=B at *;generalize hL:Zo y h.month=L at *;generalize Z1t y h.month h.wd=F at *;refine QO ?_
 refine Zm (σ:=Nat) (λk=>[(2,pQ b),(10,.I (B+(k:Int))),(12,.I (B+L - 1))])
  (λk w'=>B+(k:Int)<=F/\Stp [] w w'/\Blk w' b 120 (Z2.enc h)) (λk=>100 - k) 0 ⟨rfl,by simp [Zf],rfl,trivial⟩ ⟨by omega,hS,ab⟩ ?_
 clear ab hS;rintro k w3 ⟨hk,hS,ab⟩;refine W ?_;refine ZDr 5 [] [] [(0,0),(2,0),(3,1),(1,2),(4,0)] (λw1 ae=>?_);replace ab:=ab.up ae;replace hS:=hS.trans ae;clear ae;refine D ?_;refine Z7 rfl trivial (Z3 rfl (ZS rfl) (Z1z _ _ (by omega) (by omega))) (λ_ _ h=>by rw [h.2];exact Stp.refl _ _) rfl ?_;rintro _ _ ⟨rfl,rfl⟩;refine D ?_;by_cases hq:(B+(k:Int)) % 7=h.wd;obtain vW:B+(k:Int)=F:=by omega
 rw [vW] at hq ⊢;refine QO ?_;refine WR ?_;refine .mk ⟨⟨_,_,rfl,?_⟩,hS⟩;congr 1;rw [eq_iff_iff,decide_eq_true_eq,decide_eq_true_eq];omega;refine QO ?_;refine Zd (k+1) ⟨rfl,?_,rfl,trivial⟩ ⟨?_,hS,ab⟩ (by omega);simp only [Zf];simp;omega;omega
theorem Zju (h:Hol) (y:Int) (w) (ho:Z0X h) (gT:0<=y) (jl:y<=10000) :
 CC 296 #[agg h,.I y] w λr w'=>Zjt (Z0j h y) r/\Stp [] w w':=by
 have nB:=ho.m1;have fe:=ho.m2;refine cW2 52 Tryz.func296 ?_;refine W ?_;refine Z0 (Zp rfl) rfl ?_;rintro _ w1 ⟨b,rfl,hb,ab,hS⟩;replace ab:Blk w1 b 120 (Z2.enc h):=ab;refine W ?_;refine CL (ZbJ h y _ ho gT jl) ?_;rintro _ w2 ⟨⟨n,ok,rfl,hn⟩,hT⟩;replace ab:=ab.up hT;replace hS:=hS.trans hT;clear hT;unfold Z0j;cases ok with
 | false=>
   rw [if_neg (by simp)] at hn;rw [hn];refine RT ?_;exact ⟨⟨_,false,rfl,rfl⟩,hS⟩
 | true=>
   rw [if_pos rfl] at hn;have hr:0<=n/\n<=3653000:=by
    by_cases aY:y<h.first\/h.last<y;unfold Zcu at hn;rw [if_pos aY] at hn;cases hn;rw [ZcF (by omega) (by omega)] at hn;split at hn;rename_i hp;have:=Z77 ho (by omega) (by omega) hp;simp only [Xk] at hn;omega;cases hn
   rw [hn];have xI:=Z8j h.move n
   have fin:∀ r w',r=.tuple #[.I (Z0V h.move n),.B (decide (0<=Z0V h.move n/\Z0V h.move n<=3652058))]->Stp [] w w'->
    Ret (λr w'=>Zjt ((some n).bind λd=>if Zu (Z0V h.move d)=true then some (Z0V h.move d) else none) r/\Stp [] w w') (.returned r) w':=by
    rintro _ w' rfl hS;refine .mk ⟨⟨_,_,rfl,?_⟩,hS⟩;simp only [XY];rfl
   have hcases:(h.move=1/\n % 7=5/\Z0V h.move n=n+2)\/(h.move=2/\n % 7=5/\Z0V h.move n=n - 1)\/(h.move≠0/\n % 7=6/\Z0V h.move n=n+1)\/((h.move=0\/(n % 7≠5/\n % 7≠6))/\Z0V h.move n=n):=by
    unfold Z0V;repeat' split
    all_goals omega
   clear hn;generalize Z0V h.move n=R at *;refine W ?_;refine CM (ZS rfl) (Z1z n _ hr.1 (by omega)) ?_;rintro _ _ ⟨rfl,rfl⟩;rcases hcases with ⟨c1,c2,rfl⟩|⟨c1,c2,rfl⟩|⟨c1,c2,rfl⟩|⟨c1,rfl⟩
   all_goals repeat'(first|refine W1 ?_|omega|refine VG ?_ ?_<;>intro hg|refine VC ?_ ?_<;>intro hc)
   all_goals refine CL (Z7X _ 0 3652058 _) ?_
   all_goals rintro _ _ ⟨rfl,rfl⟩
   all_goals refine W ?_
   all_goals refine WR ?_
   all_goals exact fin _ _ rfl hS
theorem Zjv (v:Value) (l:List Hol) (d:Int) (w) (hs:SlV [] w v l) (ho:∀ h∈l,Z0X h) (h0:0<=d) (h1:d<=3652058) :
 CC 256 #[v,.I d] w λr w'=>r=.B (Z2b l d)/\Stp [] w w':=by
 obtain ⟨y1,y2,-⟩:=Z4m h0 h1;have aY:Zu d=true:=Zr.2 ⟨h0,h1⟩;have bh:=hs.max;refine cW2 49 Tryz.func256 ?_;refine W ?_;refine CL (ZdF d _ h0 h1) ?_;rintro _ w1 ⟨rfl,hS⟩;refine W ?_;refine Z0 Z4 rfl ?_;rintro _ w2 ⟨b5,rfl,jU,e5,aj⟩;refine W ?_;refine SB (us:=[.I (ofM d).y,.I (ofM d).m,.I (ofM d).d]) (by intro u hu;simp at hu;rcases hu with rfl|rfl|rfl<;>rfl) e5 ?_;rintro _ w3 ⟨hT,k5⟩;replace hS:=hS.trans (aj.ow hT);clear e5 hT aj;replace hs:=hs.up hS;refine W ?_;have qH:∀ k:Nat,k<3->(∃ h∈l,Z0j h ((ofM d).y - 1+(k:Int))=some d)->Z2b l d=true:=by
  rintro k hk ⟨h,hh,hd⟩;unfold Z2b;rw [aY,YbI,Yat];refine ⟨_,?_,Yat.2 ⟨h,hh,decide_eq_true hd⟩⟩;have:k=0\/k=1\/k=2:=by omega
  rcases this with rfl|rfl|rfl
  simp;rw [show (ofM d).y - 1+((1:Nat):Int)=(ofM d).y by omega];simp;rw [show (ofM d).y - 1+((2:Nat):Int)=(ofM d).y+1 by omega];simp
 refine Zm (σ:=Nat) (λk=>[(0,v),(1,.I d),(5,pQ b5),(7,.I ((ofM d).y - 1+(k:Int)))])
  (λk w'=>k<=3/\(∀ j:Nat,j<k->∀ h∈l,¬ Z0j h ((ofM d).y - 1+(j:Int))=some d)/\Stp [] w3 w') (λk=>3 - k) 0 ⟨rfl,rfl,rfl,by simp [Zf],trivial⟩ ⟨Xr _,λj hj=>absurd hj (XF _),Stp.refl _ _⟩ ?_
 rintro k w4 ⟨hk,bg,aU⟩;have k5b:=k5.up aU;have nG:=hs.up aU;by_cases hlt:k<3;refine QO ?_
 refine Zb2 (σ:=Unit) (λ_=>[(0,v),(1,.I d),(5,pQ b5),(7,.I ((ofM d).y - 1+(k:Int)))])
  (λ_ w'=>(∀ h∈l,¬ Z0j h ((ofM d).y - 1+(k:Int))=some d)/\Stp [] w3 w') ?_ ?_
 refine Zm (σ:=Nat) (λi=>[(0,v),(1,.I d),(5,pQ b5),(7,.I ((ofM d).y - 1+(k:Int))),(8,.I (i:Int))])
  (λi w'=>i<=l.length/\(∀ h∈l.take i,¬ Z0j h ((ofM d).y - 1+(k:Int))=some d)/\Stp [] w3 w') (λi=>l.length - i) 0 ⟨rfl,rfl,rfl,rfl,rfl,trivial⟩ ⟨Xr _,by simp,aU⟩ ?_
 clear k5b nG;rintro i w5 ⟨hi,nf,aD⟩;have k5b:=k5.up aD;have nG:=hs.up aD;by_cases cR:i<l.length
 . have aL:=ho l[i] (Xb cR)
   refine QO ?_;refine CM (Zg rfl rfl) (Zju l[i] ((ofM d).y - 1+(k:Int)) _ aL (by omega) (by omega)) ?_;rintro _ w6 ⟨⟨n,ok,rfl,hn⟩,cz⟩;have next:Z0j l[i] ((ofM d).y - 1+(k:Int))≠some d->∀ h∈l.take (i+1),¬ Z0j h ((ofM d).y - 1+(k:Int))=some d:=by
    intro bi h hh;rw [Xg cR,Xd] at hh;rcases hh with hh|hh
    exact nf h hh;obtain rfl:h=l[i]:=by simpa using hh
    exact bi
   cases ok with
   | false=>
     rw [if_neg (by simp)] at hn;refine W ?_;exact QL (i+1) ⟨cR,next (by rw [hn];simp),aD.trans cz⟩ (by omega)
   | true=>
     rw [if_pos rfl] at hn;by_cases d5:n=d;subst d5;refine QO ?_;refine WR ?_;refine .mk ⟨?_,(hS.trans aD).trans cz⟩;rw [qH k hlt ⟨_,Xb cR,hn⟩]
     . refine QO ?_
       exact QL (i+1) ⟨cR,next (by rw [hn];simpa using d5),aD.trans cz⟩ (by omega)
 obtain rfl:i=l.length:=by omega
 rw [Xs] at nf;refine QO ?_;exact QT () ⟨nf,aD⟩;rintro _ w5 ⟨nf,aD⟩;refine W ?_;refine Zd (k+1) ⟨rfl,rfl,rfl,?_,trivial⟩ ⟨hlt,λj hj=>?_,aD⟩ (by omega);simp only [Zf];simp;omega;by_cases gV:j=k;subst gV;exact nf;exact bg j (by omega);obtain rfl:k=3:=by omega
 refine QO ?_;refine WR ?_;refine .mk ⟨?_,hS.trans aU⟩;have:Z2b l d=false:=by
  rw [YaH];intro h;unfold Z2b at h;rw [aY,YbI,Yat] at h;obtain ⟨y,hy,h⟩:=h;obtain ⟨q,hq,hd⟩:=Yat.1 h;have hd:=of_decide_eq_true hd;simp only [Xc,Xn,or_false] at hy;rcases hy with rfl|rfl|rfl
  exact bg 0 (by omega) q hq (by simpa using hd);exact bg 1 (by omega) q hq (by rw [<- hd];congr 1;omega);exact bg 2 (by omega) q hq (by rw [<- hd];congr 1;omega)
 rw [this]
theorem Z1a (d:Int) (w):CC 192 #[.I d] w λr w'=>r=.B (Zu d)/\w'=w:=by
 refine cW1 9 Tryz.func192 ?_;unfold Zu;by_cases h1:d>=0;by_cases h2:d<=3652058;rw [decide_eq_true ⟨h1,h2⟩];refine RT ?_;exact ⟨by simp [h2],rfl⟩;rw [decide_eq_false (λh=>h2 h.2)];refine RT ?_;exact ⟨by simp [h2],rfl⟩;rw [decide_eq_false (λh=>h1 h.1)];refine RT ?_;exact ⟨rfl,rfl⟩
theorem Z9V (d kn:Int) (c:Cal) (hv cv zo zs hr:Value) (w) (h:Z1y w c hv cv zo zs hr) :
 CC 255 #[Z20 c hv cv zo zs hr,.I d,.I kn] w λr w'=>r=.B (Z44 c.clos kn d)/\Stp [] w w':=by
 have bE:=h.clos.max;refine cW3 37 Tryz.func255 ?_;refine W ?_;refine Z0 (Zp rfl) rfl ?_;rintro _ w1 ⟨b3,rfl,dM,ab,hS⟩;replace ab:Blk w1 b3 35 (Ji c hv cv zo zs hr):=ab;refine W ?_
 refine Zm (σ:=Nat) (λk=>[(1,.I d),(2,.I kn),(3,pQ b3),(7,.I (k:Int))])
  (λk w'=>k<=c.clos.length/\Z44 (c.clos.take k) kn d=false/\Stp [] w1 w') (λk=>c.clos.length - k) 0 ⟨rfl,rfl,rfl,rfl,trivial⟩ ⟨Xr _,rfl,Stp.refl _ _⟩ ?_
 rintro k w2 ⟨hk,hn,aj⟩;have kc:=ab.up aj;have bY:=(h.clos.up hS).up aj;by_cases hlt:k<c.clos.length;have ht:Z44 (c.clos.take (k+1)) kn d=(Z44 (c.clos.take k) kn d || decide (c.clos[k].known<=kn/\c.clos[k].lo<=d/\d<=c.clos[k].hi)):=by
  unfold Z44;rw [Xg hlt,List.any_append];simp
 rw [hn,YaL] at ht;refine QO ?_;refine Z0 Z4 rfl ?_;rintro _ w3 ⟨b8,rfl,dG,e8,aF⟩;refine W ?_;refine SA (us:=Z2.enc c.clos[k]) e8 ?_;rintro _ w4 ⟨hT,k8⟩;replace aF:=aF.ow hT;clear e8 hT;replace kc:=kc.up aF;replace bY:=bY.up aF;replace aj:=aj.trans aF;by_cases hx:c.clos[k].known<=kn/\c.clos[k].lo<=d/\d<=c.clos[k].hi;refine QO ?_;refine WR ?_;refine .mk ⟨?_,hS.trans aj⟩;have:Z44 c.clos kn d=true:=by
  unfold Z44;exact Yat.2 ⟨c.clos[k],Xb hlt,decide_eq_true hx⟩
 rw [this]
 . rw [decide_eq_false hx] at ht
   repeat'(first|refine W1 ?_|omega|refine VG ?_ ?_<;>intro hg|refine VC ?_ ?_<;>intro hc)
   all_goals exact QL (k+1) ⟨hlt,ht,aj⟩ (by omega)
 obtain rfl:k=c.clos.length:=by omega
 rw [Xs] at hn;refine RT ?_;exact ⟨by rw [hn],hS.trans aj⟩
theorem Zdc (d kn:Int) (c:Cal) (hv cv zo zs hr:Value) (w) (h:Z1y w c hv cv zo zs hr) :
 CC 193 #[Z20 c hv cv zo zs hr,.I d,.I kn] w λr w'=>r=.B (Ze c kn d)/\Stp [] w w':=by
 refine cW3 28 Tryz.func193 ?_;refine W ?_;refine Z0 (Zp rfl) rfl ?_;rintro _ w1 ⟨b3,rfl,dM,ab,hS⟩;replace ab:Blk w1 b3 35 (Ji c hv cv zo zs hr):=ab;replace h:=h.up hS;refine W ?_;refine CL (Z1a d _) ?_;rintro _ w1 ⟨rfl,rfl⟩;unfold Ze;cases hd:Zu d with
 | false=>
   refine RT ?_;exact ⟨rfl,hS⟩
 | true=>
   obtain ⟨h0,h1⟩:=Zr.1 hd;have ld:(d % 7).toNat<7:=by omega
   have pD:=Ze2 c hv cv zo zs hr ld;refine W ?_;refine CM (ZS rfl) (Z1z d _ h0 (by omega)) ?_;rintro _ _ ⟨rfl,rfl⟩;refine W ?_;refine JT (len:=7) (i:=(d % 7).toNat) rfl rfl (by omega) ld rfl ?_;refine Zg1 rfl ?_;refine Z5O rfl rfl ab pD rfl ?_;unfold ZaA;cases hw:c.week.getD (d % 7).toNat false with
   | true=>
     refine RT ?_;exact ⟨by simp,hS⟩
   | false=>
     rw [YaL];refine W ?_;refine CL (Z9V d kn c hv cv zo zs hr _ h) ?_;rintro _ w2 ⟨rfl,aj⟩;replace h:=h.up aj;replace ab:=ab.up aj;replace hS:=hS.trans aj;cases hc:Z44 c.clos kn d with
     | true=>
       refine RT ?_;exact ⟨by simp,hS⟩
     | false=>
       rw [YaL];refine W ?_;refine CL (Zjv hv c.hols d _ h.hols h.ok.hols h0 h1) ?_;rintro _ w3 ⟨rfl,aF⟩;refine RT ?_;exact ⟨by simp,hS.trans aF⟩
theorem Z2Z (d kn st:Int) (c:Cal) (hv cv zo zs hr:Value) (w) (h:Z1y w c hv cv zo zs hr) (ax:st=1\/st=-1) :
 CC 134 #[Z20 c hv cv zo zs hr,.I d,.I kn,.I st] w λr w'=>r=.tuple #[.I (ZE (Ze c kn) st d).1,.I (ZE (Ze c kn) st d).2]/\Stp [] w w':=by
 refine cW4 39 Tryz.func134 ?_;refine W ?_;refine Z0 (Zp rfl) rfl ?_;rintro _ w1 ⟨b4,rfl,br,ab,hS⟩;replace ab:Blk w1 b4 35 (Ji c hv cv zo zs hr):=ab;replace h:=h.up hS;refine W ?_;refine CL (Z1a d _) ?_;rintro _ w1 ⟨rfl,rfl⟩;unfold ZE;cases hd:Zu d with
 | false=>
   rw [if_neg (by simp)];refine RT ?_;exact ⟨rfl,hS⟩
 | true=>
   rw [if_pos rfl];obtain ⟨h0,h1⟩:=Zr.1 hd;refine W ?_
   refine Zm (σ:=Nat) (λk=>[(1,.I d),(2,.I kn),(3,.I st),(4,pQ b4),(10,.I (k:Int))])
    (λk w'=>k<=1001/\Z1S (Ze c kn) st (1001 - k) (d+st * (k:Int))=Z1S (Ze c kn) st 1001 d/\Stp [] w1 w') (λk=>1001 - k) 0 ⟨rfl,rfl,rfl,rfl,rfl,trivial⟩ ⟨Xr _,by simp,Stp.refl _ _⟩ ?_
   rintro k w2 ⟨hk,bt,aj⟩;have aK:=ab.up aj;have h2:=h.up aj;have uG:-1001<=st * (k:Int)/\st * (k:Int)<=1001:=by rcases ax with rfl|rfl<;>omega
   have qI:st * ((k+1:Nat):Int)=st * (k:Int)+st:=by rcases ax with rfl|rfl<;>omega
   by_cases hlt:k<=1000
   . have e1:1001 - k=(1001 - (k+1))+1:=by omega
     rw [e1,Z1S] at bt;generalize hX:st * (k:Int)=X at *;refine QO ?_;rw [hX];refine CL (Z1a (d+X) _) ?_;rintro _ _ ⟨rfl,rfl⟩;cases iB:Zu (d+X) with
     | false=>
       rw [iB,if_neg (by simp)] at bt;refine W ?_;refine WR ?_;rw [<- bt];exact .mk ⟨rfl,hS.trans aj⟩
     | true=>
       rw [iB,if_pos rfl] at bt;refine W ?_;rw [hX];refine CL (Zdc (d+X) kn c hv cv zo zs hr _ h2) ?_;rintro _ w3 ⟨rfl,aF⟩;cases ho:Ze c kn (d+X) with
       | true=>
         rw [ho,if_pos rfl] at bt;refine W ?_;rw [hX];refine WR ?_;rw [<- bt];exact .mk ⟨rfl,(hS.trans aj).trans aF⟩
       | false=>
         rw [ho,if_neg (by simp)] at bt;refine W ?_;refine QL (k+1) ⟨by omega,?_,aj.trans aF⟩ (by omega);rw [qI,<- Int.add_assoc];exact bt
   obtain rfl:k=1001:=by omega
   rw [Nat.sub_self,Z1S] at bt;refine QO ?_;refine WR ?_;rw [<- bt];exact .mk ⟨rfl,hS.trans aj⟩
theorem Z7A (d kn:Int) (c:Cal) (hv cv zo zs hr:Value) (w) (h:Z1y w c hv cv zo zs hr) :
 CC 80 #[Z20 c hv cv zo zs hr,.I d,.I kn] w λr w'=>r=.tuple #[.I (ZE (Ze c kn) (1) d).1,.I (ZE (Ze c kn) (1) d).2]/\Stp [] w w':=by
 refine cW3 14 Tryz.func80 ?_;refine W ?_;refine Z0 (Zp rfl) rfl ?_;rintro _ w1 ⟨b3,rfl,dM,ab,hS⟩;replace ab:Blk w1 b3 35 (Ji c hv cv zo zs hr):=ab;replace h:=h.up hS;refine W ?_;refine CM (Z40 rfl rfl rfl rfl) (Z2Z d kn (1) c hv cv zo zs hr _ h (by omega)) ?_;rintro _ w2 ⟨rfl,aj⟩;refine RT ?_;exact ⟨rfl,hS.trans aj⟩
theorem Z7B (d kn:Int) (c:Cal) (hv cv zo zs hr:Value) (w) (h:Z1y w c hv cv zo zs hr) :
 CC 185 #[Z20 c hv cv zo zs hr,.I d,.I kn] w λr w'=>r=.tuple #[.I (ZE (Ze c kn) (-1) d).1,.I (ZE (Ze c kn) (-1) d).2]/\Stp [] w w':=by
 refine cW3 14 Tryz.func185 ?_;refine W ?_;refine Z0 (Zp rfl) rfl ?_;rintro _ w1 ⟨b3,rfl,dM,ab,hS⟩;replace ab:Blk w1 b3 35 (Ji c hv cv zo zs hr):=ab;replace h:=h.up hS;refine W ?_;refine CM (Z40 rfl rfl rfl rfl) (Z2Z d kn (-1) c hv cv zo zs hr _ h (by omega)) ?_;rintro _ w2 ⟨rfl,aj⟩;refine RT ?_;exact ⟨rfl,hS.trans aj⟩
theorem ZfK (d n kn:Int) (c:Cal) (hv cv zo zs hr:Value) (w) (h:Z1y w c hv cv zo zs hr) :
 CC 190 #[Z20 c hv cv zo zs hr,.I d,.I n,.I kn] w λr w'=>r=.tuple #[.I (Z45 (Ze c kn) d n).1,.I (Z45 (Ze c kn) d n).2]/\Stp [] w w':=by
 refine cW4 46 Tryz.func190 ?_;refine W ?_;refine Z0 (Zp rfl) rfl ?_;rintro _ w1 ⟨b4,rfl,br,ab,hS⟩;replace ab:Blk w1 b4 35 (Ji c hv cv zo zs hr):=ab;replace h:=h.up hS;refine W ?_;refine CL (Z1a d _) ?_;rintro _ w1 ⟨rfl,rfl⟩;unfold Z45;cases hd:Zu d with
 | false=>
   rw [if_neg (by simp)];refine RT ?_;exact ⟨rfl,hS⟩
 | true=>
   rw [if_pos rfl];by_cases hn:n < -1000\/1000<n
   . rw [if_pos hn]
     repeat'(first|refine W1 ?_|omega|refine VG ?_ ?_<;>intro hg|refine VC ?_ ?_<;>intro hc)
     all_goals refine WR ?_
     all_goals exact .mk ⟨rfl,hS⟩
   rw [if_neg hn];by_cases pF:n<0;have mc:(-1) * n=(n.natAbs:Int):=by omega
   have ke:(if n<0 then (-1:Int) else 1)=-1:=by split<;>omega
   rw [ke];refine QO ?_
   refine Zm (σ:=Nat×Int) (λq=>[(1,.I q.2),(2,.I n),(3,.I kn),(4,pQ b4),(10,.I (-1)),(11,.I (q.1:Int))])
    (λq w'=>q.1<=n.natAbs/\Zu q.2=true/\Z2c (Ze c kn) (-1) (n.natAbs - q.1) q.2=Z2c (Ze c kn) (-1) n.natAbs d/\Stp [] w1 w') (λq=>n.natAbs - q.1) (0,d) ⟨rfl,rfl,rfl,rfl,rfl,rfl,trivial⟩ ⟨Xr _,hd,rfl,Stp.refl _ _⟩ ?_
   rintro ⟨k,q⟩ w2 ⟨hk,hq,bt,aj⟩;dsimp only at hk hq bt ⊢;have aK:=ab.up aj;have h2:=h.up aj;have pG:=Zr.1 hq;by_cases hlt:k<n.natAbs;have e1:n.natAbs - k=(n.natAbs - (k+1))+1:=by omega
   rw [e1,Z2c] at bt;refine QO ?_;refine CM (Z40 rfl rfl rfl rfl) (Z2Z (q+(-1)) kn (-1) c hv cv zo zs hr _ h2 (by omega)) ?_;rintro _ w3 ⟨rfl,aF⟩;by_cases he:(ZE (Ze c kn) (-1) (q+(-1))).2=0;rw [if_pos he] at bt;rw [he];refine W ?_;exact Zd (k+1,(ZE (Ze c kn) (-1) (q+(-1))).1) ⟨rfl,rfl,rfl,rfl,rfl,rfl,trivial⟩ ⟨by dsimp only;omega,(Z1T he).1,bt,aj.trans aF⟩ (by dsimp only;omega);rw [if_neg he] at bt;refine QO ?_;refine WR ?_;rw [<- bt];exact .mk ⟨rfl,(hS.trans aj).trans aF⟩;have e1:n.natAbs - k=0:=by omega
   rw [e1,Z2c] at bt;refine QO ?_;refine WR ?_;rw [<- bt];exact .mk ⟨rfl,hS.trans aj⟩;have mc:(1) * n=(n.natAbs:Int):=by omega
   have ke:(if n<0 then (-1:Int) else 1)=1:=by split<;>omega
   rw [ke];refine QO ?_
   refine Zm (σ:=Nat×Int) (λq=>[(1,.I q.2),(2,.I n),(3,.I kn),(4,pQ b4),(10,.I (1)),(11,.I (q.1:Int))])
    (λq w'=>q.1<=n.natAbs/\Zu q.2=true/\Z2c (Ze c kn) (1) (n.natAbs - q.1) q.2=Z2c (Ze c kn) (1) n.natAbs d/\Stp [] w1 w') (λq=>n.natAbs - q.1) (0,d) ⟨rfl,rfl,rfl,rfl,rfl,rfl,trivial⟩ ⟨Xr _,hd,rfl,Stp.refl _ _⟩ ?_
   rintro ⟨k,q⟩ w2 ⟨hk,hq,bt,aj⟩;dsimp only at hk hq bt ⊢;have aK:=ab.up aj;have h2:=h.up aj;have pG:=Zr.1 hq;by_cases hlt:k<n.natAbs;have e1:n.natAbs - k=(n.natAbs - (k+1))+1:=by omega
   rw [e1,Z2c] at bt;refine QO ?_;refine CM (Z40 rfl rfl rfl rfl) (Z2Z (q+(1)) kn (1) c hv cv zo zs hr _ h2 (by omega)) ?_;rintro _ w3 ⟨rfl,aF⟩;by_cases he:(ZE (Ze c kn) (1) (q+(1))).2=0;rw [if_pos he] at bt;rw [he];refine W ?_;exact Zd (k+1,(ZE (Ze c kn) (1) (q+(1))).1) ⟨rfl,rfl,rfl,rfl,rfl,rfl,trivial⟩ ⟨by dsimp only;omega,(Z1T he).1,bt,aj.trans aF⟩ (by dsimp only;omega);rw [if_neg he] at bt;refine QO ?_;refine WR ?_;rw [<- bt];exact .mk ⟨rfl,(hS.trans aj).trans aF⟩;have e1:n.natAbs - k=0:=by omega
   rw [e1,Z2c] at bt;refine QO ?_;refine WR ?_;rw [<- bt];exact .mk ⟨rfl,hS.trans aj⟩
abbrev evA (ev:List Int):Value:=.agg (evC ev).toArray
def plC (ev:List Int) (c:Cal) (hv cv zo zs hr:Value) (kn:Int):List Value:=evC ev++Ji c hv cv zo zs hr++[.I kn]
abbrev plA (ev:List Int) (c:Cal) (hv cv zo zs hr:Value) (kn:Int):Value:=.agg (plC ev c hv cv zo zs hr kn).toArray
abbrev ZfL (r:Int×Int):Value:=.tuple #[.I r.1,.I r.2]
def Num (a:Int):Prop:=-2147483647<=a/\a<=2147483647
theorem vOk.num {t v:Int} (h:vOk t v):Num v:=by unfold vOk at h;unfold Num;omega
theorem Z5M (b:Bool) (w):CC 187 #[.B b] w λr w'=>r=.I (Z33 b)/\w'=w:=by
 refine cW1 4 Tryz.func187 ?_;cases b
 all_goals
  refine RT ?_;exact ⟨rfl,rfl⟩
theorem Z30 (n:Int) (w):CC 186 #[.I n] w λr w'=>r=ZfL (Z36 n)/\w'=w:=by
 refine cW1 11 Tryz.func186 ?_;unfold Z36;by_cases h:n < -2147483647\/2147483647<n
 . rw [if_pos h]
   repeat'(first|refine W1 ?_|omega|refine VG ?_ ?_<;>intro hg|refine VC ?_ ?_<;>intro hc)
   all_goals refine WR ?_
   all_goals exact .mk ⟨rfl,rfl⟩
 rw [if_neg h];refine RT ?_;exact ⟨rfl,rfl⟩
theorem Z8D (n:Int) (w):CC 188 #[.I n] w λr w'=>r=ZfL (Z7J n)/\w'=w:=by
 refine cW1 11 Tryz.func188 ?_;unfold Z7J;by_cases h:n<0\/3652058<n
 . rw [if_pos h]
   repeat'(first|refine W1 ?_|omega|refine VG ?_ ?_<;>intro hg|refine VC ?_ ?_<;>intro hc)
   all_goals refine WR ?_
   all_goals exact .mk ⟨rfl,rfl⟩
 rw [if_neg h];refine RT ?_;exact ⟨rfl,rfl⟩
theorem Z5f (op:Int) (w) (bJ:op≠13) (cw:op≠14) (bT:op≠24):CC 78 #[.I op] w λr w'=>r=.I (arM op:Int)/\w'=w:=by
 refine cW1 18 Tryz.func78 ?_;repeat'(first|refine W1 ?_|omega|refine VG ?_ ?_<;>intro hg|refine VC ?_ ?_<;>intro hc)
 all_goals refine WR ?_
 all_goals refine .mk ⟨?_,rfl⟩
 all_goals congr 1
 all_goals unfold arM
 all_goals (repeat' split)
 all_goals omega
section
variable {ev:List Int} {c:Cal} {hv cv zo zs hr:Value} {kn:Int} {w:World}
theorem Z9W (h:Z1y w c hv cv zo zs hr) (op b:Int) (hb:Num b):CC 131 #[plA ev c hv cv zo zs hr kn,.I op,.I b] w λr w'=>r=ZfL (Z7K (Ze c kn) op b)/\Stp [] w w':=by
 unfold Num at hb;refine cW3 35 Tryz.func131 ?_;refine W ?_;refine Z0 (Zp rfl) rfl ?_;rintro _ w1 ⟨b3,rfl,dM,ab,hS⟩;replace ab:Blk w1 b3 159 (plC ev c hv cv zo zs hr kn):=ab;replace h:=h.up hS;unfold Z7K;by_cases k8:op=8;rw [if_pos k8];refine RT ?_;exact ⟨rfl,hS⟩;rw [if_neg k8];by_cases k19:op=19;rw [if_pos k19];refine QO ?_;refine Z9 (Zn (us:=Ji c hv cv zo zs hr) rfl rfl ab rfl rfl) rfl ?_;refine W ?_;refine CL (Z7A b kn c hv cv zo zs hr _ h) ?_;rintro _ w2 ⟨rfl,aj⟩;refine RT ?_;exact ⟨rfl,hS.trans aj⟩;rw [if_neg k19];by_cases k20:op=20;rw [if_pos k20];refine QO ?_;refine Z9 (Zn (us:=Ji c hv cv zo zs hr) rfl rfl ab rfl rfl) rfl ?_;refine W ?_;refine CL (Z7B b kn c hv cv zo zs hr _ h) ?_;rintro _ w2 ⟨rfl,aj⟩;refine RT ?_;exact ⟨rfl,hS.trans aj⟩;rw [if_neg k20];refine RT ?_;exact ⟨rfl,hS⟩
theorem Z9X (h:Z1y w c hv cv zo zs hr) (op a b:Int) (ha:Num a) (hb:Num b) (ly:op=17->Zu a=true):CC 132 #[plA ev c hv cv zo zs hr kn,.I op,.I a,.I b] w λr w'=>r=ZfL (Z2M (Ze c kn) op a b)/\Stp [] w w':=by
 unfold Num at ha hb;have hm:-4611686018427387904<=a * b/\a * b<=4611686018427387904:=by
  have h1:(a * b).natAbs<=2147483647 * 2147483647:=by rw [Int.natAbs_mul];exact Yal (by omega) (by omega)
  omega
 refine cW4 101 Tryz.func132 ?_;refine W ?_;refine Z0 (Zp rfl) rfl ?_;rintro _ w1 ⟨b4,rfl,br,ab,hS⟩;replace ab:Blk w1 b4 159 (plC ev c hv cv zo zs hr kn):=ab;replace h:=h.up hS;unfold Z2M;by_cases k5:op=5;rw [if_pos k5];refine QO ?_;refine CL (Z30 (a+b) _) ?_;rintro _ _ ⟨rfl,rfl⟩;refine RT ?_;exact ⟨rfl,hS⟩;rw [if_neg k5];by_cases k6:op=6;rw [if_pos k6];refine QO ?_;refine CL (Z30 (a - b) _) ?_;rintro _ _ ⟨rfl,rfl⟩;refine RT ?_;exact ⟨rfl,hS⟩;rw [if_neg k6];by_cases k7:op=7;rw [if_pos k7];refine QO ?_;refine CL (Z30 (a * b) _) ?_;rintro _ _ ⟨rfl,rfl⟩;refine RT ?_;exact ⟨rfl,hS⟩;rw [if_neg k7];by_cases k9:op=9;rw [if_pos k9];refine QO ?_;refine CL (Z5M (decide (a<b)) _) ?_;rintro _ _ ⟨rfl,rfl⟩;refine RT ?_;exact ⟨rfl,hS⟩;rw [if_neg k9];by_cases k10:op=10;rw [if_pos k10];refine QO ?_;refine CL (Z5M (decide (a<=b)) _) ?_;rintro _ _ ⟨rfl,rfl⟩;refine RT ?_;exact ⟨rfl,hS⟩;rw [if_neg k10];by_cases k11:op=11;rw [if_pos k11];refine QO ?_;refine CL (Z5M (decide (a=b)) _) ?_;rintro _ _ ⟨rfl,rfl⟩;refine RT ?_;exact ⟨rfl,hS⟩;rw [if_neg k11];by_cases k15:op=15;rw [if_pos k15];refine QO ?_;refine CL (Z8D (a+b) _) ?_;rintro _ _ ⟨rfl,rfl⟩;refine RT ?_;exact ⟨rfl,hS⟩;rw [if_neg k15];by_cases k16:op=16;rw [if_pos k16];refine QO ?_;refine CL (Z8D (a+7 * b) _) ?_;rintro _ _ ⟨rfl,rfl⟩;refine RT ?_;exact ⟨rfl,hS⟩;rw [if_neg k16];by_cases k17:op=17;rw [if_pos k17];obtain ⟨d0,d1⟩:=Zr.1 (ly k17);refine QO ?_;refine CL (Z7z a b _ d0 d1) ?_;rintro _ w2 ⟨rfl,aj⟩;refine RT ?_;exact ⟨rfl,hS.trans aj⟩;rw [if_neg k17];by_cases k18:op=18;rw [if_pos k18];refine QO ?_;refine Z9 (Zn (us:=Ji c hv cv zo zs hr) rfl rfl ab rfl rfl) rfl ?_;refine W ?_;refine CL (ZfK a b kn c hv cv zo zs hr _ h) ?_;rintro _ w2 ⟨rfl,aj⟩;refine RT ?_;exact ⟨rfl,hS.trans aj⟩;rw [if_neg k18];by_cases k21:op=21;rw [if_pos k21];refine RT ?_;exact ⟨rfl,hS⟩;rw [if_neg k21];by_cases k22:op=22;rw [if_pos k22];refine RT ?_;exact ⟨rfl,hS⟩;rw [if_neg k22];refine RT ?_;exact ⟨rfl,hS⟩
theorem ZbK (n:Int) (h0:0<=n) (h7:n<7):CC 130 #[evA ev,.I n] w λr w'=>r=ZfL (Z9h ev n)/\Stp [] w w':=by
 refine cW2 33 Tryz.func130 ?_;refine W ?_;refine Z0 (Zp rfl) rfl ?_;rintro _ w1 ⟨b2,rfl,cg,ab,hS⟩;replace ab:Blk w1 b2 83 (evC ev):=ab;unfold evC at ab;refine W ?_;refine Z5 (vs:=[(0,.I (ev.getD 0 0)),(1,.I (ev.getD 1 0)),(2,.I (ev.getD 2 0)),(3,.I (ev.getD 3 0)),(4,.I (ev.getD 4 0)),(5,.I (ev.getD 5 0)),(6,.I (ev.getD 6 0))]) rfl (ZdU _ _ _ _ _ _ _) rfl ?_;refine Z0 Z4 rfl ?_;rintro _ w2 ⟨b6,rfl,dS,e6,aj⟩;refine SB (us:=evC ev) (by intro u hu;simp [evC] at hu;rcases hu with rfl|rfl|rfl|rfl|rfl|rfl|rfl<;>rfl) e6 ?_;rintro _ w3 ⟨hT,k6⟩;have ii:=aj.ow hT;replace ab:=ab.up ii;replace hS:=hS.trans ii;clear e6 hT aj ii;unfold evC at k6;unfold Z9h;by_cases hs:n=1/\ev.getD 1 0=-1;rw [if_pos hs];obtain ⟨rfl,hs⟩:=hs;refine RT ?_;exact ⟨rfl,hS⟩;rw [if_neg hs];have hn:n=0\/n=1\/n=2\/n=3\/n=4\/n=5\/n=6:=by omega
 rcases hn with rfl|rfl|rfl|rfl|rfl|rfl|rfl
 refine QO ?_;refine CM (Zg rfl rfl) (ZD 0 7 _ (by omega) (by unfold I64;omega)) ?_;rintro _ w5 ⟨rfl,aD⟩;replace k6:=k6.up aD;replace hS:=hS.trans aD;refine W ?_
 try refine JT (len:=7) (i:=0) (z:=(if (0:Int)<0 then -((0:Int)+1) else 0) % 7) rfl rfl (by decide) (by decide) rfl ?_
 refine RT ?_;exact ⟨rfl,hS⟩;refine QO ?_;refine CM (Zg rfl rfl) (ZD 1 7 _ (by omega) (by unfold I64;omega)) ?_;rintro _ w5 ⟨rfl,aD⟩;replace k6:=k6.up aD;replace hS:=hS.trans aD;refine W ?_
 try refine JT (len:=7) (i:=1) (z:=(if (1:Int)<0 then -((1:Int)+1) else 1) % 7) rfl rfl (by decide) (by decide) rfl ?_
 refine RT ?_;exact ⟨rfl,hS⟩;refine QO ?_;refine CM (Zg rfl rfl) (ZD 2 7 _ (by omega) (by unfold I64;omega)) ?_;rintro _ w5 ⟨rfl,aD⟩;replace k6:=k6.up aD;replace hS:=hS.trans aD;refine W ?_
 try refine JT (len:=7) (i:=2) (z:=(if (2:Int)<0 then -((2:Int)+1) else 2) % 7) rfl rfl (by decide) (by decide) rfl ?_
 refine RT ?_;exact ⟨rfl,hS⟩;refine QO ?_;refine CM (Zg rfl rfl) (ZD 3 7 _ (by omega) (by unfold I64;omega)) ?_;rintro _ w5 ⟨rfl,aD⟩;replace k6:=k6.up aD;replace hS:=hS.trans aD;refine W ?_
 try refine JT (len:=7) (i:=3) (z:=(if (3:Int)<0 then -((3:Int)+1) else 3) % 7) rfl rfl (by decide) (by decide) rfl ?_
 refine RT ?_;exact ⟨rfl,hS⟩;refine QO ?_;refine CM (Zg rfl rfl) (ZD 4 7 _ (by omega) (by unfold I64;omega)) ?_;rintro _ w5 ⟨rfl,aD⟩;replace k6:=k6.up aD;replace hS:=hS.trans aD;refine W ?_
 try refine JT (len:=7) (i:=4) (z:=(if (4:Int)<0 then -((4:Int)+1) else 4) % 7) rfl rfl (by decide) (by decide) rfl ?_
 refine RT ?_;exact ⟨rfl,hS⟩;refine QO ?_;refine CM (Zg rfl rfl) (ZD 5 7 _ (by omega) (by unfold I64;omega)) ?_;rintro _ w5 ⟨rfl,aD⟩;replace k6:=k6.up aD;replace hS:=hS.trans aD;refine W ?_
 try refine JT (len:=7) (i:=5) (z:=(if (5:Int)<0 then -((5:Int)+1) else 5) % 7) rfl rfl (by decide) (by decide) rfl ?_
 refine RT ?_;exact ⟨rfl,hS⟩;refine QO ?_;refine CM (Zg rfl rfl) (ZD 6 7 _ (by omega) (by unfold I64;omega)) ?_;rintro _ w5 ⟨rfl,aD⟩;replace k6:=k6.up aD;replace hS:=hS.trans aD;refine W ?_
 try refine JT (len:=7) (i:=6) (z:=(if (6:Int)<0 then -((6:Int)+1) else 6) % 7) rfl rfl (by decide) (by decide) rfl ?_
 refine RT ?_;exact ⟨rfl,hS⟩
theorem ZbL (h:Z1y w c hv cv zo zs hr) (x:Ins) (a b:Int) (ha:Num a) (hb:Num b) (h4:x.op=4->0<=x.n/\x.n<7) (ly:x.op=17->Zu a=true) (bJ:x.op≠13) (cw:x.op≠14) (bT:x.op≠24) :
 CC 76 #[plA ev c hv cv zo zs hr kn,agg x,.I a,.I b] w λr w'=>r=ZfL (JC (Ze c kn) ev x a b)/\Stp [] w w':=by
 refine cW4 44 Tryz.func76 ?_;refine W ?_;refine Z0 (Zp rfl) rfl ?_;rintro _ w1 ⟨b4,rfl,br,ab,hS⟩;replace ab:Blk w1 b4 159 (plC ev c hv cv zo zs hr kn):=ab;refine W ?_;refine Z0 (Zp rfl) rfl ?_;rintro _ w2 ⟨b5,rfl,jU,jA,aj⟩;replace jA:Blk w2 b5 151 (Z2.enc x):=jA;replace ab:=ab.up aj;replace hS:=hS.trans aj;replace h:=h.up hS;clear aj;refine W ?_;refine CL (Z5f x.op _ bJ cw bT) ?_;rintro _ _ ⟨rfl,rfl⟩;unfold JC;by_cases k4:x.op=4;rw [if_pos k4];have gB:(arM x.op:Int)=0:=by rw [k4];rfl
 rw [gB];refine QO ?_;refine Z9 (Zn (us:=evC ev) rfl rfl ab rfl rfl) rfl ?_;refine W ?_;refine CL (ZbK x.n (h4 k4).1 (h4 k4).2) ?_;rintro _ w3 ⟨rfl,aF⟩;refine RT ?_;exact ⟨rfl,hS.trans aF⟩;rw [if_neg k4];by_cases a0:arM x.op=0;rw [if_pos a0];have gB:(arM x.op:Int)=0:=by rw [a0];rfl
 rw [gB];refine RT ?_;exact ⟨rfl,hS⟩;rw [if_neg a0];by_cases a1:arM x.op=1;rw [if_pos a1];have gB:(arM x.op:Int)=1:=by rw [a1];rfl
 rw [gB];refine QO ?_;refine CL (Z9W h x.op b hb) ?_;rintro _ w3 ⟨rfl,aF⟩;refine RT ?_;exact ⟨rfl,hS.trans aF⟩;rw [if_neg a1];refine QO ?_;refine CL (Z9X h x.op a b ha hb ly) ?_;rintro _ w3 ⟨rfl,aF⟩;refine RT ?_;exact ⟨rfl,hS.trans aF⟩
end
section
variable {ev:List Int} {c:Cal} {hv cv zo zs hr:Value} {kn:Int}
theorem Zmo (ev:List Int) (c:Cal) (hv cv zo zs hr:Value) (kn:Int) (w):(Instr.build 159 #[(0,evA ev),(1,Z20 c hv cv zo zs hr),(2,.I kn)]).run Tryz.prog w=.ok (plA ev c hv cv zo zs hr kn) w:=by kernel_rfl
end
theorem Z5g (a b:Int) (w):(Instr.build 94 #[(0,.I a),(1,.I b)]).run Tryz.prog w=.ok (agg ((a,b):Spn)) w:=by kernel_rfl
theorem Zjw {c:Cal} {hv cv zo zs hr:Value} (h1:hv.oneCell'=true) (h2:cv.oneCell'=true) (ho:zo.oneCell'=true/\zs.oneCell'=true/\hr.oneCell'=true):∀ u∈Ji c hv cv zo zs hr,u.oneCell'=true:=by
 obtain ⟨h3,h4,h5⟩:=ho;intro u hu;unfold Ji at hu;simp only [Xc,Xn,or_false] at hu;rcases hu with rfl|rfl|rfl|rfl|rfl|rfl|rfl|rfl|rfl|rfl|rfl|rfl<;>first|rfl|assumption
theorem Zmp (ev:List Int):∀ u∈evC ev,u.oneCell'=true:=by
 intro u hu;unfold evC at hu;simp only [Xc,Xn,or_false] at hu;rcases hu with rfl|rfl|rfl|rfl|rfl|rfl|rfl<;>rfl
theorem ZbM (v:Value) (l:List Int) (k:Nat) (w) (hs:SlV [] w v l) (hk:k<=10):CC 75 #[v,.I (k:Int)] w λr w'=>r=.I (ZW l k)/\w'=w:=by
 have bh:=hs.max;refine cW2 17 Tryz.func75 ?_;unfold ZW;by_cases hlt:k<l.length;rw [if_pos hlt];have e:(l.length:Int) - 1 - (k:Int)=((l.length - 1 - k:Nat):Int):=by omega
 have hi:l.length - 1 - k<l.length:=by omega
 refine QO ?_;rw [e];refine RT ?_;exact ⟨by simp [List.getD,hi],rfl⟩;rw [if_neg hlt];refine RT ?_;exact ⟨rfl,rfl⟩
theorem Zdd (op a b r:Int) (w) (ha:Num a):CC 77 #[.I op,.I a,.I b,.I r] w λq w'=>Zk 94 w w' q (Jk op a b r):=by
 unfold Num at ha;unfold Jk;refine cW4 38 Tryz.func77 ?_;refine W ?_;by_cases kI:op=19;subst kI;rw [if_pos rfl];refine QO ?_;refine Z5 (vs:=[(0,.I b),(1,.I r)]) rfl (Z5g _ _) rfl ?_;refine Z0 (Z1 (vs:=[(0,agg ((b,r):Spn))]) rfl (Z3w _)) rfl ?_;rintro bw w1 hN;refine W ?_;refine WR ?_;exact .mk (Zk.one (xs:=[((b,r):Spn)]) hN rfl rfl (by simp [maxLen]));rw [if_neg kI];by_cases qJ:op=20
 . subst qJ
   rw [if_pos rfl];refine QO ?_;all_goals try (exact absurd (by assumption) kI)
   refine Z5 (vs:=[(0,.I r),(1,.I b)]) rfl (Z5g _ _) rfl ?_;refine Z0 (Z1 (vs:=[(0,agg ((r,b):Spn))]) rfl (Z3w _)) rfl ?_;rintro bw w1 hN;refine W ?_;refine WR ?_;exact .mk (Zk.one (xs:=[((r,b):Spn)]) hN rfl rfl (by simp [maxLen]))
 rw [if_neg qJ];by_cases qK:op=18;subst qK;rw [if_pos rfl];by_cases hb:0<b
 . rw [if_pos hb]
   refine QO ?_;all_goals try (exact absurd (by assumption) kI)
   refine Z5 (vs:=[(0,.I (a+1)),(1,.I r)]) rfl (Z5g _ _) rfl ?_;refine Z0 (Z1 (vs:=[(0,agg ((a+1,r):Spn))]) rfl (Z3w _)) rfl ?_;rintro bw w1 hN;refine W ?_;refine WR ?_;exact .mk (Zk.one (xs:=[((a+1,r):Spn)]) hN rfl rfl (by simp [maxLen]))
 rw [if_neg hb];by_cases cg:b<0
 . rw [if_pos cg]
   refine QO ?_;all_goals try (exact absurd (by assumption) kI)
   refine Z5 (vs:=[(0,.I r),(1,.I (a - 1))]) rfl (Z5g _ _) rfl ?_;refine Z0 (Z1 (vs:=[(0,agg ((r,a - 1):Spn))]) rfl (Z3w _)) rfl ?_;rintro bw w1 hN;refine W ?_;refine WR ?_;exact .mk (Zk.one (xs:=[((r,a - 1):Spn)]) hN rfl rfl (by simp [maxLen]))
 . rw [if_neg cg]
   refine QO ?_;all_goals try (exact absurd (by assumption) kI)
   refine WR ?_;exact .mk Zk.nil
 rw [if_neg qK];refine QO ?_;all_goals try (exact absurd (by assumption) kI)
 all_goals try (exact absurd (by assumption) qJ)
 all_goals try (exact absurd (by assumption) qK)
 refine WR ?_;exact .mk Zk.nil
theorem ZfM {x:Ins} {s nx:Shp} {st:List Int} (hn:J4 x s=some nx) (hs:JN s st):(∀ k,Num (ZW st k))/\(x.op=4->0<=x.n/\x.n<7)/\(x.op=17->Zu (ZW st 1)=true):=by
 refine ⟨λk=>?_,λh4=>?_,λly=>?_⟩;unfold ZW;split;rename_i hk;have h1:st.length - 1 - k<st.length:=by omega
 have h2:st.length - 1 - k<s.length:=by rw [hs.1];exact h1
 have:=(hs.2 _ h2 h1).num;simpa [List.getD,h1] using this;unfold Num;omega;obtain ⟨h1,-⟩:=Z4q hn hs;obtain ⟨op,n⟩:=x;dsimp only at h4;subst h4;simp [ZH] at h1;dsimp only;omega;obtain ⟨h1,st0,vs,ts,rfl,da,dt⟩:=Z4q hn hs;obtain ⟨op,n⟩:=x;dsimp only at ly;subst ly;simp [ZH] at da;subst da;obtain ⟨a,b,rfl,ha,hb⟩:=dt.two_inv;rw [(J2 st0 a b).2];exact Zr.2 ha.d
theorem Zjx (a:Int) (w):(Instr.buildSlice 22 1 #[(0,.I a)]).run Tryz.prog w=.ok (.slice (some ⟨w.heap.size,0,none⟩) 1 1) (w.alloc (.cells #[.I a] 3)):=by kernel_rfl
theorem ZqW {ev:List Int} {c:Cal} {hv cv zo zs hr:Value} {kn:Int} (h1:hv.oneCell'=true) (h2:cv.oneCell'=true) (ho:zo.oneCell'=true/\zs.oneCell'=true/\hr.oneCell'=true):∀ u∈plC ev c hv cv zo zs hr kn,u.oneCell'=true:=by
 intro u hu;unfold plC at hu;rcases Xd.1 hu with h|h
 rcases Xd.1 h with h|h
 exact Zmp ev u h;exact Zjw h1 h2 ho u h;rw [Xm.1 h];rfl
theorem Z8E (v:Value) (code:List Ins) (t kn:Int) (ev:List Int) (c:Cal) (hv cv zo zs hr:Value) (w) (hs:SlV [] w v code) (kg:Z35 code=(t,0)) (cI:Z1y w c hv cv zo zs hr) (bF:ZaB ev) (ho:zo.oneCell'=true/\zs.oneCell'=true/\hr.oneCell'=true) :
 CC 39 #[v,evA ev,Z20 c hv cv zo zs hr,.I kn] w λr w'=>∃ pv,r=.tuple #[.I (J7 (Ze c kn) ev code).1,pv,.I (J7 (Ze c kn) ev code).2.2]/\Zk 94 w w' pv (J7 (Ze c kn) ev code).2.1:=by
 obtain ⟨cn,mH,sh,ak,aL,fG,gK,kh,bW⟩:=Z4X kg;refine cW4 95 Tryz.func39 ?_;refine W ?_;refine Z0 (Zp rfl) rfl ?_;rintro _ w1 ⟨b5,rfl,jU,k5,hS⟩;replace k5:Blk w1 b5 83 (evC ev):=k5;refine Z0 (Zp rfl) rfl ?_;rintro _ w2 ⟨b6,rfl,dS,k6,hT⟩;replace k6:Blk w2 b6 35 (Ji c hv cv zo zs hr):=k6;replace k5:=k5.up hT;replace hS:=hS.trans hT;clear hT;refine W ?_;refine Z5 (vs:=[(0,evA ev),(1,Z20 c hv cv zo zs hr),(2,.I kn)]) rfl (Zmo ev c hv cv zo zs hr kn) rfl ?_;refine Z0 Z4 rfl ?_;rintro _ w3 ⟨b11,rfl,iF,k11,hT⟩;refine SB (us:=plC ev c hv cv zo zs hr kn) (ZqW cI.hols.one cI.clos.one ho) k11 ?_;rintro _ w4 ⟨an,k11⟩;replace hT:=hT.ow an;replace hS:=hS.trans hT;clear hT an k5 k6;have bQ:=hs.up hS;have ng:=cI.up hS;have k11o:=k11;clear hs cI k11;refine W ?_
 refine Zm (σ:=Nat×Value×Value×List Int×List Spn) (λq=>[(0,v),(11,pQ b11),(12,q.2.1),(13,q.2.2.1),(14,.I (q.1:Int))])
  (λq w'=>q.1<code.length/\q.2.2.2.2.length<=q.1/\Row [] w' w4.heap.size 3 q.2.1 q.2.2.2.1/\Row [] w' w4.heap.size 94 q.2.2.1 q.2.2.2.2/\(∀ b∈ob q.2.1,b∉ob q.2.2.1)/\(∃ s,sh.getD q.1 none=some s/\JN s q.2.2.2.1)/\(∃ f,code.length<=f+q.1/\Z4K (Ze c kn) ev code f q.1 q.2.2.2.1 q.2.2.2.2=J7 (Ze c kn) ev code)/\Stp [] w4 w')
  (λq=>code.length - q.1) (0,.N,.N,[],[]) ⟨rfl,rfl,rfl,rfl,rfl,trivial⟩ ⟨cn,Xl _,Row.nil,Row.nil,(by simp [ob]),⟨[],gK,JN.nil⟩,⟨code.length,Xl _,rfl⟩,Stp.refl _ _⟩ ?_
 rintro ⟨i,sv,pv,st,sp⟩ w5 ⟨hi,qL,bN,eF,hap,⟨s,dB,ax⟩,⟨f,hf,hr⟩,hB⟩;dsimp only at hi qL bN eF hap dB ax hf hr ⊢;obtain ⟨s',nx,hg⟩:=bW i hi;have ij:s'=s:=by have:=hg.at_;rw [dB] at this;exact (XU this).symm
 subst ij;have hx:code.getD i ⟨0,0⟩=code[i]:=by simp [List.getD,hi]
 have hn:=hg.next;rw [hx] at hn;have mI:s'.length<=16:=fG _ (by
  have cR:i<sh.length:=by omega
  rw [XA,XR cR] at dB;simp only [YaC] at dB;rw [<- dB];exact Xb cR)
 have vX:st.length<=16:=by rw [<- ax.1];exact mI
 obtain ⟨fn1,fn2,fn3⟩:=ZfM hn ax;have hs:=bQ.up hB;have k11:=k11o.up hB;have bh:=hs.max;have xJ:(i:Int)<(code.length:Int):=by omega
 have ea:(0:Int)<=(i:Int):=by omega
 have qM:=eF.ob_le;refine QO ?_;refine Z0 Z4 rfl ?_;rintro _ w6 ⟨b15,rfl,pM,k15,hT⟩;refine SA (us:=Z2.enc code[i]) k15 ?_;rintro _ w7 ⟨an,k15⟩;replace hT:=hT.ow an;clear an;replace k11:=k11.up hT;replace bN:=bN.up hT;replace eF:=eF.up hT;replace hB:=hB.trans hT;clear hT;have n15:b15∉ob pv:=λh=>by have:=(qM b15 h).2;omega
 refine W ?_;have au:=bN.slv (X:=[]) (by simp);refine CM (Zg rfl rfl) (ZbM sv st 1 _ au (by decide)) ?_;rintro _ _ ⟨rfl,rfl⟩;refine W ?_;refine CM (Zg rfl rfl) (ZbM sv st 0 _ au (by decide)) ?_;rintro _ _ ⟨rfl,rfl⟩;obtain ⟨f,rfl⟩:∃ f',f=f'+1:=⟨f - 1,by omega⟩
 rw [Z4K,hx] at hr;have lq:Z2.enc code[i]=[.I code[i].op,.I code[i].n]:=rfl;rw [lq] at k15;by_cases bT:code[i].op=24;rw [if_pos bT] at hr;refine RT ?_;exact ⟨pv,by rw [<- hr],by rw [<- hr];exact eF.lower hS.size,hS.trans hB⟩;rw [if_neg bT] at hr;by_cases bJ:code[i].op=13;rw [if_pos bJ] at hr;obtain ⟨j1,j2,j3⟩:=hg.jump (.inl (by rw [hx];exact bJ));rw [hx] at j1 j2 j3;have aQ:=ZcK bJ hn;subst aQ;refine QO ?_;rw [show code[i].n=((code[i].n.toNat:Nat):Int) by omega];exact QL (code[i].n.toNat,sv,pv,st,sp) ⟨by dsimp only;omega,by dsimp only;omega,bN,eF,hap,⟨_,j3,ax⟩,⟨f,by dsimp only;omega,hr⟩,hB⟩ (by dsimp only;omega);rw [if_neg bJ] at hr;obtain ⟨o1,o2⟩:=hg.on (by rw [hx];exact bT) (by rw [hx];exact bJ);by_cases cw:code[i].op=14;rw [if_pos cw] at hr;obtain ⟨j1,j2,j3⟩:=hg.jump (.inr (by rw [hx];exact cw));rw [hx] at j1 j2 j3;have aQ:=ZcL cw hn;have eh:JN nx st.dropLast:=by
  rw [aQ,Yac,Yac,<- ax.1];exact ax.take _
 have gP:max 0 ((st.length:Int) - 1)=((st.length - 1:Nat):Int):=by omega
 have eT:st.length - 1<=st.length:=by omega
 have hcut:Row [] _ w4.heap.size 3 (slc sv 0 (st.length - 1) 1) (st.take (st.length - 1)):=bN.cut eT;rw [<- Yac] at hcut;have nh:∀ b∈ob (slc sv 0 (st.length - 1) 1),b∉ob pv:=by rw [Z8R];exact hap
 refine QO ?_;refine Z6A rfl au rfl gP eT rfl ?_;focus repeat'(first|refine W1 ?_|omega|refine VG ?_ ?_<;>intro hg|refine VC ?_ ?_<;>intro hc)
 rw [if_pos hc] at hr;rw [show code[i].n=((code[i].n.toNat:Nat):Int) by omega];exact Zd (code[i].n.toNat,slc sv 0 (st.length - 1) 1,pv,st.dropLast,sp) ⟨rfl,rfl,rfl,rfl,rfl,trivial⟩ ⟨by dsimp only;omega,by dsimp only;omega,hcut,eF,nh,⟨_,j3,eh⟩,⟨f,by dsimp only;omega,hr⟩,hB⟩ (by dsimp only;omega);rw [if_neg hc] at hr;exact Zd (i+1,slc sv 0 (st.length - 1) 1,pv,st.dropLast,sp) ⟨rfl,rfl,rfl,rfl,rfl,trivial⟩ ⟨(by dsimp only;omega),by dsimp only;omega,hcut,eF,nh,⟨_,o2,eh⟩,⟨f,by dsimp only;omega,hr⟩,hB⟩ (by dsimp only;omega);rw [if_neg cw] at hr;refine QO ?_;refine CL (ZbL (ng.up hB) code[i] (ZW st 1) (ZW st 0) (fn1 1) (fn1 0) fn2 fn3 bJ cw bT) ?_;rintro _ w8 ⟨rfl,hT⟩;replace k15:=k15.up hT;replace bN:=bN.up hT;replace eF:=eF.up hT;replace hB:=hB.trans hT;clear hT au;by_cases he:(JC (Ze c kn) ev code[i] (ZW st 1) (ZW st 0)).2=0
 . rw [if_pos he] at hr
   have qN:=Z6S bF hn bT bJ cw ax he;have vY:(Jk code[i].op (ZW st 1) (ZW st 0) (JC (Ze c kn) ev code[i] (ZW st 1) (ZW st 0)).1).length<=1:=by
    unfold Jk;repeat' split
    all_goals simp
   refine W ?_;rw [he];generalize (JC (Ze c kn) ev code[i] (ZW st 1) (ZW st 0)).1=r at *;refine QO ?_;all_goals try (exact absurd rfl (by assumption))
   refine CL (Zdd code[i].op (ZW st 1) (ZW st 0) r _ (fn1 1)) ?_;rintro qv w9 hq;have sL:SlV (ob pv++[]) w9 qv (Jk code[i].op (ZW st 1) (ZW st 0) r):=hq.slv (λb hb=>(eF.ob_le b (by simpa using hb)).2);have hT:=hq.2;replace k15:=k15.up hT;replace bN:=bN.up hT;replace eF:=eF.up hT;replace hB:=hB.trans hT;clear hT hq;generalize Jk code[i].op (ZW st 1) (ZW st 0) r=qs at *;have dw:=hB.size;refine Z0 (ZC (X:=[]) (base:=w4.heap.size) rfl (by decide) rfl rfl eF sL (by omega) (by simp only [maxLen];omega) dw) rfl ?_;rintro pv2 w10 ⟨fS,hT,bR⟩;have vZ:=eF.ob_le;have cp:=bN.ob_le;have ni:∀ b∈ob sv,b∉ob pv2:=λb hb h=>by
    rcases bR b h with h1|h1
    exact hap b hb h1;have:=(cp b hb).2;omega
   replace bN:=bN.keep hT (λb hb h=>hap b h hb);replace k15:=k15.ext hT n15;replace hB:=hB.own hT (λb hb=>.inr (vZ b hb).1);clear hT sL eF bR;have au:=bN.slv (X:=[]) (by simp);refine W ?_;refine CL (Z5f code[i].op _ bJ cw bT) ?_;rintro _ _ ⟨rfl,rfl⟩;have xK:arM code[i].op<=2:=by
    unfold arM;repeat' split
    all_goals omega
   have gP:max 0 ((st.length:Int) - (arM code[i].op:Int))=((st.length - arM code[i].op:Nat):Int):=by omega
   have eT:st.length - arM code[i].op<=st.length:=by omega
   have hcut:Row [] _ w4.heap.size 3 (slc sv 0 (st.length - arM code[i].op) 1) (st.take (st.length - arM code[i].op)):=bN.cut eT;refine W ?_;refine Z6A rfl au rfl gP eT rfl ?_;refine W ?_;refine Z0 (Z1 (vs:=[(0,.I r)]) rfl (Zjx _)) rfl ?_;rintro bw w11 hN;have fg:=hcut.ob_le;have gC:SlV (ob (slc sv 0 (st.length - arM code[i].op) 1)++[]) w11 bw [r]:=hN.slv (λb hb=>(fg b (by simpa using hb)).2) rfl rfl (by simp [maxLen]);have hT:=Za.stp hN;clear hN;replace hcut:=hcut.up hT;replace fS:=fS.up hT;replace hB:=hB.trans hT;clear hT;have qO:=hB.size;refine Z0 (ZC (X:=[]) (base:=w4.heap.size) rfl (by decide) rfl rfl hcut gC (by rw [Xx];simp only [Xe,Xi];omega) (by rw [Xx];simp only [Xe,Xi,maxLen];omega) qO) rfl ?_;rintro sv2 w12 ⟨jY,hT,cK⟩;rw [Z8R] at hT cK;have qP:=fS.ob_le;have qQ:∀ b∈ob sv2,b∉ob pv2:=λb hb h=>by
    rcases cK b hb with h1|h1
    exact ni b h1 h;have:=(qP b h).2;omega
   replace fS:=fS.keep hT (λb hb h=>ni b hb h);have qR:=bN.ob_le;replace hB:=hB.own hT (λb hb=>.inr (qR b hb).1);clear hT;refine W ?_;exact QL (i+1,sv2,pv2,_,_) ⟨(by dsimp only;omega),by dsimp only;rw [Xa];omega,jY,fS,qQ,⟨_,o2,qN⟩,⟨f,by dsimp only;omega,hr⟩,hB⟩ (by dsimp only;omega)
 . rw [if_neg he] at hr
   refine QO ?_;all_goals try (exact absurd (by assumption) he)
   refine RU ?_;exact ⟨.N,by rw [<- hr];rfl,by rw [<- hr];exact Row.nil,hS.trans hB⟩
def Z49 (c:Cas) (f:Fct) (d:Int):Int×List Spn×Bool:=
 let z:=Z0N f.day d c.stys
 if z.2≠0 then (0,[],false) else
 if z.1=d then (d,[],true) else
 let n:=ZE (opn c) 1 z.1
 (n.1,[(z.1,n.1)],decide (n.2=0))
theorem Z9Y (c:Cas) (R:Z0o) (f:Fct) (d:Int) (w) (hv:Z2R w c R) (ho:Z3x c) (hf:Z0l f) (hd:-1000000000<=d/\d<=1000000000):CC 40 #[.agg (Jc c R).toArray,aG f,.I d] w λr w'=>∃ sv,r=.tuple #[.I (Z49 c f d).1,sv,.B (Z49 c f d).2.2]/\Zk 94 w w' sv (Z49 c f d).2.1:=by
 have fT:=hf.day;unfold Z49;refine cW3 43 Tryz.func40 ?_;refine W ?_;refine BX (Stp.refl [] w) λb3 w1 h3 e3 _ hS=>?_;replace e3:Blk w1 b3 37 (Jc c R):=e3;refine BX hS λb4 w2 h4 e4 hT hS=>?_;replace e4:Blk w2 b4 40 (Z2.enc f):=e4;replace e3:=e3.up hT;clear hT;have bu:=hv.up hS;refine QO ?_;refine CG (Z5d f.day d R.sv c.stys _ bu.ss ho.sty (by omega) hd) ?_;rintro _ w3 ⟨a,rfl,ha,hT⟩;replace e3:=e3.up hT;replace e4:=e4.up hT;replace hS:=hS.trans hT;clear hT bu;have kj:=hv.up hS;generalize Z0N f.day d c.stys=z at ha ⊢;obtain ⟨z1,z2⟩:=z;dsimp only at ha ⊢;by_cases hz:z2=0;subst hz;rw [ha rfl,if_neg (by simp)];clear ha;by_cases sM:z1=d;rw [if_pos sM];refine RT ?_;exact ⟨_,rfl,Zk.nil.up hS⟩;rw [if_neg sM];refine QO ?_;refine Z9 (Zn rfl rfl e3 (us:=Ji c.cal R.hv R.lv R.zo R.zs R.hr) rfl rfl) rfl ?_;refine W ?_;refine CP hS (Z7A z1 c.today c.cal R.hv R.lv R.zo R.zs R.hr _ kj.cal) λw4 hT hS=>?_;unfold opn;generalize ZE (Ze c.cal c.today) 1 z1=n;obtain ⟨n1,n2⟩:=n;dsimp only;refine QO ?_;refine Z5 (vs:=[(0,.I z1),(1,.I n1)]) rfl (Z7a _ _) rfl ?_;refine Z0 (Z1 (T:=94) (l:=[(0,.tmp 39)]) (vs:=[(0,agg ((z1,n1):Spn))]) (cs:=Z2.enc ((z1,n1):Spn)) rfl (by intro w;kernel_rfl)) rfl ?_;rintro bv w5 hN;have hr:Zk 94 w4 w5 bv [((z1,n1):Spn)]:=Zk.one hN rfl rfl (by simp [maxLen]);refine RT ?_;exact ⟨_,rfl,Zk.pre hS hr⟩;rw [if_pos hz];refine RT ?_;exact ⟨_,rfl,Zk.nil.up hS⟩
theorem Zmq (c:Cas) (f:Fct) (r:Int) (q:Cr) (y1:Int) (sp:List Spn):(if (Z0N f.day y1 c.stys).2≠0 then noD else if (Z0N f.day y1 c.stys).1=y1 then (mkD c f r q y1 y1 sp,true) else if (ZE (opn c) 1 (Z0N f.day y1 c.stys).1).2≠0 then noD else (mkD c f r q y1 (ZE (opn c) 1 (Z0N f.day y1 c.stys).1).1 (sp++[((Z0N f.day y1 c.stys).1,(ZE (opn c) 1 (Z0N f.day y1 c.stys).1).1)]),true))=if (Z49 c f y1).2.2=true then (mkD c f r q y1 (Z49 c f y1).1 (sp++(Z49 c f y1).2.1),true) else noD:=by
 by_cases h1:(Z0N f.day y1 c.stys).2=0;rw [if_neg (not_not_intro h1)];by_cases h2:(Z0N f.day y1 c.stys).1=y1;have e:Z49 c f y1=(y1,[],true):=by
  unfold Z49;dsimp only;rw [if_neg (not_not_intro h1),if_pos h2]
 rw [e,if_pos h2,if_pos rfl,Xz];have e:Z49 c f y1=((ZE (opn c) 1 (Z0N f.day y1 c.stys).1).1,[((Z0N f.day y1 c.stys).1,(ZE (opn c) 1 (Z0N f.day y1 c.stys).1).1)],decide ((ZE (opn c) 1 (Z0N f.day y1 c.stys).1).2=0)):=by
  unfold Z49;dsimp only;rw [if_neg (not_not_intro h1),if_neg h2]
 rw [e,if_neg h2];by_cases h3:(ZE (opn c) 1 (Z0N f.day y1 c.stys).1).2=0;rw [if_neg (not_not_intro h3),if_pos (decide_eq_true h3)];rw [if_pos h3,if_neg (by simpa using h3)];have e:Z49 c f y1=(0,[],false):=by
  unfold Z49;dsimp only;rw [if_pos h1]
 rw [e,if_pos h1,if_neg (by simp)]
theorem Nte.app {w0 w w1 w2:World} {bd:Nat} {d:Dln} {rv nv:Value} {ys:List Rsn} (h:Nte w0 bd w d rv) (hr:Row [bd] w1 w0.heap.size 96 nv (d.reas++ys)) (hT:Stp (ob rv) w w1) (an:Stp [bd] w1 w2) (hb:Blk w2 bd 45 (dlC d nv)) (hl:(d.reas++ys).length<=100000):Nte w0 bd w2 { d with reas:=d.reas++ys } nv:=
 ⟨hb, hr.ext an (λc hc => by
   simp only [Xm] at hc;subst hc;exact ⟨by simp,λg=>by have:=(hr.ob_le c g).1;have:=h.lt;omega⟩) (λc hc=>.inl hc),(h.stp.own hT (λc hc=>.inr (h.row.ob_le c hc).1)).trans an,h.lt,hl⟩
theorem ZfN (a b:Int) (w):(Instr.build 96 #[(0,.I a),(1,.I b)]).run Tryz.prog w=.ok (agg (⟨a,b,0⟩:Rsn)) w:=by kernel_rfl
theorem Zjy (x y:Rsn) (w):(Instr.buildSlice 43 2 #[(0,agg x),(1,agg y)]).run Tryz.prog w=.ok (.slice (some ⟨w.heap.size,0,none⟩) 2 2) (w.alloc (.cells (Z2.enc x++Z2.enc y).toArray 96)):=by kernel_rfl
theorem Z3Y (c:Cas) (R:Z0o) (f:Fct) (r:Int) (w) (hv:Z2R w c R) (ho:Z3x c) (hf:Z0l f) (hr:I64 r) (cV:∀ (g:Fct) (unl:Str) (due:Int),Z21 c.fcts g unl due=Z46 c.fcts g unl due) :
 CC 9 #[.agg (Jc c R).toArray,aG f,.I r] w λv w'=>∃ rv,v=.tuple #[.agg (dlC (JQ c f r).1 rv).toArray,.B (JQ c f r).2]/\Zk 96 w w' rv (JQ c f r).1.reas:=by
 generalize aq:JQ c f r=o;have fm:=ho.rl;refine cW3 202 Tryz.func9 ?_;refine W ?_;refine BX (Stp.refl [] w) λb3 w1 h3 e3 _ hS=>?_;replace e3:Blk w1 b3 37 (Jc c R):=e3;refine BX hS λb4 w2 h4 e4 hT hS=>?_;replace e4:Blk w2 b4 40 (Z2.enc f):=e4;replace e3:=e3.up hT;refine W ?_;refine Z0 Z4 rfl ?_;rintro _ w3 ⟨b6,rfl,dS,e6,hT⟩;have g6:w.heap.size<=b6:=Xh hS.size dS;replace e6:Blk w3 b6 45 (dlC (default:Dln) J3):=e6;replace e3:=e3.up hT;replace e4:=e4.up hT;replace hS:=hS.trans hT;clear hT;have kj:=hv.up hS;have cr:=kj.rr;by_cases hw:0<=r/\r<=(c.ruls.length:Int) - 1
 rotate_left
 rw [JQ,if_pos hw] at aq;by_cases jk:r<0;refine QO ?_;refine Z5 (vs:=[]) rfl JJ rfl ?_;refine SB (us:=dlC (default:Dln) J3) JK e6 ?_;rintro _ wz ⟨hT,e6⟩;refine W ?_;refine Zq rfl rfl rfl e6 rfl rfl ?_;subst aq;exact .mk ⟨J3,rfl,Zk.nil.up (hS.ow hT)⟩;refine QO ?_;refine Z5 (vs:=[]) rfl JJ rfl ?_;refine SB (us:=dlC (default:Dln) J3) JK e6 ?_;rintro _ wz ⟨hT,e6⟩;refine W ?_;refine Zq rfl rfl rfl e6 rfl rfl ?_;subst aq;exact .mk ⟨J3,rfl,Zk.nil.up (hS.ow hT)⟩;rw [JQ,if_neg (not_not_intro hw)] at aq;obtain ⟨i,rfl⟩:∃ i:Nat,r=i:=⟨r.toNat,by omega⟩
 have hi:i<c.ruls.length:=by omega
 rw [show c.ruls.getD ((i:Int).toNat) crZ=c.ruls[i] by simp [hi]] at aq;dsimp only at aq;have jX:=(ho.cnd _ (Xb hi))
 have iL:=(ho.due _ (Xb hi))
 obtain ⟨cs,⟨kc,kd,rfl,gc,gd⟩,am⟩:=hv.rr.cell hi;refine QO ?_;refine Z9 (Z2r rfl rfl cr hi ⟨kc,kd,rfl,gc.up hS,gd.up hS⟩ (λj u hu=>hS.cell0 (am j u hu))) rfl ?_;refine Z0 Z4 rfl ?_;rintro _ w5 ⟨b8,rfl,dG,e8,hT⟩;refine SB (us:=crC c.ruls[i] kc kd) (Z1s gc gd) e8 ?_;rintro _ w6 ⟨an,e8⟩;replace hT:=hT.ow an;replace e3:=e3.up hT;replace e4:=e4.up hT;replace e6:=e6.up hT;replace hS:=hS.trans hT;clear hT an am cr kj;generalize hq:c.ruls[i]=q at *;have cr:=(hv.up hS).rr;have l8:=e8.lt
 (refine QP ?_ ?_<;>intro hg)
 rw [if_pos (.inl (by assumption))] at aq;refine Z5 (vs:=[]) rfl JJ rfl ?_;refine SB (us:=dlC (default:Dln) J3) JK e6 ?_;rintro _ wz ⟨hT,e6⟩;refine W ?_;refine Zq rfl rfl rfl e6 rfl rfl ?_;subst aq;exact .mk ⟨J3,rfl,Zk.nil.up (hS.ow hT)⟩;refine CP hS (Z9j R.rv c.ruls q.name f.day _ cr) λw7 hT hS=>?_;replace e3:=e3.up hT;replace e4:=e4.up hT;replace e6:=e6.up hT;replace e8:=e8.up hT;clear cr;by_cases ha:ZhP c.ruls q.name f.day=i
 rotate_left
 rw [if_pos (.inr ha)] at aq;refine QO ?_;refine Z5 (vs:=[]) rfl JJ rfl ?_;refine SB (us:=dlC (default:Dln) J3) JK e6 ?_;rintro _ wz ⟨hT,e6⟩;refine W ?_;refine Zq rfl rfl rfl e6 rfl rfl ?_;subst aq;exact .mk ⟨J3,rfl,Zk.nil.up (hS.ow hT)⟩;rw [if_neg (λh=>h.elim (λh=>absurd h (by assumption)) (λh=>h ha))] at aq;have cJ:=hv.up hS;refine QO ?_;refine CP hS (ZbG c R f _ cJ ho) λw8 hT hS=>?_;replace e3:=e3.up hT;replace e4:=e4.up hT;replace e6:=e6.up hT;replace e8:=e8.up hT;clear hT cJ;have fI:Z1x c.atts c.crrs f.entry f.to_=Z1x c.atts c.crrs f.entry f.to_:=rfl;generalize bQ:Z1x c.atts c.crrs f.entry f.to_=s at *;obtain ⟨s,ok⟩:=s;clear fI;have k3:=e3.lt;have k4:=e4.lt;have k6:=e6.lt;have k8:=e8.lt;refine QO ?_;refine Z0 Z4 rfl ?_;rintro _ w9 ⟨b9,rfl,ee,e9,hT⟩;have g9:w.heap.size<=b9:=Xh hS.size ee;replace e3:=e3.up hT;replace e4:=e4.up hT;replace e6:=e6.up hT;replace e8:=e8.up hT;replace hS:=hS.trans hT;have l9:=e9.lt;refine Z0 Z4 rfl ?_;rintro _ w10 ⟨b10,rfl,eP,e10,hT⟩;have g10:w.heap.size<=b10:=Xh hS.size eP;replace e3:=e3.up hT;replace e4:=e4.up hT;replace e6:=e6.up hT;replace e8:=e8.up hT;replace e9:=e9.up hT;replace hS:=hS.trans hT;clear hT;have l3:=e3.lt;have l4:=e4.lt;have l6:=e6.lt;have l8:=e8.lt;refine SB (us:=evC (evL c f)) (Z50 _) e9 ?_;rintro _ w11 ⟨hT,e9⟩;replace e3:=e3.ext hT (by simp;omega);replace e4:=e4.ext hT (by simp;omega);replace e6:=e6.ext hT (by simp;omega);replace e8:=e8.ext hT (by simp;omega);replace e10:=e10.ext hT (by simp;omega);replace hS:=hS.ow hT;clear hT;refine SA (us:=Z2.enc s) e10 ?_;rintro _ w12 ⟨hT,e10⟩;replace e3:=e3.ext hT (by simp;omega);replace e4:=e4.ext hT (by simp;omega);replace e6:=e6.ext hT (by simp;omega);replace e8:=e8.ext hT (by simp;omega);replace e9:=e9.ext hT (by simp;omega);replace hS:=hS.ow hT;clear hT;have bF:=ZcM ho hf;have cJ:=hv.up hS;rw [Zmq] at aq;rw [show opn c=Ze c.cal c.today from rfl] at aq;refine W ?_;refine Z9 (Zn rfl rfl e3 (us:=Ji c.cal R.hv R.lv R.zo R.zs R.hr) rfl rfl) rfl ?_;refine W ?_;refine CL (Z8E kc q.cnd 2 c.today (evL c f) c.cal R.hv R.lv R.zo R.zs R.hr _ (gc.up hS) jX cJ.cal bF cJ.one) ?_;rintro _ w14 ⟨pv,rfl,cO⟩;have iM:=Z2S (o:=Ze c.cal c.today) (ev:=evL c f) jX;generalize J7 (Ze c.cal c.today) (evL c f) q.cnd=x at *;obtain ⟨x1,xs,xe⟩:=x;dsimp only at aq cO iM ⊢;have hT:=cO.2;replace e3:=e3.up hT;replace e4:=e4.up hT;replace e6:=e6.up hT;replace e8:=e8.up hT;replace e9:=e9.up hT;replace e10:=e10.up hT;replace hS:=hS.trans hT;clear hT cJ;by_cases gY:xe=0
 rotate_left
 rw [if_pos (.inl gY)] at aq;refine QO ?_;refine Z5 (vs:=[]) rfl JJ rfl ?_;refine SB (us:=dlC (default:Dln) J3) JK e6 ?_;rintro _ wz ⟨hT,e6⟩;refine W ?_;refine Zq rfl rfl rfl e6 rfl rfl ?_;subst aq;exact .mk ⟨J3,rfl,Zk.nil.up (hS.ow hT)⟩;by_cases mK:x1=0;rw [if_pos (.inr mK)] at aq;refine QO ?_;refine Z5 (vs:=[]) rfl JJ rfl ?_;refine SB (us:=dlC (default:Dln) J3) JK e6 ?_;rintro _ wz ⟨hT,e6⟩;refine W ?_;refine Zq rfl rfl rfl e6 rfl rfl ?_;subst aq;exact .mk ⟨J3,rfl,Zk.nil.up (hS.ow hT)⟩;rw [if_neg (λh=>h.elim (λh=>h gY) (λh=>mK h))] at aq;have cJ:=hv.up hS;refine QO ?_;refine Z9 (Zn rfl rfl e3 (us:=Ji c.cal R.hv R.lv R.zo R.zs R.hr) rfl rfl) rfl ?_;refine W ?_;refine CL (Z8E kd q.due 3 c.today (evL c f) c.cal R.hv R.lv R.zo R.zs R.hr _ (gd.up hS) iL cJ.cal bF cJ.one) ?_;rintro _ w15 ⟨pw,rfl,bK⟩;have dY:=Z2S (o:=Ze c.cal c.today) (ev:=evL c f) iL;have kl:=Z4r (o:=Ze c.cal c.today) bF iL;generalize J7 (Ze c.cal c.today) (evL c f) q.due=y at *;obtain ⟨y1,ys,ye⟩:=y;dsimp only at aq bK dY kl ⊢;have hT:=bK.2;replace e3:=e3.up hT;replace e4:=e4.up hT;replace e6:=e6.up hT;replace e8:=e8.up hT;replace e9:=e9.up hT;replace e10:=e10.up hT;replace cO:=cO.up hT;replace hS:=hS.trans hT;clear hT cJ;by_cases ko:ye=0
 rotate_left
 rw [if_pos ko] at aq;refine QO ?_;refine Z5 (vs:=[]) rfl JJ rfl ?_;refine SB (us:=dlC (default:Dln) J3) JK e6 ?_;rintro _ wz ⟨hT,e6⟩;refine W ?_;refine Zq rfl rfl rfl e6 rfl rfl ?_;subst aq;exact .mk ⟨J3,rfl,Zk.nil.up (hS.ow hT)⟩;rw [if_neg (not_not_intro ko)] at aq;have jl:0<=y1/\y1<=3652058:=by
  rcases kl ko with h|h|h
  omega;omega;exact h.2
 have cJ:=hv.up hS;refine QO ?_;refine CG (Z9Y c R f y1 _ cJ ho hf (by omega)) ?_;rintro _ w16 ⟨lv,rfl,bU⟩;have fw:(Z49 c f y1).2.1.length<=1:=by
  unfold Z49;dsimp only;split;simp;split<;>simp
 generalize Z49 c f y1=z at *;obtain ⟨due,zs,ends⟩:=z;dsimp only at aq bU fw ⊢;have hT:=bU.2;replace e3:=e3.up hT;replace e4:=e4.up hT;replace e6:=e6.up hT;replace e8:=e8.up hT;replace e9:=e9.up hT;replace e10:=e10.up hT;replace cO:=cO.up hT;replace bK:=bK.up hT;replace hS:=hS.trans hT;clear hT cJ;cases ends with
 | false=>
   rw [if_neg (by simp)] at aq;refine QO ?_;refine Z5 (vs:=[]) rfl JJ rfl ?_;refine SB (us:=dlC (default:Dln) J3) JK e6 ?_;rintro _ wz ⟨hT,e6⟩;refine W ?_;refine Zq rfl rfl rfl e6 rfl rfl ?_;subst aq;exact .mk ⟨J3,rfl,Zk.nil.up (hS.ow hT)⟩
 | true=>
   rw [if_pos rfl] at aq;have fZ:SlV [] w16 pv xs:=cO.slv (by simp);have ju:SlV [] w16 pw ys:=bK.slv (by simp);have io:SlV [] w16 lv zs:=bU.slv (by simp);clear cO bK bU;refine QO ?_;refine Z5 (vs:=[(0,str q.name),(1,aG f),(2,.I f.to_),(3,.I due)]) rfl (Ze5 _ _ _ _) rfl ?_;refine Z0 Z4 rfl ?_;rintro _ w17 ⟨b20,rfl,qS,e20,hT⟩;have m3:=e3.lt;have m4:=e4.lt;have m6:=e6.lt;have m8:=e8.lt;have m10:=e10.lt;replace e3:=e3.up hT;replace e4:=e4.up hT;replace e6:=e6.up hT;replace e8:=e8.up hT;replace e10:=e10.up hT;replace fZ:SlV [b20] w17 pv xs:=fZ.ext hT (by simp) (λb hb=>.inr (by simp at hb;omega));replace ju:SlV [b20] w17 pw ys:=ju.ext hT (by simp) (λb hb=>.inr (by simp at hb;omega));replace io:SlV [b20] w17 lv zs:=io.ext hT (by simp) (λb hb=>.inr (by simp at hb;omega));have g20:w.heap.size<=b20:=Xh hS.size qS;replace hS:=hS.trans hT;clear hT e9;refine SB (us:=dlC (⟨q.name,f,f.to_,due,0,[]⟩:Dln) J3) (Z0h _ rfl) e20 ?_;rintro _ w18 ⟨hT,e20⟩;replace e3:=e3.ext hT (by simp;omega);replace e4:=e4.ext hT (by simp;omega);replace e6:=e6.ext hT (by simp;omega);replace e8:=e8.ext hT (by simp;omega);replace e10:=e10.ext hT (by simp;omega);replace fZ:SlV [b20] w18 pv xs:=fZ.ext hT (λb hb=>hb) (λb hb=>.inl hb);replace ju:SlV [b20] w18 pw ys:=ju.ext hT (λb hb=>hb) (λb hb=>.inl hb);replace io:SlV [b20] w18 lv zs:=io.ext hT (λb hb=>hb) (λb hb=>.inl hb);replace hS:=hS.ow hT;clear hT;have l20:=e20.lt;have hN:Nte w18 b20 w18 ⟨q.name,f,f.to_,due,0,[]⟩ J3:=⟨e20,Row.nil,Stp.refl _ _,l20,by simp⟩
   clear e20;refine QO ?_;refine Z5 (vs:=[(0,.I 1),(1,.I f.entry),(2,.I f.day)]) rfl (Z3X _ _ _) rfl ?_;refine W ?_;refine Z5 (vs:=[(0,.I 2),(1,.I (i:Int))]) rfl (ZfN _ _) rfl ?_;refine Z0 (Z1 (T:=96) (l:=[(0,.tmp 118),(1,.tmp 120)]) (vs:=[(0,agg (⟨1,f.entry,f.day⟩:Rsn)),(1,agg (⟨2,(i:Int),0⟩:Rsn))]) (cs:=Z2.enc (⟨1,f.entry,f.day⟩:Rsn)++Z2.enc (⟨2,(i:Int),0⟩:Rsn)) rfl (λw=>Zjy _ _ w)) rfl ?_;rintro v1 w19 hB;have hT:=hB.choose_spec.2.2.2;have ac:Row [b20] w19 w18.heap.size 96 v1 ([⟨1,f.entry,f.day⟩,⟨2,(i:Int),0⟩]:List Rsn):=hB.row (Xl _) rfl rfl (by simp [maxLen]);have au:SlV [b20] w19 v1 ([⟨1,f.entry,f.day⟩,⟨2,(i:Int),0⟩]:List Rsn):=ac.slv (λb hb=>by simp at hb;omega);clear hB;replace hN:=hN.up hT;have e20:=hN.blk;refine W ?_;refine Z8 (Zb (u:=v1) rfl rfl au.cells au.one e20 (by simp)) ?_;rintro _ w20 ⟨an,e20'⟩;replace hN:Nte w18 b20 w20 (dU q f due 0 [⟨1,f.entry,f.day⟩,⟨2,(i:Int),0⟩]) v1:=hN.app ac (Stp.refl _ _) an e20' (by simp);clear ac au hT an e20 e20';have f8:=e8.ext hN.stp (by simp;omega);have kJ:Stp [] w w20:=hS.own hN.stp (λc hc=>.inr (by simp at hc;omega));have bz:=gc.up kJ;have cA:=gd.up kJ;refine W ?_;refine Z98 (σ:=Unit) (λ_=>[(2,.I (i:Int)),(3,pQ b3),(4,pQ b4),(6,pQ b6),(8,pQ b8),(13,pv),(15,.I y1),(16,pw),(17,.I due),(18,lv),(20,pQ b20),(10,pQ b10),(133,.B (ok && (Z0p q.cnd || Z0p q.due)))]) (λ_ w'=>Stp [] w20 w') ?_ ?_
   . cases ok with
     | false=>
       refine QO ?_;exact QT () (Stp.refl _ _)
     | true=>
       refine QO ?_;refine CP (Stp.refl [] w20) (Z7y kc q.cnd _ bz) λw23 hT hS=>?_;replace f8:=f8.up hT;replace cA:=cA.up hT;cases h1:Z0p q.cnd with
       | true=>
         refine QO ?_;exact QT () hS
       | false=>
         refine QO ?_;refine CP hS (Z7y kd q.due _ cA) λw24 hT hS=>?_;cases h2:Z0p q.due
         all_goals
          refine QO ?_;exact QT () hS
   rintro _ w21 hT;replace hN:=hN.up hT;clear bz cA f8 kJ hT;generalize jG:(ok && (Z0p q.cnd || Z0p q.due))=bb at *;refine W ?_;refine Js (σ:=Value) (λ_=>[(2,.I (i:Int)),(3,pQ b3),(4,pQ b4),(6,pQ b6),(8,pQ b8),(13,pv),(15,.I y1),(16,pw),(17,.I due),(18,lv),(20,pQ b20)]) (λrv w'=>Nte w18 b20 w' (dU q f due 0 ([⟨1,f.entry,f.day⟩,⟨2,i,0⟩]++if bb=true then [⟨3,s.att,s.day⟩] else [])) rv) ?_ ?_
   . cases bb with
     | false=>
       refine QO ?_;exact QT v1 hN
     | true=>
       have f10:=e10.ext hN.stp (by simp;omega);have e20:=hN.blk;refine QO ?_;refine Z5 (vs:=[(0,.I 3),(1,.I s.att),(2,.I s.day)]) rfl (Z3X _ _ _) rfl ?_;refine APR (X:=[b20]) (base:=w18.heap.size) (⟨3,s.att,s.day⟩:Rsn) hN.row (λc hc=>by have:=hN.stp.size;simp at hc;omega) hN.stp.size (by simp) λu1 u2 w22 aO hT aJ=>?_
       replace e20:Blk w22 b20 45 (dlC (dU q f due 0 [⟨1,f.entry,f.day⟩,⟨2,i,0⟩]) v1):=e20.ext hT (λhb=>by have:=(hN.row.ob_le b20 hb).1;omega);have au:SlV [b20] w22 u2 _:=aO.slv (λc hc=>by simp at hc;omega);refine W ?_;refine Z8 (Zb (u:=u2) rfl rfl au.cells au.one e20 (by simp)) ?_;rintro _ w23 ⟨an,e20'⟩;refine W ?_;exact QT u2 (hN.app aO hT an e20' (by simp))
   clear hN;rintro v2 w22 hN;generalize fX:([⟨1,f.entry,f.day⟩,⟨2,i,0⟩]++if bb=true then [⟨3,s.att,s.day⟩] else []:List Rsn)=L1 at *;have pT:L1.length<=3:=by rw [<- fX];split<;>simp
   refine W ?_;refine ZDr 7 [] [4,6] [(0,0),(1,1),(2,0),(3,2),(4,2),(5,0),(6,2)] (λw1 ae=>?_);replace hN:=hN.up ae;have e20:=hN.blk;refine QD ?_;refine Z7 rfl trivial (Z3 rfl (Zg rfl rfl) (Z0s 4 pv xs _ (fZ.ext hN.stp (λb hb=>hb) (by simp)) (by omega))) (λ_ _ h=>h.2) rfl ?_;rintro av wa hA;have ew:=hA.slv (X:=ob v2++[b20]) (λb hb=>by
    rcases Xd.1 hb with hb|hb
    exact (hN.row.ob_le b hb).2;rw [Xm.1 hb];exact e20.lt)
   replace hN:=hN.up hA.2;clear hA;generalize nj:xs.map (λx=>(⟨4,x.1,x.2⟩:Rsn))=Ln1 at ew;have v8:Ln1.length=xs.length:=by rw [<- nj,Xy]
   refine Z2B rfl trivial (ZC (X:=[b20]) (base:=w18.heap.size) rfl (by decide) rfl rfl hN.row ew (Xh (Xu _ (show L1.length+Ln1.length<=1000000 by omega)) (by decide)) (Xh (show L1.length+Ln1.length<=1000000 by omega) (by decide)) hN.stp.size) rfl rfl ?_;rintro v3 wb ⟨aO,hT,aJ⟩;replace e20:=hN.blk.ext hT (λhb=>by have:=(hN.row.ob_le b20 hb).1;omega);have au:=aO.slv (X:=[b20]) (λc hc=>by simp at hc;omega);refine QD ?_;refine ZM rfl trivial (Zb (u:=v3) rfl rfl au.cells au.one e20 (by simp)) rfl ?_;rintro _ wc ⟨an,e20'⟩;have eZ:=hN.app aO hT an e20' (by simp only [Xa];omega);clear hN aO hT an aJ au ew e20 e20' ae;have hN:Nte w18 b20 wc (dU q f due 0 (L1++Ln1)) v3:=eZ;clear eZ;generalize iN:L1++Ln1=L2 at hN;have pU:L2.length<=L1.length+Ln1.length:=by rw [<- iN,Xa];exact Xl _
   refine QD ?_;refine W ?_;refine ZDr 7 [] [4,6] [(0,0),(1,1),(2,0),(3,2),(4,2),(5,0),(6,2)] (λw1 ae=>?_);replace hN:=hN.up ae;have e20:=hN.blk;refine QD ?_;refine Z7 rfl trivial (Z3 rfl (Zg rfl rfl) (Z0s 4 pw ys _ (ju.ext hN.stp (λb hb=>hb) (by simp)) (by omega))) (λ_ _ h=>h.2) rfl ?_;rintro av wa hA;have ew:=hA.slv (X:=ob v3++[b20]) (λb hb=>by
    rcases Xd.1 hb with hb|hb
    exact (hN.row.ob_le b hb).2;rw [Xm.1 hb];exact e20.lt)
   replace hN:=hN.up hA.2;clear hA;generalize np:ys.map (λx=>(⟨4,x.1,x.2⟩:Rsn))=Ln2 at ew;have wh:Ln2.length=ys.length:=by rw [<- np,Xy]
   refine Z2B rfl trivial (ZC (X:=[b20]) (base:=w18.heap.size) rfl (by decide) rfl rfl hN.row ew (Xh (Xu _ (show L2.length+Ln2.length<=1000000 by omega)) (by decide)) (Xh (show L2.length+Ln2.length<=1000000 by omega) (by decide)) hN.stp.size) rfl rfl ?_;rintro v4 wb ⟨aO,hT,aJ⟩;replace e20:=hN.blk.ext hT (λhb=>by have:=(hN.row.ob_le b20 hb).1;omega);have au:=aO.slv (X:=[b20]) (λc hc=>by simp at hc;omega);refine QD ?_;refine ZM rfl trivial (Zb (u:=v4) rfl rfl au.cells au.one e20 (by simp)) rfl ?_;rintro _ wc ⟨an,e20'⟩;have eZ:=hN.app aO hT an e20' (by simp only [Xa];omega);clear hN aO hT an aJ au ew e20 e20' ae;have hN:Nte w18 b20 wc (dU q f due 0 (L2++Ln2)) v4:=eZ;clear eZ;generalize mL:L2++Ln2=L3 at hN;have pW:L3.length<=L2.length+Ln2.length:=by rw [<- mL,Xa];exact Xl _
   refine QD ?_;refine W ?_;refine ZDr 7 [] [4,6] [(0,0),(1,1),(2,0),(3,2),(4,2),(5,0),(6,2)] (λw1 ae=>?_);replace hN:=hN.up ae;have e20:=hN.blk;refine QD ?_;refine Z7 rfl trivial (Z3 rfl (Zg rfl rfl) (Z0s 4 lv zs _ (io.ext hN.stp (λb hb=>hb) (by simp)) (by omega))) (λ_ _ h=>h.2) rfl ?_;rintro av wa hA;have ew:=hA.slv (X:=ob v4++[b20]) (λb hb=>by
    rcases Xd.1 hb with hb|hb
    exact (hN.row.ob_le b hb).2;rw [Xm.1 hb];exact e20.lt)
   replace hN:=hN.up hA.2;clear hA;generalize nq:zs.map (λx=>(⟨4,x.1,x.2⟩:Rsn))=Ln3 at ew;have wi:Ln3.length=zs.length:=by rw [<- nq,Xy]
   refine Z2B rfl trivial (ZC (X:=[b20]) (base:=w18.heap.size) rfl (by decide) rfl rfl hN.row ew (Xh (Xu _ (show L3.length+Ln3.length<=1000000 by omega)) (by decide)) (Xh (show L3.length+Ln3.length<=1000000 by omega) (by decide)) hN.stp.size) rfl rfl ?_;rintro v5 wb ⟨aO,hT,aJ⟩;replace e20:=hN.blk.ext hT (λhb=>by have:=(hN.row.ob_le b20 hb).1;omega);have au:=aO.slv (X:=[b20]) (λc hc=>by simp at hc;omega);refine QD ?_;refine ZM rfl trivial (Zb (u:=v5) rfl rfl au.cells au.one e20 (by simp)) rfl ?_;rintro _ wc ⟨an,e20'⟩;have eZ:=hN.app aO hT an e20' (by simp only [Xa];omega);clear hN aO hT an aJ au ew e20 e20' ae;have hN:Nte w18 b20 wc (dU q f due 0 (L3++Ln3)) v5:=eZ;clear eZ;generalize sN:L3++Ln3=L4 at hN;have wj:L4.length<=L3.length+Ln3.length:=by rw [<- sN,Xa];exact Xl _
   refine QD ?_;refine W ?_;have gX:(Z23 f.day y1 c.stys).length<=1000:=by
    have:=ho.sty.len;unfold Z23;split;simp;exact Xh (XG _ _) (by omega)
   refine Js (σ:=Value) (λ_=>[(2,.I (i:Int)),(3,pQ b3),(4,pQ b4),(6,pQ b6),(8,pQ b8),(17,.I due),(20,pQ b20)]) (λrv W=>Nte w18 b20 W (dU q f due 0 (L4++(Z23 f.day y1 c.stys).map (λx=>(⟨5,x.1,x.2⟩:Rsn)))) rv) ?_ ?_;have ep:Stp [] w _:=hS.own hN.stp (λc hc=>.inr (by simp at hc;omega));have f3:=e3.ext hN.stp (by simp;omega);have f4:=e4.ext hN.stp (by simp;omega);have fT:=hf.day;refine ZDr 12 [] [9,11] [(0,0),(1,1),(2,0),(4,0),(5,0),(3,9),(6,2),(7,2),(8,2),(9,2),(10,0),(11,2)] (λw1 ae=>?_);replace hN:=hN.up ae;replace f3:=f3.up ae;replace f4:=f4.up ae;replace ep:=ep.trans ae;have e20:=hN.blk;have d4:_=some (Value.int .i64 f.day):=f4.cell (j:=2) rfl;have d3:_=some R.sv:=f3.cell (j:=4) rfl;refine QD ?_;refine Z8P rfl (Z16 rfl trivial (Z83 (Jp rfl rfl d4)) (λ_ _ h=>h.2 ▸ Stp.refl _ _) rfl ?_) (Z16 rfl trivial (Z83 (Jp rfl rfl d3)) (λ_ _ h=>h.2 ▸ Stp.refl _ _) rfl ?_);rintro _ _ ⟨rfl,rfl⟩;refine Z7 rfl trivial (Z83 (Jp rfl rfl d3)) (λ_ _ h=>h.2 ▸ Stp.refl _ _) rfl ?_;rintro _ _ ⟨rfl,rfl⟩;focus repeat'(first|refine D1 ?_|omega|refine Zl rfl rfl rfl rfl (λhg=>?_) (λhg=>?_)|(refine Zh rfl rfl rfl rfl (λhg=>?_) (λhg=>?_)<;>refine D1 ?_)|fail)
   refine Z7 rfl trivial (Z3 rfl (ZJ rfl rfl rfl) (Z7w f.day y1 R.sv c.stys _ (hv.up ep).ss ho.sty (by omega) (by omega))) (λ_ _ h=>h.2) rfl ?_;rintro uv wu hU;have cY:=hU.slv (X:=[]) (by simp);replace hN:=hN.up hU.2;clear hU;generalize hU:Z23 f.day y1 c.stys=us at *;focus repeat'(first|refine D1 ?_|omega|refine Zl rfl rfl rfl rfl (λhg=>?_) (λhg=>?_)|(refine Zh rfl rfl rfl rfl (λhg=>?_) (λhg=>?_)<;>refine D1 ?_)|fail)
   refine Z7 rfl trivial (Z3 rfl (Zg rfl rfl) (Z0s 5 uv us _ cY (by omega))) (λ_ _ h=>h.2) rfl ?_;rintro av wa hA;replace e20:=hN.blk;have ew:=hA.slv (X:=ob v5++[b20]) (λb hb=>by
    rcases Xd.1 hb with hb|hb
    exact (hN.row.ob_le b hb).2;rw [Xm.1 hb];exact e20.lt)
   replace hN:=hN.up hA.2;clear hA;have kK:(us.map (λx=>(⟨5,x.1,x.2⟩:Rsn))).length=us.length:=Xy _;generalize us.map (λx=>(⟨5,x.1,x.2⟩:Rsn))=Ln4 at ew kK ⊢;refine Z2B rfl trivial (ZC (X:=[b20]) (base:=w18.heap.size) rfl (by decide) rfl rfl hN.row ew (Xh (Xu _ (show L4.length+Ln4.length<=1000000 by omega)) (by decide)) (Xh (show L4.length+Ln4.length<=1000000 by omega) (by decide)) hN.stp.size) rfl rfl ?_;rintro v6 wb ⟨aO,hT,aJ⟩;replace e20:=hN.blk.ext hT (λhb=>by have:=(hN.row.ob_le b20 hb).1;omega);have au:=aO.slv (X:=[b20]) (λc hc=>by simp at hc;omega);refine QD ?_;refine ZM rfl trivial (Zb (u:=v6) rfl rfl au.cells au.one e20 (by simp)) rfl ?_;rintro _ wc ⟨an,e20'⟩;have eZ:=hN.app aO hT an e20' (by simp only [Xa];omega);refine QD ?_;exact QT v6 eZ;rintro _ _ ⟨rfl,rfl⟩;refine Z7 rfl trivial (Z83 (Jp rfl rfl d4)) (λ_ _ h=>h.2 ▸ Stp.refl _ _) rfl ?_;rintro _ _ ⟨rfl,rfl⟩;focus repeat'(first|refine D1 ?_|omega|refine Zl rfl rfl rfl rfl (λhg=>?_) (λhg=>?_)|(refine Zh rfl rfl rfl rfl (λhg=>?_) (λhg=>?_)<;>refine D1 ?_)|fail)
   refine Z7 rfl trivial (Z3 rfl (ZJ rfl rfl rfl) (Z7w f.day y1 R.sv c.stys _ (hv.up ep).ss ho.sty (by omega) (by omega))) (λ_ _ h=>h.2) rfl ?_;rintro uv wu hU;have cY:=hU.slv (X:=[]) (by simp);replace hN:=hN.up hU.2;clear hU;generalize hU:Z23 f.day y1 c.stys=us at *;focus repeat'(first|refine D1 ?_|omega|refine Zl rfl rfl rfl rfl (λhg=>?_) (λhg=>?_)|(refine Zh rfl rfl rfl rfl (λhg=>?_) (λhg=>?_)<;>refine D1 ?_)|fail)
   refine Z7 rfl trivial (Z3 rfl (Zg rfl rfl) (Z0s 5 uv us _ cY (by omega))) (λ_ _ h=>h.2) rfl ?_;rintro av wa hA;replace e20:=hN.blk;have ew:=hA.slv (X:=ob v5++[b20]) (λb hb=>by
    rcases Xd.1 hb with hb|hb
    exact (hN.row.ob_le b hb).2;rw [Xm.1 hb];exact e20.lt)
   replace hN:=hN.up hA.2;clear hA;have kK:(us.map (λx=>(⟨5,x.1,x.2⟩:Rsn))).length=us.length:=Xy _;generalize us.map (λx=>(⟨5,x.1,x.2⟩:Rsn))=Ln4 at ew kK ⊢;refine Z2B rfl trivial (ZC (X:=[b20]) (base:=w18.heap.size) rfl (by decide) rfl rfl hN.row ew (Xh (Xu _ (show L4.length+Ln4.length<=1000000 by omega)) (by decide)) (Xh (show L4.length+Ln4.length<=1000000 by omega) (by decide)) hN.stp.size) rfl rfl ?_;rintro v6 wb ⟨aO,hT,aJ⟩;replace e20:=hN.blk.ext hT (λhb=>by have:=(hN.row.ob_le b20 hb).1;omega);have au:=aO.slv (X:=[b20]) (λc hc=>by simp at hc;omega);refine QD ?_;refine ZM rfl trivial (Zb (u:=v6) rfl rfl au.cells au.one e20 (by simp)) rfl ?_;rintro _ wc ⟨an,e20'⟩;have eZ:=hN.app aO hT an e20' (by simp only [Xa];omega);refine QD ?_;exact QT v6 eZ;clear hN;rintro v6 wc hN;generalize sO:L4++(Z23 f.day y1 c.stys).map (λx=>(⟨5,x.1,x.2⟩:Rsn))=L5 at hN;have wl:L5.length<=L4.length+1000:=by
    rw [<- sO,Xa,Xy];omega
   refine W ?_;have f3:=e3.ext hN.stp (by simp;omega);have f4:=e4.ext hN.stp (by simp;omega);have f8:=e8.ext hN.stp (by simp;omega);have f6:=e6.ext hN.stp (by simp;omega);have qT:Stp [] w wc:=hS.own hN.stp (λc hc=>.inr (by simp at hc;omega));refine QO ?_;refine CP (Stp.refl [] wc) (Z9U c R f q.unl due wc (hv.up qT).ff (by have:=ho.fl;omega)) λwd _ hT=>?_
   replace f3:=f3.up hT;replace hN:=hN.up hT;clear hT f4 f6 f8;rw [cV];have ay:mkD c f i q y1 due (xs++ys++zs)=dU q f due (if (Z46 c.fcts f q.unl due).2=true then 1 else if due<c.today then 2 else 0) (L5++if (Z46 c.fcts f q.unl due).2=true then [⟨6,(Z46 c.fcts f q.unl due).1.entry,(Z46 c.fcts f q.unl due).1.day⟩] else []):=by
    unfold mkD;rw [bQ];dsimp only;rw [<- sO,<- sN,<- mL,<- iN,<- nj,<- np,<- nq,<- fX,<- jG];simp only [Xf,Yax,XL,XC]
   rw [ay] at aq;clear ay;generalize Z46 c.fcts f q.unl due=a at *;obtain ⟨g,met⟩:=a;dsimp only at aq ⊢;have k20:=hN.blk.lt;refine QO ?_;refine Z0 Z4 rfl ?_;rintro _ we ⟨b21,rfl,wm,e21,hT⟩;refine SA (us:=Z2.enc g) e21 ?_;rintro _ wf ⟨an,e21⟩;replace hT:=hT.ow an;replace f3:=f3.up hT;replace hN:=hN.up hT;clear hT an;have qU:b21≠b20:=by omega
   have dJ:b3≠b20:=by omega
   refine W ?_;cases met with
   | true=>
     rw [if_pos rfl,if_pos rfl] at aq;refine QO ?_;refine Z8 (Zb (u:=.I 1) rfl rfl rfl rfl hN.blk (by simp)) ?_;rintro _ w31 ⟨hT,e20⟩;replace e21:=e21.ext hT (by simpa using qU);replace hN:=hN.stat (d':=dU q f due 1 L5) hT e20 rfl;clear hT e20;have e20:=hN.blk;refine QO ?_;refine Z5 (vs:=[(0,.I 6),(1,.I g.entry),(2,.I g.day)]) rfl (Z3X _ _ _) rfl ?_;refine APR (X:=[b20]) (base:=w18.heap.size) (⟨6,g.entry,g.day⟩:Rsn) hN.row (λc hc=>by have:=hN.stp.size;simp at hc;omega) hN.stp.size (by dsimp only;omega) λu1 u2 w32 aO hT aJ=>?_
     replace e20:=e20.ext hT (λhb=>by have:=(hN.row.ob_le b20 hb).1;omega);have au:SlV [b20] w32 u2 _:=aO.slv (λc hc=>by simp at hc;omega);refine W ?_;refine Z8 (Zb (u:=u2) rfl rfl au.cells au.one e20 (by simp)) ?_;rintro _ w33 ⟨an,e20'⟩;have eZ:=hN.app aO hT an e20' (by simp only [Xa,Xe,Xi];omega);clear hN aO hT aJ au an e20 e20' e21;have hN:Nte w18 b20 w33 (dU q f due 1 (L5++[⟨6,g.entry,g.day⟩])) u2:=eZ;clear eZ;have f6:=e6.ext hN.stp (by simp;omega);have dg:u2.oneCell'=true:=(hN.row.slv (X:=[]) (by simp)).one;have hk:=hN.blk;refine QO ?_;refine SB (us:=dlC (dU q f due 1 (L5++[⟨6,g.entry,g.day⟩])) u2) (Z0h _ dg) f6 ?_;rintro _ wz ⟨hT,f6⟩;refine W ?_;refine Zq rfl rfl rfl f6 rfl rfl ?_;have cQ:=hS.own hN.stp (λc hc=>.inr (by simp at hc;omega));have aJ:=λb hb=>(hN.row.ob_le b hb).1;subst aq;refine .mk ⟨u2,rfl,?_,cQ.ow hT⟩;exact JO (Row.ext (JO (X':=[b6]) (Row.lower hN.row (by have:=hS.size;omega))) hT (λb hb=>⟨hb,λh=>by have:=aJ b h;have:=hN.lt;simp at hb;omega⟩) (λb hb=>.inl hb))
   | false=>
     rw [if_neg (show ¬ (false=true) by simp),if_neg (show ¬ (false=true) by simp),Xz] at aq;by_cases ip:due<c.today;rw [if_pos ip] at aq;refine QO ?_;refine Z8 (Zb (u:=.I 2) rfl rfl rfl rfl hN.blk (by simp)) ?_;rintro _ w31 ⟨hT,e20⟩;replace hN:=hN.stat (d':=dU q f due 2 L5) hT e20 rfl;clear hT e20 e21;have f6:=e6.ext hN.stp (by simp;omega);have dg:v6.oneCell'=true:=(hN.row.slv (X:=[]) (by simp)).one;have hk:=hN.blk;refine QO ?_;refine SB (us:=dlC (dU q f due 2 L5) v6) (Z0h _ dg) f6 ?_;rintro _ wz ⟨hT,f6⟩;refine W ?_;refine Zq rfl rfl rfl f6 rfl rfl ?_;have cQ:=hS.own hN.stp (λc hc=>.inr (by simp at hc;omega));have aJ:=λb hb=>(hN.row.ob_le b hb).1;subst aq;refine .mk ⟨v6,rfl,?_,cQ.ow hT⟩;exact JO (Row.ext (JO (X':=[b6]) (Row.lower hN.row (by have:=hS.size;omega))) hT (λb hb=>⟨hb,λh=>by have:=aJ b h;have:=hN.lt;simp at hb;omega⟩) (λb hb=>.inl hb));rw [if_neg ip] at aq;have f6:=e6.ext hN.stp (by simp;omega);have dg:v6.oneCell'=true:=(hN.row.slv (X:=[]) (by simp)).one;have hk:=hN.blk;refine QO ?_;refine SB (us:=dlC (dU q f due 0 L5) v6) (Z0h _ dg) f6 ?_;rintro _ wz ⟨hT,f6⟩;refine W ?_;refine Zq rfl rfl rfl f6 rfl rfl ?_;have cQ:=hS.own hN.stp (λc hc=>.inr (by simp at hc;omega));have aJ:=λb hb=>(hN.row.ob_le b hb).1;subst aq;refine .mk ⟨v6,rfl,?_,cQ.ow hT⟩;exact JO (Row.ext (JO (X':=[b6]) (Row.lower hN.row (by have:=hS.size;omega))) hT (λb hb=>⟨hb,λh=>by have:=aJ b h;have:=hN.lt;simp at hb;omega⟩) (λb hb=>.inl hb))
theorem ZbN (l:List Fct) (x:Fct):∀ k,k<l.length->Z0W (l++[x]) k=Z0W l k
 | 0, h => by
   rw [Z0W,Z0W,XA,XA,X1 h]
 | k + 1, h => by
   rw [Z0W,Z0W,ZbN l x k (by omega),XA,XA,X1 h]
theorem ZbO (l:List Fct):∀ k,k<l.length->Z0W l k∈l
 | 0, h => by
   rw [Z0W,show l.getD 0 default=l[0] by simp [h]];exact Xb h
 | k + 1, h => by
   rw [Z0W];split;rw [show l.getD (k+1) default=l[k+1] by simp [h]];exact Xb h;exact ZbO l k (by omega)
theorem ZbP (x m:Fct) (h:x.entry≠m.entry):Z12 x m<0↔x.day<m.day\/x.day=m.day/\x.entry<m.entry:=by
 unfold Z12;rw [Z7c,Z7c];generalize orL _=z;unfold cmI lx
 (repeat' split)<;>omega
theorem ZqX (fs:List Fct) (hn:fs.Pairwise (λa b=>a.entry≠b.entry)) (f:Fct) (unl:Str) (due:Int):Z21 fs f unl due=Z46 fs f unl due:=by
 unfold Z21 Z46;have hL:(Z6f fs f unl due).Pairwise (λa b=>a.entry≠b.entry):=hn.sublist Ybj;generalize Z6f fs f unl due=L at hL;have key:∀ n,∀ L:List Fct,L.length=n->L.Pairwise (λa b=>a.entry≠b.entry)->L.foldl Z1m (default,false)=if L=[] then (default,false) else (Z0W L (L.length - 1),true):=by
  intro n
  induction n with
  | zero=>
    intro L hl _;obtain rfl:=XV.1 hl;rfl
  | succ n ih=>
    intro L hl hp;rcases J0 L with rfl|⟨A,x,rfl⟩
    cases hl;rw [XP,ih A (by simpa using hl) (XX.1 hp).1,if_neg (show ¬ (A++[x]=[]) by simp)];show Z1m _ x=_;by_cases hA:A=[]
    subst hA;rfl;have h0:0<A.length:=X7.2 hA;rw [if_neg hA];have hm:=ZbO A (A.length - 1) (by omega);have bi:x.entry≠(Z0W A (A.length - 1)).entry:=λe=>(XX.1 hp).2.2 _ hm x (by simp) e.symm
    have e1:(A++[x]).length - 1=(A.length - 1)+1:=by simp;omega
    have e2:(A++[x]).getD (A.length - 1+1) default=x:=by
     rw [show A.length - 1+1=A.length by omega];simp
    rw [e1,Z0W,ZbN A x _ (by omega),e2];unfold Z1m;dsimp only;by_cases hc:x.day<(Z0W A (A.length - 1)).day\/x.day=(Z0W A (A.length - 1)).day/\x.entry<(Z0W A (A.length - 1)).entry;rw [if_neg (λh=>h.2 hc),if_pos ((ZbP _ _ bi).2 hc)];rw [if_pos ⟨rfl,hc⟩,if_neg (λh=>hc ((ZbP _ _ bi).1 h))]
 exact key L.length L rfl hL
theorem Z6h.ans {c:Cas} (h:Z6h c) (g:Fct) (unl:Str) (due:Int):Z21 c.fcts g unl due=Z46 c.fcts g unl due:=
 ZqX c.fcts (Yag.2 λi j hi hj cW=>by
  have h1:=h.en i hi;have h2:=h.en j hj;omega) g unl due
end Go.Proofs.YtgdicjnjhchooaaGreatDoor
namespace Go.Eng
open Go Go.RowKit Go.Proofs
variable {P:Program} {n:Nat} {Q:Exit->Act->World->Prop} {e:Env} {w:World} {ops:Array Oper} {Lt:List Nat} {rest:List (Nat×Nat)}
theorem WD.weak {S:List Nat} {e':Env} {ord:List (Nat×Nat)} (hs:∀ t v,look e' t=some v->look e t=some v) (h:WD P n ops S Lt Q ord e' w):WD P n ops S Lt Q ord e w:=⟨λlisted a b c ha=>h.h listed a b c (ha.weak hs)⟩
theorem OE.weak {o:Oper} {e':Env} {G:Value->World->Prop} (hs:∀ t v,look e' t=some v->look e t=some v) (h:OE P n o e' w G):OE P n o e w G:=⟨λa ha=>h.h a (ha.weak hs)⟩
theorem Zmr {d:Nat} {v:Value} {e:Env} (h:look e d=none):∀ t u,look e t=some u->look ((d,v) :: e) t=some u:=λt u g=>by
 by_cases hd:d=t;subst hd;rw [h] at g;cases g;rw [Zf,if_neg hd];exact g
theorem Z7Y {d:Nat} {v:Value} {e:Env}:ev ((d,v) :: e) (.tmp d)=some v:=by show look _ _=_;rw [Zf,if_pos rfl]
theorem Z9Z {d d':Nat} {v v':Value} {e:Env} (h:d'≠d) (g:ev e (.tmp d)=some v):ev ((d',v') :: e) (.tmp d)=some v:=by show look _ _=_;rw [Zf,if_neg h];exact g
theorem Z3Z {α:Type} [Z2 α] {iC i7 i8 i9 iA iS dC d7 d8 d9 dA T0 T m tC t7 t8 t9 tA tS:Nat} {pC p7 p8 p9 pA pS:String} {aC a7 a8 a9 aA aS:Array Edge} {opC:Op} {z y:Value} {cs:Value->List Value} {xs:List α}
 [hz:Zer P T z] [bD:Siz P T m]
 (call:∀ W,Stp [] w W->OE P n ⟨some dC,opC,tC,pC,aC,none⟩ e W (λv W'=>∃ rv,v=.tuple #[.agg (cs rv).toArray,y]/\Zk T0 W W' rv xs))
 (aR:∀ W rv,SlV [] W rv xs->∀ u∈cs rv,u.oneCell'=true)
 (k:∀ rv b W,Stp [] w W->w.heap.size<=b->Blk W b T (cs rv)->(∀ X:List Nat,(∀ c∈X,c<w.heap.size)->SlV X W rv xs)->WD P n ops [] Lt Q rest ((dA,pQ b) :: (d9,y) :: e) W)
 (hC:ops[iC]?=some ⟨some dC,opC,tC,pC,aC,none⟩:=by exact rfl)
 (h7:ops[i7]?=some ⟨some d7,.move (.tmp dC),t7,p7,a7,none⟩:=by exact rfl)
 (h8:ops[i8]?=some ⟨some d8,.extract (.tmp d7) 0,t8,p8,a8,none⟩:=by exact rfl)
 (h9:ops[i9]?=some ⟨some d9,.extract (.tmp d7) 1,t9,p9,a9,none⟩:=by exact rfl)
 (hA:ops[iA]?=some ⟨some dA,.alloc T,tA,pA,aA,none⟩:=by exact rfl)
 (hS:ops[iS]?=some ⟨none,.store T (.tmp dA) (.tmp d8),tS,pS,aS,none⟩:=by exact rfl)
 (hn:look e dC=none/\look e d7=none/\look e d8=none/\look e d9=none/\look e dA=none:=by exact ⟨rfl,rfl,rfl,rfl,rfl⟩)
 (hd:dC≠dA/\d7≠dA/\d8≠dA/\d9≠dA/\d8≠d9/\d7≠d8/\d7≠d9/\dC≠d9/\dC≠d7/\dC≠d8:=by decide)
 (hlt:Nat.blt dC n=true/\Nat.blt d7 n=true/\Nat.blt d8 n=true/\Nat.blt d9 n=true/\Nat.blt dA n=true:=by exact ⟨rfl,rfl,rfl,rfl,rfl⟩)
 (hm:∀ rv,(cs rv).length=m:=by intro rv;exact rfl) (nL:z.cells.toList.length=m:=by exact rfl)
 (qV:Z3b iA ((i7,0) :: (i8,0) :: (i9,0) :: (iA,2) :: (iS,2) :: rest)=(i7,0) :: (i8,0) :: (i9,0) :: (iS,2) :: rest:=by exact rfl) (hq:Nat.blt (iA+3) 100000=true:=by exact rfl) (hL:Lt.contains iS=true:=by exact rfl) :
 WD P n ops [] Lt Q ((iC,iA+3) :: (i7,0) :: (i8,0) :: (i9,0) :: (iA,2) :: (iS,2) :: rest) e w:=by
 obtain ⟨nC,n7,n8,n9,nA⟩:=hn;obtain ⟨lC,l7,l8,l9,lA⟩:=hlt;obtain ⟨dCA,d7A,d8A,d9A,d89,d78,d79,dC9,dC7,dC8⟩:=hd
 have fin:∀ (rv:Value) (b:Nat) (W:World) (e':Env),ev e' (.tmp dA)=some (pQ b)->ev e' (.tmp d8)=some (.agg (cs rv).toArray)->(∀ t u,look ((dA,pQ b) :: (d9,y) :: e) t=some u->look e' t=some u)->
  Stp [] w W->w.heap.size<=b->Blk W b T z.cells.toList->(∀ X:List Nat,(∀ c∈X,c<w.heap.size)->SlV (b :: X) W rv xs)->WD P n ops [] Lt Q ((iS,2) :: rest) e' W:=by
  intro rv b W e' wo ww hw hT hb kb hs;refine ZM hS trivial (Zw (us:=cs rv) wo ww (by simp [Value.cells]) (hm rv) (aR W rv ((hs [] (by simp)).ext (X':=[]) (Stp.refl [] _) (by simp) (by simp))) kb (by rw [hm,nL])) hL ?_;rintro _ W' ⟨hU,kb'⟩;exact (k rv b W' (hT.ow hU) hb kb' (λX hX=>(hs X hX).ext hU (by simp) (λc hc=>.inl (by simp [hc])))).weak hw
 apply Z8P hq;refine Z16 hC trivial (call w (Stp.refl _ _)) (λv W h=>by obtain ⟨rv,-,h⟩:=h;exact h.2) lC ?_;rintro _ W ⟨rv,rfl,hr⟩;refine Jl h7 trivial (λw'=>ZX Z7Y) l7 ?_;refine Jl h8 trivial (λw'=>Z0Y Z7Y rfl) l8 ?_;refine Jl h9 trivial (λw'=>Z0Y (Z9Z (Ne.symm d78) Z7Y) rfl) l9 ?_;refine Z7 hA trivial Z4 (λ_ _ h=>h.choose_spec.2.2.2) lA ?_;rintro _ W' ⟨b,rfl,hb,kb,hT⟩;have hz:=hr.2.size;refine fin rv b W' _ Z7Y (Z9Z (Ne.symm d8A) (Z9Z (Ne.symm d89) Z7Y)) ?_ (hr.2.trans hT) (by omega) kb ?_;refine λt u h=>?_;by_cases h1:dA=t;subst h1;rwa [Zf,if_pos rfl] at h ⊢;rw [Zf,if_neg h1] at h ⊢;by_cases h2:d9=t;subst h2;rwa [Zf,if_pos rfl] at h ⊢;rw [Zf,if_neg h2] at h ⊢;have g1:d8≠t:=λg=>by rw [<- g,n8] at h;cases h
 have g2:d7≠t:=λg=>by rw [<- g,n7] at h;cases h
 have g3:dC≠t:=λg=>by rw [<- g,nC] at h;cases h
 rw [Zf,if_neg g1,Zf,if_neg g2,Zf,if_neg g3];exact h;exact λX hX=>(hr.slv hX).ext hT (by simp) (λc hc=>(Xc.1 hc).elim (λh=>.inr (by omega)) .inl)
 rw [qV];refine Z16 hA trivial Z4 (λ_ _ h=>h.choose_spec.2.2.2) lA ?_;rintro _ W ⟨b,rfl,hb,kb,hT⟩;refine Z7 hC trivial ((call W hT).weak (Zmr nA)) (λv W h=>by obtain ⟨rv,-,h⟩:=h;exact h.2) lC ?_;rintro _ W' ⟨rv,rfl,hr⟩;have hs:=λ(X:List Nat) (hX:∀ c∈X,c<w.heap.size)=>hr.slv (X:=b :: X) (λc hc=>(Xc.1 hc).elim (λh=>h ▸ kb.lt) (λh=>Xv (hX c h) hT.size));refine Jl h7 trivial (λw'=>ZX Z7Y) l7 ?_;refine Jl h8 trivial (λw'=>Z0Y Z7Y rfl) l8 ?_;refine Jl h9 trivial (λw'=>Z0Y (Z9Z (Ne.symm d78) Z7Y) rfl) l9 ?_;refine fin rv b W' _ (Z9Z d9A (Z9Z d8A (Z9Z d7A (Z9Z dCA Z7Y)))) (Z9Z (Ne.symm d89) Z7Y) ?_ (hT.trans hr.2) hb (kb.up hr.2) hs;refine λt u h=>?_;by_cases h1:dA=t;subst h1;rw [Zf,if_pos rfl] at h;rw [Zf,if_neg d9A,Zf,if_neg d8A,Zf,if_neg d7A,Zf,if_neg dCA,Zf,if_pos rfl];exact h;rw [Zf,if_neg h1] at h;by_cases h2:d9=t;subst h2;rwa [Zf,if_pos rfl] at h ⊢;rw [Zf,if_neg h2] at h ⊢;have g1:d8≠t:=λg=>by rw [<- g,n8] at h;cases h
 have g2:d7≠t:=λg=>by rw [<- g,n7] at h;cases h
 have g3:dC≠t:=λg=>by rw [<- g,nC] at h;cases h
 rw [Zf,if_neg g1,Zf,if_neg g2,Zf,if_neg g3,Zf,if_neg h1];exact h
end Go.Eng
namespace Go.Proofs.YtgdicjnjhchooaaGreatDoor
open Go Go.Eng Go.RowKit Go.Proofs
theorem Zuw (lv:Value) (l:List Int) (at_ ru:Int) (er:Value) (m:Int) (w) (hs:SlV [] w lv l) (hl:∀ a∈l,I64 a) (ez:I64 at_) (sP:I64 ru) (hF:SlV [] w Zag Zj) (fP:Z0K w) (fQ:Z2d w) (dQ:w.cell? ⟨3,0,none⟩=some (.I m)) (fH:w.cell? ⟨5,0,none⟩=some er) (bF:er=.nilIface\/∃ te pe,er=.iface te pe) :
 CC 3 #[lv,.I at_,.I ru] w λr w'=>r=.B true/\Stp [] w w':=by
 refine cW3 97 Tryz.func3 ?_;refine W ?_;refine CL (Z7j lv l w hs hl fP fQ) ?_;rintro _ w1 ⟨c,R,rfl,hv,ay,hS⟩;have aR:=ay.cas;have cV:=ay.ans;have cX:=ay.fl;have fm:=ay.rl;have lh:∀ f∈c.fcts,Z0l f:=λf hf=>(ay.fo f hf).ok;clear ay;refine W ?_;refine Z0 Z4 rfl ?_;rintro _ w2 ⟨b7,rfl,jo,e7,hT⟩;refine Z8 (Zw (us:=Jc c R) rfl rfl rfl rfl hv.cell e7 rfl) ?_;rintro _ w3 ⟨hU,e7⟩;replace hT:=hT.ow hU;replace hv:=hv.up hT;replace hS:=hS.trans hT;clear hT hU;refine W ?_;have jB:=hv;have l7:=e7.lt;refine Z0 (Z1 (vs:=[]) rfl Zj7) rfl ?_;rintro o w4 hN;have ac:Row [] w4 w3.heap.size 40 o ([]:List Fct):=hN.row (Xl _) rfl rfl (by simp [maxLen]);have aJ:=λb hb=>ac.ob_le b hb;have hU:=Za.stp hN;clear hN;have nr:SlV (ob o++[]) w4 R.fv c.fcts:=hv.ff.ext hU (by simp) (λb hb=>.inr (aJ b (by simpa using hb)).1);have T:=hU;replace e7:=e7.up hU;have z4:=hU.size;clear hU;refine W ?_;refine Z0 (ZC (α:=Fct) (X:=[]) (base:=w3.heap.size) rfl (by decide) rfl rfl ac nr (Xh (Xu _ (show ([]:List Fct).length+c.fcts.length<=20 by simp only [Xi];omega)) (by decide)) (by simp only [Xi,maxLen];omega) (by omega)) rfl ?_;rintro o2 w5 ⟨bO,hU,-⟩;rw [XO] at bO;replace e7:=e7.ext hU (λh=>by have:=aJ _ h;omega);replace T:=T.own hU (λb hb=>.inr (by have:=aJ b hb;omega));have z5:=hU.size;clear hU nr ac aJ;refine W ?_;refine CP T (ZD at_ 20 _ (by decide) ez) λw6 hU T=>?_
 have hr:=Jb (if at_<0 then -(at_+1) else at_) 20 (by decide);generalize (if at_<0 then -(at_+1) else at_) % 20=y at hr ⊢;replace e7:=e7.up hU;replace bO:=bO.up hU;have z6:=hU.size;clear hU;refine W ?_;refine CL (Z8r y at_ _ ez) ?_;rintro _ w7 ⟨g,rfl,-,fj,hU⟩;replace e7:=e7.up hU;replace bO:=bO.up hU;replace T:=T.trans hU;have z7:=hU.size;clear hU;refine W ?_;refine Z0 (Z1 (vs:=[(0,aG g)]) rfl (Zmh g)) rfl ?_;rintro o3 w8 hN;have iX:=λb hb=>bO.ob_le b hb;have gC:SlV (ob o2++[]) w8 o3 [g]:=hN.slv (λb hb=>(iX b (by simpa using hb)).2) rfl rfl (by simp [maxLen]);replace bO:=bO.up (Za.stp hN);replace e7:=e7.up (Za.stp hN);replace T:=T.trans (Za.stp hN);have z8:=(Za.stp hN).size;clear hN;refine W ?_;refine Z0 (ZC (α:=Fct) (X:=[]) (base:=w3.heap.size) rfl (by decide) rfl rfl bO gC (Xh (Xu _ (show c.fcts.length+1<=20 by omega)) (by decide)) (by simp only [Xe,Xi,maxLen];omega) (by omega)) rfl ?_;rintro av w9 ⟨ft,hU,-⟩;replace e7:=e7.ext hU (λh=>by have:=iX _ h;omega);replace T:=T.own hU (λb hb=>.inr (by have:=iX b hb;omega));clear hU bO gC iX;replace hv:=jB.up T;replace hS:=hS.trans T;have eA:SlV [] w9 av (c.fcts++[g]):=ft.slv (by simp);have aP:∀ f∈c.fcts++[g],Z0l f:=λf hf=>(Xd.1 hf).elim (lh f) (λh=>Xm.1 h ▸ fj.ok);have aZ:0<(c.fcts++[g]).length:=by simp
 generalize c.fcts++[g]=al at eA aP aZ;clear ft T jB fj lh hs hl;have xL:=eA.max;refine W ?_;refine LP (σ:=Nat) (λi=>[(2,.I ru),(7,pQ b7),(8,av),(9,.I (i:Int))]) (λi W=>i<=al.length/\Stp [] w9 W) (λi=>al.length - i) 0 ⟨Xr _,Stp.refl _ _⟩ ?_;rintro i w10 ⟨hi,hY⟩;by_cases hlt:i<al.length;have fK:=aP _ (Xb hlt);have f7:=e7.up hY;have cT:=eA.up hY;refine QO ?_;refine Zm (σ:=Int) (λr=>[(2,.I ru),(7,pQ b7),(8,av),(9,.I (i:Int)),(10,.I r)]) (λr W=>(-1<=r/\r<=c.ruls.length+1)/\Stp [] w9 W) (λr=>(c.ruls.length+1 - r).toNat) (-1) ⟨rfl,rfl,rfl,rfl,rfl,trivial⟩ ⟨⟨by omega,by omega⟩,hY⟩ ?_;clear hY f7 cT;rintro r w11 ⟨bK,hY⟩;have f7:=e7.up hY;have cT:=eA.up hY;have bu:=hv.up hY;have cr:=bu.rr;by_cases xM:r<=c.ruls.length
 . refine QO ?_
   have iU:I64 r:=by unfold I64;omega
   refine ZDr 13 [] [11] [(0,1),(1,0),(2,0),(3,0),(4,1),(5,0),(6,13),(7,0),(8,0),(9,0),(10,2),(11,2),(12,0)] (λw12 ae=>?_);replace f7:=f7.up ae;replace cT:=cT.up ae;replace bu:=bu.up ae;replace hY:=hY.trans ae;clear ae cr;refine D ?_;refine Z3Z (T:=45) (λW hT=>Z3 rfl (ZJ rfl rfl rfl) (Z9z c R al[i] r W (bu.up hT) aR.ok fK iU)) (λW rv h=>Z0h _ h.one) (λra ba w13 hT _ ka eB=>?_);replace eB:=eB [] (by simp);replace f7:=f7.up hT;replace cT:=cT.up hT;replace bu:=bu.up hT;replace hY:=hY.trans hT;clear hT;refine D ?_;refine QO ?_;refine ZDr 13 [] [11] [(0,1),(1,0),(2,0),(3,0),(4,1),(5,0),(6,13),(7,0),(8,0),(9,0),(10,2),(11,2),(12,0)] (λw14 ae=>?_);replace f7:=f7.up ae;replace cT:=cT.up ae;replace bu:=bu.up ae;replace ka:=ka.up ae;replace eB:=eB.up ae;replace hY:=hY.trans ae;clear ae;refine D ?_;refine Z3Z (T:=45) (λW hT=>Z3 rfl (ZJ rfl rfl rfl) (Z3Y c R al[i] r W (bu.up hT) aR.ok fK iU cV)) (λW rv h=>Z0h _ h.one) (λrb bb w15 hT _ kb gu=>?_);replace gu:=gu [] (by simp);replace f7:=f7.up hT;replace cT:=cT.up hT;replace bu:=bu.up hT;replace ka:=ka.up hT;replace eB:=eB.up hT;replace hY:=hY.trans hT;clear hT;generalize JQ c al[i] r=oo at *;obtain ⟨d,ok⟩:=oo;dsimp only at ka kb eB gu ⊢;refine D ?_;cases ok<;>refine QO ?_
   all_goals (
    refine CP hY (Z67 d ra rb _ eB gu) λw16 hT hY=>?_;refine QO ?_;exact QL (r+1) ⟨⟨by omega,by omega⟩,hY⟩ (by omega))
 refine QO ?_;exact QL (i+1) ⟨hlt,hY⟩ (Xp hlt (Xt i))
 . have f7:=e7.up hY
   have cT:=eA.up hY;have bu:=hv.up hY;have fK:=aP _ (Xb aZ);refine QO ?_;refine ZDr 12 [] [10] [(0,1),(1,0),(2,0),(3,1),(4,0),(5,12),(6,0),(7,0),(8,0),(9,2),(10,2),(11,0)] (λw12 ae=>?_);replace f7:=f7.up ae;replace cT:=cT.up ae;replace bu:=bu.up ae;replace hY:=hY.trans ae;clear ae;refine D ?_;refine Z3Z (T:=45) (λW hT=>Z3 rfl (ZJ rfl rfl rfl) (Z9z c R al[0] ru W (bu.up hT) aR.ok fK sP)) (λW rv h=>Z0h _ h.one) (λra ba w13 hT _ ka eB=>?_);replace f7:=f7.up hT;replace cT:=cT.up hT;replace bu:=bu.up hT;replace hY:=hY.trans hT;clear hT ka eB;refine D ?_;refine QO ?_;refine ZDr 12 [] [10] [(0,1),(1,0),(2,0),(3,1),(4,0),(5,12),(6,0),(7,0),(8,0),(9,2),(10,2),(11,0)] (λw14 ae=>?_);replace f7:=f7.up ae;replace cT:=cT.up ae;replace bu:=bu.up ae;replace hY:=hY.trans ae;clear ae;refine D ?_;refine Z3Z (T:=45) (λW hT=>Z3 rfl (ZJ rfl rfl rfl) (Z3Y c R al[0] ru W (bu.up hT) aR.ok fK sP cV)) (λW rv h=>Z0h _ h.one) (λrb bb w15 hT _ kb gu=>?_);replace hY:=hY.trans hT;clear hT kb gu f7 cT bu;refine D ?_;replace hS:=hS.trans hY;generalize (JQ c al[0] ru).2=ok;cases ok<;>refine QO ?_
   all_goals (
    refine CP hS (Z68 er m _ (hF.up hS) (fP.up hS) (fQ.up hS) (hS.cell (by simp) dQ) (hS.cell (by simp) fH) bF) λy2 _ hS=>?_
    refine RT ?_;exact ⟨rfl,hS⟩)
theorem Za0 (x:Fct):∀ (l:List Fct) (j:Nat),j<=l.length->(∀ i (h:i<l.length),i<j->Z12 l[i] x<0)->(∀ h:j<l.length,¬ Z12 l[j] x<0)->Z5F x l=l.take j++x :: l.drop j
 | [],0,_,_,_=>rfl
 | y :: l, 0, _, _, h => by
   have hy:¬ Z12 y x<0:=h (Nat.succ_pos _);have:=Z26.anti y x;rw [Z5F,if_pos (by omega)];rfl
 | y :: l, j + 1, hj, h1, h2 => by
   have hy:Z12 y x<0:=h1 0 (by simp) (by omega);have:=Z26.anti y x;rw [Z5F,if_neg (by omega),Za0 x l j (by simpa using hj) (λi h cW=>h1 (i+1) (Ybx h) (by omega)) (λh=>h2 (Ybx h))];rfl
theorem Zde (l:List Fct) (x:Fct):Z0m (l++[x])=Z5F x (Z0m l):=
 (Zba ((Z3S x _).trans (((JV l).cons x).trans (List.perm_append_singleton x l).symm)) (Z3A x _ (Z2T l))).symm
theorem Z8F (l:List Fct):(Z0m l).length=l.length:=(JV l).length_eq
theorem ZqY (a b:Int):lx a b<0↔a<0\/a=0/\b<0:=by unfold lx;split<;>omega
theorem Zes (a b:Int):(cmI a b<0↔a<b)/\(cmI a b=0↔a=b):=by
 unfold cmI
 (repeat' split)<;>omega
theorem Zms (a b:Str):Z37 a b=0↔a=b:=⟨Z8n,λh=>by
 subst h;have h1:=Z0Q a a;rw [Z2u] at h1;simp at h1;omega⟩
theorem Zjz (f g:Fct):Z12 f g<0↔f.day<g.day\/f.day=g.day/\(f.entry<g.entry\/f.entry=g.entry/\(ltS f.kind g.kind=true\/f.kind=g.kind/\(f.by_<g.by_\/f.by_=g.by_/\(f.to_<g.to_\/f.to_=g.to_/\f.amt<g.amt)))):=by
 rw [Z9B];simp only [ZqY,(Zes _ _).1,(Zes _ _).2,Zms,(Z0Q _ _).1]
theorem Za1 (f g:Fct) (w):CC 89 #[aG f,aG g] w λr w'=>r=.B (decide (Z12 f g<0))/\Stp [] w w':=by
 have wy:=Zjz f g;generalize Z12 f g=z at wy ⊢;refine cW2 60 Tryz.func89 ?_;refine W ?_;refine BX (Stp.refl [] w) λb2 w1 h2 e2 _ hS=>?_;refine BX hS λb3 w2 h3 e3 hT hS=>?_;replace e2:=e2.up hT;replace e2:Blk w2 b2 40 (Z2.enc f):=e2;replace e3:Blk w2 b3 40 (Z2.enc g):=e3;repeat'(first|refine W1 ?_|omega|refine VG ?_ ?_<;>intro hg|refine VC ?_ ?_<;>intro hc)
 all_goals (try refine Z9 (Z4M (c:=ltS f.kind g.kind) rfl rfl rfl) rfl ?_)
 repeat'(first|refine W1 ?_|omega|refine VG ?_ ?_<;>intro hg|refine VC ?_ ?_<;>intro hc)
 all_goals
  refine WR ?_;refine .mk ⟨?_,hS⟩;congr 1;rw [YaI]
  simp_all [Z2u]
theorem Zus (a b:Fct) (w):(binOp .eql 40 (agg a) (agg b)).run Tryz.prog w=.ok (.B (decide (a=b))) w:=by
 have h1:Program.stoodInHeld Tryz.prog 40=false:=by kernel_rfl
 obtain ⟨i,hi⟩:∃ i,Tryz.prog.info? 3=some i:=by
  have:=(inferInstance:Siz Tryz.prog 3 1).h;cases h:Tryz.prog.info? 3 with
  | none=>rw [h] at this;cases this
  | some i=>exact ⟨i,rfl⟩
 obtain ⟨a1,a2,a3,a4,a5,a6⟩:=a;obtain ⟨b1,b2,b3,b4,b5,b6⟩:=b;simp [agg,Z2.enc,run_eql_struct,run_equalIn_struct,h1,Program.fieldsOf,Tryz.underlying40,Op.eqFields,part,Und.isAgg,Siz.run,Z06,run_equalIn_int w _ _ .i64 .i64 _ _ Tryz.underlying3,run_equalIn_string w _ _ _ _ Tryz.underlying9];repeat' split
 all_goals simp_all
theorem Z8G (v:Value) (l:List Fct) (x:Fct) (w) (hs:SlV [] w v l) :
 CC 56 #[v,aG x] w λr w'=>r=.B (decide (x∈l))/\Stp [] w w':=by
 have iE:=hs.max;refine cW2 18 Tryz.func56 ?_;refine W ?_;refine BX (Stp.refl [] w) λb3 w1 h3 e3 _ hS=>?_;replace e3:Blk w1 b3 40 (Z2.enc x):=e3;refine W ?_;refine LP (σ:=Nat) (λk=>[(0,v),(3,pQ b3),(5,.I (k:Int))]) (λk w'=>k<=l.length/\Stp [] w w'/\Blk w' b3 40 (Z2.enc x)/\∀ j (h:j<l.length),j<k->l[j]≠x) (λk=>l.length - k) 0 ⟨Xr _,hS,e3,λj _ h=>absurd h (XF _)⟩ ?_;clear hS e3;rintro k w2 ⟨hk,hT,e3,hz⟩;have aX:=hs.up hT;by_cases hlt:k<l.length;refine QO ?_;refine ZDr 6 [] [] [(0,0),(1,0),(2,0),(3,1),(4,1),(5,0)] (λw1 ae=>?_);replace aX:=aX.up ae;replace e3:=e3.up ae;replace hT:=hT.trans ae;clear ae;refine D ?_;apply Z1I;exact rfl;refine Zdx (c:=l[k]=x) trivial rfl rfl (λw=>Z9N _ _ _ l[k] x w) (by intro w;exact Zus l[k] x w) rfl ?_;refine D ?_
 (refine QP ?_ ?_<;>intro hc)
 refine RU ?_;exact ⟨by rw [decide_eq_true (hc ▸ Xb hlt)],hT⟩;exact QL (k+1) ⟨hlt,hT,e3,λj h hj=>by
  by_cases e:j=k;subst e;exact hc;exact hz j h (by omega)⟩ (by omega)
 have bg:¬ x∈l:=λh=>by
  obtain ⟨j,hj,e⟩:=XB h;exact hz j hj (by omega) e
 refine RT ?_;exact ⟨by rw [decide_eq_false bg],hT⟩
theorem Z5h (v:Value) (l:List Fct) (w) (hs:SlV [] w v l) (hl:l.length<=100000000000):CC 52 #[v] w λr w'=>Zk 40 w w' r (Z0m l):=by
 refine cW1 48 Tryz.func52 ?_;refine W ?_;refine LP (σ:=Nat×Value) (λq=>[(0,v),(3,q.2),(4,.I (q.1:Int))]) (λq W=>q.1<=l.length/\Zk 40 w W q.2 (Z0m (l.take q.1))) (λq=>l.length - q.1) (0,.N) ⟨Xr _,Zk.nil⟩ ?_;rintro ⟨k,ov⟩ w1 ⟨hk,hr⟩;dsimp only at hk hr ⊢;have bB:=hs.up hr.2;by_cases hlt:k<l.length;have aQ:Z0m (l.take (k+1))=Z5F l[k] (Z0m (l.take k)):=by rw [Xg hlt,Zde]
 have eD:(Z0m (l.take k)).length=k:=by rw [Z8F,Xx];omega
 generalize Z0m (l.take k)=S at hr aQ eD ⊢;have iI:SlV [] w1 ov S:=hr.slv (by simp);refine QO ?_;refine Z0t (σ:=Nat) (λj=>[(0,v),(3,ov),(4,.I (k:Int)),(5,.I (j:Int))]) (λj W=>(∃ hj:j<=S.length,Z5F l[k] S=S.take j++l[k] :: S.drop j)/\Stp [] w1 W) ?_ ?_;refine LP (σ:=Nat) (λj=>[(0,v),(3,ov),(4,.I (k:Int)),(5,.I (j:Int))]) (λj W=>(j<=S.length/\∀ i (h:i<S.length),i<j->Z12 S[i] l[k]<0)/\Stp [] w1 W) (λj=>S.length - j) 0 ⟨⟨Xr _,λi h hi=>absurd hi (XF i)⟩,Stp.refl _ _⟩ ?_;rintro j w2 ⟨⟨hj,hp⟩,hT⟩;have aX:=bB.up hT;have cE:=iI.up hT;have fJ:=cE.max;by_cases aT:j<S.length;refine QO ?_;refine ZDr 15 [] [] [(0,0),(1,0),(2,0),(3,0),(4,0),(5,0),(6,0),(7,0),(8,1),(9,0),(10,0),(11,0),(12,1),(13,2),(14,0)] (λw1 ae=>?_);replace aX:=aX.up ae;replace cE:=cE.up ae;replace hT:=hT.trans ae;clear ae;refine QD ?_;refine DC (Za1 S[j] l[k] _) (λ_ _ h=>h.2) ?_;rintro _ w3 ⟨rfl,hU⟩;replace hT:=hT.trans hU;clear aX cE hU;by_cases hc:Z12 S[j] l[k]<0;rw [decide_eq_true hc];refine QD ?_;refine QO ?_;refine QL (j+1) ⟨⟨aT,λi h hi=>?_⟩,hT⟩ (Xp aT (Xt j));by_cases e:i=j;subst e;exact hc;exact hp i h (by omega);rw [decide_eq_false hc];refine QD ?_;refine QO ?_;exact QT j ⟨⟨hj,Za0 l[k] S j hj hp (λ_=>hc)⟩,hT⟩;refine QO ?_;refine ZDr 15 [] [] [(0,0),(1,0),(2,0),(3,0),(4,0),(5,0),(6,0),(7,0),(8,1),(9,0),(10,0),(11,0),(12,1),(13,2),(14,0)] (λw1 ae=>?_);replace hT:=hT.trans ae;clear ae aX cE;refine QD ?_;refine QO ?_;exact QT j ⟨⟨hj,Za0 l[k] S j hj hp (λh=>absurd h aT)⟩,hT⟩;rintro j w2 ⟨⟨hj,ez⟩,hT⟩;rw [ez] at aQ;have aX:=bB.up hT;have cE:=iI.up hT;refine QO ?_;refine Z9 (Z09 rfl cE rfl rfl hj) rfl ?_;refine W ?_;refine Z0 (ZZ (β:=Fct) rfl (by decide) rfl rfl Zk.nil ((cE.slc (Xr j) hj).ext (Stp.refl [] _) (by simp) (by simp [ob])) (by simp;omega) (by simp [maxLen];omega)) rfl ?_;rintro nv1 w3 ⟨g1,g2,-⟩;rw [XO,Ybb] at g1;have dH:=aX.up g1.2;refine QO ?_;refine APG (X:=[]) (base:=w2.heap.size) l[k] g1.1 (by simp) g1.2.size rfl (by simp;omega) (by simp [maxLen];omega) λv1 nv2 w4 g3a g3b _=>?_
 have g3:Zk 40 w2 w4 nv2 (S.take j++[l[k]]):=⟨g3a,g1.step g3b (λ_ h=>h)⟩
 refine QO ?_;refine Z9 (Z0Z rfl (cE.up g3.2) rfl rfl hj) rfl ?_;refine W ?_;refine Z0 (ZZ (β:=Fct) rfl (by decide) rfl rfl g3 (((cE.slc hj (Xl _)).ext g3.2 (by simp) (λb hb=>.inr (g3.ob_le b hb).1))) (by simp;omega) (by simp [maxLen];omega)) rfl ?_;rintro nv3 w5 ⟨g4,g5,-⟩;refine QO ?_;refine QL (k+1,nv3) ⟨hlt,?_⟩ (Xp hlt (Xt k));have g6:=Zk.pre (hr.2.trans hT) g4;rw [aQ];simpa using g6;obtain rfl:k=l.length:=by omega
 rw [Xs] at hr;refine QO ?_;refine WR ?_;exact .mk hr
theorem Z7Z (c:Cas) (R:Z0o) (d:Dln) (dv:Value) (r:Nat) (w) (hs:SlV [] w R.rv c.ruls) (hd:SlV [] w dv d.reas) (hr:r<c.ruls.length) (hb:-1000000000<=d.due/\d.due<=1000000000/\-1000000000<=d.trig.day/\d.trig.day<=1000000000) :
 CC 55 #[.agg (Jc c R).toArray,.agg (dlC d dv).toArray,.I r] w λv w'=>∃ f:Fct,v=.tuple #[aG f,.B (Z3s c d r).2]/\((Z3s c d r).2=true->f=(Z3s c d r).1)/\Stp [] w w':=by
 have nZ:=hs.max;unfold Z3s;rw [show c.ruls.getD r crZ=c.ruls[r] by simp [hr]];refine cW3 59 Tryz.func55 ?_;refine W ?_;refine BX (Stp.refl [] w) λb3 w1 h3 e3 _ hS=>?_;replace e3:Blk w1 b3 37 (Jc c R):=e3;refine BX hS λb4 w2 h4 e4 hT hS=>?_;replace e4:Blk w2 b4 45 (dlC d dv):=e4;replace e3:=e3.up hT;have l3:=e3.lt;have l4:=e4.lt;refine W ?_;refine Z0 Z4 rfl ?_;rintro _ w3 ⟨b6,rfl,dS,e6,hT⟩;have n36:b3≠b6:=by omega
 have n46:b4≠b6:=by omega
 have g6:w.heap.size<=b6:=Xh hS.size dS;replace e3:=e3.up hT;replace e4:=e4.up hT;replace hS:=hS.trans hT;clear hT;replace e6:Blk w3 b6 40 (Z2.enc (default:Fct)):=e6;by_cases h2:d.stat=2
 case neg=>
  refine QO ?_;refine Z5 rfl ZdJ rfl ?_;refine SA (us:=Z2.enc (default:Fct)) e6 ?_;rintro _ w4 ⟨hT,e6⟩;replace hS:=hS.ow hT;refine W ?_;refine Zq rfl rfl rfl e6 rfl rfl ?_;exact .mk ⟨default,by rw [decide_eq_false (λh=>h2 h.1)],λh=>absurd (of_decide_eq_true h).1 h2,hS⟩
 refine QO ?_;refine Z9 (Zn (us:=Z2.enc d.trig) rfl rfl e4 rfl rfl) rfl ?_;refine Z0 Z4 rfl ?_;rintro _ w4 ⟨b8,rfl,dG,e8,hT⟩;refine SA (us:=Z2.enc d.trig) e8 ?_;rintro _ w5 ⟨an,e8⟩;replace hT:=hT.ow an;replace e3:=e3.up hT;replace e4:=e4.up hT;have l6:=e6.lt;replace e6:=e6.up hT;replace hS:=hS.trans hT;have n68:b6≠b8:=λh=>by subst h;exact absurd l6 (YaN.2 dG)
 clear hT an;refine W ?_;refine ZDr 23 [] [22] [(0,0),(1,1),(2,0),(3,1),(4,0),(5,0),(6,0),(7,1),(8,0),(9,1),(10,0),(11,1),(12,0),(13,0),(14,0),(15,1),(16,0),(17,1),(18,0),(19,1),(20,0),(21,2),(22,2)] (λw1 ae=>?_);replace e3:=e3.up ae;replace e4:=e4.up ae;replace e6:=e6.up ae;replace e8:=e8.up ae;replace hS:=hS.trans ae;clear ae;have bN:=hs.up hS;obtain ⟨cs,⟨kc,kd,rfl,-,-⟩,am⟩:=bN.cell hr;have hf:w1.cell? (Zx R.rv r 7 6)=some (str c.ruls[r].els):=am 6 _ rfl;repeat'(first|refine D1 ?_|omega|refine Jn rfl (by first|exact trivial|exact rfl) rfl rfl (by assumption) rfl ?_|refine Zl rfl rfl rfl rfl (λhg=>?_) (λhg=>?_)|(refine Zh rfl rfl rfl rfl (λhg=>?_) (λhg=>?_)<;>refine D1 ?_)|fail)
 refine Z4A rfl trivial (vs:=[(0,.I d.trig.entry),(1,str c.ruls[r].els),(2,.I (max d.due d.trig.day+1)),(3,.I d.trig.to_),(4,.I d.trig.by_),(5,.I d.trig.amt)]) rfl (ZaV _ _ _ _ _ _) rfl ?_;refine Z7 rfl trivial Z4 (λ_ _ h=>h.choose_spec.2.2.2) rfl ?_;rintro _ w6 ⟨b9,rfl,ee,e9,hT⟩;refine ZM rfl trivial (Zw (us:=Z2.enc (Z74 c.ruls[r].els d)) rfl rfl rfl rfl (Z2.one _) e9 rfl) rfl ?_;rintro _ w7 ⟨an,e9⟩;replace hT:=hT.ow an;have l6':=e6.lt;have n69:b6≠b9:=by omega
 replace e3:=e3.up hT;replace e4:=e4.up hT;replace e6:=e6.up hT;replace hS:=hS.trans hT;clear hT an bN am hf e8;refine D ?_;refine W ?_;replace e9:Blk w7 b9 40 (Z2.enc (Z74 c.ruls[r].els d)):=e9;have bF:(Z74 c.ruls[r].els d).kind=c.ruls[r].els/\(Z74 c.ruls[r].els d).day=max d.due d.trig.day+1:=⟨rfl,rfl⟩
 obtain ⟨v1,v2⟩:=bF;generalize Z74 c.ruls[r].els d=F at *;rw [<- v1,<- v2];clear v1 v2;refine Js (σ:=Unit) (λ_=>[(6,pQ b6),(7,.B (decide (d.stat=2/\F.kind≠[]/\F.day<=c.today)))]) (λ_ w'=>Stp [] w w'/\Blk w' b6 40 (Z2.enc F)) ?_ ?_
 . refine ZDr 13 ([b6]) [] [(0,1),(1,0),(2,1),(3,0),(4,0),(5,0),(6,1),(7,0),(8,1),(9,0),(10,0),(11,2),(12,0)] (λw1 ae=>?_)
   replace e3:=e3.up ae;replace e4:=e4.up ae;replace e6:=e6.up ae;replace e9:=e9.up ae;replace hS:=hS.trans ae;clear ae
   (refine QE ?_ ?_<;>intro hg)
   all_goals
    refine Z17 rfl trivial (Zw (us:=Z2.enc F) rfl rfl rfl rfl (Z2.one _) e6 rfl) (λ_ _ h=>h.1) ?_;rintro _ wz ⟨hT,e6⟩;refine D ?_;refine Z0E () ⟨rfl,?_,trivial⟩ ⟨hS.ow hT,e6⟩;show some (Value.bool _)=some (Value.bool _);congr 2
    first
     | (symm;exact decide_eq_false (λh=>by exact absurd h.2.1 (by assumption)))
     | (rw [decide_eq_decide];exact ⟨λh=>⟨by assumption,by assumption,h⟩,λh=>h.2.2⟩)
 rintro _ w8 ⟨hS,e6⟩;refine W ?_;refine Zq rfl rfl rfl e6 rfl rfl ?_;exact .mk ⟨F,rfl,λ_=>rfl,hS⟩
theorem Z5i (c:Cas) (K:List Fct):∀ (l:List DI) (N:List Fct),(l.foldl (Jr c) (K++N,N)).1=K++(l.foldl (Jr c) (K++N,N)).2
 | [],N=>rfl
 | p :: l, N => by
   rw [X5];unfold Jr;dsimp only;split;rw [XC];exact Z5i c K l _;exact Z5i c K l N
theorem Z7C (c:Cas):∀ k,(Zs c k).1=c.fcts++(Zs c k).2.2
 | 0=>(Xz _).symm
 | k + 1 => by
   have h:=Z5i c (Zs c k).1 (JE c (Zs c k).2.1) [];rw [Xz] at h;show ((JE c (Zs c k).2.1).foldl (Jr c) ((Zs c k).1,[])).1=c.fcts++((Zs c k).2.2++((JE c (Zs c k).2.1).foldl (Jr c) ((Zs c k).1,[])).2)
   rw [h,<- XC,<- Z7C c k]
def Z4a (c:Cas) (A:List Fct) (pre:List DI):List Fct:=(pre.foldl (Jr c) (c.fcts++A,[])).2
theorem ZjA (c:Cas) (A:List Fct) (pre:List DI) (p:DI):Z4a c A (pre++[p])=if (Z3s c p.1 p.2).2=true/\(Z3s c p.1 p.2).1∉c.fcts/\(Z3s c p.1 p.2).1∉A++Z4a c A pre then Z4a c A pre++[(Z3s c p.1 p.2).1] else Z4a c A pre:=by
 have h:=Z5i c (c.fcts++A) pre [];rw [Xz] at h;unfold Z4a;rw [XP];show (Jr c (pre.foldl (Jr c) (c.fcts++A,[])) p).2=_;generalize pre.foldl (Jr c) (c.fcts++A,[])=t at h ⊢;unfold Jr;dsimp only;rw [h];simp only [XC,Xd,not_or];split<;>rfl
theorem ZjB (c:Cas) (A:List Fct) (pre:List DI):(Z4a c A pre).length<=pre.length:=by
 have:=Z3R c pre (c.fcts++A,[]);simpa [Z4a] using this
structure FaJ (c:Cas) (A now:List Fct) (w0:World) (xv:Value) (N:List Fct) (av nv:Value) (W:World):Prop where
 ra:Row [] W w0.heap.size 40 av (A++N)
 rn:Row [] W w0.heap.size 40 nv N
 dj:∀ b∈ob av,b∉ob nv
 sx:SlV (ob av++ob nv) W xv now
 st:Stp [] w0 W
theorem FaJ.up {c:Cas} {A now:List Fct} {w0:World} {xv:Value} {N:List Fct} {av nv:Value} {W W':World} (h:FaJ c A now w0 xv N av nv W) (hT:Stp [] W W'):FaJ c A now w0 xv N av nv W':=⟨h.ra.up hT,h.rn.up hT,h.dj,h.sx.up hT,h.st.trans hT⟩
theorem Z6b (c:Cas) (R:Z0o) (w) (hv:Z2R w c R) (hs:Z7O c) (cV:∀ (g:Fct) (unl:Str) (due:Int),Z21 c.fcts g unl due=Z46 c.fcts g unl due) :
 CC 17 #[.agg (Jc c R).toArray] w λv w'=>Zk 40 w w' v (Z1j c):=by
 have fm:=hs.rl;refine cW1 76 Tryz.func17 ?_;refine W ?_;refine BX (Stp.refl [] w) λb1 w1 h1 e1 _ hS=>?_;replace e1:Blk w1 b1 37 (Jc c R):=e1;have l1:=e1.lt;replace hv:=hv.up hS;have kU:=hv.ff;refine W ?_
 refine Zm (σ:=Nat×Value×Value) (λq=>[(1,pQ b1),(3,q.2.1),(4,q.2.2),(5,.I (q.1:Int))]) (λq W=>q.1<=16/\Row [] W w1.heap.size 40 q.2.1 (Zs c q.1).2.2/\SlV (ob q.2.1) W q.2.2 (Zs c q.1).2.1/\Stp [] w1 W) (λq=>16 - q.1) (0,.N,R.fv) ⟨rfl,rfl,rfl,rfl,trivial⟩
  ⟨Xr _,Row.nil,kU,Stp.refl _ _⟩ ?_
 rintro ⟨dp,av0,xv⟩ w2 ⟨lc,iY,kM,eX⟩;dsimp only at lc iY kM eX ⊢;by_cases hd:dp<16;obtain ⟨q1,q2⟩:=Z2U hs lc;have lh:=(Z2V hs dp).1;have dh:Zs c (dp+1)=((Zs c (dp+1)).1,Z4a c (Zs c dp).2.2 (JE c (Zs c dp).2.1),(Zs c dp).2.2++Z4a c (Zs c dp).2.2 (JE c (Zs c dp).2.1)):=by
  unfold Z4a;rw [<- Z7C];rfl
 generalize (Zs c dp).2.1=now at *;generalize (Zs c dp).2.2=A at *;refine QO ?_
 refine Zm (σ:=Nat×Value×Value) (λq=>[(1,pQ b1),(3,q.2.1),(4,xv),(5,.I (dp:Int)),(6,q.2.2),(7,.I (q.1:Int))]) (λq W=>q.1<=now.length/\FaJ c A now w1 xv (Z4a c A (JE c (now.take q.1))) q.2.1 q.2.2 W) (λq=>now.length - q.1) (0,av0,.N) ⟨rfl,rfl,rfl,rfl,rfl,rfl,trivial⟩
  ⟨Xr _,by simpa [JE,Z4a] using iY,Row.nil,by simp [ob],kM.ext (Stp.refl [] _) (by simp) (λb hb=>(Xd.1 hb).elim .inl (λh=>absurd h (by simp [ob]))),eX⟩ ?_
 clear iY kM eX;rintro ⟨k,av1,nv1⟩ w3 ⟨hk,hJ⟩;dsimp only at hk hJ ⊢;have sx1:SlV [] w3 xv now:=hJ.sx.ext (Stp.refl [] _) (by simp) (by simp);have rI:=sx1.max;by_cases hlt:k<now.length;have fK:=lh _ (Xb hlt);have hstep:=Z5E c now k hlt;refine QO ?_
 refine Zm (σ:=Nat×Value×Value) (λq=>[(1,pQ b1),(3,q.2.1),(4,xv),(5,.I (dp:Int)),(6,q.2.2),(7,.I (k:Int)),(8,.I (q.1:Int))]) (λq W=>q.1<=c.ruls.length/\FaJ c A now w1 xv (Z4a c A (JE c (now.take k)++Z0P c now[k] q.1)) q.2.1 q.2.2 W) (λq=>c.ruls.length - q.1) (0,av1,nv1) ⟨rfl,rfl,rfl,rfl,rfl,rfl,rfl,trivial⟩
  ⟨Xr _,by simpa [Z0P] using hJ⟩ ?_
 clear hJ sx1;rintro ⟨i,av,nv⟩ w4 ⟨hi,hJ⟩;dsimp only at hi hJ ⊢;have f1:=e1.up hJ.st;have bu:=hv.up hJ.st;have cr:=bu.rr;by_cases cR:i<c.ruls.length
 . have ax:Z0P c now[k] (i+1)=Z0P c now[k] i++if (JQ c now[k] i).2=true then [((JQ c now[k] i).1,i)] else []:=rfl
   have gQ:(JE c (now.take k)++Z0P c now[k] i).length<=280000000004:=by
    have a1:=Z2w c (now.take k);have a2:=Z2v c now[k] i;have a4:=Yal (show (now.take k).length<=70000000000 by rw [Xx];omega) fm;rw [Xa];omega
   have qw:=ZjB c A (JE c (now.take k)++Z0P c now[k] i);have ns:=Z9C (r:=(i:Int)) hs.ok fK;have dl:=ZjA c A (JE c (now.take k)++Z0P c now[k] i);generalize kN:JE c (now.take k)++Z0P c now[k] i=pre at hJ gQ qw dl;have aQ:JE c (now.take k)++Z0P c now[k] (i+1)=pre++if (JQ c now[k] i).2=true then [((JQ c now[k] i).1,i)] else []:=by rw [ax,<- XC,kN]
   have sx2:SlV [] w4 xv now:=hJ.sx.ext (Stp.refl [] _) (by simp) (by simp);have iU:I64 (i:Int):=by unfold I64;omega
   refine QO ?_;refine ZDr 13 [] [11] [(0,1),(1,0),(2,0),(3,0),(4,1),(5,0),(6,13),(7,0),(8,0),(9,0),(10,2),(11,2),(12,0)] (λw5 ae=>?_);replace f1:=f1.up ae;replace sx2:=sx2.up ae;replace bu:=bu.up ae;replace hJ:=hJ.up ae;clear ae cr;refine D ?_;refine Z3Z (T:=45) (λW hT=>Z3 rfl (ZJ rfl rfl rfl) (Z3Y c R now[k] (i:Int) W (bu.up hT) hs.ok fK iU cV)) (λW rv h=>Z0h _ h.one) (λrv b9 w6 hT ee e9 eW=>?_);replace eW:=eW [] (by simp);replace f1:=f1.up hT;replace bu:=bu.up hT;replace hJ:=hJ.up hT;clear hT sx2;have cr:=bu.rr;generalize JQ c now[k] i=oo at *;obtain ⟨d,ok⟩:=oo;dsimp only at aQ ns e9 eW ⊢;refine D ?_;cases ok with
   | false=>
     refine QO ?_;exact QL (i+1,av,nv) ⟨cR,by rw [aQ,if_neg (by simp),Xz];exact hJ⟩ (by dsimp only;omega)
   | true=>
     obtain ⟨u1,u2,u3⟩:=ns rfl;have fy:=fK.day;replace aQ:JE c (now.take k)++Z0P c now[k] (i+1)=pre++[(d,i)]:=by rw [aQ,if_pos rfl]
     replace dl:=dl (d,i);rw [<- aQ] at dl;dsimp only at dl;refine QO ?_;refine CM (ZJ rfl rfl rfl) (Z7Z c R d rv i _ cr eW cR (by rw [u1];omega)) ?_;rintro _ w7 ⟨f,rfl,hf,hT⟩;replace f1:=f1.up hT;replace bu:=bu.up hT;replace hJ:=hJ.up hT;clear hT e9 eW cr u1 u2 u3;generalize Z3s c d i=fo at *;obtain ⟨f',g⟩:=fo;dsimp only at dl hf ⊢;refine QO ?_;refine Z0 Z4 rfl ?_;rintro _ w8 ⟨b11,rfl,iF,e11,hT⟩;refine SA (us:=Z2.enc f) e11 ?_;rintro _ w9 ⟨hU,e11⟩;have n11:b11∉ob av:=λh=>by have:=(hJ.ra.ob_le _ h).2;omega
     have m11:w1.heap.size<=b11:=Xh hJ.st.size iF;replace hT:=hT.ow hU;replace f1:=f1.up hT;replace bu:=bu.up hT;replace hJ:=hJ.up hT;clear hT hU;have gO:=bu.ff;cases g with
     | false=>
       refine QO ?_;exact QL (i+1,av,nv) ⟨cR,by rw [dl,if_neg (by simp)];exact hJ⟩ (by dsimp only;omega)
     | true=>
       obtain rfl:=hf rfl;refine QO ?_;refine CL (Z8G R.fv c.fcts f _ gO) ?_;rintro _ w10 ⟨rfl,hT⟩;replace f1:=f1.up hT;replace bu:=bu.up hT;replace hJ:=hJ.up hT;replace e11:=e11.up hT;clear hT gO;by_cases m1:f∈c.fcts;rw [decide_eq_true m1];refine QO ?_;exact QL (i+1,av,nv) ⟨cR,by rw [dl,if_neg (λh=>h.2.1 m1)];exact hJ⟩ (by dsimp only;omega);rw [decide_eq_false m1];have sQ:SlV [] w10 av (A++Z4a c A pre):=hJ.ra.slv (by simp);refine QO ?_;refine CL (Z8G av _ f _ sQ) ?_;rintro _ w11 ⟨rfl,hT⟩;replace hJ:=hJ.up hT;replace e11:=e11.up hT;clear hT sQ f1 bu;by_cases m2:f∈A++Z4a c A pre;rw [decide_eq_true m2];refine QO ?_;exact QL (i+1,av,nv) ⟨cR,by rw [dl,if_neg (λh=>h.2.2 m2)];exact hJ⟩ (by dsimp only;omega);rw [decide_eq_false m2];rw [if_pos ⟨rfl,m1,m2⟩] at dl;obtain ⟨j1,j2,j3,j4,j5⟩:=hJ;have z5:=j5.size;generalize Z4a c A pre=N at *;have hz:(A++N).length<=372000000004:=by rw [Xa];omega
       refine QO ?_;refine APG (X:=[]) (base:=w1.heap.size) f j1 (by simp) j5.size rfl (Xh (Xu _ (Nat.succ_le_succ hz)) (by decide)) (by simp only [maxLen];omega) λv1 av' w12 r1 hT aJ=>?_
       replace e11:=e11.ext hT n11;have y11:=e11.lt;have j3':∀ b∈ob av',b∉ob nv:=λb hb h=>(aJ b hb).elim (λg=>j3 b g h) (λg=>by have:=(j2.ob_le b h).2;omega)
       replace j2:=j2.keep hT j3;replace j3:=j3';have j4':SlV (ob av'++ob nv) w12 xv now:=j4.ext hT (λb hb=>by simp [hb]) (λb hb=>(Xd.1 hb).elim (λh=>(aJ b h).imp (λh=>by simp [h]) id) (λh=>.inl (by simp [h])));replace j5:=j5.own hT (λb hb=>.inr (j1.ob_le b hb).1);clear hT aJ j1 j4;refine QO ?_;refine APG (X:=[]) (base:=w1.heap.size) f j2 (by simp) j5.size rfl (Xh (Xu _ (Nat.succ_le_succ (show N.length<=372000000004 by omega))) (by decide)) (by simp only [maxLen];omega) λv2 nv' w13 r2 hT aJ=>?_
       refine QO ?_;refine QL (i+1,av',nv') ⟨cR,?_⟩ (by dsimp only;omega);rw [dl];refine ⟨by rw [<- XC];exact r1.keep hT (λb hb h=>j3 b h hb),r2,λb hb h=>?_,j4'.ext hT (λb hb=>by simp [hb]) (λb hb=>(Xd.1 hb).elim (λh=>.inl (by simp [h])) (λh=>(aJ b h).imp (λh=>by simp [h]) id)),j5.own hT (λb hb=>.inr (j2.ob_le b hb).1)⟩;rcases aJ b h with g|g
       exact j3 b hb g;have:=(r1.ob_le b hb).2;omega
 obtain rfl:i=c.ruls.length:=by omega
 refine QO ?_;exact QL (k+1,av,nv) ⟨hlt,by rw [hstep];exact hJ⟩ (by dsimp only;omega);obtain rfl:k=now.length:=by omega
 rw [Xs] at hJ;refine QO ?_;refine QL (dp+1,av1,nv1) ⟨hd,?_,?_,hJ.st⟩ (by dsimp only;omega);rw [dh];exact hJ.ra;rw [dh];exact Row.slvN (X:=ob av1) (JO hJ.rn) hJ.dj;obtain rfl:dp=16:=by omega
 have au:SlV [] w2 av0 (Zs c 16).2.2:=iY.slv (by simp);have ak:=(Z2U hs (Xl 16)).2;refine QO ?_;refine CM (ZS rfl) (Z5h av0 _ _ au (by omega)) ?_;rintro sv w3 hr;refine W ?_;refine WR ?_;exact .mk (Zk.pre (hS.trans eX) hr)
theorem Z6i (c:Cas) (R:Z0o) (w) (hv:Z2R w c R) (hs:Z7O c) (cV:∀ (g:Fct) (unl:Str) (due:Int),Z21 c.fcts g unl due=Z46 c.fcts g unl due) :
 CC 14 #[.agg (Jc c R).toArray] w λv w'=>Row [] w' w.heap.size 45 v (Z7k c)/\Stp [] w w':=by
 have fm:=hs.rl;have cX:=hs.fl;have lu:=Z7l hs;have dx:Z7k c=(JE c (Z0m (c.fcts++Z1j c))).map Prod.fst:=rfl;have lg:=Z7m hs;have nu:=λW h=>Z6b c R W h hs cV;generalize Z1j c=G at *;refine cW1 47 Tryz.func14 ?_;refine W ?_;refine BX (Stp.refl [] w) λb1 w1 h1 e1 _ hS=>?_;replace e1:Blk w1 b1 37 (Jc c R):=e1;have l1:=e1.lt;replace hv:=hv.up hS;have gO:=hv.ff;have wB:=hv;refine W ?_;refine Z0 (ZZ (β:=Fct) rfl (by decide) rfl rfl (Zk.nil (w:=w1)) (gO.ext (Stp.refl [] _) (by simp) (by simp [ob])) (Xh (Xu _ (show ([]:List Fct).length+c.fcts.length<=20 by simp only [Xi];omega)) (by decide)) (by simp only [Xi,maxLen];omega)) rfl ?_;rintro v3 w2 ⟨r3,-,-⟩;rw [XO] at r3;replace hv:=hv.up r3.2;replace e1:=e1.up r3.2;refine W ?_;refine CM (ZS rfl) (nu w2 (by assumption)) ?_;rintro v15 w3 r15;have nX:SlV (ob v3) w3 v15 G:=r15.slv (λb hb=>(r3.ob_le b hb).2);replace r3:=r3.up r15.2;replace e1:=e1.up r15.2;have z15:=r15.2;clear r15;refine W ?_;refine Z0 (ZZ (β:=Fct) rfl (by decide) rfl rfl r3 nX (Xh (Xu _ (show c.fcts.length+G.length<=92000000020 by omega)) (by decide)) (by simp only [maxLen];omega)) rfl ?_;rintro v16 w4 ⟨r16,hT,-⟩;replace e1:=e1.ext hT (λh=>by have:=(r3.ob_le b1 h).1;omega);clear hT r3 nX z15;have fG:SlV [] w4 v16 (c.fcts++G):=r16.slv (by simp);refine W ?_;refine CM (ZS rfl) (Z5h v16 _ _ fG (by rw [Xa];omega)) ?_;rintro lv w5 r17;have hL:SlV [] w5 lv (Z0m (c.fcts++G)):=r17.slv (by simp);replace e1:=e1.up r17.2;replace hv:=wB.up (r16.2.trans r17.2);have aD:=hS.trans (r16.2.trans r17.2);have sw:(Z0m (c.fcts++G)).length<=92000000020:=by rw [Z8F,Xa];omega
 have nY:∀ f∈Z0m (c.fcts++G),Z0l f:=λf hf=>by
  rw [(JV _).mem_iff] at hf;exact (Xd.1 hf).elim (hs.fo f) (lg f)
 rw [dx];generalize Z0m (c.fcts++G)=L at hL sw nY ⊢;clear dx nu fG r16 r17 gO hS lu lg;have xN:=hL.max;refine W ?_;refine LP (σ:=Nat×Value) (λq=>[(1,pQ b1),(3,lv),(4,q.2),(5,.I (q.1:Int))]) (λq W=>q.1<=L.length/\Row [] W w5.heap.size 45 q.2 ((JE c (L.take q.1)).map Prod.fst)/\Stp [] w5 W) (λq=>L.length - q.1) (0,.N) ⟨Xr _,Row.nil,Stp.refl _ _⟩ ?_;rintro ⟨k,ov1⟩ w6 ⟨hk,hr,hT⟩;dsimp only at hk hr ⊢;have fX:=hL.up hT;by_cases hlt:k<L.length;have fK:=nY _ (Xb hlt);have hstep:=Z5E c L k hlt;refine QO ?_;refine LP (σ:=Nat×Value) (λq=>[(1,pQ b1),(3,lv),(4,q.2),(5,.I (k:Int)),(6,.I (q.1:Int))]) (λq W=>q.1<=c.ruls.length/\Row [] W w5.heap.size 45 q.2 ((JE c (L.take k)++Z0P c L[k] q.1).map Prod.fst)/\Stp [] w5 W) (λq=>c.ruls.length - q.1) (0,ov1) ⟨Xr _,by simpa [Z0P] using hr,hT⟩ ?_;clear hr fX hT;rintro ⟨i,ov⟩ w7 ⟨hi,hr,hT⟩;dsimp only at hi hr ⊢;have f1:=e1.up hT;have bu:=hv.up hT;have iN:=hL.up hT;have cr:=bu.rr;by_cases cR:i<c.ruls.length
 . have ax:Z0P c L[k] (i+1)=Z0P c L[k] i++if (JQ c L[k] i).2=true then [((JQ c L[k] i).1,i)] else []:=rfl
   have gQ:(JE c (L.take k)++Z0P c L[k] i).length<=368000000100:=by
    have a1:=Z2w c (L.take k);have a2:=Z2v c L[k] i;have a4:=Yal (show (L.take k).length<=92000000020 by rw [Xx];omega) fm;rw [Xa];omega
   generalize kN:JE c (L.take k)++Z0P c L[k] i=pre at hr gQ;have aQ:JE c (L.take k)++Z0P c L[k] (i+1)=pre++if (JQ c L[k] i).2=true then [((JQ c L[k] i).1,i)] else []:=by rw [ax,<- XC,kN]
   have iU:I64 (i:Int):=by unfold I64;omega
   refine QO ?_;refine ZDr 13 [] [11] [(0,1),(1,0),(2,0),(3,0),(4,1),(5,0),(6,13),(7,0),(8,0),(9,0),(10,2),(11,2),(12,0)] (λw8 ae=>?_);replace f1:=f1.up ae;replace iN:=iN.up ae;replace bu:=bu.up ae;replace hr:=hr.up ae;replace hT:=hT.trans ae;clear ae cr;refine D ?_;refine Z3Z (T:=45) (λW hT=>Z3 rfl (ZJ rfl rfl rfl) (Z3Y c R L[k] (i:Int) W (bu.up hT) hs.ok fK iU cV)) (λW rv h=>Z0h _ h.one) (λrv b9 w9 hU ee e9 eW=>?_);replace eW:=eW (ob ov) (λb hb=>(hr.ob_le b hb).2);replace hr:=hr.up hU;replace hT:=hT.trans hU;clear hU iN bu f1;generalize JQ c L[k] i=oo at *;obtain ⟨d,ok⟩:=oo;dsimp only at aQ e9 eW ⊢;have fF:=eW.one;refine D ?_;cases ok with
   | false=>
     refine QO ?_;exact QL (i+1,ov) ⟨cR,by rw [aQ,if_neg (by simp),Xz];exact hr,hT⟩ (by dsimp only;omega)
   | true=>
     have zT:=hT.size;refine QO ?_;refine APG (X:=[]) (base:=w5.heap.size) (cs:=dlC d rv) d hr (by simp) zT ⟨rv,rfl,by rw [Xz];exact eW⟩ (by rw [Xy];exact Xh (Xu _ (show pre.length+1<=368000000101 by omega)) (by decide)) (by rw [Xy];simp only [maxLen];omega) λv1 nv' w10 r2 an aJ=>?_
     refine QO ?_;exact QL (i+1,nv') ⟨cR,by rw [aQ,if_pos rfl,XL];exact r2,hT.own an (λb hb=>.inr (hr.ob_le b hb).1)⟩ (by dsimp only;omega)
 obtain rfl:i=c.ruls.length:=by omega
 refine QO ?_;exact QL (k+1,ov) ⟨hlt,by rw [hstep];exact hr,hT⟩ (by dsimp only;omega);obtain rfl:k=L.length:=by omega
 rw [Xs] at hr;refine RT ?_;exact ⟨hr.lower aD.size,aD.trans hT⟩
theorem Zmt (lv:Value) (l:List Int) (er:Value) (m:Int) (w) (hs:SlV [] w lv l) (hl:∀ a∈l,I64 a) (hF:SlV [] w Zag Zj) (fP:Z0K w) (fQ:Z2d w) (dQ:w.cell? ⟨3,0,none⟩=some (.I m)) (fH:w.cell? ⟨5,0,none⟩=some er) (bF:er=.nilIface\/∃ te pe,er=.iface te pe) :
 CC 4 #[lv] w λr w'=>r=.B true/\Stp [] w w':=by
 refine cW1 21 Tryz.func4 ?_;refine W ?_;refine CL (Z7j lv l w hs hl fP fQ) ?_;rintro _ w1 ⟨c,R,rfl,hv,ay,hS⟩;have aR:=ay.cas;have cV:=ay.ans;clear ay;refine W ?_;refine Z0 Z4 rfl ?_;rintro _ w2 ⟨b3,rfl,dM,e3,hT⟩;refine Z8 (Zw (us:=Jc c R) rfl rfl rfl rfl hv.cell e3 rfl) ?_;rintro _ w3 ⟨hU,e3⟩;replace hT:=hT.ow hU;replace hv:=hv.up hT;replace hS:=hS.trans hT;clear hT hU;refine W ?_;refine ZDr 16 [] [] [(0,1),(2,1),(1,2),(3,2),(4,2),(5,0),(6,1),(8,1),(7,2),(9,2),(10,2),(11,0),(12,0),(13,2),(14,0),(15,0)] (λw1 ae=>?_);replace e3:=e3.up ae;replace hv:=hv.up ae;replace hS:=hS.trans ae;clear ae;refine D ?_;refine DC (Z7R c R _ hv aR) (λ_ _ h=>h.2) ?_;rintro dv w5 ⟨ny,hT⟩;have hd:SlV [] w5 dv (Z7k c):=Row.slv (X:=[]) ny (by simp);replace e3:=e3.up hT;replace hv:=hv.up hT;replace hS:=hS.trans hT;clear hT ny;refine D ?_;refine DC (Z6i c R _ hv aR cV) (λ_ _ h=>h.2) ?_;rintro dv2 w6 ⟨ny,hT⟩;have iB:SlV [] w6 dv2 (Z7k c):=Row.slv (X:=[]) ny (by simp);replace e3:=e3.up hT;replace hv:=hv.up hT;replace hd:=hd.up hT;replace hS:=hS.trans hT;clear hT ny;refine D ?_;refine DC (Z9O dv dv2 (Z7k c) _ hd iB) (λ_ _ h=>h.2) ?_;rintro _ w7 ⟨rfl,hT⟩;replace e3:=e3.up hT;replace hv:=hv.up hT;replace hS:=hS.trans hT;clear hT hd iB;refine QD ?_;refine DC (Z8w c R _ hv aR) (λ_ _ h=>h.2) ?_;rintro fv w8 hr;have hf:SlV [] w8 fv (Z1j c):=hr.slv (by simp);have hT:=hr.2;replace e3:=e3.up hT;replace hv:=hv.up hT;replace hS:=hS.trans hT;clear hT hr;repeat'(first|refine D1 ?_|omega|refine Zl rfl rfl rfl rfl (λhg=>?_) (λhg=>?_)|(refine Zh rfl rfl rfl rfl (λhg=>?_) (λhg=>?_)<;>refine D1 ?_)|fail)
 refine DC (Z6b c R _ hv aR cV) (λ_ _ h=>h.2) ?_;rintro fv2 w9 hr;have nJ:SlV [] w9 fv2 (Z1j c):=hr.slv (by simp);have hT:=hr.2;replace hf:=hf.up hT;replace hS:=hS.trans hT;clear hT hr e3 hv;repeat'(first|refine D1 ?_|omega|refine Zl rfl rfl rfl rfl (λhg=>?_) (λhg=>?_)|(refine Zh rfl rfl rfl rfl (λhg=>?_) (λhg=>?_)<;>refine D1 ?_)|fail)
 refine DC (Z7U fv fv2 _ _ _ hf nJ) (λ_ _ h=>h.2) ?_;rintro _ w10 ⟨rfl,hT⟩;replace hS:=hS.trans hT;clear hT hf nJ;rw [decide_eq_true rfl];refine QD ?_;refine Z7 rfl rfl (Z3 rfl Z7F (Z68 er m _ (hF.up hS) (fP.up hS) (fQ.up hS) (hS.cell (by simp) dQ) (hS.cell (by simp) fH) bF)) (λ_ _ h=>h.2) rfl ?_;rintro _ w11 ⟨rfl,hT⟩;replace hS:=hS.trans hT;clear hT;refine QD ?_;refine RT ?_;exact ⟨rfl,hS⟩
end Go.Proofs.YtgdicjnjhchooaaGreatDoor
namespace Go.Eng
open Go Go.RowKit Go.Proofs
def Z7D (P:Program) (w:World) (n:String) (d:DataW Unit):Prop:=∃ g t cs fuel p,P.globalNamed n=some g/\(P.globals[g]?).map (·.type)=some t/\w.var? P n=some cs/\DataW.trod (λ_=>()) P w 0 (λ_=>true) false fuel t cs.toList=some (d,p)
theorem Z3G {P:Program} {w}:∀ (l:List (String×DataW Unit)) (ps:List MemPlace),DataW.LaidVars P w l ps->∀ (n:String) (d:DataW Unit),(n,d)∈l->Z7D P w n d
 | [],_,_,n,d,h=>by simp at h
 | (n0, d0) :: r, ps, hl, n, d, h => by
   obtain ⟨g,t,cs,fuel,p,q,h1,h2,h3,h4,h5,_⟩:=hl;rcases Xc.1 h with h|h
   cases h;exact ⟨g,t,cs,fuel,p,h1,h2,h3,h4⟩;exact Z3G r q h5 n d h
theorem ZfO {P:Program} {w} {name:String} {g t e n:Nat} {k:IntKind} {zs:List Int} (h:Z7D P w name (Lib.tabData k zs)) (hg:P.globalNamed name=some g) (nD:(P.globals[g]?).map (·.type)=some t) (ht:P.underlying t=some (.array n e)) (he:P.underlying e=some (.int k)) (wC:P.cellsOf e=1) (qm:P.cellsOf t=n):Lib.TabIs P w name k zs:=by
 obtain ⟨g',t',cs,fuel,p,wD,sA,qW,hd⟩:=h;obtain rfl:=XU (hg.symm.trans wD);obtain rfl:=XU (nD.symm.trans sA);unfold Lib.TabIs;rw [qW,<- Lib.cells_of_tab ht he wC qm hd]
theorem Zdf {P:Program} {W:World} {name:String} {g t e n:Nat} {ss:List Str} (hg:P.globalNamed name=some g) (ht:(P.globals[g]?).map (·.type)=some t) (hu:P.underlying t=some (.array n e)) (he:P.underlying e=some .string) (hc:P.cellsOf e=1)
 (hn:ss.length=n) (h:Z7D P W name (.agg (ss.map (λs=>DataW.lit (.string s))))) :
 ∀ i (hi:i<ss.length),W.cell? ⟨g,i,none⟩=some (str ss[i]):=by
 obtain ⟨g0,t0,cs0,f0,p0,jw,lm,jB,dx⟩:=h;obtain rfl:=XU (hg.symm.trans jw);obtain rfl:=XU (ht.symm.trans lm);obtain ⟨xs,m1,rfl,fZ,ak,dJ,cZ⟩:=DataW.trod_array hu dx;intro i hi;have h1:=cZ i (by omega);rw [hc,Ybd] at h1;have sR:xs[i]?=some (xs[i]'(by omega)):=XR (by omega);rw [sR] at h1;obtain ⟨s,e1,e2,_⟩:=DataW.trod_string he h1;have e3:DataW.agg (ss.map (λs=>DataW.lit (.string s)))=(DataW.agg (xs.map (·.1)):DataW Unit):=congrArg Prod.fst fZ;simp only [DataW.agg.injEq] at e3;have e4:(DataW.lit (.string ss[i]):DataW Unit)=(xs[i]'(by omega)).1:=by
  have h2:=congrArg (λl=>l[i]?) e3;simp only [Yai,sR,XR hi,YaT,Xk] at h2;exact h2
 rw [e2] at e4;simp only [DataW.lit.injEq,Lit.string.injEq] at e4;have hv:=World.var?_cell jw jB i;rw [hv];have h5:cs0.toList[i]?=some (.string s):=by
  have h6:=congrArg (λl=>l[0]?) e1;simpa [Yaq,YbF] using h6
 rw [<- YaR,h5];congr 1;simp only [str,e4]
theorem ZbQ {P:Program} {W:World} {name:String} {g t:Nat} {ms:Array (String×TypeId)} {d:DataW Unit} (hg:P.globalNamed name=some g) (ht:(P.globals[g]?).map (·.type)=some t) (hu:P.underlying t=some (.interface ms)) (h:Z7D P W name d) :
 ∃ er,W.cell? ⟨g,0,none⟩=some er/\(er=.nilIface\/∃ te pe,er=.iface te pe):=by
 obtain ⟨g0,t0,cs0,f0,p0,jw,lm,jB,dx⟩:=h;obtain rfl:=XU (hg.symm.trans jw);obtain rfl:=XU (ht.symm.trans lm);have hv:=World.var?_cell jw jB 0;rw [hv];rw [<- YaR];generalize cs0.toList=cs at *;cases f0 with
 | zero=>simp [DataW.trod] at dx
 | succ f=>
   unfold DataW.trod at dx;rw [hu] at dx
   match cs,dx with
   | [],dx=>simp at dx
   | a :: b :: r,dx=>simp at dx
   | [x], dx=>
     refine ⟨x,rfl,?_⟩;cases x with
     | nilIface=>exact .inl rfl
     | iface u v=>exact .inr ⟨u,v,rfl⟩
     | _=>simp at dx
end Go.Eng
namespace Go.Proofs.YtgdicjnjhchooaaGreatDoor
open Go Go.Eng Go.RowKit Go.Proofs
end Go.Proofs.YtgdicjnjhchooaaGreatDoor
