/-
Contracts and plain laws, merged out of own texts.
-/
import Derived.Test.YtipfkbkkndacjaaGreatDoorM5
import Derived.WideLaws
set_option linter.unusedVariables false
set_option linter.unusedSimpArgs false
set_option maxHeartbeats 4000000
set_option maxRecDepth 20000
namespace Go.Eng
open Go
def Z8L (ops:Array Oper) (Lt:List Nat) (i q:Nat) (r1 r2:List (Nat×Nat)):List Nat->Array Bool->Bool
 | [],listed=>Region.ready .any ops listed == [i,q] && J6 ops Lt r1 (listed.setIfInBounds i true) && J6 ops Lt r2 (listed.setIfInBounds q true)
 | j :: p,listed=>(Region.ready .any ops listed).contains j && Region.free .any ops listed j && Z8L ops Lt i q r1 r2 p (listed.setIfInBounds j true)
structure WDF (P:Program) (n:Nat) (ops:Array Oper) (S:List Nat) (Lt:List Nat) (Q:Exit->Act->World->Prop) (i q:Nat) (r1 r2:List (Nat×Nat)) (p:List Nat) (e:Env) (w:World):Prop where
 h:∀ listed:Array Bool,Region.noSelect ops=true->Z8L ops Lt i q r1 r2 p listed=true->∀ a,Has n e a->Zal P .any ops S (λj=>Lt.contains j) (λa w=>Q .normal a w) (p.length+(wt r1+1)) listed a w
section
variable {P:Program} {n:Nat} {Q:Exit->Act->World->Prop} {e:Env} {w:World} {ops:Array Oper} {S:List Nat} {Lt:List Nat}
theorem ZgV {id:Nat} {l:List Oper} (m:Nat) (S:List Nat) (Lt:List Nat) (p:List Nat) (i q:Nat) (r1 r2:List (Nat×Nat)) (cF:l.length=m) (hm:P.follows .mixedOrders=true) (hs:Region.noSelect l.toArray=true) (hl:Nat.beq (p.length+(wt r1+1)) l.length=true)
 (hB:Z8L l.toArray Lt i q r1 r2 p (Array.replicate m false)=true)
 (h:∀ w',Stp [] w w'->WDF P n l.toArray S Lt Q i q r1 r2 p e w'):WC P n (.region id l.toArray true) Q e w:=by
 subst cF;refine ⟨λa ha=>wp_region_any hm ?_⟩;have h1:=(h { w with drawn:=w.drawn+1 } (Stp.drew [] w)).h _ hs hB a ha;have h2:=Z0W (Q:=Q) (λa w hz=>hz) _ _ _ _ h1;rw [XR hl] at h2;simpa using h2
theorem Z8M {i q j d:Nat} {r1 r2:List (Nat×Nat)} {p:List Nat} {op:Op} {ty:TypeId} {pos:String} {af:Array Edge} {gd:Option (Nat×Bool)} {v:Value} (hi:ops[j]?=some ⟨some d,op,ty,pos,af,gd⟩) (hg:Z08 ops e gd) (hp:∀ w',PR P n ⟨some d,op,ty,pos,af,gd⟩ e w' v) (aw:Nat.blt d n=true)
 (k:WDF P n ops S Lt Q i q r1 r2 p ((d,v) :: e) w):WDF P n ops S Lt Q i q r1 r2 (j :: p) e w:=by
 refine ⟨λlisted hs hB a ha=>?_⟩;simp only [Z8L,Xl] at hB;obtain ⟨⟨h1,h2⟩,h3⟩:=hB;have hk:=k.h _ hs h3 _ (ha.put (v:=v) aw);have e1:(j :: p).length+(wt r1+1)=p.length+(wt r1+1)+1:=by simp only [Xe];omega
 rw [e1];exact Z5o (oi:=⟨some d,op,ty,pos,af,gd⟩) (R:=λ_ _=>True) (λ_=>trivial) (λ_ _ _ _ _=>trivial) hi (λ_ _ _ _ _ _ _ _=>trivial) (Region.noSelect_spec hs) _ _ _ _ (Region.free_spec hi h2) (λ_=>trivial) (by simpa using h1) (.inl ⟨Jw ha hg,λw' _=>(hp w').h a ha⟩) hk
theorem ZkA {i q:Nat} {r1 r2:List (Nat×Nat)} (hw:Nat.beq (wt r1) (wt r2)=true) (h1:WD1 P n ops S Lt Q i r1 e w) (h2:WD1 P n ops S Lt Q q r2 e w):WDF P n ops S Lt Q i q r1 r2 [] e w:=by
 refine ⟨λlisted hs hB a ha=>?_⟩;simp only [Z8L,Xl,beq_iff_eq] at hB;obtain ⟨⟨hr,c1⟩,c2⟩:=hB;have e1:([]:List Nat).length+(wt r1+1)=wt r1+1:=by simp
 rw [e1];refine ⟨λh0=>absurd (hr ▸ h0) (by simp),λj hj=>?_⟩;rw [hr] at hj;have ga:j=i\/j=q:=by simpa using hj
 rcases ga with rfl|rfl
 exact h1.h _ hs c1 a ha;rw [XR hw];exact h2.h _ hs c2 a ha
theorem Z8N {i q j d:Nat} {r1 r2:List (Nat×Nat)} {p:List Nat} {x:Operand} {ty:TypeId} {pos:String} {af:Array Edge} {gd:Option (Nat×Bool)} {v:Value} (hi:ops[j]?=some ⟨some d,.move x,ty,pos,af,gd⟩) (hg:Z08 ops e gd) (hx:ev e x=some v) (aw:Nat.blt d n=true)
 (k:WDF P n ops S Lt Q i q r1 r2 p ((d,v) :: e) w):WDF P n ops S Lt Q i q r1 r2 (j :: p) e w:=Z8M hi hg (λ_=>ZZ hx) aw k
theorem ZcU {i q j d:Nat} {r1 r2:List (Nat×Nat)} {p:List Nat} {x y:Operand} {t u:TypeId} {a b:Int} {ty:TypeId} {pos:String} {af:Array Edge} {gd:Option (Nat×Bool)} (hi:ops[j]?=some ⟨some d,.binOp .rem t x y u,ty,pos,af,gd⟩) (hg:Z08 ops e gd) (hx:ev e x=some (.I a)) (hy:ev e y=some (.I b)) (h0:0<=a) (hb:0<b) (hr:I64 a) (aw:Nat.blt d n=true)
 (k:WDF P n ops S Lt Q i q r1 r2 p ((d,.I (a % b)) :: e) w):WDF P n ops S Lt Q i q r1 r2 (j :: p) e w:=Z8M hi hg (λ_=>ZeE hx hy h0 hb hr) aw k
theorem ZkB {i q j d:Nat} {r1 r2:List (Nat×Nat)} {p:List Nat} {x y:Operand} {t u:TypeId} {a b:Int} {ty:TypeId} {pos:String} {af:Array Edge} {gd:Option (Nat×Bool)} (hi:ops[j]?=some ⟨some d,.binOp .quo t x y u,ty,pos,af,gd⟩) (hg:Z08 ops e gd) (hx:ev e x=some (.I a)) (hy:ev e y=some (.I b)) (h0:0<=a) (hb:0<b) (hr:I64 a) (aw:Nat.blt d n=true)
 (k:WDF P n ops S Lt Q i q r1 r2 p ((d,.I (a / b)) :: e) w):WDF P n ops S Lt Q i q r1 r2 (j :: p) e w:=Z8M hi hg (λ_=>ZeF hx hy h0 hb hr) aw k
end
end Go.Eng
namespace Go.Proofs.YtipfkbkkndacjaaGreatDoor
open Go Go.Eng Go.RowKit Go.Proofs
theorem Z9X (z:Int) (w) (hz:I64 z):CC 28 #[.I z] w λr w'=>(∃ s∈Jm,r=str s)/\Stp [] w w':=by
 refine cW1 10 Tryz.func28 ?_;refine W ?_;refine Z1 (Z0 (vs:=[(0,str [99,108,97,105,109]),(1,str [97,110,115,119,101,114]),(2,str [109,111,116,105,111,110]),(3,str [111,114,100,101,114]),(4,str [97,112,112,101,97,108]),(5,str [108,97,112,115,101])]) rfl (bS6 _ _ _ _ _ _)) rfl ?_;rintro v w1 hN;have hv:SlV [] w1 v Jm:=hN.slv (by simp) rfl rfl (by decide);have hS:=Z5.stp hN;clear hN;refine W ?_;refine CM (Zg rfl rfl) (Jo z 6 _ (by decide) hz) ?_;rintro _ w2 ⟨rfl,hT⟩;have hr:=Je (if z<0 then -(z+1) else z) 6 (by decide);generalize (if z<0 then -(z+1) else z) % 6=y at hr ⊢;obtain ⟨q,rfl⟩:∃ q:Nat,y=(q:Int):=⟨y.toNat,by omega⟩
 replace hv:=hv.up hT;have cD:q<Jm.length:=by show q<6;omega
 refine RT ?_;exact ⟨⟨_,Xd cD,rfl⟩,hS.trans hT⟩
theorem Z1m (v:Value) (l:List Int) (k:Nat) (w) (hs:SlV [] w v l) :
 CC 33 #[v,.I (k:Int)] w λr w'=>SlV [] w r (l.drop k)/\w'=w:=by
 have aT:=hs.max;refine cW2 11 Tryz.func33 ?_;refine W ?_;have hm:(if (l.length:Int)<(k:Int) then (l.length:Int) else (k:Int))=((min k l.length:Nat):Int):=by split<;>omega
 refine Z9 (Z54 (l:=min k l.length) rfl hs rfl (by omega) (by omega)) rfl ?_;refine W ?_;refine WR ?_;have h:=hs.slc (l:=min k l.length) (r:=l.length) (by omega) (Xn _);rw [Xo] at h;have e:l.drop (min k l.length)=l.drop k:=by
  by_cases hk:k<=l.length;rw [Yae hk];rw [Ybz (by omega),YaZ,YaA (by omega)]
 rw [e] at h;exact .mk ⟨h,rfl⟩
structure Z9Y (f:Fct):Prop where
 kind:f.kind∈Jm
 day:739616<=f.day/\f.day<=739655
 by_:0<=f.by_/\f.by_<=2
 to_:0<=f.to_/\f.to_<=2
 amt:-20<=f.amt/\f.amt<=179
theorem Z9Y.ok {f:Fct} (h:Z9Y f):Z17 f:=⟨by have:=h.day;omega,by have:=h.by_;omega,by have:=h.to_;omega,by have:=h.amt;omega⟩
theorem Zns (f:Fct) (w):(Instr.build 45 #[(0,.I f.entry),(1,str f.kind),(2,.I f.day),(3,.I f.by_),(4,.I f.to_),(5,.I f.amt)]).run Tryz.prog w=.ok (aG f) w:=by kernel_rfl
theorem ZgW (en z:Int) (w) (hz:I64 z) :
 CC 26 #[.I en,.I z] w λr w'=>∃ f:Fct,r=aG f/\f.entry=en/\Z9Y f/\Stp [] w w':=by
 refine cW2 26 Tryz.func26 ?_;refine W ?_;refine Z1 Z2 rfl ?_;rintro _ w1 ⟨b4,rfl,bC,k4,hS⟩;refine W ?_;refine CM (Zg rfl rfl) (Jo z 100000000 _ (by decide) hz) ?_;rintro _ w2 ⟨rfl,hT⟩;have hr:=Je (if z<0 then -(z+1) else z) 100000000 (by decide);generalize (if z<0 then -(z+1) else z) % 100000000=y at hr ⊢;replace k4:=k4.up hT;replace hS:=hS.trans hT;clear hT;refine W ?_;refine CM (ZP rfl) (Z9X y _ (by unfold I64;omega)) ?_;rintro _ w3 ⟨⟨s,hs,rfl⟩,hT⟩;replace k4:=k4.up hT;replace hS:=hS.trans hT;clear hT;refine W ?_;have hf:Z9Y (⟨en,s,739616+y / 6 % 40,y / 240 % 3,y / 720 % 3,y / 2160 % 200 - 20⟩:Fct):=by
  refine ⟨hs,?_,?_,?_,?_⟩<;>dsimp only<;>omega
 refine Z8 rfl (Zns (⟨en,s,739616+y / 6 % 40,y / 240 % 3,y / 720 % 3,y / 2160 % 200 - 20⟩:Fct)) rfl ?_;generalize hg:(⟨en,s,739616+y / 6 % 40,y / 240 % 3,y / 720 % 3,y / 2160 % 200 - 20⟩:Fct)=f at hf;have he:f.entry=en:=by rw [<- hg]
 refine SA (us:=Z3.enc f) k4 ?_;rintro _ w4 ⟨hT,k4⟩;replace hS:=hS.ow hT;refine W ?_;refine Zk rfl rfl rfl k4 rfl ?_;exact .mk ⟨f,rfl,he,hf,hS⟩
structure Z9Z (x:Crr):Prop where
 ext:0<=x.extra/\x.extra<=1000
 tol:0<=x.tol/\x.tol<=1000
theorem Z7A (a b c d:Int) (w):(Instr.buildSlice 23 4 #[(0,.I a),(1,.I b),(2,.I c),(3,.I d)]).run Tryz.prog w=.ok (.slice (some ⟨w.heap.size,0,none⟩) 4 4) (w.alloc (.cells #[.I a,.I b,.I c,.I d] 3)):=by kernel_rfl
theorem Za0 (x:Crr) (w):(Instr.build 143 #[(0,.I x.extra),(1,.I x.tol)]).run Tryz.prog w=.ok (aG x) w:=by kernel_rfl
theorem Za1 (x:Crr) (w):(Instr.buildSlice 26 1 #[(0,aG x)]).run Tryz.prog w=.ok (.slice (some ⟨w.heap.size,0,none⟩) 1 1) (w.alloc (.cells (Z3.enc x).toArray 143)):=by kernel_rfl
theorem Zb6 (lv:Value) (l:List Int) (w) (hs:SlV [] w lv l) (hl:∀ a∈l,I64 a) :
 CC 34 #[lv] w λr w'=>∃ cs:List Crr,1<=cs.length/\cs.length<=4/\(∀ x∈cs,Z9Z x)/\ZI 143 w w' r cs:=by
 refine cW1 32 Tryz.func34 ?_;refine W ?_;refine LP (σ:=Nat×Value×List Crr) (λq=>[(0,lv),(3,q.2.1),(4,.I (q.1:Int))]) (λq W=>q.1<=4/\q.2.2.length=q.1/\(∀ x∈q.2.2,Z9Z x)/\Row [] W w.heap.size 143 q.2.1 q.2.2/\Stp [] w W) (λq=>4 - q.1) (0,.N,[]) ⟨by decide,rfl,by simp,Row.nil,Stp.refl _ _⟩ ?_;rintro ⟨j,ov,cs⟩ w1 ⟨hj,ai,aO,ab,hS⟩;dsimp only at hj ai aO ab ⊢;have bq:=λb hb=>ab.ob_le b hb;have cn:=hs.up hS;refine W ?_;refine CM (ZY rfl rfl rfl) (J1 [] _ l 0 4 _ (by decide) (by unfold I64;omega) cn hl) ?_;rintro _ w2 ⟨q,rfl,hq,hT⟩;replace ab:=ab.up hT;replace cn:=cn.up hT;replace hS:=hS.trans hT;clear hT;by_cases ag:(j:Int)<=(q:Int);refine QO ?_;refine CM (ZY rfl rfl rfl) (J1 [] _ l (1+(j:Int)) 1000 _ (by decide) (by unfold I64;omega) cn hl) ?_;rintro _ w3 ⟨x,rfl,hx,hT⟩;replace ab:=ab.up hT;replace cn:=cn.up hT;replace hS:=hS.trans hT;clear hT;refine W ?_;refine ZgV 16 (ob ov) [] [0,2,3,7,8,9] 1 6 [(4,0),(5,1),(6,2),(10,0),(11,1),(12,0),(13,2),(14,2),(15,0)] [(10,0),(11,1),(1,2),(4,0),(5,1),(12,0),(13,2),(14,2),(15,0)] rfl mixed (by kernel_rfl) (by kernel_rfl) (by kernel_rfl) (λw1 ae=>?_);replace ab:=ab.up ae;replace hS:=hS.trans ae;clear ae;have za:=hS.size;refine Z8N rfl trivial rfl rfl ?_;refine Z8N rfl trivial rfl rfl ?_;refine ZcU rfl trivial rfl rfl (by omega) (by decide) (by unfold I64;omega) rfl ?_;refine Z8N rfl trivial rfl rfl ?_;refine ZkB rfl trivial rfl rfl (by omega) (by decide) (by unfold I64;omega) rfl ?_;refine ZcU rfl trivial rfl rfl (by omega) (by decide) (by unfold I64;omega) rfl ?_;obtain ⟨k1,bF,gU⟩:∃ k:Nat,(x:Int) % 4=(k:Int)/\k<([0,3,5,2]:List Int).length:=⟨x % 4,by omega,YbD _ (by decide)⟩
 obtain ⟨k2,de,ip⟩:∃ k:Nat,(x:Int) / 4 % 4=(k:Int)/\k<([0,0,1,2]:List Int).length:=⟨x / 4 % 4,by omega,YbD _ (by decide)⟩
 rw [bF,de];apply ZkA rfl;refine Z4i rfl trivial (Z0 (vs:=[(0,.I 0),(1,.I 3),(2,.I 5),(3,.I 2)]) rfl (Z7A _ _ _ _)) (λ_ _ h=>(Z5.stp h).mn) rfl ?_;rintro va wa hN;have d5:SlV (ob ov) wa va ([0,3,5,2]:List Int):=hN.slv (λb hb=>(ab.ob_le b hb).2) rfl rfl (by simp [maxLen]);have hT:=Z5.stp hN;clear hN;replace ab:=ab.up hT;replace hS:=hS.trans hT;clear hT;refine QD ?_;refine Za rfl trivial (Z0 (vs:=[(0,.I 0),(1,.I 0),(2,.I 1),(3,.I 2)]) rfl (Z7A _ _ _ _)) (λ_ _ h=>(Z5.stp h).mn) rfl ?_;rintro vb wb hN;have gw:SlV (ob ov) wb vb ([0,0,1,2]:List Int):=hN.slv (λb hb=>(ab.ob_le b hb).2) rfl rfl (by simp [maxLen]);have hT:=Z5.stp hN;clear hN;replace ab:=ab.up hT;replace d5:=d5.up hT;replace hS:=hS.trans hT;clear hT;refine QD ?_;have hy:Z9Z (⟨([0,3,5,2]:List Int)[k1]'hq1,([0,0,1,2]:List Int)[k2]'hq2⟩:Crr):=by
  constructor;have:=Xd gU;dsimp only;generalize ([0,3,5,2]:List Int)[k1]'hq1=A at this ⊢;simp only [Xb,Xj,or_false] at this;omega;have:=Xd ip;dsimp only;generalize ([0,0,1,2]:List Int)[k2]'hq2=A at this ⊢;simp only [Xb,Xj,or_false] at this;omega
 refine JK rfl trivial (λw'=>Z0L rfl (λw=>Za0 (⟨([0,3,5,2]:List Int)[k1]'hq1,([0,0,1,2]:List Int)[k2]'hq2⟩:Crr) w)) rfl ?_;generalize (⟨([0,3,5,2]:List Int)[k1]'hq1,([0,0,1,2]:List Int)[k2]'hq2⟩:Crr)=y at hy ⊢;refine Za rfl trivial (Z0 rfl (Za1 y)) (λ_ _ h=>(Z5.stp h).mn) rfl ?_;rintro vs wd hN;have cJ:SlV (ob ov++[]) wd vs [y]:=hN.slv (λb hb=>(ab.ob_le b (by simpa using hb)).2) rfl (by simp) (by simp [maxLen]);have hT:=Z5.stp hN;clear hN;replace ab:=ab.up hT;replace hS:=hS.trans hT;clear hT;have zd:=hS.size;refine Za rfl trivial (J4 (α:=Crr) (X:=[]) (base:=w.heap.size) rfl (by decide) rfl rfl ab cJ (Xg (Xp _ (show cs.length+[y].length<=10 by simp;omega)) (by decide)) (by simp [maxLen];omega) (by omega)) (λ_ _ h=>h.2.1) rfl ?_;rintro ov' we ⟨dA,cA,ei⟩;refine QD ?_;refine W ?_;exact QL (j+1,ov',cs++[y]) ⟨by dsimp only;omega,by simp [ai],λz hz=>by
  rcases Xi.1 hz with h|h
  exact aO z h;simp only [Xk] at h;subst h;exact hy,dA,hS.own cA (λb hb=>.inr (ab.ob_le b hb).1)⟩ (by dsimp only;omega)
 refine Z4i rfl trivial (Z0 (vs:=[(0,.I 0),(1,.I 0),(2,.I 1),(3,.I 2)]) rfl (Z7A _ _ _ _)) (λ_ _ h=>(Z5.stp h).mn) rfl ?_;rintro vb wb hN;have gw:SlV (ob ov) wb vb ([0,0,1,2]:List Int):=hN.slv (λb hb=>(ab.ob_le b hb).2) rfl rfl (by simp [maxLen]);have hT:=Z5.stp hN;clear hN;replace ab:=ab.up hT;replace hS:=hS.trans hT;clear hT;refine QD ?_;refine Za rfl trivial (Z0 (vs:=[(0,.I 0),(1,.I 3),(2,.I 5),(3,.I 2)]) rfl (Z7A _ _ _ _)) (λ_ _ h=>(Z5.stp h).mn) rfl ?_;rintro va wa hN;have d5:SlV (ob ov) wa va ([0,3,5,2]:List Int):=hN.slv (λb hb=>(ab.ob_le b hb).2) rfl rfl (by simp [maxLen]);have hT:=Z5.stp hN;clear hN;replace ab:=ab.up hT;replace gw:=gw.up hT;replace hS:=hS.trans hT;clear hT;refine QD ?_;have hy:Z9Z (⟨([0,3,5,2]:List Int)[k1]'hq1,([0,0,1,2]:List Int)[k2]'hq2⟩:Crr):=by
  constructor;have:=Xd gU;dsimp only;generalize ([0,3,5,2]:List Int)[k1]'hq1=A at this ⊢;simp only [Xb,Xj,or_false] at this;omega;have:=Xd ip;dsimp only;generalize ([0,0,1,2]:List Int)[k2]'hq2=A at this ⊢;simp only [Xb,Xj,or_false] at this;omega
 refine JK rfl trivial (λw'=>Z0L rfl (λw=>Za0 (⟨([0,3,5,2]:List Int)[k1]'hq1,([0,0,1,2]:List Int)[k2]'hq2⟩:Crr) w)) rfl ?_;generalize (⟨([0,3,5,2]:List Int)[k1]'hq1,([0,0,1,2]:List Int)[k2]'hq2⟩:Crr)=y at hy ⊢;refine Za rfl trivial (Z0 rfl (Za1 y)) (λ_ _ h=>(Z5.stp h).mn) rfl ?_;rintro vs wd hN;have cJ:SlV (ob ov++[]) wd vs [y]:=hN.slv (λb hb=>(ab.ob_le b (by simpa using hb)).2) rfl (by simp) (by simp [maxLen]);have hT:=Z5.stp hN;clear hN;replace ab:=ab.up hT;replace hS:=hS.trans hT;clear hT;have zd:=hS.size;refine Za rfl trivial (J4 (α:=Crr) (X:=[]) (base:=w.heap.size) rfl (by decide) rfl rfl ab cJ (Xg (Xp _ (show cs.length+[y].length<=10 by simp;omega)) (by decide)) (by simp [maxLen];omega) (by omega)) (λ_ _ h=>h.2.1) rfl ?_;rintro ov' we ⟨dA,cA,ei⟩;refine QD ?_;refine W ?_;exact QL (j+1,ov',cs++[y]) ⟨by dsimp only;omega,by simp [ai],λz hz=>by
  rcases Xi.1 hz with h|h
  exact aO z h;simp only [Xk] at h;subst h;exact hy,dA,hS.own cA (λb hb=>.inr (ab.ob_le b hb).1)⟩ (by dsimp only;omega)
 . refine QO ?_
   all_goals
    refine RU ?_;exact ⟨cs,by omega,by omega,aO,ab,hS⟩
theorem ZgX (x:Spn) (w):(Instr.buildSlice 27 1 #[(0,aG x)]).run Tryz.prog w=.ok (.slice (some ⟨w.heap.size,0,none⟩) 1 1) (w.alloc (.cells (Z3.enc x).toArray 75)):=by kernel_rfl
structure Zfm (x:Spn):Prop where
 lo:0<=x.1
 le:x.1<=x.2
 hi:x.2<=3652058
theorem ZcV (lv:Value) (l:List Int) (w) (hs:SlV [] w lv l) (hl:∀ a∈l,I64 a) (h4:l.length<=4) :
 CC 38 #[lv,.I 739616] w λr w'=>∃ xs:List Spn,xs.length<=2/\(∀ x∈xs,Zfm x)/\ZI 75 w w' r xs:=by
 refine cW2 44 Tryz.func38 ?_;refine W ?_;refine LP (σ:=Nat×Value×List Spn) (λq=>[(0,lv),(1,.I 739616),(5,q.2.1),(6,.I ((2 * q.1:Nat):Int))]) (λq W=>q.1<=2/\q.2.2.length=q.1/\(∀ x∈q.2.2,Zfm x)/\Row [] W w.heap.size 75 q.2.1 q.2.2/\Stp [] w W) (λq=>4 - q.1) (0,.N,[]) ⟨by decide,rfl,by simp,Row.nil,Stp.refl _ _⟩ ?_;rintro ⟨j,ov,xs⟩ w1 ⟨hj,ai,aO,ab,hS⟩;dsimp only at hj ai aO ab ⊢;have bq:=λb hb=>ab.ob_le b hb;have cn:=hs.up hS;by_cases ag:2 * j+1<l.length;have rD:2 * j<l.length:=by omega
 refine QO ?_;have lC:=hl _ (Xd rD);have qS:=hl _ (Xd ag);refine CM (Zg rfl rfl) (Jo (l[2 * j]'hlt0) 80 _ (by decide) lC) ?_;rintro _ w2 ⟨rfl,hT⟩;have hr:=Je (if l[2 * j]<0 then -(l[2 * j]+1) else l[2 * j]) 80 (by decide);generalize (if l[2 * j]<0 then -(l[2 * j]+1) else l[2 * j]) % 80=y at hr ⊢;replace ab:=ab.up hT;replace cn:=cn.up hT;replace hS:=hS.trans hT;clear hT;refine QO ?_;have yb:2 * j+1<l.length:=ag;refine CM (Zg rfl rfl) (Jo (l[2 * j+1]'hlt) 15 _ (by decide) qS) ?_;rintro _ w3 ⟨rfl,hT⟩;have dh:=Je (if l[2 * j+1]<0 then -(l[2 * j+1]+1) else l[2 * j+1]) 15 (by decide);generalize (if l[2 * j+1]<0 then -(l[2 * j+1]+1) else l[2 * j+1]) % 15=z at dh ⊢;replace ab:=ab.up hT;replace cn:=cn.up hT;replace hS:=hS.trans hT;clear hT;refine QO ?_;obtain ⟨f0,rE⟩:∃ f0:Int,max 0 (min 3652058 (739616 - 20+y))=f0:=⟨_,rfl⟩
 obtain ⟨f1,qn⟩:∃ f1:Int,min 3652058 (f0+z)=f1:=⟨_,rfl⟩
 rw [rE,qn];have ay:Zfm (f0,f1):=by constructor<;>dsimp only<;>omega
 refine Z8 (vs:=[(0,.I f0),(1,.I f1)]) rfl (Z8H _ _) rfl ?_;have zS:=hS.size;refine APG ((f0,f1):Spn) ab (by simp) (by omega) rfl (Xg (Xp _ (show xs.length+1<=10 by omega)) (by decide)) (by simp [maxLen];omega) (λv1 ov' w4 dA cA ei=>?_);refine QO ?_;exact Zx (j+1,ov',xs++[(f0,f1)]) ⟨rfl,rfl,rfl,rfl,trivial⟩ ⟨by dsimp only;omega,by simp [ai],λz hz=>by
  rcases Xi.1 hz with h|h
  exact aO z h;simp only [Xk] at h;subst h;exact ay,dA,hS.own cA (λb hb=>.inr (bq b hb).1)⟩ (by dsimp only;omega)
 . refine QO ?_
   all_goals
    refine RU ?_;exact ⟨xs,by omega,aO,ab,hS⟩
structure Zfn (n:Nat) (r:Rtn):Prop where
 crr:0<=r.crr/\r.crr<n
 lo:0<=r.lo/\r.lo<=3652058
 hi:0<=r.hi/\r.hi<=3652058
 kind:(r.kind=1/\r.lo<=r.hi)\/(r.kind=2/\r.lo=0)\/(r.kind=3/\r.lo=0/\r.hi=0)
theorem Zfo (w):(Instr.buildSlice 23 8 #[(0,.I 1),(1,.I 1),(2,.I 1),(3,.I 1),(4,.I 2),(5,.I 2),(6,.I 3),(7,.I 1)]).run Tryz.prog w=.ok (.slice (some ⟨w.heap.size,0,none⟩) 8 8) (w.alloc (.cells #[.I 1,.I 1,.I 1,.I 1,.I 2,.I 2,.I 3,.I 1] 3)):=by kernel_rfl
theorem Zfp (a k:Int) (w):(Instr.build 80 #[(0,.I a),(1,.I k)]).run Tryz.prog w=.ok (aG (⟨a,k,0,0⟩:Rtn)) w:=by kernel_rfl
def K8:List Int:=[1,1,1,1,2,2,3,1]
theorem Zt1 {k:Nat} (h:k<K8.length):K8[k]=1\/K8[k]=2\/K8[k]=3:=by
 have:=Xd h;generalize K8[k]=z at this ⊢;simp only [K8,Xb,Xj,or_false] at this;omega
theorem ZcW (lv cv:Value) (l:List Int) (cs:List Crr) (day:Int) (w) (hs:SlV [] w lv l) (hl:∀ a∈l,I64 a) (h3:l.length<=3) (ca:SlV [] w cv cs) (hc:1<=cs.length/\cs.length<=4) (hd:739616<=day/\day<=739655) :
 CC 39 #[lv,cv,.I day] w λr w'=>∃ xs:List Rtn,xs.length<=3/\(∀ x∈xs,Zfn cs.length x)/\ZI 80 w w' r xs:=by
 refine cW3 69 Tryz.func39 ?_;refine W ?_;refine LP (σ:=Nat×Value×List Rtn) (λq=>[(0,lv),(1,cv),(2,.I day),(7,q.2.1),(8,.I (q.1:Int))]) (λq W=>q.1<=3/\q.2.2.length=q.1/\(∀ x∈q.2.2,Zfn cs.length x)/\Row [] W w.heap.size 80 q.2.1 q.2.2/\Stp [] w W) (λq=>4 - q.1) (0,.N,[]) ⟨by decide,rfl,by simp,Row.nil,Stp.refl _ _⟩ ?_;rintro ⟨j,ov,xs⟩ w1 ⟨hj,ai,aO,ab,hS⟩;dsimp only at hj ai aO ab ⊢;have bq:=λb hb=>ab.ob_le b hb;have cn:=hs.up hS;have bY:=ca.up hS;by_cases ag:j<l.length;refine QO ?_;have lC:=hl _ (Xd ag);refine CM (Zg rfl rfl) (Jo (l[j]'hlt) 1000000 _ (by decide) lC) ?_;rintro _ w2 ⟨rfl,hT⟩;have hr:=Je (if l[j]<0 then -(l[j]+1) else l[j]) 1000000 (by decide);generalize (if l[j]<0 then -(l[j]+1) else l[j]) % 1000000=y at hr ⊢;replace ab:=ab.up hT;replace bY:=bY.up hT;replace hS:=hS.trans hT;clear hT cn;refine W ?_;have zS:=hS.size
 refine JJ (σ:=Nat×Int×Int) (λq=>[(0,lv),(1,cv),(2,.I day),(7,ov),(8,.I (j:Int)),(9,.I y),(10,.pointer (some ⟨q.1,0,none⟩))])
  (λq w'=>w2.heap.size<=q.1/\Stp [] w2 w'/\(0<=q.2.1/\q.2.1<cs.length)/\(q.2.2=1\/q.2.2=2\/q.2.2=3)/\Blk w' q.1 80 (Z3.enc (⟨q.2.1,q.2.2,0,0⟩:Rtn))) ?_ ?_
 refine ZDr 14 [] [13] [(0,0),(1,0),(2,0),(3,0),(4,0),(6,0),(7,0),(8,0),(5,15),(9,0),(10,1),(11,0),(12,2),(13,2)] (λw1 ae=>?_);have hB:=ae;have iC:=bY.up ae;clear ae;obtain ⟨k1,bF,gU⟩:∃ k:Nat,y / 4 % 8=(k:Int)/\k<K8.length:=⟨(y / 4 % 8).toNat,by omega,by simp only [K8,Xe,Xf];omega⟩
 obtain ⟨a0,rF⟩:∃ a0:Int,y % max 1 (cs.length:Int)=a0:=⟨_,rfl⟩
 have m8:0<=a0/\a0<cs.length:=by
  have h1:=Ya3 y (show max 1 (cs.length:Int)≠0 by omega);have h2:=YaR y (show 0<max 1 (cs.length:Int) by omega);omega
 have hK:=Zt1 gU;refine QD ?_;rw [bF,rF];apply ZiA rfl;refine Z4i rfl trivial (Z0 rfl Zfo) (λ_ _ h=>Z5.stp h) rfl ?_;rintro va wa hN;have d5:SlV [] wa va K8:=hN.slv (by simp) rfl rfl (by simp [maxLen,K8]);have hT:=Z5.stp hN;clear hN;replace hB:=hB.trans hT;clear hT;refine QD ?_;refine JK rfl trivial (λw'=>Z0L rfl (λw=>Zfp a0 (K8[k1]'hq1) w)) rfl ?_;focus repeat'(first|refine D1 ?_|omega|refine Zy rfl rfl rfl rfl (λhg=>?_) (λhg=>?_)|(refine Zq rfl rfl rfl rfl (λhg=>?_) (λhg=>?_)<;>refine D1 ?_)|fail)
 have zB:=hB.size;refine Za rfl trivial Z2 (λ_ _ h=>h.choose_spec.2.2.2) rfl ?_;rintro _ wb ⟨b,rfl,hb,e3,hT⟩;have gb:w2.heap.size<=b:=by omega
 replace hB:=hB.trans hT;replace d5:=d5.up hT;clear hT;focus repeat'(first|refine D1 ?_|omega|refine Zy rfl rfl rfl rfl (λhg=>?_) (λhg=>?_)|(refine Zq rfl rfl rfl rfl (λhg=>?_) (λhg=>?_)<;>refine D1 ?_)|fail)
 refine JA rfl trivial (Zb (us:=Z3.enc (⟨a0,K8[k1]'hq1,0,0⟩:Rtn)) rfl rfl rfl rfl (Z3.one _) e3 rfl) rfl ?_;rintro _ wc ⟨aq,e3⟩;refine QD ?_;exact QT (b,a0,K8[k1]'hq1) ⟨gb,hB.ow aq,m8,hK,e3⟩;have zB:=hB.size;refine Z4i rfl trivial Z2 (λ_ _ h=>h.choose_spec.2.2.2) rfl ?_;rintro _ wb ⟨b,rfl,hb,e3,hT⟩;have gb:w2.heap.size<=b:=by omega
 replace hB:=hB.trans hT;clear hT;focus repeat'(first|refine D1 ?_|omega|refine Zy rfl rfl rfl rfl (λhg=>?_) (λhg=>?_)|(refine Zq rfl rfl rfl rfl (λhg=>?_) (λhg=>?_)<;>refine D1 ?_)|fail)
 refine Za rfl trivial (Z0 rfl Zfo) (λ_ _ h=>Z5.stp h) rfl ?_;rintro va wa hN;have d5:SlV [] wa va K8:=hN.slv (by simp) rfl rfl (by simp [maxLen,K8]);have hT:=Z5.stp hN;clear hN;replace hB:=hB.trans hT;replace e3:=e3.up hT;clear hT;refine QD ?_;refine JK rfl trivial (λw'=>Z0L rfl (λw=>Zfp a0 (K8[k1]'hq1) w)) rfl ?_;focus repeat'(first|refine D1 ?_|omega|refine Zy rfl rfl rfl rfl (λhg=>?_) (λhg=>?_)|(refine Zq rfl rfl rfl rfl (λhg=>?_) (λhg=>?_)<;>refine D1 ?_)|fail)
 refine JA rfl trivial (Zb (us:=Z3.enc (⟨a0,K8[k1]'hq1,0,0⟩:Rtn)) rfl rfl rfl rfl (Z3.one _) e3 rfl) rfl ?_;rintro _ wc ⟨aq,e3⟩;refine QD ?_;exact QT (b,a0,K8[k1]'hq1) ⟨gb,hB.ow aq,m8,hK,e3⟩;rintro ⟨b,a,k⟩ w3 ⟨hb,hT,ha,hk,e3⟩;dsimp only at hb ha hk e3 ⊢;rcases hk with rfl|rfl|rfl
 refine QO ?_;have lc:0<=(max 0 (min 3652058 (day - 3+y / 32 % 40)))/\(max 0 (min 3652058 (day - 3+y / 32 % 40)))<=3652058:=by omega
 generalize (max 0 (min 3652058 (day - 3+y / 32 % 40)))=f0 at lc ⊢;refine Z4 (Zc (u:=.I f0) rfl rfl rfl rfl e3 (show (2:Nat)<4 by decide)) ?_;rintro _ w4 ⟨aq,e3⟩;replace e3:Blk w4 b 80 (Z3.enc (⟨a,1,f0,0⟩:Rtn)):=e3;replace hT:=hT.ow aq;clear aq;refine QO ?_;have rG:f0<=min 3652058 (f0+y / 1280 % 5)/\min 3652058 (f0+y / 1280 % 5)<=3652058:=by omega
 generalize min 3652058 (f0+y / 1280 % 5)=f1 at rG ⊢;refine Z4 (Zc (u:=.I f1) rfl rfl rfl rfl e3 (show (3:Nat)<4 by decide)) ?_;rintro _ w5 ⟨aq,e3⟩;replace e3:Blk w5 b 80 (Z3.enc (⟨a,1,f0,f1⟩:Rtn)):=e3;replace hT:=hT.ow aq;clear aq;have z4:=hT.size;have dy:=ab.up hT;have aI:=hS.trans hT;have zS4:=aI.size;refine QO ?_;refine APG (⟨a,1,f0,f1⟩:Rtn) dy (by simp) (by omega) rfl (Xg (Xp _ (show xs.length+1<=10 by omega)) (by decide)) (by simp [maxLen];omega) (λv1 ov' w4 dA cA ei=>?_);refine QO ?_;exact QL (j+1,ov',xs++[⟨a,1,f0,f1⟩]) ⟨by dsimp only;omega,by simp [ai],λz hz=>by
  rcases Xi.1 hz with h|h
  exact aO z h;simp only [Xk] at h;subst h;constructor<;>dsimp only<;>omega,dA,aI.own cA (λb hb=>.inr (dy.ob_le b hb).1)⟩ (by dsimp only;omega)
 refine QO ?_;have lc:0<=(max 0 (min 3652058 (day - 3+y / 32 % 40)))/\(max 0 (min 3652058 (day - 3+y / 32 % 40)))<=3652058:=by omega
 generalize (max 0 (min 3652058 (day - 3+y / 32 % 40)))=f0 at lc ⊢;refine Z4 (Zc (u:=.I f0) rfl rfl rfl rfl e3 (show (3:Nat)<4 by decide)) ?_;rintro _ w4 ⟨aq,e3⟩;replace e3:Blk w4 b 80 (Z3.enc (⟨a,2,0,f0⟩:Rtn)):=e3;replace hT:=hT.ow aq;clear aq;have z4:=hT.size;have dy:=ab.up hT;have aI:=hS.trans hT;have zS4:=aI.size;refine QO ?_;refine APG (⟨a,2,0,f0⟩:Rtn) dy (by simp) (by omega) rfl (Xg (Xp _ (show xs.length+1<=10 by omega)) (by decide)) (by simp [maxLen];omega) (λv1 ov' w4 dA cA ei=>?_);refine QO ?_;exact QL (j+1,ov',xs++[⟨a,2,0,f0⟩]) ⟨by dsimp only;omega,by simp [ai],λz hz=>by
  rcases Xi.1 hz with h|h
  exact aO z h;simp only [Xk] at h;subst h;constructor<;>dsimp only<;>omega,dA,aI.own cA (λb hb=>.inr (dy.ob_le b hb).1)⟩ (by dsimp only;omega)
 have z4:=hT.size;have dy:=ab.up hT;have aI:=hS.trans hT;have zS4:=aI.size;refine QO ?_;refine APG (⟨a,3,0,0⟩:Rtn) dy (by simp) (by omega) rfl (Xg (Xp _ (show xs.length+1<=10 by omega)) (by decide)) (by simp [maxLen];omega) (λv1 ov' w4 dA cA ei=>?_);refine QO ?_;exact QL (j+1,ov',xs++[⟨a,3,0,0⟩]) ⟨by dsimp only;omega,by simp [ai],λz hz=>by
  rcases Xi.1 hz with h|h
  exact aO z h;simp only [Xk] at h;subst h;constructor<;>dsimp only<;>omega,dA,aI.own cA (λb hb=>.inr (dy.ob_le b hb).1)⟩ (by dsimp only;omega)
 . refine QO ?_
   all_goals
    refine RU ?_;exact ⟨xs,by omega,aO,ab,hS⟩
theorem Z3n (z:Int) (m:Int) (w) (hm:0<m) (hz:I64 z):CC 102 #[.I z,.I m] w λr w'=>r=.I ((if z<0 then -(z+1) else z) % m)/\Stp [] w w':=by
 unfold I64 at hz;refine cW2 13 Tryz.func102 ?_;by_cases h:z<0;refine RT ?_;exact ⟨by rw [if_pos h],Stp.refl _ _⟩;refine RT ?_;exact ⟨by rw [if_neg h],Stp.refl _ _⟩
theorem Zej (X:List Nat) (v:Value) (l:List Int) (i m:Int) (w) (hm:0<m) (hi:I64 i) (hs:SlV X w v l) (hl:∀ a∈l,I64 a):CC 101 #[v,.I i,.I m] w λr w'=>∃ q:Nat,r=.I (q:Int)/\(q:Int)<m/\Stp [] w w':=by
 unfold I64 at hi;have aT:=hs.max;refine cW3 21 Tryz.func101 ?_;refine W ?_;by_cases iX:0<=i/\i<l.length;obtain ⟨h0,h1⟩:=iX;obtain ⟨k,rfl⟩:∃ k:Nat,i=(k:Int):=⟨i.toNat,by omega⟩
 have hk:k<l.length:=by omega
 refine QO ?_;refine CL (Z3n _ m _ hm (hl _ (Xd hk))) ?_;rintro _ w2 ⟨rfl,hS⟩;refine W ?_;refine WR ?_;have:=Je (if l[k]<0 then -(l[k]+1) else l[k]) m hm;exact .mk ⟨_,by rw [Yax this.1],by rw [Yax this.1];exact this.2,hS⟩
 . repeat'(first|refine W1 ?_|omega|refine VG ?_ ?_<;>intro hg|refine VC ?_ ?_<;>intro hc)
   all_goals first
    | (refine RU ?_
       exact ⟨0,rfl,by simpa using hm,Stp.refl _ _⟩)
theorem Znt (a:Int) (w):(Instr.build 33 #[(0,.I a)]).run Tryz.prog w=.ok (.agg #[.I a,.N]) w:=by kernel_rfl
theorem Znu (a b:Int) (w):(Instr.build 141 #[(0,.I a),(1,.I b)]).run Tryz.prog w=.ok (agg ((a,b):Spn)) w:=by kernel_rfl
theorem ZkC (d:Spn) (w):(Instr.buildSlice 31 1 #[(0,agg d)]).run Tryz.prog w=.ok (.slice (some ⟨w.heap.size,0,none⟩) 1 1) (w.alloc (.cells (Z3.enc d).toArray 141)):=by kernel_rfl
def ZcX (x:Spn):Prop:=0<=x.1/\x.1<=2000000
theorem Z8O (v:Value) (l:List Int) (w) (hs:SlV [] w v l) (hl:∀ a∈l,I64 a) :
 CC 64 #[v] w λr w'=>∃ (o:Int) (zs:Value) (xs:List Spn),r=.agg #[.I o,zs]/\(∀ x∈xs,ZcX x)/\xs.length<=100/\ZI 141 w w' zs xs:=by
 have aT:=hs.max;refine cW1 45 Tryz.func64 ?_;refine W ?_;refine Z1 Z2 rfl ?_;rintro _ w1 ⟨b2,rfl,cr,k2,hS⟩;refine W ?_;refine CM (ZY rfl rfl rfl) (Zej [] _ l 0 1801 _ (by decide) (by unfold I64;omega) (hs.up hS) hl) ?_;rintro _ w2 ⟨q0,rfl,rF,ah⟩;replace k2:=k2.up ah;replace hS:=hS.trans ah;clear ah;refine W ?_;refine Z8 (vs:=[(0,.I ((q0:Int) - 900))]) rfl (Znt _) rfl ?_;have k2lt:=k2.lt;refine Z1 Z2 rfl ?_;rintro _ w3 ⟨b3,rfl,dV,k3,am⟩;replace k2:=k2.up am;replace hS:=hS.trans am;clear am;refine W ?_;have n23:b2≠b3:=by omega
 refine SB (us:=[.I ((q0:Int) - 900),.N]) (by simp [Value.oneCell']) k3 ?_;rintro _ w4 ⟨aI,k3⟩;replace k2:=k2.ext aI (by simpa using n23);replace hS:=hS.ow aI;clear aI;have bI:=hS.size;have k3lt:=k3.lt;have k2lt':=k2.lt;refine W ?_;refine Z0o (σ:=Value×List Spn) (λq=>[(2,pQ b2),(3,pQ b3)]) (λq w'=>Blk w' b2 33 (.agg #[.I 0,.N]:Value).cells.toList/\Blk w' b3 33 [.I ((q0:Int) - 900),q.1]/\Row [] w' w4.heap.size 141 q.1 q.2/\q.2.length<=42/\(∀ x∈q.2,ZcX x)/\Stp [b3] w4 w') ?_ ?_
 refine Zt (σ:=Nat×Int×Value×List Spn) (λq=>[(0,v),(2,pQ b2),(3,pQ b3),(4,.I q.2.1),(5,.I (q.1:Int))])
  (λq w'=>(1<=q.1/\q.1<=43/\0<=q.2.1/\q.2.1<=25000 * q.1/\q.2.2.2.length<q.1)/\Blk w' b2 33 (.agg #[.I 0,.N]:Value).cells.toList/\Blk w' b3 33 [.I ((q0:Int) - 900),q.2.2.1]/\Row [] w' w4.heap.size 141 q.2.2.1 q.2.2.2/\(∀ x∈q.2.2.2,ZcX x)/\Stp [b3] w4 w') (λq=>43 - q.1)
  (1,0,.N,[]) ⟨rfl,rfl,rfl,rfl,rfl,trivial⟩ ⟨⟨by decide,by decide,by decide,by decide,by decide⟩,k2,k3,Row.nil,by simp,Stp.refl _ _⟩ ?_
 rintro ⟨k,at_,zs,xs⟩ w5 ⟨⟨bF,rH,m8,qO,kW⟩,k2,k3,ab,iQ,aD⟩;dsimp only at bF rH m8 qO kW k3 ab iQ ⊢;have jr:Stp [] w w5:=hS.ow aD;have ba:=hs;replace hs:=hs.up jr;by_cases ag:k+1<l.length/\k<41;obtain ⟨ag,yc⟩:=ag;have im:k<l.length:=by omega
 refine QO ?_;refine CM (Zg rfl rfl) (Z3n _ 20000 _ (by decide) (hl _ (Xd im))) ?_;rintro _ w6 ⟨rfl,dj⟩;have hr:=Je (if l[k]<0 then -(l[k]+1) else l[k]) 20000 (by decide);generalize (if l[k]<0 then -(l[k]+1) else l[k]) % 20000=m at hr ⊢;refine W ?_;replace k2:=k2.up dj;replace k3:=k3.up dj;replace ab:=ab.up dj;replace hs:=hs.up dj;replace aD:=aD.trans dj.mn;clear dj jr;have n3:b3∉ob zs:=λh=>by have:=(ab.ob_le _ h).1;omega
 have n2:b2∉ob zs:=λh=>by have:=(ab.ob_le _ h).1;omega
 replace hs:SlV (ob zs) w6 v l:=ba.ext (X':=ob zs) (hS.ow aD) (by simp) (λb hb=>.inr (by have:=(ab.ob_le b hb).1;omega));refine Z7H 15 (ob zs) [14] [(0,0),(1,1),(2,0),(3,0),(4,0),(5,0),(6,0),(7,1),(8,2),(9,0),(10,0),(11,2),(12,2),(13,0),(14,2)] rfl mixed (by kernel_rfl) (by kernel_rfl) (by kernel_rfl) (λw1 ae=>?_);replace k2:=k2.up ae;replace k3:=k3.up ae;replace ab:=ab.up ae;replace hs:=hs.up ae;replace aD:=aD.trans ae.mn;clear ae;refine D ?_;refine Za rfl trivial (Z6 rfl (Zg rfl rfl) (Z3n _ 1801 _ (by decide) (hl _ (Xd ag)))) (λ_ _ h=>h.2.mn) rfl ?_;rintro _ w7 ⟨rfl,aQ⟩;have dh:=Je (if l[k+1]<0 then -(l[k+1]+1) else l[k+1]) 1801 (by decide);generalize (if l[k+1]<0 then -(l[k+1]+1) else l[k+1]) % 1801=m2 at dh ⊢;replace k2:=k2.up aQ;replace k3:=k3.up aQ;replace ab:=ab.up aQ;replace aD:=aD.trans aQ.mn;clear aQ;refine D ?_;refine JK rfl trivial (λw'=>Z0L (vs:=[(0,.I (at_+m)),(1,.I (m2 - 900))]) rfl (Znu _ _)) rfl ?_;refine D ?_;refine Za rfl trivial (Z0 (vs:=[(0,agg ((at_+m,m2 - 900):Spn))]) rfl (ZkC _)) (λ_ _ h=>(Z5.stp h).mn) rfl ?_;rintro bv w8 hN;have an:SlV (ob zs++[]) w8 bv [((at_+m,m2 - 900):Spn)]:=hN.slv (λb hb=>(ab.ob_le b (by simpa using hb)).2) rfl rfl (by simp [maxLen]);have hT:=Z5.stp hN;clear hN;replace k2:=k2.up hT;replace k3:=k3.up hT;replace ab:=ab.up hT;replace aD:=aD.trans hT.mn;clear hT;have aX:=aD.size;have bq:=ab.ob_le;refine D ?_;refine Za rfl trivial (J4 (X:=[]) (base:=w4.heap.size) rfl (by decide) rfl rfl ab an (by simp only [Xe,Xf];omega) (by simp only [Xe,Xf,maxLen];omega) aX) (λ_ _ h=>h.2.1) rfl ?_;rintro zs' w9 ⟨ab,hT,gN⟩;replace k2:=k2.ext hT (λh=>by have:=(bq _ h).1;omega);replace k3:=k3.ext hT (λh=>by have:=(bq _ h).1;omega);replace aD:Stp [b3] w4 w9:=aD.own hT (λc hc=>.inr (bq c hc).1);clear hT;refine D ?_;refine JA rfl trivial (Zc (u:=zs') rfl rfl (Row.slv (X:=[]) ab (by simp)).cells (Row.slv (X:=[]) ab (by simp)).one k3 (by simp)) rfl ?_;rintro _ w10 ⟨hT,k3⟩;replace k3:Blk w10 b3 33 [.I ((q0:Int) - 900),zs']:=k3;replace k2:=k2.ext hT (by simpa using n23);have cw:=ab.ob_le;replace ab:=ab.keep hT (λb hb h=>by have:=cw _ h;simp at hb;omega);replace aD:=aD.trans hT;clear hT;refine D ?_;refine W ?_;refine Zx (k+2,at_+m+2880,zs',xs++[((at_+m,m2 - 900):Spn)]) ⟨rfl,rfl,rfl,rfl,rfl,trivial⟩ ⟨⟨by dsimp only;omega,by dsimp only;omega,by dsimp only;omega,by dsimp only;omega,by dsimp only;rw [Xc];simp only [Xe,Xf];omega⟩,k2,k3,ab,?_,aD⟩ (by dsimp only;omega);intro x hx;rcases Xi.1 hx with h|h
 exact iQ x h;rw [Xk.1 h];unfold ZcX;dsimp only;omega
 . repeat'(first|refine W1 ?_|omega|refine VG ?_ ?_<;>intro hg|refine VC ?_ ?_<;>intro hc)
   all_goals exact QT (zs,xs) ⟨k2,k3,ab,(by dsimp only;omega),iQ,aD⟩
 rintro ⟨zs,xs⟩ w5 ⟨k2,k3,ab,kW,iQ,aD⟩;dsimp only at k3 ab kW iQ ⊢;refine W ?_;have bq:=ab.ob_le;have jr:Stp [] w w5:=hS.ow aD;refine SB (us:=[.I ((q0:Int) - 900),zs]) (by intro u hu;simp at hu;rcases hu with rfl|rfl;exact rfl;exact (Row.slv (X:=[]) ab (by simp)).one) k2 ?_;rintro _ w6 ⟨hT,k2⟩;replace ab:=ab.keep hT (λb hb h=>by have:=bq _ h;simp at hb;omega);refine W ?_;refine Zk rfl rfl rfl k2 rfl ?_;exact .mk ⟨_,zs,xs,rfl,iQ,by omega,ab.lower bI,jr.ow hT⟩
def cL (b0 b5 b6:Bool) (hv cv zo zs hr:Value):List Value:=[.B b0,.B false,.B false,.B false,.B false,.B b5,.B b6,hv,cv,zo,zs,hr]
theorem Znv (w):(Instr.buildSlice 23 4 #[(0,.I 1439),(1,.I 1020),(2,.I 0),(3,.I 720)]).run Tryz.prog w=.ok (.slice (some ⟨w.heap.size,0,none⟩) 4 4) (w.alloc (.cells #[.I 1439,.I 1020,.I 0,.I 720] 3)):=by kernel_rfl
theorem Znw (h:Int) (w):(Instr.build 35 #[(4,.I h)]).run Tryz.prog w=.ok (.agg (cL false false false (.N) (.N) (.I 0) (.N) (.I h)).toArray) w:=by kernel_rfl
theorem Zt2 (a b c:Int) (w):(Instr.build 138 #[(0,.I a),(1,.I b),(7,.I 1),(8,.I 9999),(6,.I c)]).run Tryz.prog w=.ok (agg (⟨a,b,0,0,0,0,c,1,9999⟩:Hol)) w:=by kernel_rfl
theorem Znx (h:Hol) (w):(Instr.buildSlice 29 1 #[(0,agg h)]).run Tryz.prog w=.ok (.slice (some ⟨w.heap.size,0,none⟩) 1 1) (w.alloc (.cells (Z3.enc h).toArray 138)):=by kernel_rfl
theorem Zny (a b c:Int) (w):(Instr.build 73 #[(0,.I a),(1,.I b),(2,.I c)]).run Tryz.prog w=.ok (agg (⟨a,b,c⟩:Clo)) w:=by kernel_rfl
theorem Znz (h:Clo) (w):(Instr.buildSlice 30 1 #[(0,agg h)]).run Tryz.prog w=.ok (.slice (some ⟨w.heap.size,0,none⟩) 1 1) (w.alloc (.cells (Z3.enc h).toArray 73)):=by kernel_rfl
def ZcY (x:Clo):Prop:=739616<=x.lo/\x.lo<739736/\x.lo<=x.hi/\x.hi<=x.lo+5/\739616<=x.known/\x.known<739746
structure Zoe (c:Cal):Prop where
 ok:ZjM c
 wk:∃ b0 b5 b6:Bool,c.week=[b0,false,false,false,false,b5,b6]
 h3:c.hols.length<=3
 c3:c.clos.length<=3
 cl:∀ x∈c.clos,ZcY x
theorem Z8P (X:List Nat) (v:Value) (l:List Int) (w:World) (hX:∀ b∈X,b<w.heap.size) (hs:SlV [] w v l) (hl:∀ a∈l,I64 a) :
 CC 32 #[v] w λr w'=>∃ (c:Cal) (hv cv zo zs hr:Value),r=Z6F c hv cv zo zs hr/\(zo.oneCell'=true/\zs.oneCell'=true/\hr.oneCell'=true)/\Zoe c/\SlV X w' hv c.hols/\SlV X w' cv c.clos/\Stp [] w w':=by
 have aT:=hs.max;refine cW1 160 Tryz.func32 ?_;refine W ?_;refine Z1 Z2 rfl ?_;rintro _ w1 ⟨b2,rfl,cr,k2,hS⟩;refine W ?_;refine Z1 (Z0 (vs:=[(0,.I 1439),(1,.I 1020),(2,.I 0),(3,.I 720)]) rfl (Znv)) rfl ?_;rintro bv w2 hN;have an:SlV [] w2 bv ([1439,1020,0,720]:List Int):=hN.slv (by simp) rfl rfl (by simp [maxLen]);have hT:=Z5.stp hN;clear hN;replace k2:=k2.up hT;replace hS:=hS.trans hT;clear hT;refine W ?_;refine CM (ZY rfl rfl rfl) (J1 [] _ l 0 4 _ (by decide) (by unfold I64;omega) (hs.up hS) hl) ?_;rintro _ wn ⟨q0,rfl,rF,hT⟩;replace an:=an.up hT;replace k2:=k2.up hT;replace hS:=hS.trans hT;clear hT;have wI:q0<([1439,1020,0,720]:List Int).length:=by simp only [Xe,Xf];omega
 refine W ?_;generalize ([1439,1020,0,720]:List Int)[q0]=hr;refine Z8 (vs:=[(4,.I hr)]) rfl (Znw _) rfl ?_;have k2lt:=k2.lt;clear an;refine Z1 Z2 rfl ?_;rintro _ w3 ⟨b3,rfl,dV,k3,hT⟩;replace k2:=k2.up hT;replace hS:=hS.trans hT;clear hT;refine W ?_;have n23:b2≠b3:=by omega
 refine SB (us:=cL false false false (.N) (.N) (.I 0) (.N) (.I hr)) (by simp [cL,Value.oneCell']) k3 ?_;rintro _ w4 ⟨hT,k3⟩;replace k2:=k2.ext hT (by simpa using n23);replace hS:=hS.ow hT;clear hT;have k3lt:=k3.lt;have k2lt':=k2.lt;have wJ:w.heap.size<=b3:=by have:=k3lt;have:=hS.size;omega
 refine W ?_;refine CM (ZY rfl rfl rfl) (J1 [] _ l 1 8 _ (by decide) (by unfold I64;omega) (hs.up hS) hl) ?_;rintro _ wn ⟨q1,rfl,gU,hT⟩;replace k3:=k3.up hT;replace k2:=k2.up hT;replace hS:=hS.trans hT;clear hT;refine W ?_;refine Z2Z (len:=7) (i:=5) rfl rfl rfl (by decide) rfl ?_;refine Z4 (Zc (u:=.B (decide (¬ (q1:Int)=1))) rfl rfl rfl rfl k3 (by simp [cL])) ?_;rintro _ wn ⟨hT,k3⟩;replace k3:Blk wn b3 35 (cL false (decide (¬ (q1:Int)=1)) false (.N) (.N) (.I 0) (.N) (.I hr)):=k3;replace k2:=k2.ext hT (by simpa using n23);replace hS:=hS.ow hT;clear hT;refine W ?_;refine Z2Z (len:=7) (i:=6) rfl rfl rfl (by decide) rfl ?_;refine Z4 (Zc (u:=.B (decide (¬ (q1:Int)=2))) rfl rfl rfl rfl k3 (by simp [cL])) ?_;rintro _ wn ⟨hT,k3⟩;replace k3:Blk wn b3 35 (cL false (decide (¬ (q1:Int)=1)) (decide (¬ (q1:Int)=2)) (.N) (.N) (.I 0) (.N) (.I hr)):=k3;replace k2:=k2.ext hT (by simpa using n23);replace hS:=hS.ow hT;clear hT;refine W ?_;refine Z4 (Zc (u:=.B (decide ((q1:Int)=3))) rfl rfl rfl rfl k3 (by simp [cL])) ?_;rintro _ w5 ⟨hT,k3⟩;replace k3:Blk w5 b3 35 (cL (decide ((q1:Int)=3)) (decide (¬ (q1:Int)=1)) (decide (¬ (q1:Int)=2)) (.N) (.N) (.I 0) (.N) (.I hr)):=k3;replace k2:=k2.ext hT (by simpa using n23);replace hS:=hS.ow hT;clear hT;refine W ?_;generalize decide ((q1:Int)=3)=b0 at k3 ⊢;generalize decide (¬ (q1:Int)=1)=b5 at k3 ⊢;generalize decide (¬ (q1:Int)=2)=b6 at k3 ⊢;replace k2:Blk w5 b2 35 ((.agg (cL false false false (.N) (.N) (.I 0) (.N) (.I 0)).toArray:Value).cells.toList):=k2;have wK:=hS.size;have k3lt5:=k3.lt;have k2lt5:=k2.lt;refine Z0o (σ:=Value×List Hol) (λq=>[(0,v),(2,pQ b2),(3,pQ b3)]) (λq w'=>q.2.length<=3/\Blk w' b2 35 ((.agg (cL false false false (.N) (.N) (.I 0) (.N) (.I 0)).toArray:Value).cells.toList)/\Blk w' b3 35 (cL b0 b5 b6 q.1 (.N) (.I 0) (.N) (.I hr))/\Row [] w' w5.heap.size 138 q.1 q.2/\(∀ x∈q.2,Z27 x)/\Stp [b3] w5 w') ?_ ?_
 refine Zt (σ:=Nat×Value×List Hol) (λq=>[(0,v),(2,pQ b2),(3,pQ b3),(5,.I (q.1:Int))]) (λq w'=>q.1<=3/\q.2.2.length<=q.1/\Blk w' b2 35 ((.agg (cL false false false (.N) (.N) (.I 0) (.N) (.I 0)).toArray:Value).cells.toList)/\Blk w' b3 35 (cL b0 b5 b6 q.2.1 (.N) (.I 0) (.N) (.I hr))/\Row [] w' w5.heap.size 138 q.2.1 q.2.2/\(∀ x∈q.2.2,Z27 x)/\Stp [b3] w5 w') (λq=>3 - q.1)
  (0,.N,[]) ⟨rfl,rfl,rfl,rfl,trivial⟩ ⟨by decide,by decide,k2,k3,Row.nil,by simp,Stp.refl _ _⟩ ?_
 rintro ⟨j,hv,hols⟩ w6 ⟨rI,ai,k2,k3,ab,fE,aJ⟩;dsimp only at rI ai k3 ab fE ⊢;have cU:=hs.up (hS.ow aJ);have rJ:=ab.ob_le;refine W ?_;refine CM (ZY rfl rfl rfl) (J1 [] _ l 2 4 _ (by decide) (by unfold I64;omega) cU hl) ?_;rintro _ wn ⟨q,rfl,hq,hT⟩;replace k3:=k3.up hT;replace k2:=k2.up hT;replace ab:=ab.up hT;replace cU:=cU.up hT;replace aJ:=aJ.trans hT.mn;clear hT;by_cases ag:(j:Int)<(q:Int);refine QO ?_;refine CM (ZY rfl rfl rfl) (J1 [] _ l (3+2 * (j:Int)) 1000000 _ (by decide) (by unfold I64;omega) cU hl) ?_;rintro _ wn ⟨x,rfl,hx,hT⟩;replace k3:=k3.up hT;replace k2:=k2.up hT;replace ab:=ab.up hT;replace cU:=cU.up hT;replace aJ:=aJ.trans hT.mn;clear hT;refine W ?_;refine CM (ZY rfl rfl rfl) (J1 [] _ l (4+2 * (j:Int)) 1000000 _ (by decide) (by unfold I64;omega) cU hl) ?_;rintro _ wn ⟨y,rfl,hy,hT⟩;replace k3:=k3.up hT;replace k2:=k2.up hT;replace ab:=ab.up hT;replace cU:=cU.up hT;replace aJ:=aJ.trans hT.mn;clear hT;refine W ?_;refine Z8 (vs:=[(0,.I (1+(x:Int) % 4)),(1,.I (1+(x:Int) / 4 % 4)),(7,.I 1),(8,.I 9999),(6,.I ((y:Int) % 3))]) rfl (Zt2 _ _ _) rfl ?_;have wL:=k3.lt;have wM:=k2.lt;have nJ:=ab.ob_le;have wN:=aJ.size;refine Z1 Z2 rfl ?_;rintro _ wn ⟨b8,rfl,fC,k8,hT⟩;replace k3:=k3.up hT;replace k2:=k2.up hT;replace ab:=ab.up hT;replace cU:=cU.up hT;replace aJ:=aJ.trans hT.mn;clear hT;refine W ?_;have iJ:b8≠b2/\b8≠b3/\b8∉ob hv:=⟨by omega,by omega,λh=>by have:=(nJ _ h).2;omega⟩
 have cG:w5.heap.size<=b8:=by omega
 generalize ik:1+(x:Int) % 4=m1;generalize eM:1+(x:Int) / 4 % 4=m2;generalize oL:(y:Int) % 3=m3;refine SA (us:=Z3.enc (⟨m1,m2,0,0,0,0,m3,1,9999⟩:Hol)) k8 ?_;rintro _ wn ⟨hT,k8⟩;replace k3:=k3.ext hT (by simp;omega);replace k2:=k2.ext hT (by simp;omega);replace ab:=ab.keep hT (by simp;exact iJ.2.2);replace aJ:=aJ.ow hT;clear hT;replace k8:Blk wn b8 138 [.I m1,.I m2,.I 0,.I 0,.I 0,.I 0,.I m3,.I 1,.I 9999]:=k8;clear cU;refine W ?_
 refine Z0o (σ:=Hol) (λ_=>[(0,v),(2,pQ b2),(3,pQ b3),(5,.I (j:Int)),(8,pQ b8)])
  (λh w'=>Z27 h/\Blk w' b8 138 [.I h.kind,.I h.month,.I h.day,.I h.wd,.I h.nth,.I h.off,.I h.move,.I h.first,.I h.last]/\Blk w' b2 35 ((.agg (cL false false false (.N) (.N) (.I 0) (.N) (.I 0)).toArray:Value).cells.toList)/\Blk w' b3 35 (cL b0 b5 b6 hv (.N) (.I 0) (.N) (.I hr))/\Row [] w' w5.heap.size 138 hv hols/\Stp [b3] w5 w') ?_ ?_
 have hk:m1=1\/m1=2\/m1=3\/m1=4:=by omega
 rcases hk with rfl|rfl|rfl|rfl
 refine W ?_;refine S1 (u:=.I (1+(y:Int) / 3 % 31)) k8 ?_;rintro _ wn ⟨hT,k8⟩;replace k8:Blk wn b8 138 [.I (1),.I (m2),.I (1+(y:Int) / 3 % 31),.I (0),.I (0),.I (0),.I (m3),.I (1),.I (9999)]:=k8;replace k3:=k3.ext hT (by simp;omega);replace k2:=k2.ext hT (by simp;omega);replace ab:=ab.keep hT (by simp;exact iJ.2.2);replace aJ:=aJ.ow hT;clear hT;refine W ?_;have iD:Z27 (⟨1,m2,1+(y:Int) / 3 % 31,0,0,0,m3,1,9999⟩:Hol):=by constructor<;>dsimp only<;>omega
 exact ZD (⟨1,m2,1+(y:Int) / 3 % 31,0,0,0,m3,1,9999⟩:Hol) ⟨rfl,rfl,rfl,rfl,rfl,trivial⟩ ⟨iD,k8,k2,k3,ab,aJ⟩;refine W ?_;refine S1 (u:=.I ((y:Int) / 3 % 7)) k8 ?_;rintro _ wn ⟨hT,k8⟩;replace k8:Blk wn b8 138 [.I (2),.I (m2),.I (0),.I ((y:Int) / 3 % 7),.I (0),.I (0),.I (m3),.I (1),.I (9999)]:=k8;replace k3:=k3.ext hT (by simp;omega);replace k2:=k2.ext hT (by simp;omega);replace ab:=ab.keep hT (by simp;exact iJ.2.2);replace aJ:=aJ.ow hT;clear hT;refine W ?_;refine S1 (u:=.I (1+(y:Int) / 21 % 5)) k8 ?_;rintro _ wn ⟨hT,k8⟩;replace k8:Blk wn b8 138 [.I (2),.I (m2),.I (0),.I ((y:Int) / 3 % 7),.I (1+(y:Int) / 21 % 5),.I (0),.I (m3),.I (1),.I (9999)]:=k8;replace k3:=k3.ext hT (by simp;omega);replace k2:=k2.ext hT (by simp;omega);replace ab:=ab.keep hT (by simp;exact iJ.2.2);replace aJ:=aJ.ow hT;clear hT;refine W ?_;refine S1 (u:=.I (0)) k8 ?_;rintro _ wn ⟨hT,k8⟩;replace k8:Blk wn b8 138 [.I (2),.I (m2),.I (0),.I ((y:Int) / 3 % 7),.I (1+(y:Int) / 21 % 5),.I (0),.I (0),.I (1),.I (9999)]:=k8;replace k3:=k3.ext hT (by simp;omega);replace k2:=k2.ext hT (by simp;omega);replace ab:=ab.keep hT (by simp;exact iJ.2.2);replace aJ:=aJ.ow hT;clear hT;refine W ?_;have iD:Z27 (⟨2,m2,0,(y:Int) / 3 % 7,1+(y:Int) / 21 % 5,0,0,1,9999⟩:Hol):=by constructor<;>dsimp only<;>omega
 exact ZD (⟨2,m2,0,(y:Int) / 3 % 7,1+(y:Int) / 21 % 5,0,0,1,9999⟩:Hol) ⟨rfl,rfl,rfl,rfl,rfl,trivial⟩ ⟨iD,k8,k2,k3,ab,aJ⟩;refine W ?_;refine S1 (u:=.I ((y:Int) / 3 % 7)) k8 ?_;rintro _ wn ⟨hT,k8⟩;replace k8:Blk wn b8 138 [.I (3),.I (m2),.I (0),.I ((y:Int) / 3 % 7),.I (0),.I (0),.I (m3),.I (1),.I (9999)]:=k8;replace k3:=k3.ext hT (by simp;omega);replace k2:=k2.ext hT (by simp;omega);replace ab:=ab.keep hT (by simp;exact iJ.2.2);replace aJ:=aJ.ow hT;clear hT;refine W ?_;refine S1 (u:=.I (0)) k8 ?_;rintro _ wn ⟨hT,k8⟩;replace k8:Blk wn b8 138 [.I (3),.I (m2),.I (0),.I ((y:Int) / 3 % 7),.I (0),.I (0),.I (0),.I (1),.I (9999)]:=k8;replace k3:=k3.ext hT (by simp;omega);replace k2:=k2.ext hT (by simp;omega);replace ab:=ab.keep hT (by simp;exact iJ.2.2);replace aJ:=aJ.ow hT;clear hT;refine W ?_;have iD:Z27 (⟨3,m2,0,(y:Int) / 3 % 7,0,0,0,1,9999⟩:Hol):=by constructor<;>dsimp only<;>omega
 exact ZD (⟨3,m2,0,(y:Int) / 3 % 7,0,0,0,1,9999⟩:Hol) ⟨rfl,rfl,rfl,rfl,rfl,trivial⟩ ⟨iD,k8,k2,k3,ab,aJ⟩;refine W ?_;refine S1 (u:=.I ((y:Int) / 3 % 61 - 10)) k8 ?_;rintro _ wn ⟨hT,k8⟩;replace k8:Blk wn b8 138 [.I (4),.I (m2),.I (0),.I (0),.I (0),.I ((y:Int) / 3 % 61 - 10),.I (m3),.I (1),.I (9999)]:=k8;replace k3:=k3.ext hT (by simp;omega);replace k2:=k2.ext hT (by simp;omega);replace ab:=ab.keep hT (by simp;exact iJ.2.2);replace aJ:=aJ.ow hT;clear hT;refine W ?_;refine S1 (u:=.I (0)) k8 ?_;rintro _ wn ⟨hT,k8⟩;replace k8:Blk wn b8 138 [.I (4),.I (0),.I (0),.I (0),.I (0),.I ((y:Int) / 3 % 61 - 10),.I (m3),.I (1),.I (9999)]:=k8;replace k3:=k3.ext hT (by simp;omega);replace k2:=k2.ext hT (by simp;omega);replace ab:=ab.keep hT (by simp;exact iJ.2.2);replace aJ:=aJ.ow hT;clear hT;refine W ?_;have iD:Z27 (⟨4,0,0,0,0,(y:Int) / 3 % 61 - 10,m3,1,9999⟩:Hol):=by constructor<;>dsimp only<;>omega
 exact ZD (⟨4,0,0,0,0,(y:Int) / 3 % 61 - 10,m3,1,9999⟩:Hol) ⟨rfl,rfl,rfl,rfl,rfl,trivial⟩ ⟨iD,k8,k2,k3,ab,aJ⟩;rintro hh wq ⟨iD,k8,k2,k3,ab,aJ⟩;refine W ?_;refine Z1 (Z0 (vs:=[(0,agg hh)]) rfl (Znx _)) rfl ?_;rintro bw wn hN;have kN:SlV (ob hv++[]) wn bw [hh]:=hN.slv (λb hb=>(ab.ob_le b (by simpa using hb)).2) rfl rfl (by simp [maxLen]);have hT:=Z5.stp hN;clear hN;replace k3:=k3.up hT;replace k2:=k2.up hT;replace ab:=ab.up hT;replace aJ:=aJ.trans hT.mn;clear hT;have bq:=ab.ob_le;have aX:=aJ.size;refine Z1 (J4 (X:=[]) (base:=w5.heap.size) rfl (by decide) rfl rfl ab kN (by simp only [Xe,Xf];omega) (by simp only [Xe,Xf,maxLen];omega) aX) rfl ?_;rintro rK wn ⟨ab,hT,gN⟩;replace k2:=k2.ext hT (λh=>by have:=(bq _ h).1;omega);replace k3:=k3.ext hT (λh=>by have:=(bq _ h).1;omega);replace aJ:Stp [b3] w5 wn:=aJ.own hT (λc hc=>.inr (bq c hc).1);clear hT;have cw:=ab.ob_le;refine W ?_;refine Z4 (Zc (u:=rK) rfl rfl (Row.slv (X:=[]) ab (by simp)).cells (Row.slv (X:=[]) ab (by simp)).one k3 (by simp [cL])) ?_;rintro _ wn ⟨hT,k3⟩;replace k3:Blk wn b3 35 (cL b0 b5 b6 rK (.N) (.I 0) (.N) (.I hr)):=k3;replace k2:=k2.ext hT (by simpa using n23);replace ab:=ab.keep hT (λb hb h=>by have:=cw _ h;simp at hb;omega);replace aJ:=aJ.trans hT;clear hT;refine W ?_;refine QL (j+1,rK,hols++[hh]) ⟨by dsimp only;omega,by dsimp only;rw [Xc];simp only [Xe,Xf];omega,k2,k3,ab,?_,aJ⟩ (by dsimp only;omega);intro z hz;rcases Xi.1 hz with h|h
 exact fE z h;rw [Xk.1 h];exact iD
 . refine QO ?_
   all_goals exact QT (hv,hols) ⟨(by dsimp only;omega),k2,k3,ab,fE,aJ⟩
 rintro ⟨hv,hols⟩ w6 ⟨ii,k2,k3,ab,fE,aJ⟩;dsimp only at ii k3 ab fE ⊢;have eR:SlV (b2 :: b3 :: X) w6 hv hols:=Row.slv (X:=b2 :: b3 :: X) ab (λb hb=>by
  rcases Xb.1 hb with rfl|hb
  omega;rcases Xb.1 hb with rfl|hb
  omega;have:=hX b hb;omega)
 replace hS:=hS.ow aJ;clear ab aJ;have wO:=hS.size;have k3lt6:=k3.lt;have k2lt6:=k2.lt;refine W ?_;refine Z0o (σ:=Value×List Clo) (λq=>[(0,v),(2,pQ b2),(3,pQ b3)]) (λq w'=>q.2.length<=3/\(∀ x∈q.2,ZcY x)/\Blk w' b2 35 ((.agg (cL false false false (.N) (.N) (.I 0) (.N) (.I 0)).toArray:Value).cells.toList)/\Blk w' b3 35 (cL b0 b5 b6 hv q.1 (.I 0) (.N) (.I hr))/\Row [] w' w6.heap.size 73 q.1 q.2/\Stp [b3] w6 w') ?_ ?_
 refine Zt (σ:=Nat×Value×List Clo) (λq=>[(0,v),(2,pQ b2),(3,pQ b3),(9,.I (q.1:Int))]) (λq w'=>q.1<=3/\q.2.2.length<=q.1/\(∀ x∈q.2.2,ZcY x)/\Blk w' b2 35 ((.agg (cL false false false (.N) (.N) (.I 0) (.N) (.I 0)).toArray:Value).cells.toList)/\Blk w' b3 35 (cL b0 b5 b6 hv q.2.1 (.I 0) (.N) (.I hr))/\Row [] w' w6.heap.size 73 q.2.1 q.2.2/\Stp [b3] w6 w') (λq=>3 - q.1)
  (0,.N,[]) ⟨rfl,rfl,rfl,rfl,trivial⟩ ⟨by decide,by decide,(by simp),k2,k3,Row.nil,Stp.refl _ _⟩ ?_
 rintro ⟨j,cv,clos⟩ w7 ⟨rI,ai,gT,k2,k3,ab,aJ⟩;dsimp only at rI ai k3 ab ⊢;have cU:=hs.up (hS.ow aJ);have rJ:=ab.ob_le;refine W ?_;refine CM (ZY rfl rfl rfl) (J1 [] _ l 9 4 _ (by decide) (by unfold I64;omega) cU hl) ?_;rintro _ wn ⟨q,rfl,hq,hT⟩;replace k3:=k3.up hT;replace k2:=k2.up hT;replace ab:=ab.up hT;replace cU:=cU.up hT;replace aJ:=aJ.trans hT.mn;clear hT;by_cases ag:(j:Int)<(q:Int);refine QO ?_;refine CM (ZY rfl rfl rfl) (J1 [] _ l (10+(j:Int)) 1000000 _ (by decide) (by unfold I64;omega) cU hl) ?_;rintro _ wn ⟨x,rfl,hx,hT⟩;replace k3:=k3.up hT;replace k2:=k2.up hT;replace ab:=ab.up hT;replace cU:=cU.up hT;replace aJ:=aJ.trans hT.mn;clear hT;refine W ?_;refine Z8 (vs:=[(0,.I (739616+(x:Int) % 120)),(1,.I (739616+(x:Int) % 120+(x:Int) / 120 % 6)),(2,.I (739616+(x:Int) / 720 % 130))]) rfl (Zny _ _ _) rfl ?_;have oT:ZcY ⟨739616+(x:Int) % 120,739616+(x:Int) % 120+(x:Int) / 120 % 6,739616+(x:Int) / 720 % 130⟩:=by unfold ZcY;dsimp only;omega
 generalize 739616+(x:Int) % 120=lo at oT ⊢;generalize lo+(x:Int) / 120 % 6=hi at oT ⊢;generalize 739616+(x:Int) / 720 % 130=kn at oT ⊢;refine Z1 (Z0 (vs:=[(0,agg (⟨lo,hi,kn⟩:Clo))]) rfl (Znz _)) rfl ?_;rintro bw wn hN;have kN:SlV (ob cv++[]) wn bw [(⟨lo,hi,kn⟩:Clo)]:=hN.slv (λb hb=>(ab.ob_le b (by simpa using hb)).2) rfl rfl (by simp [maxLen]);have hT:=Z5.stp hN;clear hN;replace k3:=k3.up hT;replace k2:=k2.up hT;replace ab:=ab.up hT;replace aJ:=aJ.trans hT.mn;clear hT;have bq:=ab.ob_le;have aX:=aJ.size;refine Z1 (J4 (X:=[]) (base:=w6.heap.size) rfl (by decide) rfl rfl ab kN (by simp only [Xe,Xf];omega) (by simp only [Xe,Xf,maxLen];omega) aX) rfl ?_;rintro cv' wn ⟨ab,hT,gN⟩;replace k2:=k2.ext hT (λh=>by have:=(bq _ h).1;omega);replace k3:=k3.ext hT (λh=>by have:=(bq _ h).1;omega);replace aJ:Stp [b3] w6 wn:=aJ.own hT (λc hc=>.inr (bq c hc).1);clear hT;have cw:=ab.ob_le;refine W ?_;refine Z4 (Zc (u:=cv') rfl rfl (Row.slv (X:=[]) ab (by simp)).cells (Row.slv (X:=[]) ab (by simp)).one k3 (by simp [cL])) ?_;rintro _ wn ⟨hT,k3⟩;replace k3:Blk wn b3 35 (cL b0 b5 b6 hv cv' (.I 0) (.N) (.I hr)):=k3;replace k2:=k2.ext hT (by simpa using n23);replace ab:=ab.keep hT (λb hb h=>by have:=cw _ h;simp at hb;omega);replace aJ:=aJ.trans hT;clear hT;refine W ?_;refine Zx (j+1,cv',clos++[(⟨lo,hi,kn⟩:Clo)]) ⟨rfl,rfl,rfl,rfl,trivial⟩ ⟨by dsimp only;omega,by dsimp only;rw [Xc];simp only [Xe,Xf];omega,(λy hy=>by rcases Xi.1 hy with h|h;exact gT y h;rw [Xk.1 h];exact oT),k2,k3,ab,aJ⟩ (by dsimp only;omega)
 . refine QO ?_
   all_goals exact QT (cv,clos) ⟨(by dsimp only;omega),gT,k2,k3,ab,aJ⟩
 rintro ⟨cv,clos⟩ w7 ⟨nK,gT,k2,k3,ab,aJ⟩;dsimp only at k3 ab ⊢;have ca:SlV (b2 :: b3 :: X) w7 cv clos:=Row.slv (X:=b2 :: b3 :: X) ab (λb hb=>by
  rcases Xb.1 hb with rfl|hb
  omega;rcases Xb.1 hb with rfl|hb
  omega;have:=hX b hb;omega)
 replace eR:SlV (b2 :: b3 :: X) w7 hv hols:=eR.ext aJ (by simp) (λ_ h=>.inl h);replace hS:=hS.ow aJ;clear ab aJ;have cU:=hs.up hS;have wP:=hS.size;have k3lt7:=k3.lt;have k2lt7:=k2.lt;by_cases cT:13<l.length;refine QO ?_;have fU:=cU.slc (l:=13) (r:=l.length) (by omega) (Xn _);rw [Xo] at fU;refine Z55 (l:=13) rfl cU rfl (by simp) (by omega) rfl ?_;refine W ?_;refine CL (Z8O _ (l.drop 13) _ fU (λa ha=>hl a (YaK ha))) ?_;rintro _ w8 ⟨zo,zs,xs,rfl,iQ,kW,hz⟩;have bq:=hz.ob_le;have hT:=hz.2;replace k3:=k3.up hT;replace k2:=k2.up hT;have df:=hz.1;replace eR:SlV (b2 :: b3 :: (ob zs++X)) w8 hv hols:=eR.ext hT (by simp) (λb hb=>by
  simp at hb;rcases hb with rfl|rfl|hb|hb
  exact .inl (by simp);exact .inl (by simp);exact .inr (bq b hb).1;exact .inl (by simp [hb]))
 replace ca:SlV (b2 :: b3 :: (ob zs++X)) w8 cv clos:=ca.ext hT (by simp) (λb hb=>by
  simp at hb;rcases hb with rfl|rfl|hb|hb
  exact .inl (by simp);exact .inl (by simp);exact .inr (bq b hb).1;exact .inl (by simp [hb]))
 replace hS:=hS.trans hT;have eI:b3∉ob zs:=λh=>by have:=(bq _ h).1;omega
 have lQ:b2∉ob zs:=λh=>by have:=(bq _ h).1;omega
 clear hT hz hs cU;refine W ?_;refine Z4 (Z18 (o:=9) (us:=[.I zo,zs]) rfl rfl rfl rfl (by intro u hu;simp at hu;rcases hu with rfl|rfl;exact rfl;exact (Row.slv (X:=[]) df (by simp)).one) k3 (by simp [cL])) ?_;rintro _ w9 ⟨hT,k3⟩;replace k3:Blk w9 b3 35 (cL b0 b5 b6 hv cv (.I zo) zs (.I hr)):=k3;replace k2:=k2.ext hT (by simpa using n23);replace df:=df.keep hT (λb hb h=>by simp at hb;subst hb;exact eI h);replace eR:=eR.ext (X':=b2 :: b3 :: (ob zs++X)) hT (by simp) (λ_ h=>.inl h);replace ca:=ca.ext (X':=b2 :: b3 :: (ob zs++X)) hT (by simp) (λ_ h=>.inl h);replace hS:=hS.ow hT;clear hT;refine W ?_;refine Z0o (σ:=Unit) (λq=>[(2,pQ b2),(3,pQ b3)]) (λq w'=>Stp (ob zs) w9 w') ?_ ?_
 refine Zt (σ:=Nat×List Spn) (λq=>[(2,pQ b2),(3,pQ b3),(13,.I (q.1:Int))]) (λq w'=>q.1<=xs.length/\q.2.length=xs.length/\(∀ i (hi:i<q.2.length),q.1<=i->ZcX q.2[i])/\Row [] w' w7.heap.size 141 zs q.2/\Stp (ob zs) w9 w') (λq=>xs.length - q.1)
  (0,xs) ⟨rfl,rfl,rfl,trivial⟩ ⟨by dsimp only;omega,rfl,(λi hi _=>iQ _ (Xd hi)),df,Stp.refl _ _⟩ ?_
 rintro ⟨j,ys⟩ wa ⟨hj,fG,cJ,df,aJ⟩;dsimp only at hj fG cJ df ⊢;have k3:=k3.ext aJ eI;have fF:SlV [] wa zs ys:=Row.slv (X:=[]) df (by simp);rw [<- fG] at hj;by_cases ag:j<ys.length;refine QO ?_;have dw:=(cJ j ag (Xn _))
 unfold ZcX at dw;refine ZDr 15 [] [14] [(0,0),(1,0),(2,1),(3,0),(4,0),(5,0),(6,1),(7,0),(8,0),(9,0),(10,1),(11,0),(12,0),(13,0),(14,2)] (λw1 ae=>?_);replace k3:=k3.up ae;replace df:=df.up ae;replace fF:=fF.up ae;replace aJ:=aJ.trans ae.mn;clear ae;refine D ?_;refine JA rfl trivial (Z4j (β:=Spn) (i:=j) (y':=((ys[j].1+1065047040,ys[j].2):Spn)) rfl rfl rfl rfl rfl df ag (by decide) rfl) rfl ?_;rintro _ wb ⟨df,hT⟩;replace aJ:=aJ.trans hT;refine D ?_;refine W ?_;refine Zx (j+1,ys.set j ((ys[j].1+1065047040,ys[j].2):Spn)) ⟨rfl,rfl,rfl,trivial⟩ ⟨by dsimp only;omega,by dsimp only;rw [X6];exact fG,?_,df,aJ⟩ (by dsimp only;omega);intro i hi cO;dsimp only at hi cO ⊢;rw [YaM (by omega)];exact cJ i (by rw [X6] at hi;exact hi) (by omega)
 . refine QO ?_
   all_goals exact QT () aJ
 rintro _ wa aJ;have k3:=k3.ext aJ eI;have k2:=k2.ext aJ lQ;have eR:=eR.ext (X':=b2 :: b3 :: X) aJ (λb h=>by simp [h]) (λb h=>.inl (by simp at h;rcases h with rfl|rfl|h<;>simp [*]));have ca:=ca.ext (X':=b2 :: b3 :: X) aJ (λb h=>by simp [h]) (λb h=>.inl (by simp at h;rcases h with rfl|rfl|h<;>simp [*]));replace hS:=hS.own aJ (λc hc=>.inr (by have:=(bq _ hc).1;omega));have nL:zs.oneCell'=true:=(Row.slv (X:=[]) df (by simp)).one;clear aJ;refine W ?_;refine SB (us:=cL b0 b5 b6 hv cv (.I zo) zs (.I hr)) (by intro u hu;simp [cL] at hu;rcases hu with rfl|rfl|rfl|rfl|rfl|rfl|rfl|rfl|rfl|rfl|rfl<;>first|exact rfl|exact nL|exact eR.one|exact ca.one) k2 ?_;rintro _ wb ⟨hT,k2⟩;refine W ?_;refine Zk rfl rfl rfl k2 rfl ?_;exact .mk ⟨⟨[b0,false,false,false,false,b5,b6],hols,clos⟩,hv,cv,.I zo,zs,.I hr,rfl,⟨rfl,nL,rfl⟩,⟨⟨rfl,fE,by dsimp only;omega⟩,⟨b0,b5,b6,rfl⟩,ii,nK,gT⟩,eR.ext hT (by simp) (λb h=>.inl (by simp [h])),ca.ext hT (by simp) (λb h=>.inl (by simp [h])),hS.ow hT⟩;refine QO ?_;refine CM (ZP rfl) (Z8O _ [] _ (Row.slv (X:=[]) (Row.nil (base:=0) (T:=0)) (by simp)) (by simp)) ?_;rintro _ w8 ⟨zo,zs,xs,rfl,iQ,kW,hz⟩;have bq:=hz.ob_le;have hT:=hz.2;replace k3:=k3.up hT;replace k2:=k2.up hT;have df:=hz.1;replace eR:SlV (b2 :: b3 :: (ob zs++X)) w8 hv hols:=eR.ext hT (by simp) (λb hb=>by
  simp at hb;rcases hb with rfl|rfl|hb|hb
  exact .inl (by simp);exact .inl (by simp);exact .inr (bq b hb).1;exact .inl (by simp [hb]))
 replace ca:SlV (b2 :: b3 :: (ob zs++X)) w8 cv clos:=ca.ext hT (by simp) (λb hb=>by
  simp at hb;rcases hb with rfl|rfl|hb|hb
  exact .inl (by simp);exact .inl (by simp);exact .inr (bq b hb).1;exact .inl (by simp [hb]))
 replace hS:=hS.trans hT;have eI:b3∉ob zs:=λh=>by have:=(bq _ h).1;omega
 have lQ:b2∉ob zs:=λh=>by have:=(bq _ h).1;omega
 clear hT hz hs cU;refine W ?_;refine Z4 (Z18 (o:=9) (us:=[.I zo,zs]) rfl rfl rfl rfl (by intro u hu;simp at hu;rcases hu with rfl|rfl;exact rfl;exact (Row.slv (X:=[]) df (by simp)).one) k3 (by simp [cL])) ?_;rintro _ w9 ⟨hT,k3⟩;replace k3:Blk w9 b3 35 (cL b0 b5 b6 hv cv (.I zo) zs (.I hr)):=k3;replace k2:=k2.ext hT (by simpa using n23);replace df:=df.keep hT (λb hb h=>by simp at hb;subst hb;exact eI h);replace eR:=eR.ext (X':=b2 :: b3 :: (ob zs++X)) hT (by simp) (λ_ h=>.inl h);replace ca:=ca.ext (X':=b2 :: b3 :: (ob zs++X)) hT (by simp) (λ_ h=>.inl h);replace hS:=hS.ow hT;clear hT;refine W ?_;refine Z0o (σ:=Unit) (λq=>[(2,pQ b2),(3,pQ b3)]) (λq w'=>Stp (ob zs) w9 w') ?_ ?_
 refine Zt (σ:=Nat×List Spn) (λq=>[(2,pQ b2),(3,pQ b3),(13,.I (q.1:Int))]) (λq w'=>q.1<=xs.length/\q.2.length=xs.length/\(∀ i (hi:i<q.2.length),q.1<=i->ZcX q.2[i])/\Row [] w' w7.heap.size 141 zs q.2/\Stp (ob zs) w9 w') (λq=>xs.length - q.1)
  (0,xs) ⟨rfl,rfl,rfl,trivial⟩ ⟨by dsimp only;omega,rfl,(λi hi _=>iQ _ (Xd hi)),df,Stp.refl _ _⟩ ?_
 rintro ⟨j,ys⟩ wa ⟨hj,fG,cJ,df,aJ⟩;dsimp only at hj fG cJ df ⊢;have k3:=k3.ext aJ eI;have fF:SlV [] wa zs ys:=Row.slv (X:=[]) df (by simp);rw [<- fG] at hj;by_cases ag:j<ys.length;refine QO ?_;have dw:=(cJ j ag (Xn _))
 unfold ZcX at dw;refine ZDr 15 [] [14] [(0,0),(1,0),(2,1),(3,0),(4,0),(5,0),(6,1),(7,0),(8,0),(9,0),(10,1),(11,0),(12,0),(13,0),(14,2)] (λw1 ae=>?_);replace k3:=k3.up ae;replace df:=df.up ae;replace fF:=fF.up ae;replace aJ:=aJ.trans ae.mn;clear ae;refine D ?_;refine JA rfl trivial (Z4j (β:=Spn) (i:=j) (y':=((ys[j].1+1065047040,ys[j].2):Spn)) rfl rfl rfl rfl rfl df ag (by decide) rfl) rfl ?_;rintro _ wb ⟨df,hT⟩;replace aJ:=aJ.trans hT;refine D ?_;refine W ?_;refine Zx (j+1,ys.set j ((ys[j].1+1065047040,ys[j].2):Spn)) ⟨rfl,rfl,rfl,trivial⟩ ⟨by dsimp only;omega,by dsimp only;rw [X6];exact fG,?_,df,aJ⟩ (by dsimp only;omega);intro i hi cO;dsimp only at hi cO ⊢;rw [YaM (by omega)];exact cJ i (by rw [X6] at hi;exact hi) (by omega)
 . refine QO ?_
   all_goals exact QT () aJ
 rintro _ wa aJ;have k3:=k3.ext aJ eI;have k2:=k2.ext aJ lQ;have eR:=eR.ext (X':=b2 :: b3 :: X) aJ (λb h=>by simp [h]) (λb h=>.inl (by simp at h;rcases h with rfl|rfl|h<;>simp [*]));have ca:=ca.ext (X':=b2 :: b3 :: X) aJ (λb h=>by simp [h]) (λb h=>.inl (by simp at h;rcases h with rfl|rfl|h<;>simp [*]));replace hS:=hS.own aJ (λc hc=>.inr (by have:=(bq _ hc).1;omega));have nL:zs.oneCell'=true:=(Row.slv (X:=[]) df (by simp)).one;clear aJ;refine W ?_;refine SB (us:=cL b0 b5 b6 hv cv (.I zo) zs (.I hr)) (by intro u hu;simp [cL] at hu;rcases hu with rfl|rfl|rfl|rfl|rfl|rfl|rfl|rfl|rfl|rfl|rfl<;>first|exact rfl|exact nL|exact eR.one|exact ca.one) k2 ?_;rintro _ wb ⟨hT,k2⟩;refine W ?_;refine Zk rfl rfl rfl k2 rfl ?_;exact .mk ⟨⟨[b0,false,false,false,false,b5,b6],hols,clos⟩,hv,cv,.I zo,zs,.I hr,rfl,⟨rfl,nL,rfl⟩,⟨⟨rfl,fE,by dsimp only;omega⟩,⟨b0,b5,b6,rfl⟩,ii,nK,gT⟩,eR.ext hT (by simp) (λb h=>.inl (by simp [h])),ca.ext hT (by simp) (λb h=>.inl (by simp [h])),hS.ow hT⟩
end Go.Proofs.YtipfkbkkndacjaaGreatDoor
namespace Go.Eng
open Go Go.RowKit Go.Proofs
theorem Z7g:∀ {e:Env} {t:Nat} {v:Value},look e t=some v->(t,v)∈e
 | (k, u) :: r, t, v, h => by
   rw [Z1O] at h;by_cases hk:k=t;subst hk;simp at h;subst h;simp;rw [if_neg hk] at h;exact XJ _ (Z7g h)
theorem Has.of {n:Nat} {e:Env} {a:Act} (h1:a.defers=[]) (h2:a.tmps.size=n) (h3:∀ p∈e,a.tmps.getD p.1 undef=p.2):Has n e a:=⟨h1,h2,λt v h=>h3 (t,v) (Z7g h)⟩
section
variable {P:Program} {n:Nat} {Q:Exit->Act->World->Prop} {e:Env} {w:World} {ops:Array Oper} {rest:List Oper} {ty:TypeId} {pos:String} {af:Array Edge} {ds:List Deferred}
theorem Za2 {fn:Func} {gO:Frame} {cs:List Frame} {u':FrameMode} {R:Ending->FrameMode->World->Prop} {c:Code} {a:Act} (ha:Has n e a) (h:WC P n c (bodyPost P fn (λx w=>R x u' w)) e w) :
 c.wpS P (bodyPostS P fn gO cs R) a ({ gO with mode:=u' } :: cs) w:=by
 refine wpS_of_wp (wp_mono (h.h a ha) λex a' w' hq=>?_);cases ex with
 | normal=>obtain ⟨hd,v,hr,hR⟩:=hq;exact ⟨hd,u',rfl,v,hr,hR⟩
 | ret=>obtain ⟨hd,v,hr,hR⟩:=hq;exact ⟨hd,u',rfl,v,hr,hR⟩
 | panic ch=>obtain ⟨hd,hR⟩:=hq;exact ⟨hd,u',rfl,hR⟩
 | exit i=>exact hq.elim
 | goto l=>exact hq.elim
 | outgrown=>exact ⟨u',hq⟩
theorem Zb7 {f:FuncId} {fn:Func} {c:Code} {args:Array Value} {w} {R:Ending->World->Prop} {n:Nat} (hf:P.funcs[f]?=some fn) (hb:fn.body=some c)
 (hn:fn.ntmps=n) (hs:Nat.ble args.size n=true) (h:WC P n c (bodyPostD P fn R) (Z51 args.toList 0) w):Calls P f args w R:=by
 refine calls_of_wp_defers hf hb (h.h _ ?_);rw [hn];have cO:args.size<=n:=XY hs;refine ⟨rfl,by simp;omega,λt v hv=>?_⟩;obtain ⟨_,h2⟩:=Z3A _ _ _ _ hv;simp only [Nat.sub_zero] at h2;have ag:t<args.size:=by
  have:=(Xx.1 h2).1;simpa using this
 have:args[t]?=some v:=by simpa using h2
 have h3:(args++Array.replicate (n - args.size) undef)[t]?=some v:=by
  rw [XX ag];exact this
 simp [XB,h3]
theorem Z9d {f:FuncId} {fn:Func} {c:Code} {a0 a1:Value} {w} {R:Ending->World->Prop} {n:Nat} (hf:P.funcs[f]?=some fn) (hb:fn.body=some c)
 (hn:fn.ntmps=n) (hs:Nat.ble 2 n=true) (h:WC P n c (bodyPostD P fn R) [(0,a0),(1,a1)] w):Calls P f #[a0,a1] w R:=Zb7 hf hb hn hs h
theorem ZkD {y:Code} {t:Operand} {fv:Fn} {cap:Array Value} (hc:ev e t=some (.func fv #[] cap)) {ts:Array TypeId}
 (h:WCD [{ target:=.fn fv cap,args:=#[] }] P n y Q e w) :
 WL P n ops (Exit.then (λa w=>y.wp P Q a w) Q) [⟨none,.defer { callee:=.value t,args:=#[],argTypes:=ts },ty,pos,af,none⟩] e w:=by
 refine ⟨λa ha=>?_⟩;refine wpList_plain rfl (λK hK=>?_);unfold Oper.wp;have he:(execOp a.eval ⟨none,.defer { callee:=.value t,args:=#[],argTypes:=ts },ty,pos,af,none⟩).run P w=.ok (.defer { target:=.fn fv cap,args:=#[] }) w:=by
  simp [execOp,resolve,ha.ev hc,Deferred.ofValue]
 rw [he];simp only [Oper.upon];refine hK _ _ ?_;have hd:({ a with defers:={ target:=.fn fv cap,args:=#[] } :: a.defers }:Act)=Z1x [{ target:=.fn fv cap,args:=#[] }] a:=by
  unfold Z1x;rw [ha.defers];rfl
 show wpList P ops _ [] (Act.put { a with defers:=_ } none undef) w;rw [hd];exact wpList_nil (h.h a ha)
theorem ZgY {d:Nat} {f:Nat} {fn:Func} {xs:Array Operand} {ts:Array TypeId} {vs:Array Value} {c:Operand} {ch:List PanicEntry} {F:World->Prop} [hf:Fun P f fn]
 (hc:ev e c=some (.func (.func f) #[] #[])) (hv:∀ a,Has n e a->xs.map a.eval=vs) (h:Calls P f vs w (λe w'=>e=.panicked ch/\F w')) (hd:Nat.blt d n=true) (k:∀ w',F w'->WQ n Q (.panic ch) e w') :
 WL P n ops Q (⟨some d,.call { callee:=.value c,args:=xs,argTypes:=ts },ty,pos,af,none⟩ :: rest) e w:=
 Zay (G:=λ_ _=>False) (F:=λch' w'=>ch'=ch/\F w') (Z7V hc hv (h.mono λe w' ⟨h1,h2⟩=>by rw [h1];exact .pan ⟨rfl,h2⟩)) hd (λch' w' ⟨h1,h2⟩=>by subst h1;exact k w' h2) (λ_ _ h=>h.elim)
theorem Z6K {t b T:Nat} {D:TypeDesc} {v:Value} [hu:Und P t D] (hA:Z0V D=false) (hb:Blk w b T [v]):(loadVar t ⟨b,0,none⟩).run P w=.ok v w:=by
 have:=hb.cell (j:=0) rfl;simp [loadVar,Und.isAgg,hA,this]
theorem Z6L {fn:Func} {a:Act} {t1 t2 t3 T1 T2 T3 b1 b2 b3 S1 S2 S3:Nat} {D1 D2 D3:TypeDesc} {v1 v2 v3:Value} (hr:fn.results=#[.cell t1 T1,.cell t2 T2,.cell t3 T3]) [sP:Und P T1 D1] [vl:Und P T2 D2] [yd:Und P T3 D3] (lX:Z0V D1=false) (dp:Z0V D2=false) (wQ:Z0V D3=false)
 (h1:a.tmps.getD t1 undef=pQ b1) (h2:a.tmps.getD t2 undef=pQ b2) (h3:a.tmps.getD t3 undef=pQ b3)
 (e1:Blk w b1 S1 [v1]) (e2:Blk w b2 S2 [v2]) (e3:Blk w b3 S3 [v3]):(results fn a.tmps).run P w=.ok (.tuple #[v1,v2,v3]) w:=by
 rw [XB] at h1 h2 h3;simp [results,hr,h1,h2,h3,asAddr,Z6K lX e1,Z6K dp e2,Z6K wQ e3]
theorem Z8Q {fn fn':Func} {tmps:Array Value} {R:Ending->World->Prop} {f:FuncId} {cap:Array Value} {u:FrameMode} (hu:u≠.run) [hf:Fun P f fn'] {G:Value->FrameMode->World->Prop}
 (h:CallsD P f cap u w λe u' w'=>∃ v,e=.returned v/\G v u' w') (hk:∀ v u' w',G v u' w'->settle u'=.returning/\∃ r,(results fn tmps).run P w'=.ok r w'/\R (.returned r) w') :
 Leaves P fn tmps R [{ target:=.fn (.func f) cap,args:=#[] }] u w:=by
 refine leaves_cons (f:=f) (args:=cap) hu ?_ (h.mono λe u' w' ⟨v,h1,h2⟩=>?_);simp [invoke];exact hf.enters cap w;subst h1;obtain ⟨h3,r,h4,h5⟩:=hk v u' w' h2;show Leaves P fn tmps R [] (settle u') w';rw [h3];exact ⟨r,h4,h5⟩
theorem Z4Z {d:Option Nat} {g:Option (Nat×Bool)} {x:Operand} {t s:TypeId} {u v:Value} (hx:ev e x=some u) (hb:∀ w,(Instr.typeAssert u t s true).run P w=.ok v w):PR P n ⟨d,.typeAssert x t s true,ty,pos,af,g⟩ e w v:=
 ⟨λa ha=>by simp [execOp,ha.ev hx,hb]⟩
theorem Zb8 {d:Option Nat} {g:Option (Nat×Bool)} {f:Nat} {x y z r:Operand} {v u s q:Value} (hx:ev e x=some v) (hy:ev e y=some u) (hz:ev e z=some s) (hr:ev e r=some q):PR P n ⟨d,.makeFunc (.func f) #[] #[x,y,z,r],ty,pos,af,g⟩ e w (.func (.func f) #[] #[v,u,s,q]):=
 ⟨λa ha=>by simp [execOp,Instr.makeFunc,ha.ev hx,ha.ev hy,ha.ev hz,ha.ev hr]⟩
end
theorem Z0j {α β:Type} {x:Out α} {k:α->Nat->Nat->Out β} {y:β} {i o:Nat} (h:x.bind k=.ok y i o):∃ a i1 o1,x=.ok a i1 o1/\k a i1 o1=.ok y i o:=by
 cases x with
 | err a c=>simp [Out.bind] at h
 | ok a i1 o1=>exact ⟨a,i1,o1,rfl,h⟩
theorem Z63 {l:List Tkn} {i o:Nat} {s:Str} {i' o':Nat} (h:Z2k l i o=.ok s i' o'):i<i':=by
 unfold Z2k at h;split at h;simp [Z1i] at h;obtain ⟨a,i1,o1,h1,h2⟩:=Z0j h;have:=Z1u h1;simp only [Out.ok.injEq] at h2;omega
theorem Za3 {l:List Tkn} {i o:Nat} {x:Nd} {i' o':Nat} (h:Z1Z l i o=.ok x i' o'):i<i':=by
 have h1:=Z9u l i o;rw [h] at h1;have:=Z21 l _ _ _ _ _ _ _ h1;simp only [Call.lo] at this;omega
theorem Z4a {α:Type} {l:List Tkn} {wd:Str} {z:α} {rd:Nat->Nat->Out α} {i o:Nat} {x:α} {i' o':Nat} (hr:∀ i o x i' o',rd i o=.ok x i' o'->i<i') (h:Z1G l wd z rd i o=.ok x i' o'):i<=i':=by
 unfold Z1G at h;split at h;obtain ⟨a,i1,o1,h1,h2⟩:=Z0j h;obtain ⟨a2,i2,o2,h3,h4⟩:=Z0j h2;have:=hr _ _ _ _ _ h1;have:=(Z2l h3).1;simp only [Out.ok.injEq] at h4;omega;simp only [Out.ok.injEq] at h;omega
theorem ZcZ {l:List Tkn} {i o:Nat} {r:RuleM} {i' o':Nat} (h:Z9s l i o=.ok r i' o'):i<i':=by
 unfold Z9s at h;obtain ⟨a1,i1,o1,h1,h⟩:=Z0j h;obtain ⟨a2,i2,o2,h2,h⟩:=Z0j h;obtain ⟨a3,i3,o3,h3,h⟩:=Z0j h;obtain ⟨a4,i4,o4,h4,h⟩:=Z0j h;obtain ⟨a5,i5,o5,h5,h⟩:=Z0j h;split at h;obtain ⟨a6,i6,o6,h6,h⟩:=Z0j h;obtain ⟨a7,i7,o7,h7,h⟩:=Z0j h;split at h;obtain ⟨a8,i8,o8,h8,h⟩:=Z0j h;obtain ⟨a9,i9,o9,h9,h⟩:=Z0j h;obtain ⟨a10,i10,o10,eZ,h⟩:=Z0j h;obtain ⟨a11,i11,o11,lN,h⟩:=Z0j h;have:=(Z2l h1).1;have:=Z63 h2;have:=(Z2l h3).1;have:=(Z1u h4).2.1;have:=(Z2l h5).1;have:=Z4a (λ_ _ _ _ _ h=>Z63 h) h6;have:=Z4a (λ_ _ _ _ _ h=>Za3 h) h7;have:=Z4a (λ_ _ _ _ _ h=>Za3 h) h8;have:=Z4a (λ_ _ _ _ _ h=>Z63 h) h9;have:=Z4a (λ_ _ _ _ _ h=>Z63 h) eZ;have:=(Z2l lN).1;simp only [Out.ok.injEq] at h;omega;simp [Z1i] at h;simp [Z1i] at h
end Go.Eng
namespace Go.Proofs.YtipfkbkkndacjaaGreatDoor
open Go Go.Eng Go.RowKit Go.Proofs
theorem Zd0 (r:Rul) (p:Option Addr) (a c:Nat) (p':Option Addr) (a' c':Nat) (w):(Instr.buildSlice 90 1 #[(0,.agg (rlC r (.slice p a c) (.slice p' a' c')).toArray)]).run Tryz.prog w=.ok (.slice (some ⟨w.heap.size,0,none⟩) 1 1) (w.alloc (.cells (rlC r (.slice p a c) (.slice p' a' c')).toArray 99)):=by kernel_rfl
theorem ZkE {X:List Nat} {w} {r:Rul} {cs:List Value} (h:Z7.rep X w r cs):∀ i (hi:i < [r].length) (cQ:i < [cs].length),Z7.rep X w [r][i] [cs][i]
 | 0,_,_=>h
theorem Zek (X:List Nat) (b:Nat) (tv:Value) (l:List Tkn) (hL:Z3P l) (m:Int) (i o f:Nat) (w:World) (aW:b≠2) (bQ:b∈X) (hX:∀ c∈X,c<w.heap.size) (hm:w.cell? ⟨2,0,none⟩=some (.I m)) (hp:Pd w b tv l i o) (hf:l.length<=i+f) :
 Calls Tryz.prog 90 #[pQ b] w (PC b w tv l (Z20 l f [] i o) (λrs v w'=>SlV X w' v (rs.map RuleM.rul))):=by
 have ba:=hp.2.1;have og:=hm;have kN:=hp.lt;have jK:=hp.2.2.2.1;generalize hR:Z20 l f [] i o=R;refine cW1 22 Tryz.func90 ?_;refine W ?_
 refine Zt (σ:=Nat×List RuleM×Value×Nat×Nat) (λq=>[(0,pQ b),(3,q.2.2.1)])
  (λq w'=>Z20 l q.1 q.2.1 q.2.2.2.1 q.2.2.2.2=R/\l.length<=q.2.2.2.1+q.1/\q.2.1.length<=q.2.2.2.1/\Pd w' b tv l q.2.2.2.1 q.2.2.2.2/\Row X w' w.heap.size 99 q.2.2.1 (q.2.1.map RuleM.rul)/\w'.cell? ⟨2,0,none⟩=some (.I m)/\Stp [b] w w')
  (λq=>q.1) (f,[],.N,i,o) ⟨rfl,rfl,trivial⟩ ⟨hR,hf,Xq _,hp,Row.nil,hm,Stp.refl _ _⟩ ?_
 clear hR hp hm hf;rintro ⟨f1,rs,rv,i1,o1⟩ w1 ⟨hR,hf,iM,hp,ab,hm,hS⟩;dsimp only at hR hf iM hp ab ⊢;have bJ:=hp.i_lt;obtain ⟨f1,rfl⟩:∃ f',f1=f'+1:=⟨f1 - 1,by omega⟩
 simp only [Z20] at hR;refine W ?_;refine ZDr 12 [] [] [(0,0),(1,0),(2,0),(3,1),(4,0),(5,0),(6,0),(7,1),(8,0),(9,0),(10,1),(11,0)] (λw1 ae=>?_);replace iY:=ae;replace hp:=hp.up ae;replace ab:=ab.up ae;replace hm:=ae.cell (by simp) hm;replace hS:=hS.trans ae.mn;clear ae iY;obtain ⟨dm,bK,gG,cq,fh⟩:=id hp;have jh:=Z6n gG;refine D ?_;by_cases hk:(cur l i1).kind=0;rw [if_pos hk] at hR;subst hR;rw [jh] at hk;refine QO ?_;refine WR ?_;refine PC.ok ?_ hp hS;exact ab.slv hX;rw [if_neg hk] at hR;rw [jh] at hk;refine QO ?_;have lf:∀ c∈ob rv++X,c<w1.heap.size:=λc hc=>by
  rcases Xi.1 hc with h|h
  exact (ab.ob_le c h).2;exact Xa (hX c h) hS.size
 have bE:=Zjz (ob rv++X) b tv l hL m i1 o1 _ aW (by simp [bQ]) lf hm hp;rcases hU:Z9s l i1 o1 with ⟨a,c⟩|⟨r,i2,o2⟩
 rw [hU] at hR;simp only [Out.bind] at hR;subst hR;refine ZV rfl (ZP rfl) (PC.falls bE hU hS) rfl ?_;intro wz bT;focus repeat'(first|refine Zj ?_|refine Zh ?_)
 refine ZH ?_;exact PC.err bT;rw [hU] at hR;simp only [Out.bind] at hR;have ag:=ZcZ hU;refine CL (PC.goes bE hU) ?_;rintro _ w3 ⟨⟨ki,kd,rfl,gA,dP⟩,fM,hT⟩;replace ab:=ab.ext (X':=X) hT (λc hc=>by
  simp only [Xk] at hc;subst hc;exact ⟨bQ,λh=>by have:=(ab.ob_le c h).1;omega⟩) (λc hc=>.inl hc)
 replace hm:=Jy hm aW hT;replace hS:=hS.trans hT;have rL:∀ c∈ob rv++X,c<w3.heap.size:=λc hc=>Xa (lf c hc) hT.size;clear hT hp lf bE dm bK;obtain ⟨p1,c1,rfl,-⟩:=id gA;obtain ⟨p2,c2,rfl,-⟩:=id dP;refine Z1 (Z0 (vs:=[(0,.agg (rlC r.rul (.slice p1 r.rul.cnd.kids.length c1) (.slice p2 r.rul.due.kids.length c2)).toArray)]) rfl (Zd0 _ _ _ _ _ _ _)) rfl ?_;intro bv w4 hN;have an:SlV (ob rv++X) w4 bv [r.rul]:=hN.slvG (css:=[rlC r.rul _ _]) rL rfl rfl (by simp) (ZkE ⟨_,_,rfl,gA,dP⟩) (by simp [maxLen]);have hT:=Z5.stp hN;replace fM:=fM.up hT;replace ab:=ab.up hT;replace hm:=hT.cell (by simp) hm;replace hS:=hS.trans hT.mn;clear hT hN gA dP;have oz:=hS.size;refine Z1 (J4 (X:=X) (base:=w.heap.size) rfl (by decide) rfl rfl ab an (by simp only [Xe,Xf,Xt];omega) (by simp only [Xe,Xf,Xt,maxLen];omega) oz) rfl ?_;rintro rv' w5 ⟨aC,hT,cb⟩;have ez:∀ c∈ob rv,w.heap.size<=c:=λc hc=>(ab.ob_le c hc).1;have oE:(2:Nat)∉ob rv:=λh=>by have:=ez _ h;have:=block_lt_of_cell og;simp at this;omega
 replace hm:=hT.cell oE hm;replace hS:=hS.own hT (λc hc=>.inr (ez c hc));replace fM:Pd w5 b tv l i2 o2:=by
  obtain ⟨g1,g2,g3,g4,g5⟩:=fM;exact ⟨g1.ext hT (λh=>by have:=ez b h;omega),ba.ext hS (λc hc=>hc) (λc hc=>.inl hc),g3,g4,g5⟩
 clear hT;refine W ?_;refine QL (f1,rs++[r],rv',i2,o2) ⟨hR,by dsimp only;omega,by simp;omega,fM,?_,hm,hS⟩ (by dsimp only;omega);rw [XQ];exact aC
theorem Zel (X:List Nat) (v:Value) (l:List Int) (m:Nat) (w) (hs:SlV X w v l) (hl:∀ a∈l,I64 a) (hm:m<=100000):CC 65 #[v,.I (m:Int)] w λr w'=>ZI 3 w w' r (l.take m):=by
 have aT:=hs.max;refine cW2 14 Tryz.func65 ?_;refine W ?_;have j5:min (l.length:Int) (m:Int)=((min l.length m:Nat):Int):=by omega
 refine Z9 (Z1W (r:=min l.length m) rfl hs rfl (by omega) (Nat.min_le_left _ _)) rfl ?_;have ax:SlV X w _ (l.take (min l.length m)):=hs.slc (Xq (min l.length m)) (Nat.min_le_left _ _);refine Z1 (JD rfl (by decide) rfl rfl (ZI.nil (w:=w)) (ys:=l.take (min l.length m)) (ax.wk (by simp [ob])) (by simp;omega) (by simp [maxLen];omega)) rfl ?_;rintro v' w1 ⟨ab,-,-⟩;refine W ?_;refine WR ?_;refine .mk ?_;have e:l.take (min l.length m)=l.take m:=by rw [Nat.min_comm,<- YaG,Xo]
 rw [XT,e] at ab;exact ab
theorem ZkF (p:Option Addr) (l c:Nat) (w):(Instr.build 146 #[(0,.slice p l c)]).run Tryz.prog w=.ok (.agg #[.slice p l c,.I 0]) w:=by kernel_rfl
theorem ZgZ (X:List Nat) (lv:Value) (l:List Int) (w:World) (hX:∀ b∈X,b<w.heap.size) (hs:SlV [] w lv l) (hl:∀ a∈l,I64 a):CC 36 #[lv] w λr w'=>∃ rs:List RuleM,rs.length<=4/\(∀ x∈rs,Z8f x)/\SlV X w' r (rs.map RuleM.rul)/\Stp [] w w':=by
 refine cW1 24 Tryz.func36 ?_;refine W ?_;refine CM (Zg rfl rfl) (Zel [] lv l 120 _ hs hl (by decide)) ?_;rintro v w1 dt;have ax:=dt.slv (X:=[]) (by simp);have hS:=dt.2;have dW:∀ a∈l.take 120,I64 a:=λa ha=>hl a (Yas ha);clear dt;generalize l.take 120=l' at *;obtain ⟨p,c,rfl,-⟩:=id ax;refine W ?_;apply Z8 (vs:=[(0,.slice p l'.length c)]) rfl (ZkF _ _ _) rfl;refine Z1 (Zp rfl) rfl ?_;rintro _ w2 ⟨bm,rfl,kG,aA,hT⟩;replace aA:Mk3 w2 bm (.slice p l'.length c) 0:=aA;replace ax:SlV [bm] w2 (.slice p l'.length c) l':=ax.ext hT (by simp) (λb h=>.inr (by simp at h;omega));have kN:w.heap.size<=bm:=Xg hS.size kG;replace hS:=hS.trans hT;clear hT kG;refine W ?_;refine CM (Zg rfl rfl) (Zv bm _ l' _ 5 _ (by decide) (by omega) aA ax dW) ?_;rintro _ w3 ⟨k,rfl,hk,aA,hT⟩;replace ax:=ax.ext hT (λ_ h=>h) (λ_ h=>.inl h);have ag:=aA.lt;refine W ?_
 refine Zt (σ:=Nat×List RuleM×Value×Nat) (λq=>[(3,pQ bm),(4,q.2.2.1),(5,.I (k:Int)),(6,.I (q.1:Int))])
  (λq w'=>q.1<=k/\q.2.1.length=q.1/\(∀ x∈q.2.1,Z8f x)/\q.2.2.2<=1+300 * q.1/\Mk3 w' bm (.slice p l'.length c) q.2.2.2/\Row (bm :: X) w' w3.heap.size 99 q.2.2.1 (q.2.1.map RuleM.rul)/\Stp [bm] w3 w')
  (λq=>k - q.1) (0,[],.N,1) ⟨rfl,rfl,rfl,rfl,trivial⟩ ⟨Xq _,rfl,by simp,by simp,aA,Row.nil,Stp.refl _ _⟩ ?_
 have am:=hS.ow hT;have rM:=ax;clear aA ax hS hT;rintro ⟨i,rs,v,at_⟩ w4 ⟨hi,ai,aB,iR,aA,ab,hS⟩;dsimp only at hi ai aB iR aA ab ⊢;have bI:=hS.size;by_cases iX:i<k;refine QO ?_;have lf:∀ b∈ob v++bm :: X,b<w4.heap.size:=λb hb=>by
  rcases Xi.1 hb with h|h
  exact (ab.ob_le b h).2;rcases Xb.1 h with rfl|h
  omega;have:=hX b h;have:=am.size;omega
 refine CM (ZP rfl) (Zga (ob v++bm :: X) bm _ l' _ _ aA (rM.ext hS (λ_ h=>h) (λ_ h=>.inl h)) dW (by omega) lf) ?_;rintro _ w5 ⟨r,i',⟨ki,kd,rfl,gA,dP⟩,hr,aA,cQ,hT⟩;replace ab:=ab.ext (X':=bm :: X) hT (λb hb=>by
  simp only [Xk] at hb;subst hb;exact ⟨by simp,λh=>by have:=(ab.ob_le b h).1;omega⟩) (λb hb=>.inl hb)
 have rN:∀ b∈ob v++bm :: X,b<w5.heap.size:=λb hb=>Xa (lf b hb) hT.size;replace hS:=hS.trans hT;clear hT lf;obtain ⟨p1,c1,rfl,-⟩:=id gA;obtain ⟨p2,c2,rfl,-⟩:=id dP;refine Z1 (Z0 (vs:=[(0,.agg (rlC r.rul (.slice p1 r.rul.cnd.kids.length c1) (.slice p2 r.rul.due.kids.length c2)).toArray)]) rfl (Zd0 _ _ _ _ _ _ _)) rfl ?_;intro bv w6 hN;have an:SlV (ob v++bm :: X) w6 bv [r.rul]:=hN.slvG (css:=[rlC r.rul _ _]) rN rfl rfl (by simp) (ZkE ⟨_,_,rfl,gA,dP⟩) (by simp [maxLen]);have hT:=Z5.stp hN;replace aA:=aA.up hT;replace ab:=ab.up hT;replace hS:=hS.trans hT.mn;clear hT hN gA dP;have oz:=hS.size;have iM:(rs.map RuleM.rul).length=i:=by rw [Xt,ai]
 refine Z1 (J4 (X:=bm :: X) (base:=w3.heap.size) rfl (by decide) rfl rfl ab an (by simp only [Xe,Xf,Xt];omega) (by simp only [Xe,Xf,Xt,maxLen];omega) oz) rfl ?_;rintro rv' w7 ⟨aC,hT,cb⟩;have ez:∀ c∈ob v,w3.heap.size<=c:=λc hc=>(ab.ob_le c hc).1;replace aA:=aA.ext hT (λh=>by have:=ez _ h;omega);replace hS:=hS.own hT (λc hc=>.inr (ez c hc));clear hT;refine W ?_;refine QL (i+1,rs++[r],rv',i') ⟨iX,by simp [ai],?_,Xg cQ (Xg (Ybi iR 300) (Nat.le_of_eq (by rw [Nat.mul_add,YaB]))),aA,?_,hS⟩ (by dsimp only;omega);intro x hx;rcases Xi.1 hx with h|h
 exact aB x h;simp at h;subst h;exact hr;rw [XQ];exact aC;refine QO ?_;refine WR ?_;refine .mk ⟨rs,by omega,aB,(ab.slv (λb hb=>by
  rcases Xb.1 hb with rfl|h
  exact ag;have:=hX b h;have:=am.size;omega)).wk (by simp;exact λ_ h=>.inr h),am.ow hS⟩
abbrev rlN (s:Str):Rul:=⟨s,0,s,.mk 2 0 [] [],.mk 3 0 [] [],[],[]⟩
theorem ckN (s:Str):decide (Z0J (rlN s)=0)=ZE s:=by
 have m1:Z1H (.mk 2 0 [] []) 2=0:=by
  unfold Z1H;rw [show Zz (.mk 2 0 [] [])=1 by simp only [Z0O,Nd.kids,XL];rfl,show Ze (.mk 2 0 [] [])=2 by simp only [Z0N,Nd.kids,Nd.kind,Nd.num,Nd.word,XL];rfl];decide
 have m2:Z1H (.mk 3 0 [] []) 3=0:=by
  unfold Z1H;rw [show Zz (.mk 3 0 [] [])=1 by simp only [Z0O,Nd.kids,XL];rfl,show Ze (.mk 3 0 [] [])=3 by simp only [Z0N,Nd.kids,Nd.kind,Nd.num,Nd.word,XL];rfl];decide
 have hn:Jf (rlN s)=ZE s:=by simp [Jf]
 unfold Z0J;rw [hn,m1,m2];cases ZE s<;>simp
theorem Zd1 (k:Int) (w):(Instr.build 97 #[(0,.I k)]).run Tryz.prog w=.ok (.agg #[.I k,.I 0,str [],.N]) w:=by kernel_rfl
theorem Z2e (s:Str) (m:Int) (w) (hF:SlV [] w Z2x Zf) (hm:w.cell? ⟨2,0,none⟩=some (.I m)) :
 CC 191 #[str s] w λr w'=>r=.B (ZE s)/\Stp [] w w':=by
 refine cW1 12 Tryz.func191 ?_;refine W ?_;apply Z8 (vs:=[(0,.I 2)]) rfl (Zd1 _) rfl;apply Z8 (vs:=[(0,.I 3)]) rfl (Zd1 _) rfl;apply Z8 (vs:=[(0,str s),(2,str s),(3,.agg #[.I 2,.I 0,str [],.N]),(4,.agg #[.I 3,.I 0,str [],.N])]) rfl (ZjK _ _ _ _ _ _ _ _ _ _ _ _ _ _) rfl;refine Z1 Z2 rfl ?_;rintro _ w1 ⟨b,rfl,hb,e0,hT⟩;refine SB (us:=rlC (rlN s) Jl Jl) (ZaK (rlN s) (Zm (α:=Nd) [] w) (Zm (α:=Nd) [] w)) e0 ?_;rintro _ w2 ⟨aq,e1⟩;have hS:=hT.ow aq;clear hT aq e0;refine W ?_;refine CM (ZP rfl) (Z72 _ (rlN s) m _ ⟨Jl,Jl,rfl,Zm _ _,Zm _ _⟩ (hF.up hS) (hS.cell (by simp) hm)) ?_;rintro _ w3 ⟨rfl,hT⟩;replace hS:=hS.trans hT;refine RT ?_;exact ⟨by rw [<- ckN s],hS⟩
def Z0E (q:Cr):Bool:=decide ((Z24 q.cnd).2≠0) || decide ((Z24 q.due).2≠0) || decide ((Z24 q.cnd).1≠2) || decide ((Z24 q.due).1≠3) || decide (q.frm<0) || decide (q.frm > 3652058) || !ZE q.name || !ZE q.on || (decide (q.unl≠[]) && !ZE q.unl) || (decide (q.els≠[]) && !ZE q.els)
def Zb9 (q:Cr):Int:=if Z0E q then 22 else 0
theorem Zem (v:Value) (q:Cr) (w) (m:Int) (hF:SlV [] w Z2x Zf) (hm:w.cell? ⟨2,0,none⟩=some (.I m)) (hv:CrV [] w v q) (fy:∀ x∈q.cnd++q.due,opP x.op) :
 CC 110 #[v] w λr w'=>r=.I (Zb9 q)/\Stp [] w w':=by
 obtain ⟨kc,kd,rfl,bY,cK⟩:=hv;refine cW1 60 Tryz.func110 ?_;refine W ?_;refine Z1 (Zp rfl) rfl ?_;rintro _ w1 ⟨b,rfl,hb,e1,hS⟩;replace e1:Blk w1 b 62 (crC q kc kd):=e1;replace bY:=bY.up hS;replace cK:=cK.up hS;clear hb;refine W ?_;refine CL (Z8h _ q.cnd _ bY (λx hx=>fy x (Xi.2 (.inl hx)))) ?_;rintro _ w2 ⟨rfl,hT⟩;replace e1:=e1.up hT;replace bY:=bY.up hT;replace cK:=cK.up hT;replace hS:=hS.trans hT;clear hT;refine W ?_;refine CL (Z8h _ q.due _ cK (λx hx=>fy x (Xi.2 (.inr hx)))) ?_;rintro _ w2 ⟨rfl,hT⟩;replace e1:=e1.up hT;replace bY:=bY.up hT;replace cK:=cK.up hT;replace hS:=hS.trans hT;clear hT;refine W ?_;refine JJ (σ:=Bool) (λu=>[(1,pQ b),(2,.I 0),(19,.B u)]) (λu w'=>Blk w' b 62 (crC q kc kd)/\Stp [] w w'/\u=Z0E q) ?_ ?_
 . repeat'(first|refine W1 ?_|omega|refine VG ?_ ?_<;>intro hg|refine VC ?_ ?_<;>intro hc)
   all_goals try (first|exact ZD true ⟨rfl,rfl,rfl,trivial⟩ ⟨e1,hS,by simp [Z0E, *]⟩|exact ZD false ⟨rfl,rfl,rfl,trivial⟩ ⟨e1,hS,by simp [Z0E, *]⟩|exact ZD _ ⟨rfl,rfl,rfl,trivial⟩ ⟨e1,hS,by simp [Z0E, *]⟩)
   refine W ?_;refine CM (ZP rfl) (Z2e q.name m _ (hF.up hS) (hS.cell (by simp) hm)) ?_;rintro _ w3 ⟨rfl,hT⟩;replace e1:=e1.up hT;replace bY:=bY.up hT;replace cK:=cK.up hT;replace hS:=hS.trans hT;clear hT;cases hn_name:ZE q.name with
   | false=>
     repeat'(first|refine W1 ?_|omega|refine VG ?_ ?_<;>intro hg|refine VC ?_ ?_<;>intro hc)
     all_goals (first|exact ZD true ⟨rfl,rfl,rfl,trivial⟩ ⟨e1,hS,by simp [Z0E, *]⟩|exact ZD false ⟨rfl,rfl,rfl,trivial⟩ ⟨e1,hS,by simp [Z0E, *]⟩|exact ZD _ ⟨rfl,rfl,rfl,trivial⟩ ⟨e1,hS,by simp [Z0E, *]⟩)
   | true=>
     repeat'(first|refine W1 ?_|omega|refine VG ?_ ?_<;>intro hg|refine VC ?_ ?_<;>intro hc)
     refine W ?_;refine CM (ZP rfl) (Z2e q.on m _ (hF.up hS) (hS.cell (by simp) hm)) ?_;rintro _ w3 ⟨rfl,hT⟩;replace e1:=e1.up hT;replace bY:=bY.up hT;replace cK:=cK.up hT;replace hS:=hS.trans hT;clear hT;cases hn_on:ZE q.on with
     | false=>
       repeat'(first|refine W1 ?_|omega|refine VG ?_ ?_<;>intro hg|refine VC ?_ ?_<;>intro hc)
       all_goals (first|exact ZD true ⟨rfl,rfl,rfl,trivial⟩ ⟨e1,hS,by simp [Z0E, *]⟩|exact ZD false ⟨rfl,rfl,rfl,trivial⟩ ⟨e1,hS,by simp [Z0E, *]⟩|exact ZD _ ⟨rfl,rfl,rfl,trivial⟩ ⟨e1,hS,by simp [Z0E, *]⟩)
     | true=>
       repeat'(first|refine W1 ?_|omega|refine VG ?_ ?_<;>intro hg|refine VC ?_ ?_<;>intro hc)
       . refine W ?_
         refine CM (ZP rfl) (Z2e q.unl m _ (hF.up hS) (hS.cell (by simp) hm)) ?_;rintro _ w3 ⟨rfl,hT⟩;replace e1:=e1.up hT;replace bY:=bY.up hT;replace cK:=cK.up hT;replace hS:=hS.trans hT;clear hT;cases hn_unl:ZE q.unl with
         | false=>
           repeat'(first|refine W1 ?_|omega|refine VG ?_ ?_<;>intro hg|refine VC ?_ ?_<;>intro hc)
           all_goals (first|exact ZD true ⟨rfl,rfl,rfl,trivial⟩ ⟨e1,hS,by simp [Z0E, *]⟩|exact ZD false ⟨rfl,rfl,rfl,trivial⟩ ⟨e1,hS,by simp [Z0E, *]⟩|exact ZD _ ⟨rfl,rfl,rfl,trivial⟩ ⟨e1,hS,by simp [Z0E, *]⟩)
         | true=>
           repeat'(first|refine W1 ?_|omega|refine VG ?_ ?_<;>intro hg|refine VC ?_ ?_<;>intro hc)
           . refine W ?_
             refine CM (ZP rfl) (Z2e q.els m _ (hF.up hS) (hS.cell (by simp) hm)) ?_;rintro _ w3 ⟨rfl,hT⟩;replace e1:=e1.up hT;replace bY:=bY.up hT;replace cK:=cK.up hT;replace hS:=hS.trans hT;clear hT;cases hn_els:ZE q.els with
             | false=>
               repeat'(first|refine W1 ?_|omega|refine VG ?_ ?_<;>intro hg|refine VC ?_ ?_<;>intro hc)
               all_goals (first|exact ZD true ⟨rfl,rfl,rfl,trivial⟩ ⟨e1,hS,by simp [Z0E, *]⟩|exact ZD false ⟨rfl,rfl,rfl,trivial⟩ ⟨e1,hS,by simp [Z0E, *]⟩|exact ZD _ ⟨rfl,rfl,rfl,trivial⟩ ⟨e1,hS,by simp [Z0E, *]⟩)
             | true=>
               repeat'(first|refine W1 ?_|omega|refine VG ?_ ?_<;>intro hg|refine VC ?_ ?_<;>intro hc)
               all_goals (first|exact ZD true ⟨rfl,rfl,rfl,trivial⟩ ⟨e1,hS,by simp [Z0E, *]⟩|exact ZD false ⟨rfl,rfl,rfl,trivial⟩ ⟨e1,hS,by simp [Z0E, *]⟩|exact ZD _ ⟨rfl,rfl,rfl,trivial⟩ ⟨e1,hS,by simp [Z0E, *]⟩)
           all_goals (first|exact ZD true ⟨rfl,rfl,rfl,trivial⟩ ⟨e1,hS,by simp [Z0E, *]⟩|exact ZD false ⟨rfl,rfl,rfl,trivial⟩ ⟨e1,hS,by simp [Z0E, *]⟩|exact ZD _ ⟨rfl,rfl,rfl,trivial⟩ ⟨e1,hS,by simp [Z0E, *]⟩)
       . refine W ?_
         refine CM (ZP rfl) (Z2e q.els m _ (hF.up hS) (hS.cell (by simp) hm)) ?_;rintro _ w3 ⟨rfl,hT⟩;replace e1:=e1.up hT;replace bY:=bY.up hT;replace cK:=cK.up hT;replace hS:=hS.trans hT;clear hT;cases hn_els:ZE q.els with
         | false=>
           repeat'(first|refine W1 ?_|omega|refine VG ?_ ?_<;>intro hg|refine VC ?_ ?_<;>intro hc)
           all_goals (first|exact ZD true ⟨rfl,rfl,rfl,trivial⟩ ⟨e1,hS,by simp [Z0E, *]⟩|exact ZD false ⟨rfl,rfl,rfl,trivial⟩ ⟨e1,hS,by simp [Z0E, *]⟩|exact ZD _ ⟨rfl,rfl,rfl,trivial⟩ ⟨e1,hS,by simp [Z0E, *]⟩)
         | true=>
           repeat'(first|refine W1 ?_|omega|refine VG ?_ ?_<;>intro hg|refine VC ?_ ?_<;>intro hc)
           all_goals (first|exact ZD true ⟨rfl,rfl,rfl,trivial⟩ ⟨e1,hS,by simp [Z0E, *]⟩|exact ZD false ⟨rfl,rfl,rfl,trivial⟩ ⟨e1,hS,by simp [Z0E, *]⟩|exact ZD _ ⟨rfl,rfl,rfl,trivial⟩ ⟨e1,hS,by simp [Z0E, *]⟩)
       all_goals (first|exact ZD true ⟨rfl,rfl,rfl,trivial⟩ ⟨e1,hS,by simp [Z0E, *]⟩|exact ZD false ⟨rfl,rfl,rfl,trivial⟩ ⟨e1,hS,by simp [Z0E, *]⟩|exact ZD _ ⟨rfl,rfl,rfl,trivial⟩ ⟨e1,hS,by simp [Z0E, *]⟩)
 rintro u w4 ⟨e1,hS,hu⟩
 try dsimp only at hu ⊢
 unfold Zb9;rw [<- hu];cases u with
 | true=>
   repeat'(first|refine W1 ?_|omega|refine VG ?_ ?_<;>intro hg|refine VC ?_ ?_<;>intro hc)
   refine RU ?_;exact ⟨rfl,hS⟩
 | false=>
   repeat'(first|refine W1 ?_|omega|refine VG ?_ ?_<;>intro hg|refine VC ?_ ?_<;>intro hc)
   refine RU ?_;exact ⟨rfl,hS⟩
structure Zwr (q:Cr):Prop where
 frm:I64 q.frm
 cnd:∀ x∈q.cnd,I64 x.op/\I64 x.n
 due:∀ x∈q.due,I64 x.op/\I64 x.n
 lcnd:q.cnd.length<=200
 ldue:q.due.length<=200
 lname:q.name.length<=12
 lon:q.on.length<=12
 lunl:q.unl.length<=12
 lels:q.els.length<=12
def Z4O (m:Nat) (z:Ins):Prop:=0<=z.op/\z.op<=24/\0<=z.n/\z.n<=2147483647+(m:Int)
theorem Z4O.le {m k:Nat} {z:Ins} (h:Z4O m z) (hk:m<=k):Z4O k z:=⟨h.1,h.2.1,h.2.2.1,by have:=h.2.2.2;omega⟩
theorem ZkG:∀ (l:List Nd) (p m:Nat),(∀ y∈l,∀ p,∀ z∈Zd y p,Z4O (p+(Zd y p).length) z)->p+(Jq (l.map Zd) p).length<=m->∀ z∈Jq (l.map Zd) p,Z4O m z
 | [],p,m,_,_,z,hz=>by simp [Jq] at hz
 | y :: l, p, m, h, hm, z, hz => by
   simp only [Xs,Jq,Xi,Xc] at hz hm;rcases hz with hz|hz
   exact (h y (by simp) p z hz).le (by omega);exact ZkG l _ m (λy hy=>h y (by simp [hy])) (by omega) z hz
theorem Zws (s:Str):∀ o∈opF s,0<=o/\o<=24:=by
 intro o ho;unfold opF at ho;cases h:Z7P.find? (λp=>decide (p.1=s)) with
 | none=>rw [h] at ho;cases ho
 | some p=>
   rw [h] at ho;have aB:∀ q∈Z7P,∀ o∈q.2,0<=o/\o<=24:=by decide +kernel
   exact aB p (X5 h) o ho
theorem ZkH (k:Int) (s:Str) (m:Nat):∀ z∈Z3W k s,Z4O m z:=by
 intro z hz;unfold Z3W Z2h at hz;simp only [Xi,XK] at hz;rcases hz with hz|⟨o,ho,rfl⟩
 split at hz;simp only [Xb,Xj,or_false] at hz;subst hz;exact ⟨by decide,by decide,by decide,by simp only;omega⟩;cases hz;obtain ⟨h1,h2⟩:=Zws s o ho;exact ⟨h1,h2,by simp,by simp only;omega⟩
theorem ZkI (c y n:Cf) (p m:Nat) (hc:∀ p,∀ z∈c p,Z4O (p+(c p).length) z) (hy:∀ p,∀ z∈y p,Z4O (p+(y p).length) z) (hn:∀ p,∀ z∈n p,Z4O (p+(n p).length) z) (hm:p+(chC c y n p).length<=m):∀ z∈chC c y n p,Z4O m z:=by
 intro z hz;unfold chC at hz hm;simp only [Xi,Xb,Xj,or_false,Xc,Xe,Xf] at hz hm;rcases hz with (((hz|rfl)|hz)|rfl)|hz
 exact (hc p z hz).le (by omega);exact ⟨by simp,by simp,by simp only;omega,by simp only;omega⟩;exact (hy _ z hz).le (by omega);exact ⟨by simp,by simp,by simp only;omega,by simp only;omega⟩;exact (hn _ z hz).le (by omega)
theorem ZnA (k n:Int) (s:Str) (m:Nat) (h:Z0M k n s≠0):Z4O m (Z14 k n s):=by
 unfold Z0M at h;unfold Z14;by_cases k4:k=4
 . subst k4
   rw [if_pos rfl] at h;have hf:(ZR s).2.2=true:=by
    cases hb:(ZR s).2.2 with
    | true=>rfl
    | false=>rw [Z6a hb] at h;simp at h
   obtain ⟨i,hi,_,he⟩:=(Z8i s (ZR s).1).1 ⟨hf,rfl⟩;rw [if_neg (by decide),if_neg (by decide),if_neg (by decide)];exact ⟨by simp,by simp,by simp only;omega,by simp only;omega⟩
 rw [if_neg k4] at h;split at h;exact absurd rfl h;by_cases k1:k=1;rw [if_pos k1] at h ⊢;split at h;exact ⟨by simp,by simp,by simp only;omega,by simp only;omega⟩;exact absurd rfl h;rw [if_neg k1] at h ⊢;by_cases k2:k=2;rw [if_pos k2] at h ⊢;split at h;exact ⟨by simp,by simp,by simp only;omega,by simp only;omega⟩;exact absurd rfl h;rw [if_neg k2] at h ⊢;by_cases k3:k=3;rw [if_pos k3] at h ⊢;split at h;exact ⟨by simp,by simp,by simp only;omega,by simp only;omega⟩;exact absurd rfl h;rw [if_neg k3] at h;exact absurd rfl h
theorem Zt3 (x:Nd):Ze x≠0->∀ p,∀ z∈Zd x p,Z4O (p+(Zd x p).length) z:=by
 induction x using Nd.ind with
 | h k n s l ih=>
 intro ht p;have hk:∀ y∈l,Ze y≠0:=λy hy=>Z6p (x:=.mk k n s l) ht hy;have ih':∀ y∈l,∀ p,∀ z∈Zd y p,Z4O (p+(Zd y p).length) z:=λy hy=>ih y hy (hk y hy);have kJ:Ze (.mk k n s l)=JB k n s (l.map Ze):=Z0N _;rw [kJ] at ht;have hplain:∀ m,p+(Z0H k s (l.map Zd) p).length<=m->∀ z∈Z0H k s (l.map Zd) p,Z4O m z:=λm hm z hz=>by
  rw [Z2O] at hz hm;rw [Xc] at hm;rcases Xi.1 hz with hz|hz
  exact ZkG l p m ih' (by omega) z hz;exact ZkH k s m z hz
 have cC:∀ i,∀ p,∀ z∈(l.map Zd).getD i Z58 p,Z4O (p+((l.map Zd).getD i Z58 p).length) z:=λi p z hz=>by
  by_cases hi:i<l.length;have e:(l.map Zd).getD i Z58=Zd l[i]:=by rw [XC,XU (by simpa using hi)];simp
  rw [e] at hz ⊢;exact ih' _ (Xd hi) p z hz;have e:(l.map Zd).getD i Z58=Z58:=by rw [XC,YaU (by simpa using hi)];rfl
  rw [e] at hz;cases hz
 have jX:∀ b:Int,(b=0\/b=1)->∀ p:Nat,∀ z∈[(⟨2,b⟩:Ins)],Z4O (p+[(⟨2,b⟩:Ins)].length) z:=λb hb p z hz=>by
  simp only [Xb,Xj,or_false] at hz;subst hz;exact ⟨by simp,by simp,by simp only;omega,by simp only;omega⟩
 have cO:∀ c:List Ins,p+c.length<=p+c.length:=λc=>Xn _;rw [Zd];rcases Z75 ht with ⟨he,hc⟩|⟨h0,h3,lR,hc⟩
 have hl:l=[]:=by simpa using he
 subst hl;unfold Z1h;rw [if_pos (show (List.map Zd ([]:List Nd)).length=0 from rfl)];intro z hz;simp only [Xb,Xj,or_false] at hz;subst hz;exact ZnA k n s _ (by rw [<- hc];exact ht);have hl:l≠[]:=λh=>lR (by rw [h];rfl)
 have dL:¬ (l.map Zd).length=0:=by simpa using hl
 unfold Z1h;rw [if_neg dL];split;exact ZkI _ _ _ p _ (cC 0) (cC 1) (cC 2) (Xn _);split;exact ZkI _ _ _ p _ (cC 0) (cC 1) (jX 0 (.inl rfl)) (Xn _);split;exact ZkI _ _ _ p _ (cC 0) (jX 1 (.inr rfl)) (cC 1) (Xn _);split;intro z hz;rcases Xi.1 hz with hz|hz
 exact hplain _ (by simp) z hz;simp only [Xb,Xj,or_false] at hz;subst hz;exact ⟨by simp,by simp,by simp only;omega,by simp only;omega⟩;exact hplain _ (Xn _)
theorem Za4 (x:Nd) (ht:Ze x≠0) (hl:(ZU x).length<=200):∀ z∈ZU x,I64 z.op/\I64 z.n:=by
 intro z hz;unfold ZU at hz hl;rw [Xc] at hl;rcases Xi.1 hz with hz|hz
 obtain ⟨h1,h2,h3,h4⟩:=Zt3 x ht 0 z hz;unfold I64;constructor<;>omega;simp only [Xb,Xj,or_false] at hz;subst hz;unfold I64;simp
theorem Z4F {s:Str} (h:ZE s=true):s.length<=12:=by
 unfold ZE Z3T at h;simp only [Xl,decide_eq_true_eq] at h;have:=h.1;omega
theorem Z8R (r:Rul) (h:Z0r r=0):Zwr (crF r)/\Zb9 (crF r)=0:=by
 unfold crF;rw [if_pos h];unfold Z0r at h;split at h
 contradiction;rename_i iO;have fX:Z0J r=0:=by omega
 unfold Z0J at fX;split at fX;simp at fX;rename_i fA;split at fX;simp at fX;rename_i iV;split at fX
 contradiction;rename_i ik;have rO:Z1H r.cnd 2=0:=by omega
 split at h
 contradiction;rename_i yf;have rP:Z0B r.cnd=0:=by omega
 have key:∀ (x:Nd) (t:Int),t≠0->Z1H x t=0->Z0B x=0->Zz x<=12/\Ze x=t/\(ZU x).length<=200:=λx t lY hm he=>by
  unfold Z1H at hm;unfold Z0B at he;split at hm;rename_i hn;rw [if_pos hn] at he;split at hm;simp at hm;rename_i h0;rw [if_neg h0] at he;split at hm;rename_i wR;split at he;simp at he;exact ⟨hn,wR,by omega⟩;simp at hm;simp at hm
 obtain ⟨n1,t1,l1⟩:=key r.cnd 2 (by decide) rO rP;obtain ⟨n2,t2,l2⟩:=key r.due 3 (by decide) fX h;have v1:=Z9J r.cnd (by omega) n1 l1;have v2:=Z9J r.due (by omega) n2 l2;have lg:Jf r=true:=by simpa using fA
 unfold Jf at lg;simp only [Xl,Yav,decide_eq_true_eq] at lg;obtain ⟨⟨⟨a1,a2⟩,a3⟩,a4⟩:=lg;refine ⟨⟨show I64 r.frm by unfold I64;omega,Za4 _ (by omega) l1,Za4 _ (by omega) l2,l1,l2,Z4F a1,Z4F a2,?_,?_⟩,?_⟩;rcases a3 with h|h
 rw [show (⟨r.name,r.frm,r.on,ZU r.cnd,ZU r.due,r.unl,r.els⟩:Cr).unl=r.unl from rfl,h];simp;exact Z4F h;rcases a4 with h|h
 rw [show (⟨r.name,r.frm,r.on,ZU r.cnd,ZU r.due,r.unl,r.els⟩:Cr).els=r.els from rfl,h];simp;exact Z4F h;unfold Zb9 Z0E;simp only [v1,v2,t1,t2,a1,a2];rcases a3 with h3|h3<;>rcases a4 with h4|h4<;>simp [h3,h4]<;>omega
structure ZkJ (n:Nat) (a:Atp):Prop where
 entry:0<=a.entry/\a.entry<=15
 party:0<=a.party/\a.party<=2
 crr:0<=a.crr/\a.crr<n
 sent:739616<=a.sent/\a.sent<=739655
 len:a.rets.length<=3
 rets:∀ x∈a.rets,Zfn n x
def Za5 (l:List Fct):Prop:=∀ k (h:k<l.length),2 * (k:Int)<=l[k].entry/\l[k].entry<=2 * (k:Int)+1
structure Z8S (c:Cas):Prop where
 fl:c.fcts.length<=8
 fo:∀ f∈c.fcts,Z9Y f
 en:Za5 c.fcts
 rl:c.ruls.length<=4
 ro:∀ q∈c.ruls,∃ r:RuleM,Z8f r/\Z0r r.rul=0/\q=crF r.rul
 al:c.atts.length<=4
 ao:∀ a∈c.atts,ZkJ c.crrs.length a
 cl:1<=c.crrs.length/\c.crrs.length<=4
 co:∀ x∈c.crrs,Z9Z x
 sl:c.stys.length<=2
 so:∀ x∈c.stys,Zfm x
 cal:Zoe c.cal
 court:0<=c.court/\c.court<=2
 today:739616<=c.today/\c.today<=739705
structure Z9e (X:List Nat) (lv:Value) (l:List Int) (c:Cas) (R:Z1e) (w:World):Prop where
 li:SlV X w lv l
 ff:SlV X w R.fv c.fcts
 rr:SlV X w R.rv c.ruls
 aa:SlV X w R.av c.atts
 cc:SlV X w R.cv c.crrs
 ss:SlV X w R.sv c.stys
 ho:SlV X w R.hv c.cal.hols
 clo:SlV X w R.lv c.cal.clos
 one:R.zo.oneCell'=true/\R.zs.oneCell'=true/\R.hr.oneCell'=true
theorem Z9e.ext {X:List Nat} {lv:Value} {l:List Int} {c:Cas} {R:Z1e} {w w':World} (h:Z9e X lv l c R w) (hS:Stp X w w'):Z9e X lv l c R w':=
 ⟨h.li.ext hS (λ_ h=>h) (λ_ h=>.inl h),h.ff.ext hS (λ_ h=>h) (λ_ h=>.inl h),h.rr.ext hS (λ_ h=>h) (λ_ h=>.inl h),h.aa.ext hS (λ_ h=>h) (λ_ h=>.inl h),h.cc.ext hS (λ_ h=>h) (λ_ h=>.inl h),h.ss.ext hS (λ_ h=>h) (λ_ h=>.inl h),h.ho.ext hS (λ_ h=>h) (λ_ h=>.inl h),h.clo.ext hS (λ_ h=>h) (λ_ h=>.inl h),h.one⟩
theorem Z9e.cell {X:List Nat} {lv:Value} {l:List Int} {c:Cas} {R:Z1e} {w} (h:Z9e X lv l c R w):∀ u∈JG c R,u.oneCell'=true:=by
 have h1:=h.ff.one;have h2:=h.rr.one;have h3:=h.aa.one;have h4:=h.cc.one;have h5:=h.ss.one;have h6:=h.ho.one;have h7:=h.clo.one;obtain ⟨h8,h9,eZ⟩:=h.one;intro u hu;simp only [JG,Z0h,Xb,Xj,or_false,XA,XT] at hu;rcases hu with rfl|rfl|rfl|rfl|rfl|rfl|rfl|rfl|rfl|rfl|rfl|rfl|rfl|rfl|rfl|rfl|rfl|rfl|rfl<;>first|assumption|rfl
theorem Zh0 (c:Cal) (hv lv zo zs hr:Value) (p:Option Addr) (n k:Nat) (cs:List Crr) (ct td:Int) (w):(Instr.build 37 #[(5,Z6F c hv lv zo zs hr),(3,.slice p n k),(6,.I ct),(7,.I td)]).run Tryz.prog w=.ok (.agg (JG ⟨[],[],[],cs,[],c,ct,td⟩ ⟨.N,.N,.N,.slice p n k,.N,hv,lv,zo,zs,hr⟩).toArray) w:=by kernel_rfl
theorem Zh1 (f:Fct) (w):(Instr.buildSlice 24 1 #[(0,aG f)]).run Tryz.prog w=.ok (.slice (some ⟨w.heap.size,0,none⟩) 1 1) (w.alloc (.cells (Z3.enc f).toArray 45)):=by kernel_rfl
theorem ZkK (a b c d:Int) (w):(Instr.build 78 #[(0,.I a),(1,.I b),(2,.I c),(3,.I d)]).run Tryz.prog w=.ok (.agg (atC ⟨a,b,c,d,[]⟩ (.N)).toArray) w:=by kernel_rfl
theorem Zfq {a:Atp} {v:Value} (h:v.oneCell'=true):∀ u∈atC a v,u.oneCell'=true:=by
 intro u hu;simp only [Xb,Xj,or_false] at hu;rcases hu with rfl|rfl|rfl|rfl|rfl<;>first|assumption|rfl
theorem Zen (lv:Value) (l:List Int) (w) (hs:SlV [] w lv l) (hl:∀ a∈l,I64 a) (hL:Z0I w) (hM:Z3y w) :
 CC 10 #[lv] w λr w'=>∃ (c:Cas) (R:Z1e),r=.agg (JG c R).toArray/\Z2B w' c R/\Z8S c/\Stp [] w w':=by
 have dW:∀ k,∀ a∈l.drop k,I64 a:=λk a h=>hl a (YaK h);refine cW1 137 Tryz.func10 ?_;refine W ?_;refine Z1 Z2 rfl ?_;rintro _ w1 ⟨b2,rfl,cr,e2,hS⟩;refine W ?_;refine CL (Z1m lv l 40 _ (hs.up hS)) ?_;rintro v1 w2 ⟨h1,rfl⟩;have b2w:=e2.lt;refine W ?_;refine CM (ZP rfl) (Z8P [b2] v1 _ _ (by simpa using b2w) h1 (dW 40)) ?_;rintro _ w3 ⟨cal,hv,cv,zo,zs,hr,rfl,aN,dB,fE,aL,hT⟩;replace e2:=e2.up hT;replace hS:=hS.trans hT;clear hT h1;refine W ?_;refine CL (Z1m lv l 60 _ (hs.up hS)) ?_;rintro v1 w4 ⟨h1,rfl⟩;refine W ?_;refine CL (Zb6 v1 _ _ h1 (dW 60)) ?_;rintro crv w5 ⟨cs,bY,fg,iK,nz⟩;have cV:SlV [b2] w5 crv cs:=nz.slv (by simpa using e2.lt);have hT:=nz.2;replace e2:=e2.up hT;replace fE:=fE.up hT;replace aL:=aL.up hT;replace hS:=hS.trans hT;clear hT h1 nz;refine W ?_;refine CM (ZY rfl rfl rfl) (J1 [] _ l 0 3 _ (by decide) (by unfold I64;omega) (hs.up hS) hl) ?_;rintro _ w6 ⟨ct,rfl,nM,hT⟩;replace e2:=e2.up hT;replace fE:=fE.up hT;replace aL:=aL.up hT;replace cV:=cV.up hT;replace hS:=hS.trans hT;clear hT;refine W ?_;refine CM (ZY rfl rfl rfl) (J1 [] _ l 1 90 _ (by decide) (by unfold I64;omega) (hs.up hS) hl) ?_;rintro _ w7 ⟨td,rfl,lZ,hT⟩;replace e2:=e2.up hT;replace fE:=fE.up hT;replace aL:=aL.up hT;replace cV:=cV.up hT;replace hS:=hS.trans hT;clear hT;obtain ⟨p,k,rfl,-⟩:=id cV;refine W ?_;refine Z8 rfl (Zh0 cal hv cv zo zs hr p cs.length k cs (ct:Int) (739616+(td:Int))) rfl ?_;generalize (.slice p cs.length k:Value)=crv at cV ⊢;refine Z1 Z2 rfl ?_;rintro _ w8 ⟨b3,rfl,dV,e3,hT⟩;have b2w7:=e2.lt;have n23:b2≠b3:=by omega
 replace e2:=e2.up hT;have nc:∀ b∈[b2,b3],b∈[b2]\/w7.heap.size<=b:=λb hb=>by simp at hb ⊢;omega
 obtain ⟨tI,nN,nO,nP⟩:SlV [b2,b3] w8 lv l/\SlV [b2,b3] w8 hv cal.hols/\SlV [b2,b3] w8 cv cal.clos/\SlV [b2,b3] w8 crv cs:=⟨by
  have h:=hs.ext (X':=[b2,b3]) (hS.trans hT) (by simp) (λb hb=>.inr (by have:=hS.size;simp at hb;omega));exact h,fE.ext hT (by simp) nc,aL.ext hT (by simp) nc,cV.ext hT (by simp) nc⟩
 replace hS:=hS.trans hT;clear hT fE aL cV nc;have aV:Z9e [b2,b3] lv l ⟨[],[],[],cs,[],cal,(ct:Int),739616+(td:Int)⟩ ⟨.N,.N,.N,crv,.N,hv,cv,zo,zs,hr⟩ w8:=⟨tI,J0 _ _,J0 _ _,J0 _ _,nP,J0 _ _,nN,nO,aN⟩
 have aA:Z8S ⟨[],[],[],cs,[],cal,(ct:Int),739616+(td:Int)⟩:=⟨Xq _,by simp,λk h=>by simp at h,Xq _,by simp,Xq _,by simp,⟨bY,fg⟩,iK,Xq _,by simp,dB,by dsimp only;omega,by dsimp only;omega⟩
 clear tI nN nO nP aN;generalize oV:(⟨[],[],[],cs,[],cal,(ct:Int),739616+(td:Int)⟩:Cas)=C at *;generalize oW:(⟨.N,.N,.N,crv,.N,hv,cv,zo,zs,hr⟩:Z1e)=R at *;refine SB (us:=JG C R) aV.cell e3 ?_;rintro _ w9 ⟨hT,e3⟩;replace aV:=aV.ext hT.mn;replace e2:=e2.ext hT (by simpa using n23);have g3:w.heap.size<=b3:=by have:=hS.size;have:=e3.lt;omega
 replace hS:=hS.ow hT;clear hT;have l2:=e2.lt;have l3:=e3.lt;have wS:C.fcts=[]:=by rw [<- oV]
 have rQ:C.ruls=[]:=by rw [<- oV]
 have ma:C.atts=[]:=by rw [<- oV]
 clear oV;have jF:R.fv=.N:=by rw [<- oW]
 have oX:R.rv=.N:=by rw [<- oW]
 have lh:R.av=.N:=by rw [<- oW]
 clear oW;refine W ?_
 refine Zt (σ:=Nat×Value×List Fct) (λq=>[(0,lv),(2,pQ b2),(3,pQ b3),(4,.I (q.1:Int))])
  (λq W=>q.1<=8/\q.2.2.length=q.1/\(∀ f∈q.2.2,Z9Y f)/\Za5 q.2.2/\Row [b2,b3] W w9.heap.size 45 q.2.1 q.2.2/\Blk W b3 37 (JG C { R with fv:=q.2.1 })/\Stp [b3] w9 W) (λq=>9 - q.1) (0,.N,[])
  ⟨rfl,rfl,rfl,rfl,trivial⟩ ⟨by decide,rfl,by simp,λk h=>by simp at h,Row.nil,by rw [<- jF];exact e3,Stp.refl _ _⟩ ?_
 clear e3;rintro ⟨j,fv,fs⟩ y1 ⟨hj,ai,aO,oY,ab,e3,hT⟩;dsimp only at hj ai aO oY ab e3 ⊢;have mb:=aV.ext hT.mn;have bW:SlV [] y1 lv l:=mb.li.wk (by simp);have bq:=λb hb=>ab.ob_le b hb;refine W ?_;refine CM (ZY rfl rfl rfl) (J1 [] _ l 2 9 _ (by decide) (by unfold I64;omega) bW hl) ?_;rintro _ y2 ⟨q,rfl,hq,hU⟩;replace ab:=ab.up hU;replace e3:=e3.up hU;replace bW:=bW.up hU;replace hT:=hT.trans hU.mn;clear hU mb;by_cases ag:(j:Int)<(q:Int);refine QO ?_;refine ZDr 16 [] [13,15] [(0,0),(1,1),(2,0),(3,0),(4,0),(7,0),(8,0),(9,0),(5,2),(6,0),(10,2),(11,2),(12,2),(13,2),(14,0),(15,2)] (λw1 ae=>?_);replace ab:=ab.up ae;replace e3:=e3.up ae;replace bW:=bW.up ae;replace hT:=hT.trans ae.mn;clear ae;refine QD ?_;refine Za rfl trivial (Z6 rfl (ZY rfl rfl rfl) (J1 [] _ l 3 2 _ (by decide) (by unfold I64;omega) bW hl)) (λ_ _ h=>h.choose_spec.2.2) rfl ?_;rintro _ y3 ⟨q3,rfl,sX,hU⟩;replace ab:=ab.up hU;replace e3:=e3.up hU;replace bW:=bW.up hU;replace hT:=hT.trans hU.mn;clear hU;refine QD ?_;refine Za rfl trivial (Z6 rfl (ZY rfl rfl rfl) (J1 [] _ l (4+(j:Int)) 100000000 _ (by decide) (by unfold I64;omega) bW hl)) (λ_ _ h=>h.choose_spec.2.2) rfl ?_;rintro _ y4 ⟨q4,rfl,oq,hU⟩;replace ab:=ab.up hU;replace e3:=e3.up hU;replace hT:=hT.trans hU.mn;clear hU bW;focus repeat'(first|refine D1 ?_|omega|refine Zy rfl rfl rfl rfl (λhg=>?_) (λhg=>?_)|(refine Zq rfl rfl rfl rfl (λhg=>?_) (λhg=>?_)<;>refine D1 ?_)|fail)
 refine Za rfl trivial (Z6 rfl (Zg rfl rfl) (ZgW (2 * (j:Int)+(q3:Int)) (q4:Int) _ (by unfold I64;omega))) (λ_ _ h=>h.choose_spec.2.2.2) rfl ?_;rintro _ y5 ⟨f,rfl,yg,hf,hU⟩;replace ab:=ab.up hU;replace e3:=e3.up hU;replace hT:=hT.trans hU.mn;clear hU;focus repeat'(first|refine D1 ?_|omega|refine Zy rfl rfl rfl rfl (λhg=>?_) (λhg=>?_)|(refine Zq rfl rfl rfl rfl (λhg=>?_) (λhg=>?_)<;>refine D1 ?_)|fail)
 refine Za rfl trivial (Z0 rfl (Zh1 f)) (λ_ _ h=>Z5.stp h) rfl ?_;rintro vs y6 hN;have dF:SlV (ob fv++[b2,b3]) y6 vs [f]:=hN.slv (λb hb=>by
  have:=hT.size;rcases Xi.1 hb with h|h
  exact (ab.ob_le b h).2;simp at h;omega) rfl (by simp) (by simp [maxLen])
 have hU:=Z5.stp hN;clear hN;replace ab:=ab.up hU;replace e3:=e3.up hU;replace hT:=hT.trans hU.mn;clear hU;focus repeat'(first|refine D1 ?_|omega|refine Zy rfl rfl rfl rfl (λhg=>?_) (λhg=>?_)|(refine Zq rfl rfl rfl rfl (λhg=>?_) (λhg=>?_)<;>refine D1 ?_)|fail)
 refine Zm8 rfl trivial (J4 (α:=Fct) (X:=[b2,b3]) (base:=w9.heap.size) rfl (by decide) rfl rfl ab dF (Xg (Xp _ (show fs.length+[f].length<=10 by simp;omega)) (by decide)) (by simp [maxLen];omega) (by have:=hT.size;omega)) rfl rfl ?_;rintro fv' y7 ⟨aC,hU,gN⟩;have cw:=λb hb=>ab.ob_le b hb;replace e3:=e3.ext hU (λh=>by have:=cw _ h;omega);replace hT:=hT.own hU (λb hb=>.inr (cw b hb).1);clear hU;obtain ⟨pv,kv,rfl,-⟩:=id (Row.slv (X:=[b2,b3]) aC (λb hb=>by simp at hb;omega));refine QD ?_;refine JA rfl trivial (Zc (u:=.slice pv (fs++[f]).length kv) rfl rfl rfl rfl e3 (show (0:Nat)<19 by decide)) rfl ?_;rintro _ y8 ⟨hU,e3⟩;replace e3:Blk y8 b3 37 (JG C { R with fv:=.slice pv (fs++[f]).length kv }):=e3;replace hT:=hT.own hU (λb hb=>.inl hb);replace aC:=aC.keep hU (λb hb h=>by simp only [Xk] at hb;subst hb;have:=(aC.ob_le _ h).1;omega);clear hU;refine QD ?_;refine QO ?_;exact Zx (j+1,.slice pv (fs++[f]).length kv,fs++[f]) ⟨rfl,rfl,rfl,rfl,trivial⟩ ⟨by dsimp only;omega,by simp [ai],λz hz=>by
  rcases Xi.1 hz with h|h
  exact aO z h;simp only [Xk] at h;subst h;exact hf,λk hk=>by
  dsimp only at hk ⊢;rw [List.getElem_append];split;exact oY k _;have:k=j:=by simp at hk;omega
  subst this;simp only [List.getElem_singleton];omega,aC,e3,hT⟩ (by dsimp only;omega)
 . as_aux_lemma=>
   have tJ:Z9e [b2,b3] lv l { C with fcts:=fs } { R with fv:=fv } y2:={ aV.ext hT.mn with ff:=Row.slv (X:=[b2,b3]) ab (λb hb=>by simp at hb;omega) }
   have gP:Z8S { C with fcts:=fs }:=⟨by dsimp only;omega,aO,oY,aA.rl,aA.ro,aA.al,aA.ao,aA.cl,aA.co,aA.sl,aA.so,aA.cal,aA.court,aA.today⟩
   replace e2:=e2.ext hT (by simp;omega);replace hS:=hS.ow hT;replace l2:=e2.lt;replace l3:=e3.lt;replace rQ:({ C with fcts:=fs }:Cas).ruls=[]:=rQ;replace ma:({ C with fcts:=fs }:Cas).atts=[]:=ma;replace oX:({ R with fv:=fv }:Z1e).rv=.N:=oX;replace lh:({ R with fv:=fv }:Z1e).av=.N:=lh;clear aV aA hT ab bq aO oY wS jF ai;replace e3:Blk y2 b3 37 (JG { C with fcts:=fs } { R with fv:=fv }):=e3;generalize ({ C with fcts:=fs }:Cas)=C at *;generalize ({ R with fv:=fv }:Z1e)=R at *;refine QO ?_;refine CL (Z1m lv l 80 _ bW) ?_;rintro v1 z1 ⟨h1,rfl⟩;repeat'(first|refine W1 ?_|omega|refine VG ?_ ?_<;>intro hg|refine VC ?_ ?_<;>intro hc)
   refine CM (ZP rfl) (ZgZ [b2,b3] v1 _ _ (λb hb=>by simp at hb;omega) h1 (dW 80)) ?_;rintro gv z2 ⟨rs,h4,aB,mc,hT⟩;have tK:=tJ.ext hT.mn;replace e2:=e2.up hT;replace e3:=e3.up hT;replace hS:=hS.trans hT;replace l2:=e2.lt;replace l3:=e3.lt;clear tJ hT h1 bW;have px:(rs.map RuleM.rul).length=rs.length:=Xt ..;have mC:=mc.max;refine QO ?_
   refine Zt (σ:=Nat×Value×List Cr) (λq=>[(0,lv),(2,pQ b2),(3,pQ b3),(5,gv),(6,.I (q.1:Int))])
    (λq W=>q.1<=rs.length/\q.2.2.length<=q.1/\(∀ x∈q.2.2,∃ r:RuleM,Z8f r/\Z0r r.rul=0/\x=crF r.rul)/\Row [b2,b3] W z2.heap.size 62 q.2.1 q.2.2/\Blk W b3 37 (JG C { R with rv:=q.2.1 })/\Stp [b3] z2 W) (λq=>rs.length - q.1) (0,.N,[])
    ⟨rfl,rfl,rfl,rfl,rfl,trivial⟩ ⟨by omega,Xn _,by simp,Row.nil,by rw [<- oX];exact e3,Stp.refl _ _⟩ ?_
   clear e3;rintro ⟨j,rv,qs⟩ y1 ⟨hj,ai,aO,ab,e3,hT⟩;dsimp only at hj ai aO ab e3 ⊢;have bq:=λb hb=>ab.ob_le b hb;have fp:SlV [b2,b3] y1 gv (rs.map RuleM.rul):=mc.ext hT (by simp) (λ_ h=>.inl h);by_cases ag:j<rs.length;have bW:j<(rs.map RuleM.rul).length:=by omega
   have hG:=aB _ (Xd ag);have nQ:(rs.map RuleM.rul)[j]=rs[j].rul:=by simp
   obtain ⟨ka,kb,lj,jm,iC⟩:=ZjA fp bW;rw [nQ] at lj jm;have fK:ZG rs[j].cond<=1000:=Xg hG.cond.size (by decide);have kI:ZG rs[j].due<=1000:=Xg hG.due.size (by decide);refine QO ?_;refine Z9 (Z8e rfl rfl fp bW iC) rfl ?_;rw [nQ];refine CM (ZP rfl) (Zgb _ rs[j].rul _ ⟨ka,kb,rfl,lj.wk (by simp),jm.wk (by simp)⟩ fK kI) ?_;rintro _ y2 ⟨cv,rfl,ca,hU⟩;obtain ⟨k1,d1,rfl,bF,cK⟩:=ca (ob rv++[b2,b3]) (λb hb=>by
    have:=hT.size;rcases Xi.1 hb with h|h
    exact (bq b h).2;simp at h;omega)
   clear ca fp lj jm iC;replace ab:=ab.up hU;replace e3:=e3.up hU;replace hT:=hT.trans hU.mn;clear hU;refine W ?_;have yh:=hT.size;refine Z1 Z2 rfl ?_;rintro _ y3 ⟨b7,rfl,fb,e7,hU⟩;have n37:b3≠b7:=by have:=e3.lt;omega
   have cw:=λb hb=>ab.ob_le b hb;replace ab:=ab.ext (X':=[b2,b3,b7]) hU (by simp) (λb hb=>by simp at hb ⊢;omega);replace e3:=e3.up hU;have nb7:∀ b∈b7 :: (ob rv++[b2,b3]),b∈ob rv++[b2,b3]\/y2.heap.size<=b:=λb hb=>by
    rcases Xb.1 hb with rfl|h
    exact .inr fb;exact .inl h
   replace bF:=bF.ext hU (by simp) nb7;replace cK:=cK.ext hU (by simp) nb7;replace hT:=hT.trans hU.mn;clear hU;refine SB (us:=crC (crF rs[j].rul) k1 d1) (Z0q bF cK) e7 ?_;rintro _ y4 ⟨hU,e7⟩;replace ab:=ab.ext (X':=[b2,b3]) hU (λb hb=>by
    simp only [Xk] at hb;subst hb;exact ⟨by simp,λh=>by have:=(cw _ h).2;omega⟩) (λb hb=>.inl (by simp at hb ⊢;omega))
   replace e3:=e3.ext hU (by simpa using n37);replace bF:=bF.ext (X':=ob rv++[b2,b3]) hU (by simp) (λb hb=>.inl (XJ _ hb));replace cK:=cK.ext (X':=ob rv++[b2,b3]) hU (by simp) (λb hb=>.inl (XJ _ hb));replace hT:=hT.ow hU;clear hU;by_cases he:Z0r rs[j].rul=0;refine QO ?_;have zT:=hT.size;refine APG (X:=[b2,b3]) (base:=z2.heap.size) (crF rs[j].rul) ab (λb hb=>by simp at hb;omega) (by omega) ⟨k1,d1,rfl,bF,cK⟩ (Xg (Xp _ (show qs.length+1<=10 by omega)) (by decide)) (by simp only [maxLen];omega) λv1 rv' y5 aC hU gN=>?_
   replace e3:=e3.ext hU (λh=>by have:=(cw _ h).1;omega);replace hT:=hT.own hU (λb hb=>.inr (cw b hb).1);clear hU;obtain ⟨pv,kv,rfl,-⟩:=id (Row.slv (X:=[b2,b3]) aC (λb hb=>by simp at hb;omega));refine QO ?_;refine Z4 (Zc (u:=.slice pv (qs++[crF rs[j].rul]).length kv) rfl rfl rfl rfl e3 (show (1:Nat)<19 by decide)) ?_;rintro _ y6 ⟨hU,e3⟩;replace e3:Blk y6 b3 37 (JG C { R with rv:=.slice pv (qs++[crF rs[j].rul]).length kv }):=e3;replace hT:=hT.own hU (λb hb=>.inl hb);replace aC:=aC.ext (X':=[b2,b3]) hU (λb hb=>by
    simp only [Xk] at hb;subst hb;exact ⟨by simp,λh=>by have:=(aC.ob_le _ h).1;omega⟩) (λb hb=>.inl hb)
   clear hU;refine QO ?_;exact Zx (j+1,.slice pv (qs++[crF rs[j].rul]).length kv,qs++[crF rs[j].rul]) ⟨rfl,rfl,rfl,rfl,rfl,trivial⟩ ⟨by dsimp only;omega,by simp;omega,λz hz=>by
    rcases Xi.1 hz with h|h
    exact aO z h;simp only [Xk] at h;subst h;exact ⟨rs[j],hG,he,rfl⟩,aC,e3,hT⟩ (by dsimp only;omega)
   refine QO ?_;exact QL (j+1,rv,qs) ⟨by dsimp only;omega,by dsimp only;omega,aO,ab,e3,hT⟩ (by dsimp only;omega)
   . as_aux_lemma=>
     refine QO ?_;have nR:Z9e [b2,b3] lv l { C with ruls:=qs } { R with rv:=rv } y1:={ tK.ext hT.mn with rr:=Row.slv (X:=[b2,b3]) ab (λb hb=>by simp at hb;omega) }
     have gQ:Z8S { C with ruls:=qs }:=⟨gP.fl,gP.fo,gP.en,by dsimp only;omega,aO,gP.al,gP.ao,gP.cl,gP.co,gP.sl,gP.so,gP.cal,gP.court,gP.today⟩
     replace e2:=e2.ext hT (by simp;omega);replace hS:=hS.ow hT;replace l2:=e2.lt;replace l3:=e3.lt;replace ma:({ C with ruls:=qs }:Cas).atts=[]:=ma;replace lh:({ R with rv:=rv }:Z1e).av=.N:=lh;replace e3:Blk y1 b3 37 (JG { C with ruls:=qs } { R with rv:=rv }):=e3;clear tK gP hT ab bq aO rQ oX ai fp mc;generalize ({ C with ruls:=qs }:Cas)=C at *;generalize ({ R with rv:=rv }:Z1e)=R at *;have bW:SlV [] y1 lv l:=nR.li.wk (by simp);refine CL (Z1m lv l 30 _ bW) ?_;rintro v3 u1 ⟨h3,rfl⟩;refine QO ?_;refine CL (Z1m lv l 30 _ bW) ?_;rintro v4 u2 ⟨oG,rfl⟩;have oL:=h3.max;have wT:=oG.max;refine QO ?_;refine Z9 (Z1W (r:=min 4 (l.drop 30).length) rfl h3 rfl (by omega) (by omega)) rfl ?_;have h5:=h3.slc (l:=0) (r:=min 4 (l.drop 30).length) (by omega) (by omega);have oZ:∀ a∈((l.drop 30).take (min 4 (l.drop 30).length)).drop 0,I64 a:=λa h=>dW 30 a (Yas (YaK h));have tL:(((l.drop 30).take (min 4 (l.drop 30).length)).drop 0).length<=4:=by simp only [Yap,Xv];omega
     refine CL (ZcV _ _ _ h5 oZ tL) ?_;rintro sv u3 ⟨xs,tM,lk,mr⟩;have jV:SlV [b2,b3] u3 sv xs:=mr.slv (λb hb=>by simp at hb;omega);have hT:=mr.2;replace nR:=nR.ext hT.mn;replace e2:=e2.up hT;replace e3:=e3.up hT;replace hS:=hS.trans hT;clear hT h3 oG h5 oZ tL mr oL wT bW;obtain ⟨ps,ks,rfl,-⟩:=id jV;refine QO ?_;refine Z4 (Zc (u:=.slice ps xs.length ks) rfl rfl rfl rfl e3 (show (4:Nat)<19 by decide)) ?_;rintro _ u4 ⟨hT,e3⟩;replace e3:Blk u4 b3 37 (JG { C with stys:=xs } { R with sv:=.slice ps xs.length ks }):=e3;have nS:Z9e [b2,b3] lv l { C with stys:=xs } { R with sv:=.slice ps xs.length ks } u4:={ nR.ext hT.mn with ss:=jV.ext hT (by simp) (λ_ h=>.inl h) }
     have gR:Z8S { C with stys:=xs }:=⟨gQ.fl,gQ.fo,gQ.en,gQ.rl,gQ.ro,gQ.al,gQ.ao,gQ.cl,gQ.co,tM,lk,gQ.cal,gQ.court,gQ.today⟩
     replace e2:=e2.ext hT (by simp;omega);replace hS:=hS.ow hT;replace l2:=e2.lt;replace l3:=e3.lt;replace ma:({ C with stys:=xs }:Cas).atts=[]:=ma;replace lh:({ R with sv:=.slice ps xs.length ks }:Z1e).av=.N:=lh;clear nR gQ hT jV tM lk;generalize ({ C with stys:=xs }:Cas)=C at *;generalize ({ R with sv:=.slice ps xs.length ks }:Z1e)=R at *;refine QO ?_
     refine Zt (σ:=Nat×Value×List Atp) (λq=>[(0,lv),(2,pQ b2),(3,pQ b3),(9,.I (q.1:Int))])
      (λq W=>q.1<=4/\q.2.2.length=q.1/\(∀ x∈q.2.2,ZkJ C.crrs.length x)/\Row [b2,b3] W u4.heap.size 78 q.2.1 q.2.2/\Blk W b3 37 (JG C { R with av:=q.2.1 })/\Stp [b3] u4 W) (λq=>5 - q.1) (0,.N,[])
      ⟨rfl,rfl,rfl,rfl,trivial⟩ ⟨by decide,rfl,by simp,Row.nil,by rw [<- lh];exact e3,Stp.refl _ _⟩ ?_
     clear e3;rintro ⟨j,av,as_⟩ y1 ⟨hj,ai,aO,ab,e3,hT⟩;dsimp only at hj ai aO ab e3 ⊢;have bq:=λb hb=>ab.ob_le b hb;have mb:=nS.ext hT.mn;have bW:SlV [] y1 lv l:=mb.li.wk (by simp);have cV:=mb.cc;have aL:=gR.cl;have rR:=cV.max;refine QO ?_;refine CM (ZY rfl rfl rfl) (J1 [] _ l 12 5 _ (by decide) (by unfold I64;omega) bW hl) ?_;rintro _ y2 ⟨q,rfl,hq,hU⟩;replace ab:=ab.up hU;replace e3:=e3.up hU;replace bW:=bW.up hU;replace cV:=cV.up hU;replace hT:=hT.trans hU.mn;clear hU mb;obtain ⟨pc,kc,ca,-⟩:=id cV;by_cases ag:(j:Int)<(q:Int)
     . as_aux_lemma=>
       have wU:j+1<=4:=by omega
       have ir:5 - (j+1)<5 - j:=by omega
       refine QO ?_;refine CM (ZY rfl rfl rfl) (J1 [] _ l (13+(j:Int)) 1000000 _ (by decide) (by unfold I64;omega) bW hl) ?_;rintro _ y3 ⟨n,rfl,hn,hU⟩;replace ab:=ab.up hU;replace e3:=e3.up hU;replace bW:=bW.up hU;replace cV:=cV.up hU;replace hT:=hT.trans hU.mn;clear hU;refine QO ?_;have r1:0<=(n:Int) % 16/\(n:Int) % 16<=15:=by omega
       have r2:0<=(n:Int) / 16 % 3/\(n:Int) / 16 % 3<=2:=by omega
       have r3:0<=(n:Int) / 48 % (C.crrs.length:Int)/\(n:Int) / 48 % (C.crrs.length:Int)<C.crrs.length:=⟨Ya3 _ (by omega),YaR _ (by omega)⟩
       have r4:739616<=739616+(n:Int) / 768 % 40/\739616+(n:Int) / 768 % 40<=739655:=by omega
       generalize (n:Int) % 16=a1 at r1 ⊢;generalize (n:Int) / 16 % 3=a2 at r2 ⊢;generalize (n:Int) / 48 % (C.crrs.length:Int)=a3 at r3 ⊢;generalize 739616+(n:Int) / 768 % 40=a4 at r4 ⊢;refine Z8 rfl (ZkK a1 a2 a3 a4) rfl ?_;have zT:=hT.size;refine Z1 Z2 rfl ?_;rintro _ y4 ⟨b,rfl,hb,e4,hU⟩;have n3:b3≠b:=by have:=e3.lt;omega
       have cw:=λb hb=>ab.ob_le b hb;replace ab:=ab.ext (X':=[b2,b3,b]) hU (by simp) (λc hc=>by simp at hc ⊢;omega);replace e3:=e3.up hU;replace bW:=bW.ext (X':=[b]) hU (by simp) (λc hc=>.inr (by simp at hc;omega));replace cV:=cV.ext (X':=[b]) hU (by simp) (λc hc=>.inr (by simp at hc;omega));replace hT:=hT.trans hU.mn;clear hU;refine SB (us:=atC ⟨a1,a2,a3,a4,[]⟩ (.N)) (Zfq (by rfl)) e4 ?_;rintro _ y5 ⟨hU,e4⟩;replace e3:=e3.ext hU (by simpa using n3);replace ab:=ab.ext (X':=[b2,b3,b]) hU (λc hc=>by
        simp only [Xk] at hc;subst hc;exact ⟨by simp,λh=>by have:=(cw _ h).2;omega⟩) (λc hc=>.inl hc)
       replace bW:=bW.ext (X':=[b]) hU (by simp) (λc hc=>.inl hc);replace cV:=cV.ext (X':=[b]) hU (by simp) (λc hc=>.inl hc);replace hT:=hT.ow hU;clear hU;refine QO ?_
       refine JJ (σ:=Value×List Rtn) (λq=>[(0,lv),(2,pQ b2),(3,pQ b3),(9,.I (j:Int)),(11,pQ b)])
        (λq W=>(q.2.length<=3/\∀ x∈q.2,Zfn C.crrs.length x)/\Blk W b 78 (atC ⟨a1,a2,a3,a4,q.2⟩ q.1)/\Row [b2,b3] W u4.heap.size 78 av as_/\SlV (ob av++[b2,b3]) W q.1 q.2/\Blk W b3 37 (JG C { R with av:=av })/\Stp [b3] u4 W) ?_ ?_
       . as_aux_lemma=>
         refine ZDr 20 [] [19] [(0,0),(1,0),(2,0),(3,0),(5,0),(6,0),(7,0),(8,0),(13,0),(14,1),(15,0),(16,1),(4,2),(9,2),(10,0),(11,0),(12,0),(17,2),(18,0),(19,2)] (λw1 ae=>?_);replace ab:=ab.up ae;replace e3:=e3.up ae;replace e4:=e4.up ae;replace bW:=bW.up ae;replace cV:=cV.up ae;replace hT:=hT.trans ae.mn;clear ae;have rS:=bW.wk (X':=[]) (by simp);have o0:=Z1m lv l (18+3 * j) _ rS;have qY:((18+3 * j:Nat):Int)=18+3 * (j:Int):=by omega
         rw [qY] at o0;refine QD ?_;refine DC o0 (λ_ _ h=>by rw [h.2];exact Stp.refl _ _) ?_;rintro v5 u5 ⟨h5,rfl⟩;repeat'(first|refine D1 ?_|omega|refine Zy rfl rfl rfl rfl (λhg=>?_) (λhg=>?_)|(refine Zq rfl rfl rfl rfl (λhg=>?_) (λhg=>?_)<;>refine D1 ?_)|fail)
         refine DC o0 (λ_ _ h=>by rw [h.2];exact Stp.refl _ _) ?_;rintro v6 u6 ⟨h6,rfl⟩;clear o0;have tH:=h5.max;refine QD ?_;refine JK rfl trivial (λ_=>Z1W (r:=min 3 (l.drop (18+3 * j)).length) rfl h5 rfl (by omega) (by omega)) rfl ?_;have h7:=h5.slc (l:=0) (r:=min 3 (l.drop (18+3 * j)).length) (by omega) (by omega);have tN:∀ a∈((l.drop (18+3 * j)).take (min 3 (l.drop (18+3 * j)).length)).drop 0,I64 a:=λa h=>dW _ a (Yas (YaK h));have tO:(((l.drop (18+3 * j)).take (min 3 (l.drop (18+3 * j)).length)).drop 0).length<=3:=by simp only [Yap,Xv];omega
         repeat'(first|refine D1 ?_|omega|refine Zy rfl rfl rfl rfl (λhg=>?_) (λhg=>?_)|(refine Zq rfl rfl rfl rfl (λhg=>?_) (λhg=>?_)<;>refine D1 ?_)|fail)
         refine Za rfl trivial (Z6 rfl (ZY rfl rfl rfl) (ZcW _ R.cv _ C.crrs a4 _ h7 tN tO (cV.wk (by simp)) aL r4)) (λ_ _ h=>h.choose_spec.2.2.2) rfl ?_;rintro rv u7 ⟨rs7,dA,kU,fV⟩;have hU:=fV.2;have ax:SlV (b :: (ob av++[b2,b3])) u7 rv rs7:=fV.slv (λc hc=>by
          have:=hT.size;have:=e4.lt;rcases Xb.1 hc with rfl|hc
          omega;rcases Xi.1 hc with h|h
          have:=ab.ob_le c h;omega;simp at h;omega)
         replace ab:=ab.up hU;replace e3:=e3.up hU;replace e4:=e4.up hU;replace hT:=hT.trans hU.mn;clear hU fV h7 tN tO h5 h6;obtain ⟨pr,kr,rfl,-⟩:=id ax;refine QD ?_;refine JA rfl trivial (Zc (u:=.slice pr rs7.length kr) rfl rfl rfl rfl e4 (show (4:Nat)<5 by decide)) rfl ?_;rintro _ u8 ⟨hU,e4⟩;replace e4:Blk u8 b 78 (atC ⟨a1,a2,a3,a4,rs7⟩ (.slice pr rs7.length kr)):=e4;replace e3:=e3.ext hU (by simpa using n3);have ei:=λb hb=>ab.ob_le b hb;replace ab:=ab.ext (X':=[b2,b3]) hU (λc hc=>by
          simp only [Xk] at hc;subst hc;exact ⟨by simp,λh=>by have:=(cw _ h).2;omega⟩) (λc hc=>.inl (by simp at hc ⊢;omega))
         replace hT:=hT.ow hU;refine QD ?_;exact QT (.slice pr rs7.length kr,rs7) ⟨⟨dA,kU⟩,e4,ab,ax.ext hU (by simp) (λc hc=>.inl (XJ _ hc)),e3,hT⟩
       . clear ab e3 e4 hT bW cV
         as_aux_lemma=>
         rintro ⟨rv,rs7⟩ u8 ⟨⟨dA,kU⟩,e4,ab,ax,e3,hT⟩;dsimp only at dA kU e4 ax;have rT:ZkJ C.crrs.length (⟨a1,a2,a3,a4,rs7⟩:Atp):=⟨r1,r2,r3,r4,dA,kU⟩
         clear r1 r2 r3 r4 dA kU hn rR aL;have ei:=λb hb=>ab.ob_le b hb;have zT8:=hT.size;have kE:=ax.max;refine QO ?_;refine APG (X:=[b2,b3]) (base:=u4.heap.size) (⟨a1,a2,a3,a4,rs7⟩:Atp) ab (λb hb=>by simp at hb;omega) (by omega) ⟨rv,rfl,ax⟩ (Xg (Xp _ (show as_.length+1<=10 by omega)) (by decide)) (by simp only [maxLen];omega) λv1 av' u9 aC hU gN=>?_
         replace e3:=e3.ext hU (λh=>by have:=(ei _ h).1;omega);replace hT:=hT.own hU (λb hb=>.inr (ei b hb).1);clear hU;obtain ⟨pv,kv,rfl,-⟩:=id (Row.slv (X:=[b2,b3]) aC (λb hb=>by simp at hb;omega));refine QO ?_;refine Z4 (Zc (u:=.slice pv (as_++[(⟨a1,a2,a3,a4,rs7⟩:Atp)]).length kv) rfl rfl rfl rfl e3 (show (2:Nat)<19 by decide)) ?_;rintro _ x1 ⟨hU,e3⟩;replace e3:Blk x1 b3 37 (JG C { R with av:=.slice pv (as_++[(⟨a1,a2,a3,a4,rs7⟩:Atp)]).length kv }):=e3;replace hT:=hT.own hU (λb hb=>.inl hb);replace aC:=aC.ext (X':=[b2,b3]) hU (λc hc=>by
          simp only [Xk] at hc;subst hc;exact ⟨by simp,λh=>by have:=(aC.ob_le _ h).1;omega⟩) (λc hc=>.inl hc)
         clear hU;refine QO ?_;exact Zx (j+1,.slice pv (as_++[(⟨a1,a2,a3,a4,rs7⟩:Atp)]).length kv,as_++[(⟨a1,a2,a3,a4,rs7⟩:Atp)]) ⟨rfl,rfl,rfl,rfl,trivial⟩ ⟨wU,by simp [ai],λz hz=>by
          rcases Xi.1 hz with h|h
          exact aO z h;simp only [Xk] at h;subst h;exact rT,aC,e3,hT⟩ ir
     . as_aux_lemma=>
       have tP:Z9e [b2,b3] lv l { C with atts:=as_ } { R with av:=av } y2:={ nS.ext hT.mn with aa:=Row.slv (X:=[b2,b3]) ab (λb hb=>by simp at hb;omega) }
       have tQ:Z8S { C with atts:=as_ }:=⟨gR.fl,gR.fo,gR.en,gR.rl,gR.ro,by dsimp only;omega,aO,gR.cl,gR.co,gR.sl,gR.so,gR.cal,gR.court,gR.today⟩
       replace e3:Blk y2 b3 37 (JG { C with atts:=as_ } { R with av:=av }):=e3;replace e2:=e2.ext hT (by simp;omega);replace hS:=hS.ow hT;generalize ({ C with atts:=as_ }:Cas)=D at *;generalize ({ R with av:=av }:Z1e)=Q at *;refine QO ?_;refine SB (us:=JG D Q) tP.cell e2 ?_;rintro _ x2 ⟨hU,e2⟩;have jY:=tP.ext hU.mn;have ah:=hS.ow hU;refine W ?_;refine Zk rfl rfl rfl e2 rfl ?_;exact .mk ⟨D,Q,rfl,⟨jY.ff.wk (by simp),jY.rr.wk (by simp),jY.aa.wk (by simp),jY.cc.wk (by simp),jY.ss.wk (by simp),⟨jY.ho.wk (by simp),jY.clo.wk (by simp),hL.up ah,hM.up ah,tQ.cal.ok⟩,jY.one⟩,tQ,ah⟩
theorem Z2B.own {w w0 W:World} {B:List Nat} {c:Cas} {R:Z1e} (hv:Z2B w c R) (h0:Stp [] w w0) (hB:∀ b∈B,w.heap.size<=b) (hS:Stp B w0 W):Z2B W c R:=hv.up (h0.own hS (λb hb=>.inr (hB b hb)))
theorem Row.low {α:Type} [Z7 α] {X:List Nat} {w} {a b T:Nat} {v:Value} {xs:List α} (h:Row X w b T v xs) (cP:a<=b):Row [] w a T v xs:=(h.lower cP).ext (Stp.refl [] w) (by simp) (by simp)
theorem Z6M (c:Cas) (R:Z1e) (w) (hv:Z2B w c R) (hs:Z6J c) :
 CC 19 #[.agg (JG c R).toArray] w λv w'=>ZI 45 w w' v (Z1g c):=by
 have dE:=hs.fl;refine cW1 43 Tryz.func19 ?_;refine W ?_;refine BX (Stp.refl [] w) λb1 w1 h1 e1 _ hS=>?_;replace e1:Blk w1 b1 37 (JG c R):=e1;have l1:=e1.lt;refine W ?_;refine Z1 (Z0X Z7n) rfl ?_;rintro _ w2 ⟨r,rfl,hr,hm,hT⟩;have gr:w.heap.size<=r:=Xg hS.size hr;have lr:=hm.lt;have z2:=hT.size;replace e1:=e1.up hT;replace hS:=hS.trans hT;clear hT;refine Z1 Z2 rfl ?_;rintro _ w3 ⟨b3,rfl,dV,e3,hT⟩;have z3:=hT.size;replace e1:=e1.up hT;replace hm:=hm.up hT;replace hS:=hS.trans hT;clear hT;replace e3:Blk w3 b3 108 [.map none]:=e3;refine S1 (u:=.map (some r)) e3 ?_;rintro _ w4 ⟨hT,e3⟩;have z4:=hT.size;replace e3:Blk w4 b3 108 [.map (some r)]:=e3;replace e1:=e1.ext hT (by simp;omega);replace hm:=hm.ext hT (by simp;omega);replace hS:=hS.ow hT;have l3:=e3.lt;clear hT;refine W ?_;have rE:=(hv.up hS).ff;refine W ?_
 refine Zt (σ:=Nat) (λk=>[(1,pQ b1),(3,pQ b3),(12,R.fv),(13,.I c.fcts.length),(14,.I k)])
  (λk W=>k<=c.fcts.length/\JL Z7n W r ((c.fcts.take k).map (λf=>(f,.B true)))/\Stp [r] w4 W) (λk=>c.fcts.length - k) 0 ⟨rfl,rfl,rfl,rfl,rfl,trivial⟩ ⟨by omega,by simpa using hm,Stp.refl _ _⟩ ?_
 clear hm rE;rintro k w5 ⟨hk,hm,hT⟩;have tR:=hv.own hS (B:=[r]) (by simpa using gr) hT;by_cases ag:k<c.fcts.length;have js:=tR.ff;have e3':=e3.ext hT (by simp;omega);have hfresh:∀ x∈c.fcts.take k,x≠c.fcts[k]:=by
  have h:=hs.nd.sublist (List.take_sublist (k+1) c.fcts);rw [Xh ag,List.nodup_append] at h;exact λx hx=>h.2.2 x hx _ (by simp)
 refine QO ?_;refine Z1 Z2 rfl ?_;rintro _ w6 ⟨b5,rfl,jS,e5,hA⟩;refine SA (us:=Z3.enc c.fcts[k]) e5 ?_;rintro _ w7 ⟨dp,e5⟩;replace hA:=hA.ow dp;replace e3':=e3'.up hA;replace hm:=hm.up hA;refine QO ?_;refine Z4 (Z1P (a:=c.fcts[k]) rfl rfl rfl hm (λp hp=>by
  obtain ⟨x,hx,rfl⟩:=XK.1 hp;exact hfresh x hx)) ?_
 rintro _ w8 ⟨jg,wV⟩;refine QO ?_;exact QL (k+1) ⟨ag,by rw [Xh ag,XQ];exact jg,(hT.trans hA.mn).trans wV⟩ (by omega);obtain rfl:k=c.fcts.length:=by omega
 rw [Xo] at hm;have e1':=e1.ext hT (by simp;omega);refine QO ?_;have tS:SlV [r] w5 R.fv c.fcts:=hv.ff.ext (hS.ow hT) (by simp) (λb hb=>.inr (by simp at hb;omega))
 refine Zt (σ:=Nat×Value×Value) (λq=>[(1,pQ b1),(3,pQ b3),(6,q.2.2),(7,q.2.1),(8,.I q.1)])
  (λq W=>q.1<=16/\JL Z7n W r ((ZX c q.1).1.map (λf=>(f,.B true)))/\Stp [r] w4 W/\SlV [r] W q.2.1 (ZX c q.1).2.1/\Row [r] W w4.heap.size 45 q.2.2 (ZX c q.1).2.2) (λq=>16 - q.1) (0,R.fv,.N) ⟨rfl,rfl,rfl,rfl,rfl,trivial⟩
  ⟨by omega,hm,hT,tS,Row.nil⟩ ?_
 clear hm hT tR e1' tS;rintro ⟨k,nowv,ov⟩ Y ⟨hk,hm,hT,jt,ab⟩;dsimp only at hk hm hT jt ab ⊢;obtain ⟨q1,q2⟩:=Z8K hs hk;have q3:=(Z5n hs k).1;have dQ:=Z7f c (k:=k);have dM:ZX c (k+1)=(((Z1z c (ZX c k).2.1).foldl (Z0t c) ((ZX c k).1,[])).1,((Z1z c (ZX c k).2.1).foldl (Z0t c) ((ZX c k).1,[])).2,(ZX c k).2.2++((Z1z c (ZX c k).2.1).foldl (Z0t c) ((ZX c k).1,[])).2):=rfl;generalize tT:ZX c k=S at *;obtain ⟨kn,now,out⟩:=S;dsimp only at *;have ey:=λb hb=>ab.ob_le b hb;have zT:=hT.size;have tU:=jt.max;by_cases iX:k<16/\0<now.length;obtain ⟨g1,g2⟩:=iX;have nT:SlV [] Y nowv now:=jt.ext (Stp.refl [] Y) (by simp) (by simp);have f1:=e1.ext hT (by simp;omega);have f3:=e3.ext hT (by simp;omega);refine QO ?_;refine Z1 Z2 rfl ?_;rintro _ wA ⟨b9,rfl,iu,e9,hA⟩;replace e9:Blk wA b9 24 [.N]:=e9;have zA:=hA.size;have l9:=e9.lt;replace f1:=f1.up hA;replace f3:=f3.up hA;replace hm:=hm.up hA;have tV:=hT.trans hA.mn;have wW:Stp [] w wA:=hS.ow tV;have tW:SlV [r,b9] wA nowv now:=jt.ext hA (by simp) (λb hb=>by
  simp only [Xb,Xj,or_false] at hb;rcases hb with rfl|rfl
  exact .inl (by simp);exact .inr iu)
 have wX:Row [r,b9] wA w4.heap.size 45 ov out:=ab.ext hA (by simp) (λb hb=>by
  simp only [Xb,Xj,or_false] at hb;rcases hb with rfl|rfl
  exact .inl (by simp);exact .inr iu)
 clear nT hA;refine QO ?_;have ca:∀ Y',Stp [r,b9] wA Y'->Z2B Y' c R:=λY' h=>hv.own wW (B:=[r,b9]) (by simp;omega) h
 have hK:Zod ⟨c,R,wA,b1,b3,r,b9,kn⟩:=⟨⟨by dsimp only;omega,by dsimp only;omega⟩,⟨by dsimp only;omega,by dsimp only;omega⟩,by dsimp only;omega,by dsimp only;omega,by dsimp only;omega,by dsimp only;omega,l9,f1,f3,λY' h=>(ca Y' h).rr⟩
 have iG:=ZcQ (Zeh _ hK) c R nowv now [r,b9] wA hs.ok ca (λY' h=>tW.ext h (λb hb=>hb) (by simp)) q3 (λj hj i hi ht=>⟨hi,by
  obtain ⟨o1,o2,o3⟩:=Zfl hs.ok (q3 _ (Xd hj)) ht;have:=(q3 _ (Xd hj)).day;rw [o1];omega,by
  have a1:=Z62 c (now.take j);have a2:=Z61 c now[j] i;have a3:=hs.rl;have a4:=Ybd (show (now.take j).length<=70000000000 by rw [Xv];omega) a3;rw [Xc];omega⟩) ⟨⟨.N,rfl,e9,Row.nil⟩,hm,Stp.refl _ _⟩
 refine CL iG ?_;rintro _ W2 ⟨F,⟨⟨nv,rfl,e9,rU⟩,hm,pb⟩,-,-⟩;dsimp only at rU hm e9 pb;clear iG hK ca tW;have yi:=Z9W c hs.rl now kn;generalize (Z1z c now).foldl (Z0t c) (kn,[])=T at *;have iw:=λb hb=>rU.ob_le b hb;have zS:=pb.size;have wY:Row [r] W2 w4.heap.size 45 ov out:=wX.ext pb (λb hb=>⟨hb,λh=>by have:=ey b h;simp at hb;omega⟩) (λb hb=>.inl (by simp at hb;simp [hb]));have rV:Row (ob ov++[r]) W2 wA.heap.size 45 nv T.2:=Z29 rU;have eP:SlV (ob ov++[r]) W2 nv T.2:=rV.slv (λb hb=>by
  rcases Xi.1 hb with h|h
  have:=ey b h;omega;simp at h;omega)
 refine QO ?_;refine Z1 (J4 (α:=Fct) (X:=[r]) (base:=w4.heap.size) rfl (by decide) rfl rfl wY eP (Xg (Xp _ (show out.length+T.2.length<=600000000000 by omega)) (by decide)) (by simp only [maxLen];omega) (by omega)) rfl ?_;rintro ov' W3 ⟨dA,cA,ei⟩;replace e9:=e9.ext cA (λh=>by have:=ey _ h;omega);refine QO ?_;refine QL (k+1,nv,ov') ⟨by dsimp only;omega,?_,?_,?_,?_⟩ (by dsimp only;omega);rw [dM];exact hm.ext cA (λh=>by have:=ey _ h;omega);exact (tV.own pb (λb hb=>by
  simp only [Xb,Xj,or_false] at hb;rcases hb with rfl|rfl
  exact .inl (by simp);exact .inr (by omega))).own cA (λb hb=>.inr (ey b hb).1)
 rw [dM];exact eP.ext cA (λb hb=>by simp [hb]) (λb hb=>.inl (by simp at hb;simp [hb]));rw [dM];exact dA
 . have rW:out=(ZX c 16).2.2:=by
    by_cases gq:k=16;rw [gq] at tT;rw [tT];have hn:now=[]:=Xw.1 (by omega);have:=(dQ hn (16 - k)).1;rw [show k+(16 - k)=16 by omega] at this;exact this.symm
   have np:out.length<=400000000000:=by omega
   clear dQ dM;repeat'(first|refine W1 ?_|omega|refine VG ?_ ?_<;>intro hg|refine VC ?_ ?_<;>intro hc)
   all_goals
    refine CL (Z7e ab np) ?_;rintro _ W2 ⟨rfl,dh,aq⟩;refine W ?_;refine WR ?_;refine .mk ?_;rw [rW] at dh;exact ⟨Row.low dh (by have:=hS.size;omega),(hS.ow hT).own aq (λb hb=>.inr (by have:=ey b hb;have:=hS.size;omega))⟩
end Go.Proofs.YtipfkbkkndacjaaGreatDoor
namespace Go.Eng
open Go Go.RowKit
variable {P:Program} {n:Nat} {e:Env} {w:World} {d:Option Nat} {ty:TypeId} {pos:String} {af:Array Edge} {g:Option (Nat×Bool)}
theorem ZkL {t tn T bytes k m:Nat} {kn:IntKind} {x y:Operand} {z:Value} [ht:Und P t (.slice T)] [hn:Und P tn (.int kn)] [hk:Siz P T m] [hb:Byt P T bytes] [hz:Zer P T z] (fK:z.cells.size=m) (hm:0<m)
 (hx:ev e x=some (.N)) (hy:ev e y=some (.I (k:Int))) (h0:0<k) (gE:k<=maxLen) (hbytes:k * bytes<=140737488355328) :
 OE P n ⟨d,.call { callee:=.builtin .append,args:=#[x,y],argTypes:=#[t,tn] },ty,pos,af,g⟩ e w
  (λv w'=>∃ c,v=.slice (some ⟨w.heap.size,0,none⟩) k c/\w'.ownsRow w.heap.size T m (.slice (some ⟨w.heap.size,0,none⟩) 0 c) 0 []/\Stp [] w w'):=by
 obtain ⟨i,hi,bJ,cp,fq⟩:∃ i,P.info? T=some i/\i.size=m/\i.bytes=bytes/\i.zero=some z:=by
  have a1:=hk.h;have a2:=hb.h;have a3:=hz.h;cases hi:P.info? T with
  | none=>simp [hi] at a1
  | some i=>exact ⟨i,rfl,by simpa [hi] using a1,by simpa [hi] using a2,by simpa [hi] using a3⟩
 have bh:=Go.Lib.run_append_nil_zeros (P:=P) w t tn ty T i z .i64 kn ht.h hn.h hi fq k h0 (by omega) (by simp [maxLen] at gE;omega) (by rw [cp];omega);have kA:=grownCap_ge w k 0 T;have bI:(Builtin.zeroCells z.cells k++Builtin.zeroCells z.cells (grownCap w k 0 T - k)).size=grownCap w k 0 T * m:=by
  rw [Array.size_append,size_zeroCells,size_zeroCells,fK,<- Nat.add_mul];congr 1;omega
 refine Jd (v:=.slice (some ⟨w.heap.size,0,none⟩) k (grownCap w k 0 T)) (w':=w.drew.alloc (.cells (Builtin.zeroCells z.cells k++Builtin.zeroCells z.cells (grownCap w k 0 T - k)) T)) (λa ha=>?_) ⟨_,rfl,World.ownsRow_made w.drew _ _ (Xn _) (grownCap_le_maxLen w k 0 T gE) bI,(Stp.drew [] w).trans (Stp.alloc [] _ _)⟩;simp [execOp,resolve,invoke,builtin,ha.ev hx,ha.ev hy,bh]
end Go.Eng
namespace Go.Proofs.YtipfkbkkndacjaaGreatDoor
open Go Go.Eng Go.RowKit
theorem Zh2 (k:Nat) (w) (hk:k<=1000000000000):CC 71 #[.N,.I (k:Int)] w λr w'=>ZI 45 w w' r ([]:List Fct):=by
 refine cW2 27 Tryz.func71 ?_;refine W ?_;have h0:SlV (α:=Fct) [] w (.N) []:=Zm _ _;have cR:([]:List Fct).length=0:=rfl;repeat'(first|refine W1 ?_|omega|refine VG ?_ ?_<;>intro hg|refine VC ?_ ?_<;>intro hc)
 apply Z9 (ZaC rfl) rfl;by_cases fc:k=0;subst fc;refine QO ?_;refine WR ?_;exact .mk ZI.nil;refine QO ?_;apply Z9 (ZaC rfl) rfl;apply Z9 (Z84 rfl rfl) rfl;refine W ?_;refine Z1 (ZkL (m:=6) (k:=k) rfl (by decide) rfl rfl (by omega) (by simp [maxLen];omega) (by omega)) rfl ?_;rintro _ w1 ⟨c,rfl,cb,hS⟩;replace h0:=h0.up hS;have hr:ZI 45 w w1 (.slice (some ⟨w.heap.size,0,none⟩) 0 c) ([]:List Fct):=⟨⟨[],rfl,λi h=>absurd h (Xu _),cb⟩,hS⟩
 refine W ?_;apply Z9 (Z9B rfl rfl) rfl;refine W ?_;refine WR ?_;exact .mk hr
theorem Zd2 (v:Value) (xss:List (Sl Fct)) (w) (hs:SlV [] w v xss) (hl:xss.length<=1000) (ai:(xss.flatMap Sl.l).length<=1000000000000):CC 41 #[v] w λr w'=>ZI 45 w w' r (xss.flatMap Sl.l):=by
 have cu:∀ j,((xss.take j).flatMap Sl.l).length<=(xss.flatMap Sl.l).length:=λj=>by
  rw [<- XM j xss,Yak,Xc];simp only [XM];have:(xss.take j).flatMap Sl.l=((xss.take j++xss.drop j).take j).flatMap Sl.l:=by rw [XM]
  omega
 have aj:∀ j (h:j<xss.length),(xss.take (j+1)).flatMap Sl.l=(xss.take j).flatMap Sl.l++xss[j].l:=λj h=>by
  rw [Xh h,Yak];simp
 refine cW1 36 Tryz.func41 ?_;refine W ?_;refine Z0o (σ:=Unit) (λ_=>[(0,v),(3,.I ((xss.flatMap Sl.l).length:Int))]) (λ_ w'=>w'=w) ?_ ?_;refine LP (σ:=Nat) (λj=>[(0,v),(9,v),(10,.I (xss.length:Int)),(3,.I (((xss.take j).flatMap Sl.l).length:Int)),(11,.I (j:Int))]) (λj w'=>j<=xss.length/\w'=w) (λj=>xss.length - j) 0 ⟨Xq _,rfl⟩ ?_;rintro j w2 ⟨hj,rfl⟩;by_cases ag:j<xss.length;obtain ⟨u,au,fw⟩:=hs.sub ag;have ol:=fw.max;have h1:=cu j;have h2:=cu (j+1);have h3:=aj j ag;have h4:((xss.take (j+1)).flatMap Sl.l).length=((xss.take j).flatMap Sl.l).length+xss[j].l.length:=by rw [h3,Xc]
 refine QO ?_;apply Z9 (JH rfl rfl au) rfl;refine QO ?_;refine Zx (j+1) ⟨rfl,rfl,rfl,by rw [h4,Ybl];rfl,rfl,trivial⟩ ⟨ag,rfl⟩ (by omega);have d8:j=xss.length:=by omega
 subst d8;rw [Xo];refine QO ?_;exact QT () rfl;rintro _ w2 rfl;refine W ?_;refine CM (Zg rfl rfl) (Zh2 _ _ (by omega)) ?_;rintro g w3 hr;refine W ?_;have eN:=hs.up hr.2;refine W ?_;refine LP (σ:=Nat×Value) (λq=>[(6,q.2),(25,v),(26,.I (xss.length:Int)),(27,.I (q.1:Int))]) (λq w'=>q.1<=xss.length/\ZI 45 w2 w' q.2 ((xss.take q.1).flatMap Sl.l)) (λq=>xss.length - q.1) (0,g) ⟨Xq _,by simpa using hr⟩ ?_;clear hr eN;rintro ⟨j,g⟩ w4 ⟨hj,hr⟩;dsimp only at hj hr ⊢;by_cases ag:j<xss.length;have ec:SlV (ob g) w4 v xss:=hs.ext hr.2 (by simp) (λb hb=>.inr (hr.ob_le b hb).1);obtain ⟨u,au,fw⟩:=ec.sub ag;have h1:=cu j;have h2:=cu (j+1);have h3:=aj j ag;have h4:((xss.take (j+1)).flatMap Sl.l).length=((xss.take j).flatMap Sl.l).length+xss[j].l.length:=by rw [h3,Xc]
 refine QO ?_;apply Z9 (JH rfl rfl au) rfl;refine QO ?_;refine Z1 (JD rfl (by decide) rfl rfl hr fw (by omega) (by simp only [maxLen];omega)) rfl ?_;rintro g' w5 ⟨bH,-,-⟩;refine W ?_;exact QL (j+1,g') ⟨ag,by dsimp only;rw [h3];exact bH⟩ (by dsimp only;omega);have d8:j=xss.length:=by omega
 subst d8;rw [Xo] at hr;refine QO ?_;refine WR ?_;exact .mk hr
def Z2u (c:Cas):List Dln:=(Z1z c (Z49 (c.fcts++Z1g c))).map Prod.fst
structure DlJ (w0:World) (b:Nat) (pre:List DI) (F:List Nat) (W:World):Prop where
 ex:∃ nv,F=b :: ob nv/\Blk W b 47 [nv]/\Row [b] W w0.heap.size 56 nv (pre.map Prod.fst)
 stp:Stp [b] w0 W
 lt:b<w0.heap.size
theorem Zh3 (w0:World) (b:Nat) (lI:b<w0.heap.size):Yld (.func (.func 45) #[] #[pQ b]) 45 #[pQ b] (DlJ w0 b) (λpre d i=>pre.length<=900000000000):=by
 refine ⟨rfl,?_,?_,?_⟩;rintro pre F Y ⟨⟨nv,rfl,e,ab⟩,hS,hb⟩ x hx;have:=hS.size;simp only [Xb] at hx;rcases hx with rfl|hx
 omega;exact (ab.ob_le x hx).2;rintro pre F Y Y' ⟨⟨nv,rfl,e,ab⟩,hS,hb⟩ hT;exact ⟨⟨nv,rfl,e.up hT,ab.up hT⟩,hS.trans hT.mn,hb⟩;rintro pre F d dv i Y ⟨⟨nv,rfl,e,ab⟩,hS,hb⟩ ax cq;have ey:=λx hx=>ab.ob_le x hx;have zS:=hS.size;have bN:=ax.one;refine cW3 9 Tryz.func45 ?_;refine W ?_;refine BX (Stp.refl [] Y) λb3 w1 h3 e3 hT _=>?_;replace e3:Blk w1 b3 56 (dlC d dv):=e3;replace e:=e.up hT;replace ab:=ab.up hT;have zT:=hT.size;have jq:SlV (ob nv++[b]) w1 dv d.reas:=ax.ext hT (by simp) (λx hx=>by
  rcases Xi.1 hx with h|h
  exact .inl (by simp [h]);exact .inl (by simp at h;simp [h]))
 refine W ?_;refine APG (X:=[b]) (base:=w0.heap.size) (cs:=dlC d dv) d ab (λx hx=>by simp at hx;omega) (by omega) ⟨dv,rfl,jq⟩ (by rw [Xt];exact Xg (Xp _ (show pre.length+1<=900000000001 by omega)) (by decide)) (by rw [Xt];simp only [maxLen];omega) λv1 nv' w2 dh aq bq=>?_
 have eb:b<w1.heap.size:=e.lt;replace e:=e.ext aq (λh=>by have:=ey _ h;omega);refine W ?_;have nU:SlV [b] w2 nv' (pre.map Prod.fst++[d]):=dh.slv (λx hx=>by simp at hx;omega);refine Z4 (Zc (u:=nv') rfl rfl nU.cells nU.one e (by simp)) ?_;rintro _ w3 ⟨cA,e⟩;refine W ?_;refine WR ?_;have iw:=λx hx=>dh.ob_le x hx;have nV:Stp (b :: ob nv) w1 w3:=(aq.mono (λx hx=>by simp [hx])).trans cA.mn;refine .mk ⟨b :: ob nv',⟨⟨nv',rfl,e,?_⟩,?_,hb⟩,hT.mn.trans nV,λx hx=>?_⟩;rw [XQ];exact dh.ext cA (λx hx=>⟨hx,λh=>by have:=iw x h;simp at hx;omega⟩) (λx hx=>.inl hx);exact (hS.trans hT.mn).own nV (λx hx=>by
  rcases Xb.1 hx with rfl|hx
  exact .inl (by simp);exact .inr (ey x hx).1)
 rcases Xb.1 hx with rfl|hx
 exact .inl (by simp);rcases bq x hx with h|h
 exact .inl (by simp [h]);exact .inr (by omega)
theorem Zeo {c:Cas} (h:Z6J c):(Z1g c).length<=92000000000:=by
 unfold Z1g;rw [(Z0i _).length_eq];exact (Z8K h (Xn _)).2
theorem Zep {c:Cas} (h:Z6J c):∀ f∈Z1g c,Z17 f:=λf hf=>(Z5n h 16).2 f ((Z0i _).mem_iff.1 hf)
theorem ZnB (p q:Option Addr) (l m c d:Nat) (w):(Instr.buildSlice 153 2 #[(0,.slice p l c),(1,.slice q m d)]).run Tryz.prog w=.ok (.slice (some ⟨w.heap.size,0,none⟩) 2 2) (w.alloc (.cells #[.slice p l c,.slice q m d] 24)):=by kernel_rfl
theorem Zd3 {α:Type} [Z7 α] {X:List Nat} {w} {v:Value} {xs:List α} (h:SlV X w v xs):∃ p c,v=.slice p xs.length c:=by
 obtain ⟨p,c,h,_⟩:=h;exact ⟨p,c,h⟩
theorem Z50 (c:Cas) (R:Z1e) (w) (hv:Z2B w c R) (hs:Z6J c) :
 CC 17 #[.agg (JG c R).toArray] w λv w'=>Row [] w' w.heap.size 56 v (Z2u c)/\Stp [] w w':=by
 have dE:=hs.fl;have bP:=Zeo hs;refine cW1 18 Tryz.func17 ?_;refine W ?_;refine BX (Stp.refl [] w) λb1 w1 h1 e1 _ hS=>?_;replace e1:Blk w1 b1 37 (JG c R):=e1;refine W ?_;refine ZDr 7 [] [] [(0,0),(1,1),(2,1),(3,2),(4,2),(5,2),(6,0)] (λw1 ae=>?_);replace e1:=e1.up ae;replace hS:=hS.trans ae;clear ae;refine D ?_;refine DC (Z6M c R _ (hv.up hS) hs) (λ_ _ h=>h.2) ?_;rintro fv w2 hr;have eJ:Z2u c=(Z1z c (Z49 (c.fcts++Z1g c))).map Prod.fst:=rfl;have rm:=Zep hs;generalize Z1g c=G at *;have ah:=hS.trans hr.2;replace e1:=e1.up hr.2;have js:=(hv.up ah).ff;have pd:SlV [] w2 fv (G):=hr.slv (by simp);obtain ⟨p1,c1,fB⟩:=Zd3 js;obtain ⟨p2,c2,gV⟩:=Zd3 pd;rw [fB,gV];rw [fB] at js;rw [gV] at pd;refine Za rfl trivial (Z0 (vs:=[(0,.slice p1 c.fcts.length c1),(1,.slice p2 (G).length c2)]) rfl (ZnB _ _ _ _ _ _)) (λ_ _ h=>Z5.stp h) rfl ?_;rintro v3 w3 hN;have jV:SlV [] w3 v3 [(⟨c.fcts⟩:Sl Fct),⟨G⟩]:=hN.slvS (by simp) rfl rfl (λi hi cQ=>by
  match i,hi with
  | 0,_=>exact js
  | 1,_=>exact pd) (by simp [maxLen])
 have hT:=Z5.stp hN;replace e1:=e1.up hT;have z13:=e1.lt;replace ah:=ah.trans hT;have cV:=Zd2 v3 _ w3 jV (by simp) (by simp;omega);rw [show [(⟨c.fcts⟩:Sl Fct),⟨G⟩].flatMap Sl.l=c.fcts++G by simp] at cV;refine DC cV (λ_ _ h=>h.2) ?_;rintro lv w4 hl;refine D ?_;replace e1:=e1.up hl.2;have z1:=e1.lt;replace ah:=ah.trans hl.2;have lK:=λb hb=>hl.ob_le b hb;have z3:=(hS.trans hr.2).size;have z3':=hT.size;clear js pd hN hT jV cV hr hS;refine W ?_;refine CM (Zg rfl rfl) (Z7e hl.1 (by rw [Xc];omega)) ?_;rintro _ w5 ⟨rfl,oZ,dX⟩;have qx:b1∉ob lv:=λh=>by have:=lK _ h;omega
 replace e1:=e1.ext dX qx;have aD:Stp [] w w5:=ah.own dX (λb hb=>.inr (by have:=lK b hb;omega));generalize hL:Z49 (c.fcts++G)=L at *;have yj:L.length<=92000000016:=by rw [<- hL,(Z0i _).length_eq,Xc];omega
 have wZ:∀ f∈L,Z17 f:=λf hf=>by
  rw [<- hL,(Z0i _).mem_iff] at hf;rcases Xi.1 hf with h|h
  exact hs.fo f h;exact rm f h
 refine W ?_;refine Z1 Z2 rfl ?_;rintro _ w6 ⟨b4,rfl,bC,e4,jp⟩;replace e4:Blk w6 b4 47 [.N]:=e4;have z4:=e4.lt;replace e1:=e1.up jp;have dj:=aD.trans jp;have ax:SlV [b4] w6 lv L:=SlV.ext (X:=[]) (oZ.slv (by simp)) jp (by simp) (λx hx=>.inr (by simp at hx;omega));have g4:w.heap.size<=b4:=by have:=aD.size;omega
 refine W ?_;have iG:=ZcQ (Zh3 w6 b4 z4) c R lv L [b4] w6 hs.ok (λY hY=>hv.own dj (B:=[b4]) (by simpa using g4) hY) (λY hY=>ax.ext hY (λx hx=>hx) (by simp)) wZ (λj hj i hi ht=>by
  have a1:=Z62 c (L.take j);have a2:=Z61 c L[j] i;have a3:=hs.rl;have a4:=Ybd (show (L.take j).length<=220000000000 by rw [Xv];omega) a3;rw [Xc];omega) ⟨⟨.N,rfl,e4,Row.nil⟩,Stp.refl _ _,z4⟩
 refine CL iG ?_;rintro _ w7 ⟨F,⟨⟨nv,rfl,e4',ab⟩,aQ,-⟩,-,-⟩;refine W ?_;refine WR ?_;refine .mk ⟨?_,dj.ow aQ⟩;rw [eJ];exact Row.low ab (by have:=dj.size;omega)
open Go Go.Eng Go.RowKit Go.Proofs
theorem Z8T {q:Cr} (h:Zb9 q=0):Z24 q.cnd=(2,0)/\Z24 q.due=(3,0):=by
 unfold Zb9 at h;split at h;cases h;rename_i hb;unfold Z0E at hb;simp only [Yav,decide_eq_true_eq,not_or,Decidable.not_not] at hb;obtain ⟨⟨⟨⟨⟨⟨⟨⟨⟨a1,a2⟩,a3⟩,a4⟩,-⟩,-⟩,-⟩,-⟩,-⟩,-⟩:=hb;exact ⟨Prod.ext a3 a1,Prod.ext a4 a2⟩
theorem Za5.lt {l:List Fct} (h:Za5 l) {i j:Nat} (hi:i<j) (hj:j<l.length):(l[i]'(by omega)).entry<l[j].entry:=by
 have h1:=h i (by omega);have h2:=h j hj;omega
theorem Za5.nodup {l:List Fct} (h:Za5 l):l.Nodup:=by
 unfold List.Nodup;rw [Yam];intro i j hi hj dC e;have:=h.lt dC hj;rw [e] at this;omega
theorem Z8S.att {c:Cas} (h:Z8S c):Zn4 c.atts c.crrs:=by
 have iG:=h.al;refine ⟨by omega,λa ha=>?_,λa ha=>(h.ao a ha).crr,λa ha=>?_⟩;have hx:=h.ao a ha;have hl:=hx.len;exact ⟨by omega,λr hr=>(hx.rets r hr).crr,λx hx=>(h.co x hx).tol,λr hr=>⟨(hx.rets r hr).lo.1,(hx.rets r hr).lo.2,(hx.rets r hr).hi.1,(hx.rets r hr).hi.2⟩⟩;have:=(h.ao a ha).sent;omega
theorem Z8S.cas {c:Cas} (h:Z8S c):Z6J c:=by
 have dE:=h.fl;have iM:=h.rl;have ax:=h.sl;have nM:=h.court;have lZ:=h.today;have hv:∀ q∈c.ruls,Z24 q.cnd=(2,0)/\Z24 q.due=(3,0):=λq hq=>by
  obtain ⟨r,-,hr,rfl⟩:=h.ro q hq;exact Z8T (Z8R r.rul hr).2
 refine ⟨⟨by omega,by omega,λq hq=>(hv q hq).1,λq hq=>(hv q hq).2,h.att,λx hx=>(h.co x hx).ext,⟨by omega,λs hs=>⟨(h.so s hs).lo,(h.so s hs).le,(h.so s hs).hi⟩⟩,by omega,by omega⟩,by omega,iM,λf hf=>(h.fo f hf).ok,h.en.nodup⟩
def ltr (i:Nat) (c:Int):Prop:=(97<=c/\c<=122)\/(48<=c/\c<=57/\i≠0)
instance (i:Nat) (c:Int):Decidable (ltr i c):=by unfold ltr;infer_instance
def Za6 (s:Str):Bool:=decide ((∀ i,i<s.length->ltr i (Jg s i))/\s≠[]/\s.length<=12)
theorem ZkM (s:Str) (w) (hm:(s.length:Int)<=maxLen):CC 356 #[str s] w λr w'=>r=.B (Za6 s)/\Stp [] w w':=by
 simp only [maxLen] at hm;refine cW1 49 Tryz.func356 ?_;refine W ?_;refine LP (σ:=Nat) (λi=>[(0,str s),(7,.I (s.length:Int)),(8,.I (i:Int))]) (λi w'=>i<=s.length/\Stp [] w w'/\∀ j,j<i->ltr j (Jg s j)) (λi=>s.length - i) 0 ⟨Xq _,Stp.refl _ _,λj h=>absurd h (Xu _)⟩ ?_;rintro i w2 ⟨hi,hS,aB⟩
 try dsimp only at hi aB ⊢
 by_cases pp:¬ s.length<=i
 . have bg:¬ ltr i (Jg s i)->Za6 s=false:=λh=>decide_eq_false (λk=>h (k.1 i (by omega)))
   have dH:ltr i (Jg s i)->∀ j,j<i+1->ltr j (Jg s j):=λh j hj=>by
    by_cases e:j=i;subst e;exact h;exact aB j (by omega)
   generalize ia:Jg s i=b at bg dH;have fI:(97<=b/\b<=122)->ltr i b:=.inl;have dS:(48<=b/\b<=57/\i≠0)->ltr i b:=.inr;have ii:¬ (97<=b/\b<=122)->¬ (48<=b/\b<=57/\i≠0)->¬ ltr i b:=λh1 h2 h=>h.elim h1 h2;subst ia;by_cases c1:97<=Jg s i;all_goals by_cases c2:Jg s i<=122
   all_goals by_cases c3:48<=Jg s i
   all_goals by_cases c4:Jg s i<=57
   all_goals by_cases c5:(i:Int)=0
   all_goals try omega
   all_goals
    refine QO ?_;refine ZDr 22 [] [] [(0,0),(1,0),(2,0),(3,0),(4,0),(5,0),(6,0),(7,0),(8,0),(9,0),(10,0),(11,0),(12,0),(13,0),(14,0),(15,0),(16,0),(17,0),(18,0),(19,0),(20,0),(21,0)] (λw1 ae=>?_);have aU:=hS.trans ae;refine QD ?_;refine QO ?_
   all_goals first
    | exact QL (i+1) ⟨by omega,aU,dH (by first|exact fI ⟨c1,c2⟩|exact dS ⟨c3,c4,by omega⟩)⟩ (by omega)
    | (refine RU ?_
       exact ⟨by rw [bg (ii (by omega) (by omega))],aU⟩)
 obtain rfl:i=s.length:=by omega
 by_cases h0:s=[]
 subst h0;refine RT ?_;exact ⟨rfl,hS⟩;by_cases lT:s.length<=12
 . (refine QP ?_ ?_<;>intro hg)
   all_goals try contradiction
   all_goals
    refine RU ?_;exact ⟨by rw [show Za6 s=true from decide_eq_true ⟨aB,h0,lT⟩,decide_eq_true (by omega)],hS⟩
 . (refine QP ?_ ?_<;>intro hg)
   all_goals try contradiction
   all_goals
    refine RU ?_;exact ⟨by rw [show Za6 s=false from decide_eq_false (λh=>lT h.2.2),decide_eq_false (by omega)],hS⟩
theorem Zba (n m:Int) (w):CC 333 #[.I n,.I m] w λr w'=>r=.B (decide (0<=n/\n<m))/\Stp [] w w':=by
 refine cW2 12 Tryz.func333 ?_
 (refine QP ?_ ?_<;>intro hg)
 refine RU ?_;exact ⟨by congr 1;rw [decide_eq_decide];exact ⟨λh=>⟨by omega,h⟩,λh=>h.2⟩,Stp.refl _ _⟩;refine RU ?_;exact ⟨by congr 1;symm;exact decide_eq_false (λh=>by omega),Stp.refl _ _⟩
def VOk (f:Fct):Prop:=(0<=f.entry/\f.entry<65536)/\Za6 f.kind=true/\(0<=f.day/\f.day<3652059)/\(0<=f.by_/\f.by_<64)/\(0<=f.to_/\f.to_<64)/\-2147483647<=f.amt/\f.amt<=2147483647
instance (f:Fct):Decidable (VOk f):=by unfold VOk;infer_instance
theorem Zh4 (f:Fct) (w) (hm:(f.kind.length:Int)<=maxLen):CC 334 #[aG f] w λr w'=>r=.B (decide (VOk f))/\Stp [] w w':=by
 refine cW1 36 Tryz.func334 ?_;refine W ?_;refine BX (Stp.refl [] w) λb1 w1 h1 e1 _ hS=>?_;replace e1:Blk w1 b1 45 (Z3.enc f):=e1;refine QO ?_;refine CP hS (Zba f.entry 65536 _) λw3 hT hS=>?_;replace e1:=e1.up hT;clear hT;by_cases h0:(0<=f.entry/\f.entry<65536)
 rotate_left
 rw [decide_eq_false h0];refine RT ?_;exact ⟨by rw [decide_eq_false (λh=>h0 (h.1))],hS⟩;rw [decide_eq_true h0];refine QO ?_;refine CP hS (ZkM f.kind _ hm) λw4 hT hS=>?_;replace e1:=e1.up hT;clear hT;by_cases h1:(Za6 f.kind=true)
 rotate_left
 rw [Ybu.2 h1];refine RT ?_;exact ⟨by rw [decide_eq_false (λh=>h1 (h.2.1))],hS⟩;rw [h1];refine QO ?_;refine CP hS (Zba f.day 3652059 _) λw5 hT hS=>?_;replace e1:=e1.up hT;clear hT;by_cases h2:(0<=f.day/\f.day<3652059)
 rotate_left
 rw [decide_eq_false h2];refine RT ?_;exact ⟨by rw [decide_eq_false (λh=>h2 (h.2.2.1))],hS⟩;rw [decide_eq_true h2];refine QO ?_;refine CP hS (Zba f.by_ 64 _) λw6 hT hS=>?_;replace e1:=e1.up hT;clear hT;by_cases h3:(0<=f.by_/\f.by_<64)
 rotate_left
 rw [decide_eq_false h3];refine RT ?_;exact ⟨by rw [decide_eq_false (λh=>h3 (h.2.2.2.1))],hS⟩;rw [decide_eq_true h3];refine QO ?_;refine CP hS (Zba f.to_ 64 _) λw7 hT hS=>?_;replace e1:=e1.up hT;clear hT;by_cases h4:(0<=f.to_/\f.to_<64)
 rotate_left
 rw [decide_eq_false h4];refine RT ?_;exact ⟨by rw [decide_eq_false (λh=>h4 (h.2.2.2.2.1))],hS⟩;rw [decide_eq_true h4]
 (refine QP ?_ ?_<;>intro hg)
 all_goals
  refine RU ?_;exact ⟨by
   congr 1;symm
   first
    | (rw [decide_eq_decide];exact ⟨λh=>by have:=h.2.2.2.2.2;omega,λh=>⟨h0,h1,h2,h3,h4,by omega,by omega⟩⟩)
    | exact decide_eq_false (λh=>by have:=h.2.2.2.2.2;omega),hS⟩
abbrev mkI (a:Int):Value:=.I a
structure Vr0 where
 f:Fct
instance:Z3 Vr0 where
 k:=8
 enc:=λx=>.I 0 :: .B false :: Z3.enc x.f
 len:=λ_=>rfl
 one:=by
  intro x u hu;rcases Xb.1 hu with rfl|hu
  rfl;rcases Xb.1 hu with rfl|hu
  rfl;exact Z3.one x.f u hu
abbrev Zeq (f:Fct):Int:=if VOk f then 0 else 5
theorem ZkN (r:Nat) (f:Fct) (w) (hm:(f.kind.length:Int)<=maxLen) (hr:JL mkI w r []) :
 CC 296 #[.map (some r),aG (⟨f⟩:Vr0),.I 0] w λv w'=>v=.I (Zeq f)/\Stp [r] w w':=by
 have lr:=hr.lt;refine cW3 50 Tryz.func296 ?_;refine W ?_;refine BX (Stp.refl [] w) λb1 w1 h1 e1 _ hS=>?_;replace e1:Blk w1 b1 262 (Z3.enc (⟨f⟩:Vr0)):=e1;replace hr:=hr.up hS;refine QO ?_;refine Z9 (Zn rfl rfl e1 (us:=Z3.enc f) rfl rfl) rfl ?_;refine W ?_;refine CP hS (Zh4 f _ hm) λw2 hT hS=>?_;replace e1:=e1.up hT;replace hr:=hr.up hT;clear hT;unfold Zeq;by_cases hv:VOk f
 rotate_left
 rw [decide_eq_false hv,if_neg hv];refine RT ?_;exact ⟨rfl,hS.mn⟩;rw [decide_eq_true hv,if_pos hv];refine QO ?_;refine Z4 (Z1P (a:=f.entry) rfl rfl rfl hr (by simp)) ?_;rintro _ w3 ⟨oL,hT⟩;refine RT ?_;exact ⟨rfl,hS.mn.trans hT⟩
theorem ZnC (v:Value) (f:Fct) (w) (hm:(f.kind.length:Int)<=maxLen) (hs:SlV [] w v [(⟨f⟩:Vr0)]) :
 CC 249 #[v] w λr w'=>∃ p q,r=.tuple #[p,q,.I (Zeq f)]/\Stp [] w w':=by
 refine cW1 29 Tryz.func249 ?_;refine W ?_;refine Z1 (Z0X mkI) rfl ?_;rintro _ w1 ⟨r,rfl,gr,ik,hS⟩;replace hs:=hs.up hS;refine W ?_;have cR:0 < [(⟨f⟩:Vr0)].length:=by simp
 refine Zt (σ:=Nat) (λk=>[(0,v),(5,.map (some r)),(6,.I 0),(11,v),(12,.I 1),(13,.I (k:Int))])
  (λk W=>k<=1/\(k=0->W=w1)/\(k=1->VOk f)/\Stp [] w W) (λk=>1 - k) 0 ⟨rfl,rfl,rfl,rfl,rfl,rfl,trivial⟩ ⟨by decide,λ_=>rfl,by simp,hS⟩ ?_
 rintro k w2 ⟨hk,fc,bF,ah⟩;have dT:k=0\/k=1:=by omega
 rcases dT with rfl|rfl
 obtain rfl:=fc rfl;clear fc bF ah;have lr:=ik.lt;refine QO ?_;refine Z1 Z2 rfl ?_;rintro _ w3 ⟨b8,rfl,fC,e8,hT⟩;refine SA (us:=Z3.enc (⟨f⟩:Vr0)) e8 ?_;rintro _ w4 ⟨hU,e8⟩;replace hT:=hT.ow hU;replace ik:=ik.up hT;have aI:=hS.trans hT;have l8:=e8.lt;have n8:b8≠r:=by omega
 clear hU;refine QO ?_;refine CL (ZkN r f _ hm ik) ?_;rintro _ w5 ⟨rfl,hU⟩;replace e8:=e8.ext hU (by simpa using n8);have aD:Stp [] w w5:=aI.ow hU;unfold Zeq;by_cases hv:VOk f;rw [if_pos hv];refine QO ?_;exact QL 1 ⟨Xn _,by simp,λ_=>hv,aD⟩ (by decide);rw [if_neg hv];refine RT ?_;exact ⟨_,_,rfl,aD⟩;have hv:=bF rfl;refine RT ?_;exact ⟨_,_,by rw [show Zeq f=0 from if_pos hv],ah⟩
theorem Zes (v:Value) (f:Fct) (w) (hm:(f.kind.length:Int)<=maxLen) (hs:SlV [] w v [(⟨f⟩:Vr0)]) :
 CC 189 #[v] w λr w'=>r=.I (Zeq f)/\Stp [] w w':=by
 refine cW1 13 Tryz.func189 ?_;refine W ?_;refine CL (ZnC v f _ hm hs) ?_;rintro _ w1 ⟨p,q,rfl,hS⟩;refine RT ?_;exact ⟨rfl,hS⟩
def Zd4:List Int->List Fct->Int
 | _,[]=>0
 | kn,f :: l=>if ¬ VOk f then 5 else if f.entry∈kn then 4 else Zd4 (kn++[f.entry]) l
theorem Zh5 (kn:List Int) (f:Fct) (l:List Fct):Zd4 kn (f :: l)=if ¬ VOk f then 5 else if f.entry∈kn then 4 else Zd4 (kn++[f.entry]) l:=rfl
theorem ZkO {κ:Type} [DecidableEq κ] (l:List Fct) (g:Fct->κ) (a:κ):Z3E (l.map (λx=>(g x,Value.bool true))) a (.B false)=.B (decide (a∈l.map g)):=by
 have:=Zfj (l.map g) a;rw [YbE] at this;exact this
theorem ZnD (f:Fct) (w):(Instr.build 262 #[(2,aG f)]).run Tryz.prog w=.ok (aG (⟨f⟩:Vr0)) w:=by kernel_rfl
theorem ZnE (f:Fct) (w):(Instr.buildSlice 263 1 #[(0,aG (⟨f⟩:Vr0))]).run Tryz.prog w=.ok (.slice (some ⟨w.heap.size,0,none⟩) 1 1) (w.alloc (.cells (Z3.enc (⟨f⟩:Vr0)).toArray 262)):=by kernel_rfl
theorem Z8U (v:Value) (l:List Fct) (w) (hm:∀ f∈l,(f.kind.length:Int)<=maxLen) (hs:SlV [] w v l) :
 CC 109 #[v] w λr w'=>r=.I (Zd4 [] l)/\Stp [] w w':=by
 have kE:=hs.max;refine cW1 26 Tryz.func109 ?_;refine W ?_;refine Z1 (Z0X mkI) rfl ?_;rintro _ w1 ⟨r,rfl,gr,ik,hS⟩;have cn:=hs.ext (X':=[r]) hS (by simp) (λb hb=>.inr (by simp at hb;omega));have lr:=ik.lt;refine QO ?_
 refine Zt (σ:=Nat) (λk=>[(3,.map (some r)),(7,v),(8,.I (l.length:Int)),(9,.I (k:Int))])
  (λk W=>k<=l.length/\JL mkI W r ((l.take k).map (λf=>(f.entry,.B true)))/\Zd4 [] l=Zd4 ((l.take k).map Fct.entry) (l.drop k)/\Stp [r] w1 W) (λk=>l.length - k) 0 ⟨rfl,rfl,rfl,rfl,trivial⟩ ⟨Xq _,by simpa using ik,by simp,Stp.refl _ _⟩ ?_
 clear ik;rintro k w2 ⟨hk,eM,ci,hT⟩;have bu:=cn.ext (X':=[r]) hT (by simp) (λb hb=>.inl hb);have yl:=hT.size;by_cases ag:k<l.length
 . have hd:l.drop k=l[k] :: l.drop (k+1):=Yac ag
   have fz:l.take (k+1)=l.take k++[l[k]]:=Xh ag;have aA:=hm _ (Xd ag);rw [hd,Zh5] at ci;refine QO ?_;refine Z1 Z2 rfl ?_;rintro _ w3 ⟨b5,rfl,jS,e5,hU⟩;refine SA (us:=Z3.enc l[k]) e5 ?_;rintro _ w4 ⟨gZ,e5⟩;replace hU:=hU.ow gZ;replace eM:=eM.up hU;have fD:=hT.trans hU.mn;have l5:=e5.lt;clear gZ hU;refine QO ?_;refine Z8 rfl (ZnD l[k]) rfl ?_;refine Z1 (Z0 rfl (ZnE l[k])) rfl ?_;rintro vs w5 hN;have dF:SlV [] w5 vs [(⟨l[k]⟩:Vr0)]:=hN.slv (by simp) rfl (by simp) (by simp [maxLen]);have hU:=Z5.stp hN;clear hN;replace eM:=eM.up hU;replace e5:=e5.up hU;replace fD:=fD.trans hU.mn;clear hU;refine CP (Stp.refl [] w5) (Zes vs l[k] _ aA dF) λw6 hU _=>?_;replace eM:=eM.up hU;replace e5:=e5.up hU;replace fD:=fD.trans hU.mn;clear hU;unfold Zeq;have dx:∀ W,Stp [r] w1 W->Stp [] w W:=λW h=>hS.ow h;by_cases hv:VOk l[k]
   rotate_left
   rw [if_neg hv];rw [if_pos hv] at ci;refine RT ?_;exact ⟨by rw [ci],dx _ fD⟩;rw [if_pos hv];rw [if_neg (by simpa using hv)] at ci;refine QO ?_;refine Z9 (Z1Q (a:=l[k].entry) rfl rfl eM) rfl ?_;rw [ZkO];by_cases bG:l[k].entry∈(l.take k).map Fct.entry;rw [if_pos bG] at ci;rw [decide_eq_true bG];refine RT ?_;exact ⟨by rw [ci],dx _ fD⟩;rw [if_neg bG] at ci;rw [decide_eq_false bG];refine QO ?_;refine Z4 (Z1P (a:=l[k].entry) rfl rfl rfl eM (λp hp=>by
    obtain ⟨x,hx,rfl⟩:=XK.1 hp;exact λh=>bG (XK.2 ⟨x,hx,h⟩))) ?_
   rintro _ w7 ⟨pD,hU⟩;refine QO ?_;exact QL (k+1) ⟨ag,by rw [fz,XQ];exact pD,by rw [ci,fz,XQ];rfl,fD.trans hU⟩ (by omega)
 obtain rfl:k=l.length:=by omega
 rw [YaZ] at ci;refine RT ?_;exact ⟨by rw [ci];rfl,hS.ow hT⟩
def Z7o (n:Nat) (r:Rtn):Prop:=(0<=r.crr/\r.crr<n)/\((r.kind=1/\(0<=r.lo/\r.lo<=3652058)/\(0<=r.hi/\r.hi<=3652058)/\r.lo<=r.hi)\/(r.kind=2/\r.lo=0/\(0<=r.hi/\r.hi<=3652058))\/(r.kind=3/\r.lo=0/\r.hi=0))
instance (n:Nat) (r:Rtn):Decidable (Z7o n r):=by unfold Z7o;infer_instance
def Zt4 (n:Nat) (l:List Rtn):Int:=if 32<l.length then 2 else if ∀ r∈l,Z7o n r then 0 else 5
theorem Z1A (d:Int) (w):CC 301 #[.I d] w λr w'=>r=.B (decide (0<=d/\d<=3652058))/\Stp [] w w':=by
 refine cW1 9 Tryz.func301 ?_
 (refine QP ?_ ?_<;>intro hg)
 refine RU ?_;exact ⟨by congr 1;rw [decide_eq_decide];exact ⟨λh=>⟨by omega,h⟩,λh=>h.2⟩,Stp.refl _ _⟩;refine RU ?_;exact ⟨by congr 1;symm;exact decide_eq_false (λh=>by omega),Stp.refl _ _⟩
theorem Zbb (v cv:Value) (l:List Rtn) (cs:List Crr) (w) (hs:SlV [] w v l) (ca:SlV [] w cv cs) :
 CC 251 #[v,cv] w λr w'=>r=.I (Zt4 cs.length l)/\Stp [] w w':=by
 have kE:=hs.max;have bR:=ca.max;unfold Zt4;refine cW2 78 Tryz.func251 ?_;by_cases ku:32<l.length;rw [if_pos ku];refine RT ?_;exact ⟨rfl,Stp.refl _ _⟩;rw [if_neg ku];refine QO ?_
 refine Zt (σ:=Nat) (λk=>[(0,v),(1,cv),(11,v),(12,.I (l.length:Int)),(13,.I (k:Int))])
  (λk W=>k<=l.length/\(∀ i (h:i<l.length),i<k->Z7o cs.length l[i])/\Stp [] w W) (λk=>l.length - k) 0 ⟨rfl,rfl,rfl,rfl,rfl,trivial⟩ ⟨Xq _,λi _ h=>absurd h (Xu _),Stp.refl _ _⟩ ?_
 rintro k w2 ⟨hk,aB,hS⟩;have bu:=hs.up hS;have ce:=ca.up hS;by_cases ag:k<l.length;refine QO ?_;refine Z1 Z2 rfl ?_;rintro _ w3 ⟨b6,rfl,ew,e6,hU⟩;refine SA (us:=Z3.enc l[k]) e6 ?_;rintro _ w4 ⟨gZ,e6⟩;replace hU:=hU.ow gZ;replace ce:=ce.up hU;replace hS:=hS.trans hU;clear hU gZ bu;have dH:Z7o cs.length l[k]->∀ i (h:i<l.length),i<k+1->Z7o cs.length l[i]:=λhv i h ym=>by
  by_cases e:i=k;subst e;exact hv;exact aB i h (by omega)
 have bg:¬ Z7o cs.length l[k]->(if ∀ r∈l,Z7o cs.length r then (0:Int) else 5)=5:=λh=>if_neg (λg=>h (g _ (Xd ag)));generalize l[k]=y at *;clear aB;by_cases hv:Z7o cs.length y;replace dH:=dH hv;clear bg;unfold Z7o at hv;obtain ⟨⟨g1,g2⟩,⟨k1,g3,g4,g5⟩|⟨k1,g3,g4⟩|⟨k1,g3,g4⟩⟩:=hv;refine QO ?_;refine CP hS (Z1A _ _) λw5 hT hS=>?_;replace e6:=e6.up hT;rw [decide_eq_true g3];refine QO ?_;refine CP hS (Z1A _ _) λw6 hT hS=>?_;replace e6:=e6.up hT;rw [decide_eq_true g4];refine QO ?_;exact QL (k+1) ⟨ag,dH,hS⟩ (XE ag (XP k));refine QO ?_;refine CP hS (Z1A _ _) λw5 hT hS=>?_;replace e6:=e6.up hT;rw [decide_eq_true g4];refine QO ?_;exact QL (k+1) ⟨ag,dH,hS⟩ (XE ag (XP k));refine QO ?_;exact QL (k+1) ⟨ag,dH,hS⟩ (XE ag (XP k))
 . replace bg:=bg hv
   clear dH;rw [bg];unfold Z7o at hv;repeat'(first|refine W1 ?_|omega|refine VG ?_ ?_<;>intro hg|refine VC ?_ ?_<;>intro hc)
   all_goals try
    refine CP hS (Z1A _ _) λw5 hT hS=>?_;replace e6:=e6.up hT;repeat'(first|refine W1 ?_|omega|refine VG ?_ ?_<;>intro hg|refine VC ?_ ?_<;>intro hc)
   all_goals try
    refine CP hS (Z1A _ _) λw6 hT hS=>?_;replace e6:=e6.up hT;repeat'(first|refine W1 ?_|omega|refine VG ?_ ?_<;>intro hg|refine VC ?_ ?_<;>intro hc)
   all_goals
    refine RU ?_;exact ⟨rfl,hS⟩
 obtain rfl:k=l.length:=by omega
 have hf:(if ∀ r∈l,Z7o cs.length r then (0:Int) else 5)=0:=if_pos (λr hr=>by
  obtain ⟨i,hi,rfl⟩:=Xr hr;exact aB i hi hi)
 rw [hf];refine RT ?_;exact ⟨rfl,hS⟩
def Zh6 (n:Nat) (a:Atp):Prop:=(0<=a.entry/\a.entry<65536)/\(0<=a.party/\a.party<64)/\(0<=a.crr/\a.crr<n)/\(0<=a.sent/\a.sent<=3652058)
instance (n:Nat) (a:Atp):Decidable (Zh6 n a):=by unfold Zh6;infer_instance
def Zd5 (n:Nat) (a:Atp):Int:=if Zh6 n a then Zt4 n a.rets else 5
def Zet (n:Nat):List Atp->Int
 | []=>0
 | a :: l=>if Zd5 n a≠0 then Zd5 n a else Zet n l
theorem Zbc (rv cv:Value) (a:Atp) (cs:List Crr) (w) (hs:SlV [] w rv a.rets) (ca:SlV [] w cv cs) :
 CC 192 #[.agg (atC a rv).toArray,cv] w λr w'=>r=.I (Zd5 cs.length a)/\Stp [] w w':=by
 have bR:=ca.max;unfold Zd5;refine cW2 36 Tryz.func192 ?_;refine W ?_;refine BX (Stp.refl [] w) λb1 w1 h1 e1 _ hS=>?_;replace e1:Blk w1 b1 78 (atC a rv):=e1;have ce:=ca.up hS;have bu:=hs.up hS;by_cases hv:Zh6 cs.length a;rw [if_pos hv];unfold Zh6 at hv;obtain ⟨g1,g2,g3,g4⟩:=hv;refine QO ?_;refine CP hS (Zbb rv cv a.rets cs _ bu ce) λw5 hT hS=>?_;refine RT ?_;exact ⟨rfl,hS⟩
 . rw [if_neg hv]
   unfold Zh6 at hv;repeat'(first|refine W1 ?_|omega|refine VG ?_ ?_<;>intro hg|refine VC ?_ ?_<;>intro hc)
   all_goals
    refine RU ?_;exact ⟨rfl,hS⟩
theorem Zbd (v cv:Value) (l:List Atp) (cs:List Crr) (w) (hl:l.length<=65536) (hs:SlV [] w v l) (ca:SlV [] w cv cs) :
 CC 112 #[v,cv] w λr w'=>r=.I (Zet cs.length l)/\Stp [] w w':=by
 have kE:=hs.max;refine cW2 24 Tryz.func112 ?_;refine QO ?_
 refine Zt (σ:=Nat) (λk=>[(0,v),(1,cv),(11,v),(12,.I (l.length:Int)),(13,.I (k:Int))])
  (λk W=>k<=l.length/\Zet cs.length l=Zet cs.length (l.drop k)/\Stp [] w W) (λk=>l.length - k) 0 ⟨rfl,rfl,rfl,rfl,rfl,trivial⟩ ⟨Xq _,rfl,Stp.refl _ _⟩ ?_
 rintro k w2 ⟨hk,ci,hS⟩;have bu:=hs.up hS;have ce:=ca.up hS;by_cases ag:k<l.length;have hd:l.drop k=l[k] :: l.drop (k+1):=Yac ag;rw [hd] at ci;have nq:Zet cs.length (l[k] :: l.drop (k+1))=if Zd5 cs.length l[k]≠0 then Zd5 cs.length l[k] else Zet cs.length (l.drop (k+1)):=rfl
 rw [nq] at ci;obtain ⟨cs0,⟨rv,rfl,bN⟩,au⟩:=bu.cell ag;refine QO ?_;refine Z9 (Z28 rfl rfl bu ag ⟨rv,rfl,bN⟩ au) rfl ?_;refine Z1 Z2 rfl ?_;rintro _ w3 ⟨b6,rfl,ew,e6,hU⟩;refine SB (us:=atC l[k] rv) (Zfq bN.one) e6 ?_;rintro _ w4 ⟨gZ,e6⟩;replace hU:=hU.ow gZ;replace ce:=ce.up hU;replace bN:=bN.up hU;replace hS:=hS.trans hU;clear hU gZ au bu;refine QO ?_;refine CP hS (Zbc rv cv l[k] cs _ bN ce) λw5 hT hS=>?_;by_cases he:Zd5 cs.length l[k]=0;rw [he] at ci ⊢;refine QO ?_;exact QL (k+1) ⟨ag,ci,hS⟩ (XE ag (XP k));rw [if_pos he] at ci;generalize Zd5 cs.length l[k]=z at *;refine RT ?_;exact ⟨by rw [ci],hS⟩;obtain rfl:k=l.length:=by omega
 rw [YaZ] at ci;refine RT ?_;exact ⟨by rw [ci];rfl,hS⟩
theorem ZnF (v:Value) (l:List Int) (w) (hs:SlV [] w v l):CC 111 #[v] w λr w'=>r=.I (orL l)/\Stp [] w w':=by
 have aT:=hs.max;refine cW1 18 Tryz.func111 ?_;refine W ?_;refine LP (σ:=Nat) (λk=>[(3,.I 0),(6,v),(7,.I l.length),(8,.I k)]) (λk w'=>k<=l.length/\Stp [] w w'/\∀ j (h:j<l.length),j<k->l[j]=0) (λk=>l.length - k) 0 ⟨Xq _,Stp.refl _ _,λj _ h=>absurd h (Xu _)⟩ ?_;have ba:=hs;clear hs;rintro k w1 ⟨hk,hS,hz⟩;have hs:=ba.up hS;by_cases ag:k<l.length;by_cases h0:l[k]=0;refine QO ?_;exact QL (k+1) ⟨by omega,hS,λj h hj=>by
  by_cases e:j=k;subst e;exact h0;exact hz j h (by omega)⟩ (by omega)
 refine RT ?_;exact ⟨by rw [ZdY ag hz h0],hS⟩;refine RT ?_;exact ⟨by rw [Z8m (λj h=>hz j h (by omega))],hS⟩
theorem Z9f (w):CC 194 #[.N] w λr w'=>r=.I 0/\Stp [] w w':=by
 refine cW1 55 Tryz.func194 ?_;refine QO ?_;refine CL (Z9R _) ?_;rintro _ w1 ⟨rfl,hS⟩;repeat'(first|refine W1 ?_|omega|refine VG ?_ ?_<;>intro hg|refine VC ?_ ?_<;>intro hc)
 refine Z1 Z2 rfl ?_;rintro _ w2 ⟨b,rfl,hb,e6,hT⟩;refine SB (us:=Z5m) (by intro u hu;simp [Z5m] at hu;rcases hu with rfl|rfl|rfl|rfl|rfl|rfl|rfl|rfl<;>rfl) e6 ?_;rintro _ w3 ⟨hU,e6⟩;replace hS:=(hS.trans hT).own hU (λc hc=>.inr (by have:=hS.size;simp at hc;omega));refine QO ?_;refine LP (σ:=Nat) (λk=>[(11,.I 0),(12,.I (k:Int))]) (λk w'=>k=0/\w'=w3) (λk=>k) 0 ⟨rfl,rfl⟩ ?_;rintro k w4 ⟨rfl,rfl⟩;refine RT ?_;exact ⟨rfl,hS⟩
theorem Z9g (w):CC 195 #[.agg #[.I 0,.N]] w λr w'=>r=.I 0/\Stp [] w w':=by
 have iD:∀ W:World,CC 254 #[.I 0] W λr w'=>r=.B true/\Stp [] W w':=λW=>by
  refine cW1 9 Tryz.func254 ?_;refine RT ?_;exact ⟨rfl,Stp.refl _ _⟩
 refine cW1 51 Tryz.func195 ?_;refine W ?_;refine BX (Stp.refl [] w) λb1 w1 h1 e1 _ hS=>?_;replace e1:Blk w1 b1 33 [.I 0,.N]:=e1;refine QO ?_;refine CP hS (iD _) λw2 hT hS=>?_;replace e1:=e1.up hT;refine QO ?_;refine LP (σ:=Nat) (λk=>[(17,.I 0),(18,.I (k:Int))]) (λk w'=>k=0/\w'=w2) (λk=>k) 0 ⟨rfl,rfl⟩ ?_;rintro k w4 ⟨rfl,rfl⟩;refine RT ?_;exact ⟨rfl,hS⟩
theorem ZkP (v:Value) (l:List Bool) (x:Bool) (w) (hs:SlV [] w v l):CC 252 #[v,.B x] w λr w'=>(∃ z:Int,r=.I z/\(0<=z↔x∈l))/\Stp [] w w':=by
 have aT:=hs.max;refine cW2 19 Tryz.func252 ?_;refine W ?_;refine LP (σ:=Nat) (λk=>[(0,v),(1,.B x),(6,v),(7,.I l.length),(8,.I k)]) (λk w'=>k<=l.length/\Stp [] w w'/\∀ j (h:j<l.length),j<k->l[j]≠x) (λk=>l.length - k) 0 ⟨Xq _,Stp.refl _ _,λj _ h=>absurd h (Xu _)⟩ ?_;rintro k w2 ⟨hk,hT,hz⟩;have bu:=hs.up hT;by_cases ag:k<l.length
 (refine QP ?_ ?_<;>intro hc)
 refine RU ?_;exact ⟨⟨_,rfl,⟨λ_=>hc ▸ Xd ag,λ_=>Int.natCast_nonneg _⟩⟩,hT⟩;exact QL (k+1) ⟨ag,hT,λj h hj=>by
  by_cases e:j=k;subst e;exact λh=>hc h.symm;exact hz j h (by omega)⟩ (by omega)
 have bg:¬ x∈l:=λh=>by
  obtain ⟨j,hj,e⟩:=Xr h;exact hz j hj (by omega) e
 refine RT ?_;exact ⟨⟨_,rfl,⟨λh=>absurd h (by decide),λh=>absurd h bg⟩⟩,hT⟩
theorem ZkQ (v:Value) (l:List Bool) (x:Bool) (w) (hs:SlV [] w v l):CC 193 #[v,.B x] w λr w'=>r=.B (decide (x∈l))/\Stp [] w w':=by
 refine cW2 9 Tryz.func193 ?_;refine W ?_;refine CG (ZkP v l x _ hs) ?_;rintro _ w2 ⟨⟨z,rfl,hz⟩,hT⟩;refine RT ?_;exact ⟨congrArg Value.bool (decide_eq_decide.2 hz),hT⟩
def Zof:List Value:=[.B false,.B false,.B false,.B false,.B false,.B false,.B false,.N,.N,.I 0,.N,.I 0]
theorem Z9h (w):CC 114 #[.agg Zof.toArray] w λr w'=>r=.I 0/\Stp [] w w':=by
 refine cW1 66 Tryz.func114 ?_;refine W ?_;refine BX (Stp.refl [] w) λb1 w1 h1 e1 _ hS=>?_;replace e1:Blk w1 b1 35 Zof:=e1;have oN:SlV [] w1 (.slice (some ⟨b1,0,none⟩) 7 7) [false,false,false,false,false,false,false]:=by
  refine ⟨some ⟨b1,0,none⟩,7,rfl,Xn _,by simp [maxLen],λh=>by simp at h,λi hi=>⟨b1,0,[.B false],rfl,e1.lt,by simp,?_,λj u hu=>?_⟩⟩;have:i=0\/i=1\/i=2\/i=3\/i=4\/i=5\/i=6:=by simp at hi;omega
  rcases this with rfl|rfl|rfl|rfl|rfl|rfl|rfl<;>rfl
  have hj:j=0:=by
   have:=(Xx.1 hu).1;simp at this;exact this
  subst hj;refine e1.cell ?_;have:i=0\/i=1\/i=2\/i=3\/i=4\/i=5\/i=6:=by simp at hi;omega
  rcases this with rfl|rfl|rfl|rfl|rfl|rfl|rfl<;>exact hu
 refine W ?_;refine Z9 (Z68 (b:=b1) rfl) rfl ?_;refine W ?_;refine CP hS (ZkQ _ _ false _ oN) λw2 hT hS=>?_;replace e1:=e1.up hT;clear oN hT;rw [decide_eq_true (by simp)];refine QO ?_;refine CP hS (Z9f _) λw3 hT hS=>?_;replace e1:=e1.up hT;refine QO ?_;refine LP (σ:=Nat) (λk=>[(1,pQ b1),(23,.I 0),(24,.I (k:Int))]) (λk w'=>k=0/\w'=w3) (λk=>k) 0 ⟨rfl,rfl⟩ ?_;rintro k w4 ⟨rfl,rfl⟩;refine QO ?_;refine Z9 (Zn rfl rfl e1 (us:=[.I 0,.N]) rfl rfl) rfl ?_;refine W ?_;refine CP hS (Z9g _) λw5 hT hS=>?_;replace e1:=e1.up hT;refine RT ?_;exact ⟨rfl,hS⟩
structure Zd6 (c:Cas):Prop where
 ops:∀ q∈c.ruls,∀ x∈q.cnd++q.due,opP x.op
 fil:Zd4 [] c.fcts=0
 fm:∀ f∈c.fcts,(f.kind.length:Int)<=maxLen
 cl:c.crrs.length<=16
 co:∀ x∈c.crrs,Z9Z x
 rl:c.ruls.length<=1024
 ro:∀ q∈c.ruls,Zb9 q=0
 al:c.atts.length<=65536
 ao:Zet c.crrs.length c.atts=0
 so:Zgs c.stys=0
 court:0<=c.court/\c.court<=15
 today:0<=c.today/\c.today<=3652058
theorem ZnG (a b d:Int) (w):(Instr.buildSlice 265 3 #[(0,.I a),(1,.I b),(2,.I d)]).run Tryz.prog w=.ok (.slice (some ⟨w.heap.size,0,none⟩) 3 3) (w.alloc (.cells #[.I a,.I b,.I d] 92)):=by kernel_rfl
theorem Zbe (c:Cas) (R:Z1e) (w) (m:Int) (hF:SlV [] w Z2x Zf) (fe:w.cell? ⟨2,0,none⟩=some (.I m)) (hv:Z2B w c R) (ho:Zd6 c)
 (dB:∀ Y,Stp [] w Y->CC 114 #[.agg (Z0h c.cal R.hv R.lv R.zo R.zs R.hr).toArray] Y λr w'=>r=.I 0/\Stp [] Y w') :
 CC 70 #[.agg (JG c R).toArray] w λr w'=>r=.I 0/\Stp [] w w':=by
 have aL:=ho.cl;have iM:=ho.rl;have nM:=ho.court;have lZ:=ho.today;have xa:=hv.cc.max;have xb:=hv.rr.max;refine cW1 78 Tryz.func70 ?_;refine W ?_;refine BX (Stp.refl [] w) λb1 w1 h1 e1 _ hS=>?_;replace e1:Blk w1 b1 37 (JG c R):=e1;refine QO ?_;refine CP hS (Z8U R.fv c.fcts _ ho.fm (hv.ff.up hS)) λw2 hT hS=>?_;replace e1:=e1.up hT;rw [ho.fil];have fj:=(hv.up hS).cc;refine QO ?_;refine LP (σ:=Nat) (λk=>[(1,pQ b1),(20,R.cv),(21,.I (c.crrs.length:Int)),(22,.I (k:Int))]) (λk w'=>k<=c.crrs.length/\Stp [] w2 w') (λk=>c.crrs.length - k) 0 ⟨Xq _,Stp.refl _ _⟩ ?_;rintro k y1 ⟨hk,bZ⟩;have e1':=e1.up bZ;have ae:=hS.trans bZ;have rX:=fj.up bZ;by_cases ag:k<c.crrs.length;have lk:=ho.co _ (Xd ag);have x1:=lk.ext;have x2:=lk.tol;refine QO ?_;refine Z1 Z2 rfl ?_;rintro _ w3 ⟨b6,rfl,ew,e6,hU⟩;refine SA (us:=Z3.enc c.crrs[k]) e6 ?_;rintro _ w4 ⟨gZ,e6⟩;replace hU:=hU.ow gZ;replace bZ:=bZ.trans hU;generalize c.crrs[k]=x at *;refine QO ?_;refine CP bZ (Z1y _ _ _ _) λw5 hT bZ=>?_;replace e6:=e6.up hT;rw [decide_eq_true x1];refine QO ?_;refine CP bZ (Z1y _ _ _ _) λw6 hT bZ=>?_;rw [decide_eq_true x2];refine QO ?_;exact QL (k+1) ⟨ag,bZ⟩ (XE ag (XP k));replace e1:=e1';replace hS:=ae;clear e1' ae rX fj bZ hT;have oy:=(hv.up hS).rr;refine QO ?_;refine LP (σ:=Nat) (λk=>[(1,pQ b1),(42,R.rv),(43,.I (c.ruls.length:Int)),(44,.I (k:Int))]) (λk w'=>k<=c.ruls.length/\Stp [] y1 w') (λk=>c.ruls.length - k) 0 ⟨Xq _,Stp.refl _ _⟩ ?_;rintro k y2 ⟨hk,bZ⟩;have e1':=e1.up bZ;have ae:=hS.trans bZ;have ln:=oy.up bZ;by_cases ag:k<c.ruls.length;have lk:=ho.ro _ (Xd ag);obtain ⟨cs0,⟨kc,kd,rfl,rY,dP⟩,au⟩:=ln.cell ag;refine QO ?_;refine Z9 (Z28 rfl rfl ln ag ⟨kc,kd,rfl,rY,dP⟩ au) rfl ?_;refine Z1 Z2 rfl ?_;rintro _ w3 ⟨b6,rfl,ew,e6,hU⟩;refine SB (us:=crC c.ruls[k] kc kd) (Z0q rY dP) e6 ?_;rintro _ w4 ⟨gZ,e6⟩;replace hU:=hU.ow gZ;replace bZ:=bZ.trans hU;have dx:=hS.trans bZ;refine QO ?_;refine CP bZ (Zem _ c.ruls[k] _ m (hF.up dx) (dx.cell (by simp) fe) ⟨kc,kd,rfl,rY.up hU,dP.up hU⟩ (ho.ops _ (Xd (by assumption)))) λw5 hT bZ=>?_
 rw [lk];refine QO ?_;exact QL (k+1) ⟨ag,bZ⟩ (XE ag (XP k));replace e1:=e1';replace hS:=ae;clear e1' ae ln oy bZ;have ju:=hv.up hS;refine QO ?_;refine ZDr 14 [] [] [(0,0),(1,1),(2,0),(3,1),(5,0),(6,1),(8,0),(9,1),(4,2),(7,2),(10,2),(11,2),(12,2),(13,0)] (λw1 ae=>?_);replace e1:=e1.up ae;replace hS:=hS.trans ae;replace ju:=ju.up ae;refine QD ?_;refine J7 rfl trivial (λw' aU=>Zn rfl rfl (e1.up aU) (us:=Z0h c.cal R.hv R.lv R.zo R.zs R.hr) rfl rfl) rfl ?_;repeat'(first|refine D1 ?_|omega|refine Zy rfl rfl rfl rfl (λhg=>?_) (λhg=>?_)|(refine Zq rfl rfl rfl rfl (λhg=>?_) (λhg=>?_)<;>refine D1 ?_)|fail)
 refine DP hS (Zbd R.av R.cv c.atts c.crrs _ ho.al ju.aa ju.cc) λw5 hT hS=>?_;replace e1:=e1.up hT;replace ju:=ju.up hT;rw [ho.ao];repeat'(first|refine D1 ?_|omega|refine Zy rfl rfl rfl rfl (λhg=>?_) (λhg=>?_)|(refine Zq rfl rfl rfl rfl (λhg=>?_) (λhg=>?_)<;>refine D1 ?_)|fail)
 refine DP hS (ZaP R.sv c.stys _ ju.ss) λw6 hT hS=>?_;replace e1:=e1.up hT;replace ju:=ju.up hT;rw [ho.so];repeat'(first|refine D1 ?_|omega|refine Zy rfl rfl rfl rfl (λhg=>?_) (λhg=>?_)|(refine Zq rfl rfl rfl rfl (λhg=>?_) (λhg=>?_)<;>refine D1 ?_)|fail)
 refine DP hS (dB _ hS) λw7 hT hS=>?_;replace e1:=e1.up hT;repeat'(first|refine D1 ?_|omega|refine Zy rfl rfl rfl rfl (λhg=>?_) (λhg=>?_)|(refine Zq rfl rfl rfl rfl (λhg=>?_) (λhg=>?_)<;>refine D1 ?_)|fail)
 refine Za rfl trivial (Z0 rfl (ZnG 0 0 0)) (λ_ _ h=>Z5.stp h) rfl ?_;rintro vs w8 hN;have dF:SlV [] w8 vs ([0,0,0]:List Int):=hN.slv (by simp) rfl rfl (by simp [maxLen]);have hU:=Z5.stp hN;clear hN;replace e1:=e1.up hU;replace hS:=hS.trans hU;repeat'(first|refine D1 ?_|omega|refine Zy rfl rfl rfl rfl (λhg=>?_) (λhg=>?_)|(refine Zq rfl rfl rfl rfl (λhg=>?_) (λhg=>?_)<;>refine D1 ?_)|fail)
 refine DP hS (ZnF vs [0,0,0] _ dF) λw9 hT hS=>?_;replace e1:=e1.up hT;rw [show orL [0,0,0]=0 from rfl];refine QD ?_;refine QO ?_;refine CP hS (Z1y _ _ _ _) λw10 hT hS=>?_;replace e1:=e1.up hT;rw [decide_eq_true nM];refine QO ?_;refine CP hS (Z1y _ _ _ _) λw11 hT hS=>?_;rw [decide_eq_true lZ];refine RT ?_;exact ⟨rfl,hS⟩
theorem Zfr (op:BinOp) (x y:Operand) (a b:Fct) (w):(eqGuard op 45 x y (agg a) (agg b)).run Tryz.prog w=.ok () w:=by
 cases op<;>kernel_rfl
theorem Zog (a b:Fct) (w):(binOp .neq 45 (agg a) (agg b)).run Tryz.prog w=.ok (.B (decide (¬ a=b))) w:=by
 have h1:Program.stoodInHeld Tryz.prog 45=false:=by kernel_rfl
 obtain ⟨i,hi⟩:∃ i,Tryz.prog.info? 3=some i:=by
  have:=(inferInstance:Siz Tryz.prog 3 1).h;cases h:Tryz.prog.info? 3 with
  | none=>rw [h] at this;cases this
  | some i=>exact ⟨i,rfl⟩
 obtain ⟨a1,a2,a3,a4,a5,a6⟩:=a;obtain ⟨b1,b2,b3,b4,b5,b6⟩:=b;simp [agg,Z3.enc,run_neq_struct,run_equalIn_struct,h1,Program.fieldsOf,Tryz.underlying45,Op.eqFields,part,Und.isAgg,Siz.run,Z0V,run_equalIn_int w _ _ .i64 .i64 _ _ Tryz.underlying3,run_equalIn_string w _ _ _ _ Tryz.underlying9];repeat' split
 all_goals simp_all
theorem Z9i (va vb:Value) (xs ys:List Fct) (w) (ha:SlV [] w va xs) (hb:SlV [] w vb ys) :
 CC 18 #[va,vb] w λr w'=>r=.B (decide (xs=ys))/\Stp [] w w':=by
 have sY:=ha.max;have sS:=hb.max;refine cW2 26 Tryz.func18 ?_;refine W ?_;by_cases hl:xs.length=ys.length
 case neg=>
  refine RT ?_;exact ⟨by congr 1;rw [eq_comm,decide_eq_false_iff_not];exact λh=>hl (by rw [h]),Stp.refl _ _⟩
 refine QO ?_;refine LP (σ:=Nat) (λj=>[(0,va),(1,vb),(4,.B false),(5,.I (j:Int))]) (λj w'=>j<=xs.length/\Stp [] w w'/\∀ i (h:i<xs.length),i<j->xs[i]=ys[i]'(by omega)) (λj=>xs.length - j) 0 ⟨Xq _,Stp.refl _ _,λi _ h=>absurd h (Xu _)⟩ ?_;rintro j w2 ⟨hj,hS,cZ⟩
 try dsimp only at hj cZ ⊢
 replace ha:=ha.up hS;replace hb:=hb.up hS;by_cases ag:j<xs.length;have eB:j<ys.length:=by omega
 refine QO ?_;refine ZDr 9 [] [] [(0,0),(1,0),(2,0),(3,1),(4,0),(5,0),(6,0),(7,1),(8,0)] (λw1 ae=>?_);replace ha:=ha.up ae;replace hb:=hb.up ae;replace hS:=hS.trans ae;refine D ?_;apply Z2E;exact rfl;refine ZeJ (c:=xs[j]=ys[j]) trivial rfl rfl (λw=>Zfr _ _ _ xs[j] ys[j] w) (by intro w;exact Zog xs[j] ys[j] w) rfl ?_;refine D ?_
 (refine QP ?_ ?_<;>intro hc)
 refine RU ?_;exact ⟨by congr 1;rw [eq_comm,decide_eq_false_iff_not];exact λh=>hc (by simp [h]),hS⟩;have he:xs[j]=ys[j]:=Decidable.byContradiction hc;have hk:∀ i (h:i<xs.length),i<j+1->xs[i]=ys[i]'(by omega):=λi h hi=>by
  by_cases dC:i=j;subst dC;exact he;exact cZ i h (by omega)
 exact QL (j+1) ⟨ag,hS,hk⟩ (XE ag (XP j));have d8:j=xs.length:=by omega
 subst d8;refine RT ?_;exact ⟨by congr 1;rw [eq_comm,decide_eq_true_eq];exact YaE hl (λi h h'=>cZ i h h),hS⟩
theorem ZnH (op:BinOp) (x y:Operand) (a b:Rsn) (w):(eqGuard op 67 x y (agg a) (agg b)).run Tryz.prog w=.ok () w:=by
 cases op<;>kernel_rfl
theorem Zwt (a b:Rsn) (w):(binOp .neq 67 (agg a) (agg b)).run Tryz.prog w=.ok (.B (decide (¬ a=b))) w:=by
 have h1:Program.stoodInHeld Tryz.prog 67=false:=by kernel_rfl
 obtain ⟨i,hi⟩:∃ i,Tryz.prog.info? 3=some i:=by
  have:=(inferInstance:Siz Tryz.prog 3 1).h;cases h:Tryz.prog.info? 3 with
  | none=>rw [h] at this;cases this
  | some i=>exact ⟨i,rfl⟩
 obtain ⟨a1,a2,a3⟩:=a;obtain ⟨b1,b2,b3⟩:=b;simp [agg,Z3.enc,run_neq_struct,run_equalIn_struct,h1,Program.fieldsOf,Tryz.underlying67,Op.eqFields,part,Und.isAgg,Siz.run,Z0V,run_equalIn_int w _ _ .i64 .i64 _ _ Tryz.underlying3];repeat' split
 all_goals simp_all
theorem Zd7 (d:Dln) (ra rb:Value) (w) (ha:SlV [] w ra d.reas) (hb:SlV [] w rb d.reas) :
 CC 25 #[.agg (dlC d ra).toArray,.agg (dlC d rb).toArray] w λr w'=>r=.B true/\Stp [] w w':=by
 have sY:=ha.max;refine cW2 66 Tryz.func25 ?_;refine W ?_;refine BX (Stp.refl [] w) λb2 w1 h2 e2 _ hS=>?_;refine BX hS λb3 w2 h3 e3 hT hS=>?_;replace e2:=e2.up hT;replace e2:Blk w2 b2 56 (dlC d ra):=e2;replace e3:Blk w2 b3 56 (dlC d rb):=e3
 (refine QP ?_ ?_<;>intro hg)
 exact absurd rfl hg;refine Z9 (Zn rfl rfl e2 (us:=Z3.enc d.trig) rfl rfl) rfl ?_;refine W ?_;refine Z9 (Zn rfl rfl e3 (us:=Z3.enc d.trig) rfl rfl) rfl ?_;refine W ?_;refine Zmc (c:=d.trig=d.trig) rfl rfl (λw=>Zfr _ _ _ d.trig d.trig w) (λw=>Zog d.trig d.trig w) rfl ?_;rw [decide_eq_false (λh=>h rfl)];refine QO ?_;refine LP (σ:=Nat) (λj=>[(2,pQ b2),(3,pQ b3),(4,.B false),(5,.I (j:Int))]) (λj w'=>j<=d.reas.length/\Stp [] w2 w') (λj=>d.reas.length - j) 0 ⟨Xq _,Stp.refl _ _⟩ ?_;rintro j y ⟨hj,hT⟩;replace e2:=e2.up hT;replace e3:=e3.up hT;have ah:=hS.trans hT;have tX:=ha.up ah;have cr:=hb.up ah;by_cases ag:j<d.reas.length;refine QO ?_;refine ZDr 11 [] [] [(0,0),(1,1),(2,0),(3,0),(4,1),(5,0),(6,1),(7,0),(8,0),(9,1),(10,0)] (λw1 ae=>?_);replace tX:=tX.up ae;replace cr:=cr.up ae;replace e2:=e2.up ae;replace e3:=e3.up ae;refine QD ?_;apply Z2E;exact rfl;refine ZeJ (c:=d.reas[j]=d.reas[j]) trivial rfl rfl (λw=>ZnH _ _ _ d.reas[j] d.reas[j] w) (by intro w;exact Zwt d.reas[j] d.reas[j] w) rfl ?_;rw [decide_eq_false (λh=>h rfl)];refine D ?_;refine QO ?_;exact QL (j+1) ⟨ag,hT.trans ae⟩ (XE ag (XP j));refine RT ?_;exact ⟨rfl,ah⟩
def Zfs:Str:=[114,117,108,101,32,114,32,102,114,111,109,32,64,50,48,50,54,45,48,49,45,48,49,32,123,32,111,110,32,99,108,97,105,109,59,32,100,117,101,32,100,97,121,32,43,32,50,48,32,100,97,121,115,59,32,117,110,108,101,115,115,32,97,110,115,119,101,114,59,32,101,108,115,101,32,108,97,112,115,101,59,32,125]
def Z3z:RuleM:=⟨[114],739616,[99,108,97,105,109],.mk 2 1 [] [],.mk 7 0 [100,97,121,115] [.mk 4 0 [100,97,121] [],.mk 1 20 [] []],[97,110,115,119,101,114],[108,97,112,115,101]⟩
theorem ZnI:Z22 Zfs=.ok [Z3z]:=by kernel_rfl
def Z4b:Cr:=⟨[114],739616,[99,108,97,105,109],[⟨2,1⟩,⟨24,0⟩],[⟨4,0⟩,⟨1,20⟩,⟨15,0⟩,⟨24,0⟩],[97,110,115,119,101,114],[108,97,112,115,101]⟩
def z22:Cal:=⟨[false,false,false,false,false,false,false],[],[]⟩
def Zo:Fct:=⟨4,[99,108,97,105,109],739616,1,2,50⟩
def Zwu:Cas:=⟨[Zo],[Z4b],[],[],[],z22,0,739630⟩
def Zwv:Cas:=⟨[Zo],[Z4b],[],[],[],z22,0,739640⟩
def Zww:Cas:=⟨[Zo,⟨7,[97,110,115,119,101,114],739636,2,0,0⟩],[Z4b],[],[],[],z22,0,739640⟩
def Zwx:Cas:=⟨[Zo],[Z4b],[],[],[(739620,739621)],z22,0,739630⟩
def Z4G:Fct:=⟨4,[108,97,112,115,101],739637,2,1,50⟩
def Z0Z (due st:Int) (more:List Rsn):Dln:=⟨[114],Zo,2,due,st,[⟨1,4,739616⟩,⟨2,0,0⟩]++more⟩
theorem Zxl:Z1g Zwu=[]:=by decide +kernel
theorem Zxm:Z1g Zwv=[Z4G]:=by decide +kernel
theorem Zxn:Z1g Zww=[]:=by decide +kernel
theorem Zxo:Z1g Zwx=[]:=by decide +kernel
theorem Zxp:Z2u Zwu=[Z0Z 739636 0 []]:=by kernel_rfl
theorem Zxq:Z2u Zwv=[Z0Z 739636 2 []]:=by kernel_rfl
theorem Zxr:Z2u Zww=[Z0Z 739636 1 [⟨6,7,739636⟩]]:=by kernel_rfl
theorem Zxs:Z2u Zwx=[Z0Z 739638 0 [⟨4,739638,739638⟩,⟨5,739620,739621⟩]]:=by kernel_rfl
theorem Zoh:Ze (.mk 2 1 [] [])=2:=by
 rw [Ze];decide +kernel
theorem Zwy:Ze (.mk 7 0 [100,97,121,115] [.mk 4 0 [100,97,121] [],.mk 1 20 [] []])=3:=by
 rw [Ze,Xs,Xs,XL,Ze,Ze];decide +kernel
theorem Zoi:Zz (.mk 2 1 [] [])=1:=by
 rw [Zz];decide +kernel
theorem Zwz:Zz (.mk 7 0 [100,97,121,115] [.mk 4 0 [100,97,121] [],.mk 1 20 [] []])=2:=by
 rw [Zz,Xs,Xs,XL,Zz,Zz];decide +kernel
theorem Zft:ZU (.mk 2 1 [] [])=[⟨2,1⟩,⟨24,0⟩]:=by
 rw [ZU,Zd];decide +kernel
theorem Zd8 (k n:Int) (s:Str) (l:List Nd):Zd (.mk k n s l)=Z1h k n s (l.map Zd):=by rw [Zd]
theorem Zoj:ZU (.mk 7 0 [100,97,121,115] [.mk 4 0 [100,97,121] [],.mk 1 20 [] []])=[⟨4,0⟩,⟨1,20⟩,⟨15,0⟩,⟨24,0⟩]:=by
 rw [ZU,Zd,Xs,Xs,XL];simp only [Zd8];decide +kernel
theorem Zeu:Z0r Z3z.rul=0:=by
 have c1:Z3z.rul.cnd=.mk 2 1 [] []:=rfl;have c2:Z3z.rul.due=.mk 7 0 [100,97,121,115] [.mk 4 0 [100,97,121] [],.mk 1 20 [] []]:=rfl;have c3:Jf Z3z.rul=true:=by decide +kernel
 have c4:¬ (Z3z.rul.frm<0\/Z3z.rul.frm > 3652058):=by decide +kernel
 unfold Z0r Z0J;rw [c1,c2,c3];simp only [Z1H,Z0B,Zoh,Zwy,Zoi,Zwz,Zft,Zoj,if_neg c4];decide +kernel
theorem Zok:crF Z3z.rul=Z4b:=by
 unfold crF;rw [if_pos Zeu];have c1:Z3z.rul.cnd=.mk 2 1 [] []:=rfl;have c2:Z3z.rul.due=.mk 7 0 [100,97,121,115] [.mk 4 0 [100,97,121] [],.mk 1 20 [] []]:=rfl;rw [c1,c2,Zft,Zoj];rfl
theorem Zol:Zb9 Z4b=0:=Zok ▸ (Z8R Z3z.rul Zeu).2
def lxV:Lx->Value
 | .err c=>.tuple #[aG (⟨0,0,[],0⟩:Tkn),.I c]
 | .ok t=>.tuple #[aG t,.I 0]
theorem tk0 (w):(Instr.build 183 #[]).run Tryz.prog w=.ok (aG (⟨0,0,[],0⟩:Tkn)) w:=by kernel_rfl
theorem tk2 (k:Int) (s:Str) (w):(Instr.build 183 #[(0,.I k),(2,str s)]).run Tryz.prog w=.ok (aG (⟨k,0,s,0⟩:Tkn)) w:=by kernel_rfl
theorem tk3 (k n:Int) (s:Str) (w):(Instr.build 183 #[(0,.I k),(2,str s),(3,.I n)]).run Tryz.prog w=.ok (aG (⟨k,0,s,n⟩:Tkn)) w:=by kernel_rfl
theorem tk1 (k n:Int) (w):(Instr.build 183 #[(0,.I k),(1,.I n)]).run Tryz.prog w=.ok (aG (⟨k,n,[],0⟩:Tkn)) w:=by kernel_rfl
theorem Zt5 {s:Str} {a b:UInt8} (h:s.take 2=[a,b]):2<=s.length:=by
 have:=congrArg List.length h;simp at this;omega
theorem Z8V (s:Str) (w) (aR:s≠[]):CC 215 #[str s] w λr w'=>r=lxV (JZ s)/\Stp [] w w':=by
 have hl:s.length≠0:=λh=>aR (Xw.1 h);have cC:Jg s 0=((s.getD 0 0).toNat:Int):=rfl;refine cW1 22 Tryz.func215 ?_;refine W ?_;refine Z1 Z2 rfl ?_;rintro _ w1 ⟨b2,rfl,cr,e2,hS⟩;refine W ?_;refine CL (Z2A s 60 61 _) ?_;rintro _ wv ⟨rfl,jd⟩;subst wv;by_cases a1:s.take 2=[60,61]
 have h2:=Zt5 a1;have hv:JZ s=.ok ⟨4,0,s.take 2,0⟩:=by unfold JZ;rw [if_pos (.inl a1)]
 rw [decide_eq_true a1];refine W ?_;refine Z0y (r:=2) rfl rfl rfl (by omega) rfl ?_;refine Z8 (vs:=[(0,.I 4),(2,str (s.take 2))]) rfl (tk2 _ _) rfl ?_;refine SA (us:=Z3.enc (⟨4,0,s.take 2,0⟩:Tkn)) e2 ?_;rintro _ wz ⟨hT,e2'⟩;refine W ?_;refine Zl rfl rfl rfl e2' rfl rfl ?_;exact .mk ⟨by rw [hv];rfl,hS.ow hT⟩;rw [decide_eq_false a1];refine W ?_;refine CL (Z2A s 33 61 _) ?_;rintro _ wv ⟨rfl,jd⟩;subst wv;by_cases a2:s.take 2=[33,61]
 have h2:=Zt5 a2;have hv:JZ s=.ok ⟨4,0,s.take 2,0⟩:=by unfold JZ;rw [if_pos (.inr (.inl a2))]
 rw [decide_eq_true a2];refine W ?_;refine Z0y (r:=2) rfl rfl rfl (by omega) rfl ?_;refine Z8 (vs:=[(0,.I 4),(2,str (s.take 2))]) rfl (tk2 _ _) rfl ?_;refine SA (us:=Z3.enc (⟨4,0,s.take 2,0⟩:Tkn)) e2 ?_;rintro _ wz ⟨hT,e2'⟩;refine W ?_;refine Zl rfl rfl rfl e2' rfl rfl ?_;exact .mk ⟨by rw [hv];rfl,hS.ow hT⟩;rw [decide_eq_false a2];refine W ?_;refine CL (Z2A s 62 61 _) ?_;rintro _ wv ⟨rfl,jd⟩;subst wv;by_cases a3:s.take 2=[62,61]
 have h2:=Zt5 a3;have hv:JZ s=.ok ⟨4,0,s.take 2,0⟩:=by unfold JZ;rw [if_pos (.inr (.inr a3))]
 rw [decide_eq_true a3];refine W ?_;refine Z0y (r:=2) rfl rfl rfl (by omega) rfl ?_;refine Z8 (vs:=[(0,.I 4),(2,str (s.take 2))]) rfl (tk2 _ _) rfl ?_;refine SA (us:=Z3.enc (⟨4,0,s.take 2,0⟩:Tkn)) e2 ?_;rintro _ wz ⟨hT,e2'⟩;refine W ?_;refine Zl rfl rfl rfl e2' rfl rfl ?_;exact .mk ⟨by rw [hv];rfl,hS.ow hT⟩;rw [decide_eq_false a3];have bg:¬ (s.take 2=[60,61]\/s.take 2=[33,61]\/s.take 2=[62,61]):=by
  rintro (h|h|h);exact a1 h;exact a2 h;exact a3 h
 refine QO ?_;refine J9 (i:=0) rfl rfl rfl (by omega) rfl ?_;repeat'(first|refine W1 ?_|omega|refine VG ?_ ?_<;>intro hg|refine VC ?_ ?_<;>intro hc)
 rw [cC];refine CL (Z70 Z80 (s.getD 0 0) _) ?_;rintro _ wv ⟨rfl,jd⟩;subst wv;have rZ:=Z8b Z80 (s.getD 0 0);rw [decide_eq_decide] at rZ;by_cases a4:s.getD 0 0∈Z80;have hv:JZ s=.ok ⟨4,0,s.take 1,0⟩:=by unfold JZ;rw [if_neg bg,if_pos a4]
 have h0:=rZ.2 a4;refine QO ?_;refine W ?_;refine Z0y (r:=1) rfl rfl rfl (by omega) rfl ?_;refine Z8 (vs:=[(0,.I 4),(2,str (s.take 1))]) rfl (tk2 _ _) rfl ?_;refine SA (us:=Z3.enc (⟨4,0,s.take 1,0⟩:Tkn)) e2 ?_;rintro _ wz ⟨hT,e2'⟩;refine W ?_;refine Zl rfl rfl rfl e2' rfl rfl ?_;exact .mk ⟨by rw [hv];rfl,hS.ow hT⟩;have hv:JZ s=.err 20:=by unfold JZ;rw [if_neg bg,if_neg a4]
 have h0:¬ 0<=Lib.indexByte Z80 (s.getD 0 0):=λh=>a4 (rZ.1 h);refine QO ?_;refine Z8 (vs:=[]) rfl tk0 rfl ?_;refine SA (us:=Z3.enc (⟨0,0,[],0⟩:Tkn)) e2 ?_;rintro _ wz ⟨hT,e2'⟩;refine W ?_;refine Zl rfl rfl rfl e2' rfl rfl ?_;exact .mk ⟨by rw [hv];rfl,hS.ow hT⟩
theorem Za7 (s:Str) (w) (hl:s.length<=1000000):CC 220 #[str s] w λr w'=>r=lxV (Z4T s)/\Stp [] w w':=by
 have cO:(s.takeWhile ldB).length<=s.length:=by
  have:=congrArg List.length (Z03 (p:=ldB) s);simp at this;omega
 refine cW1 14 Tryz.func220 ?_;refine W ?_;refine Z1 Z2 rfl ?_;rintro _ w1 ⟨b2,rfl,cr,e2,hS⟩;refine W ?_;refine CL (Z6h (λn=>Zaz n || Z6g n) ZsH s _ hl) ?_;rintro _ w2 ⟨rfl,hT⟩;rw [Zje];replace e2:=e2.up hT;replace hS:=hS.trans hT;clear hT;by_cases lT:12<(s.takeWhile ldB).length;have hv:Z4T s=.err 2:=by unfold Z4T;simp only;rw [if_pos lT]
 refine QO ?_;refine Z8 (vs:=[]) rfl tk0 rfl ?_;refine SA (us:=Z3.enc (⟨0,0,[],0⟩:Tkn)) e2 ?_;rintro _ wz ⟨hT,e2'⟩;refine W ?_;refine Zl rfl rfl rfl e2' rfl rfl ?_;exact .mk ⟨by rw [hv];rfl,hS.ow hT⟩;have hv:Z4T s=.ok ⟨1,0,s.take (s.takeWhile ldB).length,0⟩:=by unfold Z4T;simp only;rw [if_neg lT]
 generalize (s.takeWhile ldB).length=q at *;refine QO ?_;refine Z0y (r:=q) rfl rfl rfl cO rfl ?_;refine Z8 (vs:=[(0,.I 1),(2,str (s.take q))]) rfl (tk2 _ _) rfl ?_;refine SA (us:=Z3.enc (⟨1,0,s.take q,0⟩:Tkn)) e2 ?_;rintro _ wz ⟨hT,e2'⟩;refine W ?_;refine Zl rfl rfl rfl e2' rfl rfl ?_;exact .mk ⟨by rw [hv];rfl,hS.ow hT⟩
theorem ZwA {P:Program} {n:Nat} {Q:Exit->Act->World->Prop} {e:Env} {w} {ops:Array Oper} {rest:List Oper} {ak:Nat} {ty:TypeId} {pos:String} {af:Array Edge} {t u p:Nat} {x y:Operand} {v:Value} {ds:TypeDesc} [hu:Und P t ds] (r8:∃ l,ds=.interface l) (hx:ev e x=some (.iface p v)) (hy:ev e y=some .nilIface) (aw:Nat.blt ak n=true) (kk:WL P n ops Q rest ((ak,.B true) :: e) w) :
 WL P n ops Q (⟨some ak,.binOp .neq t x y u,ty,pos,af,none⟩ :: rest) e w:=by
 refine Z9 (v:=.B true) ⟨λa ha=>?_⟩ aw kk;obtain ⟨l,rfl⟩:=r8;simp only [execOp,ha.ev hx,ha.ev hy];have:=run_equal_held_nil (P:=P) (w:=w) t p v (by rw [hu.h,Program.methodsAt,hu.h]);simp [go_sem,binOp,this]
theorem Zom {P:Program} {n:Nat} {Q:Exit->Act->World->Prop} {e:Env} {w} {ops:Array Oper} {rest:List Oper} {ak:Nat} {ty:TypeId} {pos:String} {af:Array Edge} {t u:Nat} {x:Operand} {ds:TypeDesc} [hu:Und P t ds] (r8:∃ l,ds=.interface l) (hx:ev e x=some .nilIface) (aw:Nat.blt ak n=true) (kk:WL P n ops Q rest ((ak,.B false) :: e) w) :
 WL P n ops Q (⟨some ak,.binOp .neq t x (.const .nilIface) u,ty,pos,af,none⟩ :: rest) e w:=by
 refine Z9 (v:=.B false) ⟨λa ha=>?_⟩ aw kk;obtain ⟨l,rfl⟩:=r8;have hy:a.eval (.const .nilIface)=.nilIface:=rfl;simp only [execOp,ha.ev hx,hy];have:=run_equal_nil_nil (P:=P) (w:=w) t (by rw [hu.h,Program.methodsAt,hu.h]);simp [go_sem,binOp,eqGuard,this]
theorem Zh7 (w) (el:TypeId) (t:ByteArray):Stp [] w (Lib.bytesWorld w el t):=by
 refine ⟨rfl,rfl,rfl,?_,λb hb _=>Lib.bytesWorld_at_old w el _ b hb⟩;rw [Lib.bytesWorld_size];omega
theorem Zh8 (t:Str) (ev:Value) (w:World) (ht:t.all ZQ=true) (aR:t≠[]) (hl:t.length<=1000000) (eH:w.cell? ⟨8,0,none⟩=some ev) (bM:ev=.nilIface\/∃ te pe,ev=.iface te pe) :
 CC 276 #[str t] w λr w'=>(if Z0u t<=9223372036854775807 then r=.tuple #[.I (Z0u t:Int),.nilIface] else ∃ z p v,r=.tuple #[.I z,.iface p v])/\Stp [] w w':=by
 have ha:=Zc2 aR ht;by_cases h:Z0u t<=9223372036854775807;rw [if_pos h] at ha;refine (Tryz.strconv_Atoi_ok ⟨t.toArray⟩ (by rw [Z0x];omega) (Z0u t:Int) (by simpa using ha) w).mono ?_;rintro e w' ⟨rfl,hw⟩;refine .mk ⟨by rw [if_pos h],?_⟩;rcases hw with rfl|⟨x,rfl⟩
 exact Stp.refl _ _;exact Zh7 _ _ _;rw [if_neg h] at ha;refine (Tryz.strconv_Atoi_range ⟨t.toArray⟩ (by rw [Z0x];omega) (by simpa using ha) ev w eH bM).mono ?_;rintro e w' ⟨N,rfl,_,_,hw⟩;exact .mk ⟨by rw [if_neg h];exact ⟨_,_,_,rfl⟩,Stp.of_below hw⟩
theorem Z7h (s:Str) (ev:Value) (w:World) (hl:s.length<=1000000) (hd:ZQ (s.getD 0 0)=true) (aR:s≠[]) (eH:w.cell? ⟨8,0,none⟩=some ev) (bM:ev=.nilIface\/∃ te pe,ev=.iface te pe):CC 222 #[str s] w λr w'=>r=lxV (Z37 s)/\Stp [] w w':=by
 have cO:(s.takeWhile ZQ).length<=s.length:=by
  have:=congrArg List.length (Z03 (p:=ZQ) s);simp at this;omega
 have aB:(s.takeWhile ZQ).all ZQ=true:=XV.2 λc hc=>Z0Q hc;have fz:=Z03 (p:=ZQ) s;have br:s.takeWhile ZQ≠[]:=by
  cases s with
  | nil=>exact absurd rfl aR
  | cons a r=>simp only [Xz] at hd;simp [hd]
 have qP:(s.takeWhile ZQ).length≠0:=λh=>br (Xw.1 h);have nT:Z37 s=if 1<(s.takeWhile ZQ).length/\(s.takeWhile ZQ).getD 0 0=48 then .err 20 else if 2147483647<Z0u (s.takeWhile ZQ) then .err 5 else .ok ⟨2,0,s.takeWhile ZQ,Z0u (s.takeWhile ZQ)⟩:=rfl
 rw [nT];have gC:=ZfR s;refine cW1 35 Tryz.func222 ?_;refine W ?_;refine Z1 Z2 rfl ?_;rintro _ w1 ⟨b2,rfl,cr,e2,hS⟩;refine W ?_;refine CL (Z6h Z6g Z4q s _ hl) ?_;rintro _ w2 ⟨rfl,hT⟩;rw [gC];replace e2:=e2.up hT;replace hS:=hS.trans hT;clear hT;refine Z0y (r:=(s.takeWhile ZQ).length) rfl rfl rfl cO rfl ?_;rw [fz];have dS:(s.takeWhile ZQ).length<=1000000:=Xg cO hl;clear nT fz cO gC;generalize s.takeWhile ZQ=t at *;have cC:Jg t 0=((t.getD 0 0).toNat:Int):=rfl;have r9:Jg t 0=48↔t.getD 0 0=48:=by
  rw [cC];constructor;intro h;have r9:(48:UInt8).toNat=48:=rfl;exact UInt8.toNat_inj.1 (by omega);intro h;rw [h];rfl
 by_cases hz:1<t.length/\t.getD 0 0=48;rw [if_pos hz];have fK:=hz.1;have kI:=r9.2 hz.2;refine QO ?_;refine J9 (i:=0) rfl rfl rfl (by omega) rfl ?_;refine QO ?_;refine Z8 (vs:=[]) rfl tk0 rfl ?_;refine SA (us:=Z3.enc (⟨0,0,[],0⟩:Tkn)) e2 ?_;rintro _ wz ⟨hT,e2'⟩;refine W ?_;refine Zl rfl rfl rfl e2' rfl rfl ?_;exact .mk ⟨rfl,hS.ow hT⟩;rw [if_neg hz];refine W ?_;refine Z5C (σ:=Unit) (λ_=>[(0,str s),(2,pQ b2),(4,str t),(18,.B false)]) (λ_ w'=>w'=w2) ?_ ?_;by_cases h1:1<t.length;have h0:¬ Jg t 0=48:=λh=>hz ⟨h1,r9.1 h⟩;refine QO ?_;refine J9 (i:=0) rfl rfl rfl (by omega) rfl ?_;refine QO ?_;rw [decide_eq_false h0];exact QT () rfl;refine QO ?_;exact QT () rfl;rintro _ wv jd;subst wv;refine W ?_;refine CM (ZP rfl) (Zh8 t ev _ aB br dS (hS.cell (by simp) eH) bM) ?_;rintro _ w3 ⟨hr,hT⟩;replace e2:=e2.up hT;replace hS:=hS.trans hT;clear hT;by_cases aT:Z0u t<=9223372036854775807;rw [if_pos aT] at hr;subst hr;refine W ?_;refine Zom ⟨_,rfl⟩ rfl rfl ?_;by_cases nW:2147483647<Z0u t;rw [if_pos nW];refine QO ?_;refine Z8 (vs:=[]) rfl tk0 rfl ?_;refine SA (us:=Z3.enc (⟨0,0,[],0⟩:Tkn)) e2 ?_;rintro _ wz ⟨hT,e2'⟩;refine W ?_;refine Zl rfl rfl rfl e2' rfl rfl ?_;exact .mk ⟨rfl,hS.ow hT⟩;rw [if_neg nW];refine QO ?_;refine Z8 (vs:=[(0,.I 2),(2,str t),(3,.I (Z0u t:Int))]) rfl (tk3 _ _ _) rfl ?_;refine SA (us:=Z3.enc (⟨2,0,t,Z0u t⟩:Tkn)) e2 ?_;rintro _ wz ⟨hT,e2'⟩;refine W ?_;refine Zl rfl rfl rfl e2' rfl rfl ?_;exact .mk ⟨rfl,hS.ow hT⟩;rw [if_neg aT] at hr;obtain ⟨z,p,v,rfl⟩:=hr;rw [if_pos (by omega)];refine W ?_;refine ZwA ⟨_,rfl⟩ rfl rfl rfl ?_;refine QO ?_;refine Z8 (vs:=[]) rfl tk0 rfl ?_;refine SA (us:=Z3.enc (⟨0,0,[],0⟩:Tkn)) e2 ?_;rintro _ wz ⟨hT,e2'⟩;refine W ?_;refine Zl rfl rfl rfl e2' rfl rfl ?_;exact .mk ⟨rfl,hS.ow hT⟩
theorem Z7i {z:Int} (h0:0<=z) (h1:z<2147483648):IntKind.i32.wrap z=z:=by
 rw [IntKind.wrap_i32];omega
theorem ZnJ:∀ i,i<Jc.length->(Jc.getD i 0).toNat<128:=by decide
theorem ZnK {s:Str} (h:11<=s.length) (hf:∀ j,j<11->Z4J (Jc.getD j 0) (s.getD j 0)=true):((Jc.zip s).all λp=>Z4J p.1 p.2)=true:=by
 rw [XV];intro p hp;obtain ⟨i,hi,rfl⟩:=Xr hp;have h1:i<11:=by
  have:Jc.length=11:=rfl;simp at hi;omega
 have:=hf i h1;rw [List.getElem_zip];have e1:Jc.getD i 0=Jc[i]'(by show i<11;omega):=by
  have:i<Jc.length:=h1;simp [List.getD,this]
 have e2:s.getD i 0=s[i]'(by omega):=by
  have:i<s.length:=by omega
  simp [List.getD,this]
 rw [e1,e2] at this;exact this
theorem Za8 {s:Str} {j:Nat} (h:11<=s.length) (hj:j<11) (hf:Z4J (Jc.getD j 0) (s.getD j 0)=false):((Jc.zip s).all λp=>Z4J p.1 p.2)=false:=by
 cases hb:((Jc.zip s).all λp=>Z4J p.1 p.2) with
 | false=>rfl
 | true=>
   rw [XV] at hb;have hl:j<(Jc.zip s).length:=by
    have:Jc.length=11:=rfl;simp;omega
   have:=hb _ (Xd hl);rw [List.getElem_zip] at this;have e1:Jc.getD j 0=Jc[j]'(by show j<11;omega):=by
    have:j<Jc.length:=hj;simp [List.getD,this]
   have e2:s.getD j 0=s[j]'(by omega):=by
    have:j<s.length:=by omega
    simp [List.getD,this]
   rw [e1,e2] at hf;rw [hf] at this;cases this
theorem Zfu (s:Str) (w) (cY:Z0I w) (hl:s.length<=1000000):CC 223 #[str s] w λr w'=>r=lxV (Z94 s)/\Stp [] w w':=by
 have yn:3<w.heap.size:=by have:=block_lt_of_cell (cY 0 0 rfl);simpa using this
 refine cW1 52 Tryz.func223 ?_;refine W ?_;refine Z1 Z2 rfl ?_;rintro _ w1 ⟨b2,rfl,cr,e2,hS⟩;by_cases lN:s.length<11;have hv:Z94 s=.err 20:=by unfold Z94;rw [if_pos lN]
 rw [hv];refine QO ?_;refine Z8 (vs:=[]) rfl tk0 rfl ?_;refine SA (us:=Z3.enc (⟨0,0,[],0⟩:Tkn)) e2 ?_;rintro _ wz ⟨hT,e2'⟩;refine W ?_;refine Zl rfl rfl rfl e2' rfl rfl ?_;exact .mk ⟨rfl,hS.ow hT⟩
 . have lp:Z94 s=if ((Jc.zip s).all λp=>Z4J p.1 p.2) then (let d:=Z1j ((s.take 11).drop 1);if d.2=0 then .ok ⟨3,0,s.take 11,d.1⟩ else .err 5) else .err 20:=by unfold Z94;rw [if_neg lN]
   rw [lp];replace cY:=cY.up hS;refine QO ?_;refine Z1 (ZbQ (s:=Jc) rfl) rfl ?_;rintro _ w2 ⟨bi,rfl,oA,hI,hT⟩;have xc:w.heap.size<=bi:=Xg hS.size oA;have ni2:b2≠bi:=by have:=e2.lt;omega
   have xd:(3:Nat)≠bi:=by omega
   replace e2:=e2.up hT;replace cY:=cY.up hT;replace hS:=hS.trans hT;clear hT;refine W ?_
   refine Zt (σ:=Nat) (λq=>[(0,str s),(2,pQ b2),(13,pQ bi)])
    (λq w'=>q<=11/\Itr w' bi Jc q/\(∀ j,j<q->Z4J (Jc.getD j 0) (s.getD j 0)=true)/\(∃ cs:List Value,cs.length=4/\Blk w' b2 183 cs)/\Z0I w'/\Stp [] w w')
    (λq=>11 - q) 0 ⟨rfl,rfl,rfl,trivial⟩ ⟨Xq _,hI,λj h=>absurd h (Xu _),⟨_,rfl,e2⟩,cY,hS⟩ ?_
   clear hI e2 cY hS;rintro q w3 ⟨hq,hI,cB,⟨cs2,ce,e2⟩,cY,hS⟩
   match cs2,ce with
   | [q0,q1,q2,q3],_=>
   have dE:Jc.length=11:=rfl;by_cases ag:q<11;have pg:q<Jc.length:=by omega
   have np:=ZnJ q pg;have ir:dec Jc q=((Jc.getD q 0).toNat,1):=by
    have e1:Jc.getD q 0=Jc[q]'hqf:=by simp [List.getD,pg]
    rw [e1] at np ⊢;exact Z4p pg np
   refine W ?_;refine Z1 (ZeQ rfl hI pg) rfl ?_;rintro _ w4 ⟨rfl,pi,hT⟩;rw [ir] at pi ⊢;dsimp only at pi ⊢;replace e2:=e2.ext hT (by simpa using ni2);replace cY:=cY.ext hT (by simpa using xd);replace hS:=hS.ow hT;clear hT hI;have lF:=Z7J s q;refine QO ?_;refine Z9 (Z4s (b:=Jg s q) rfl (Z7i lF.1 (by omega))) rfl ?_;have lB:Jg s q=((s.getD q 0).toNat:Int):=rfl;by_cases gz:Jc.getD q 0=100;rw [gz];have ja:(((100:UInt8).toNat:Nat):Int)=100:=rfl;rw [ja];have nX:Z4J (Jc.getD q 0) (s.getD q 0)=ZQ (s.getD q 0):=by unfold Z4J;rw [if_pos gz]
   refine QO ?_;rw [lB];refine Z1 (Z6 rfl (ZP rfl) (Z4q (s.getD q 0).toNat _)) rfl ?_;rintro _ wv ⟨rfl,jd⟩;subst wv;have iL:Z6g (s.getD q 0).toNat=ZQ (s.getD q 0):=rfl;rw [iL];cases hd:ZQ (s.getD q 0);have hz:=Za8 (s:=s) (by omega) ag (by rw [nX];exact hd);rw [if_neg (by rw [hz];decide)];refine QO ?_;refine Z8 (vs:=[]) rfl tk0 rfl ?_;refine SA (us:=Z3.enc (⟨0,0,[],0⟩:Tkn)) e2 ?_;rintro _ wz ⟨hT,e2'⟩;refine W ?_;refine Zl rfl rfl rfl e2' rfl rfl ?_;exact .mk ⟨rfl,hS.ow hT⟩;refine QO ?_;refine QL (q+1) ⟨ag,pi,λj hj=>?_,⟨_,rfl,e2⟩,cY,hS⟩ (by omega);rcases Yaz j q with h|h
   exact cB j h;obtain rfl:j=q:=by omega
   rw [nX];exact hd;have aR:¬ ((Jc.getD q 0).toNat:Int)=100:=λh=>gz (by
    have ja:(100:UInt8).toNat=100:=rfl;exact UInt8.toNat_inj.1 (by omega))
   have nX:Z4J (Jc.getD q 0) (s.getD q 0)=decide (s.getD q 0=Jc.getD q 0):=by unfold Z4J;rw [if_neg gz]
   have cZ:Jg s q=((Jc.getD q 0).toNat:Int)↔s.getD q 0=Jc.getD q 0:=by
    rw [lB];constructor;intro h;exact UInt8.toNat_inj.1 (by omega);intro h;rw [h]
   by_cases hx:Jg s q=((Jc.getD q 0).toNat:Int)
   refine QO ?_;refine QL (q+1) ⟨ag,pi,λj hj=>?_,⟨_,rfl,e2⟩,cY,hS⟩ (by omega);rcases Yaz j q with h|h
   exact cB j h;obtain rfl:j=q:=by omega
   rw [nX];exact decide_eq_true (cZ.1 hx);have hz:=Za8 (s:=s) (by omega) ag (by rw [nX];exact decide_eq_false (λh=>hx (cZ.2 h)));rw [if_neg (by rw [hz];decide)];refine QO ?_;refine Z8 (vs:=[]) rfl tk0 rfl ?_;refine SA (us:=Z3.enc (⟨0,0,[],0⟩:Tkn)) e2 ?_;rintro _ wz ⟨hT,e2'⟩;refine W ?_;refine Zl rfl rfl rfl e2' rfl rfl ?_;exact .mk ⟨rfl,hS.ow hT⟩;have se:q=11:=by omega
   subst se;have hz:=ZnK (s:=s) (by omega) cB;rw [if_pos hz];refine W ?_;refine Z1 (Z7Z rfl hI (by omega)) rfl ?_;rintro _ wv ⟨rfl,jd⟩;subst wv;refine W ?_;refine Z5r (l:=1) (r:=11) rfl rfl rfl rfl rfl (by omega) (by omega) rfl ?_;refine Z1 (Z6 rfl (ZP rfl) (ZdP _ _ cY (by simp;omega))) rfl ?_;rintro _ w5 ⟨rfl,hT⟩;replace e2:=e2.up hT;replace hS:=hS.trans hT;clear hT;dsimp only;by_cases h0:(Z1j ((s.take 11).drop 1)).2=0;rw [if_pos h0];refine QO ?_;refine Z0y (r:=11) rfl rfl rfl (by omega) rfl ?_;refine W ?_;refine Z8 (vs:=[(0,.I 3),(2,str (s.take 11)),(3,.I (Z1j ((s.take 11).drop 1)).1)]) rfl (tk3 _ _ _) rfl ?_;refine Z4 (Zb (us:=Z3.enc (⟨3,0,s.take 11,(Z1j ((s.take 11).drop 1)).1⟩:Tkn)) rfl rfl rfl rfl (Z3.one _) e2 rfl) ?_;rintro _ wz ⟨hT,e2'⟩;refine W ?_;refine Zl rfl rfl rfl e2' rfl rfl ?_;exact .mk ⟨rfl,hS.ow hT⟩;rw [if_neg h0];refine QO ?_;refine Z8 (vs:=[]) rfl tk0 rfl ?_;refine SA (us:=Z3.enc (⟨0,0,[],0⟩:Tkn)) e2 ?_;rintro _ wz ⟨hT,e2'⟩;refine W ?_;refine Zl rfl rfl rfl e2' rfl rfl ?_;exact .mk ⟨rfl,hS.ow hT⟩
end Go.Proofs.YtipfkbkkndacjaaGreatDoor
namespace Go.Eng
open Go Go.RowKit Go.Proofs
theorem Z2T {s:Str} {e:Int} (h:JV s=.err e):e≠0:=by
 unfold JV at h;simp only at h;split at h;unfold Z4T at h;simp only at h;split at h<;>simp at h;omega;split at h;unfold Z37 at h;simp only at h;split at h;simp at h;omega;split at h<;>simp at h;omega;split at h;unfold Z94 at h;split at h;simp at h;omega;split at h;simp only at h;split at h<;>simp at h;omega;simp at h;omega;unfold JZ at h;split at h;simp at h;split at h<;>simp at h;omega
theorem ZnL {s:Str} (h:s.getD 0 0=35):1<=nlM s:=by
 cases s with
 | nil=>simp at h
 | cons a r=>
   simp only [Xz] at h;subst h;unfold nlM;have h0:0<(35 :: r:Str).length:=by simp
   have hl:(35 :: r:Str).length=r.length+1:=by simp
   rw [hl];unfold JT;rw [if_pos h0,Z4p h0 (by show (35:UInt8).toNat<128;decide)];simp only;have hn:Z81 ((35 :: r:Str)[0]).toNat=true:=by show Z81 (35:UInt8).toNat=true;decide
   rw [if_pos hn];exact Z9w _ _ _ _ (by simp)
end Go.Eng
namespace Go.Proofs.YtipfkbkkndacjaaGreatDoor
open Go Go.Eng Go.RowKit Go.Proofs
theorem Z4c (t:Tkn) (w):(Instr.buildSlice 184 1 #[(0,aG t)]).run Tryz.prog w=.ok (.slice (some ⟨w.heap.size,0,none⟩) 1 1) (w.alloc (.cells (Z3.enc t).toArray 183)):=by kernel_rfl
def TkV (w w':World) (r:Value):Tks->Prop
 | .err a c=>r=.tuple #[.N,.I a,.I c]
 | .ok l=>∃ tv,r=.tuple #[tv,.I 0,.I 0]/\ZI 183 w w' tv l
theorem Zev (s:Str) (ev:Value) (w) (cY:Z0I w) (eH:w.cell? ⟨8,0,none⟩=some ev) (bM:ev=.nilIface\/∃ te pe,ev=.iface te pe) (hl:s.length<=1000000) :
 CC 157 #[str s] w λr w'=>TkV w w' r (Z00 s)/\Stp [] w w':=by
 unfold Z00;refine cW1 72 Tryz.func157 ?_;refine W ?_;refine Z89 ?_;by_cases h4:4000<s.length
 . rw [if_pos h4]
   refine QO ?_
   repeat (first|refine JU ?_|refine W1 ?_)
   refine RU ?_;exact ⟨rfl,Stp.refl _ _⟩
 rw [if_neg h4];generalize hR:JQ nlM s (s.length+1) 0 []=R;refine QO ?_;refine Zjs ?_;refine QO ?_
 refine Zt (σ:=Nat×Nat×List Tkn×Value) (λq=>[(0,str s),(5,q.2.2.2),(6,.I (q.2.1:Int))])
  (λq w'=>JQ nlM s q.1 q.2.1 q.2.2.1=R/\s.length<q.2.1+q.1/\q.2.1<=s.length/\q.2.2.1.length<=q.2.1/\ZI 183 w w' q.2.2.2 q.2.2.1)
  (λq=>q.1) (s.length+1,0,[],.N) ⟨rfl,rfl,rfl,trivial⟩ ⟨hR,by dsimp only;omega,Xq _,Xn _,ZI.nil⟩ ?_
 clear hR;rintro ⟨f,q,l,lv⟩ w1 ⟨hR,hf,hq,jK,ab⟩;dsimp only at hR hf hq jK ab ⊢;have dt:=ab;cases f with
 | zero=>omega
 | succ f=>
 simp only [JQ] at hR;by_cases ag:q<s.length
 rotate_left
 . rw [if_neg ag] at hR
   subst hR;refine QO ?_;refine Z8 (vs:=[(0,.I 0),(1,.I (q:Int))]) rfl (tk1 _ _) rfl ?_;refine Z1 (Z0 (vs:=[(0,.agg (Z3.enc (⟨0,(q:Int),[],0⟩:Tkn)).toArray)]) rfl (Z4c _)) rfl ?_;intro bv w3 hN;have an:SlV (ob lv) w3 bv [(⟨0,(q:Int),[],0⟩:Tkn)]:=hN.slv (λb hb=>(ab.ob_le b hb).2) rfl rfl (by simp [maxLen]);replace ab:=ab.up (Z5.stp hN);clear hN;refine Z1 (JD rfl (by decide) rfl rfl ab an (by simp only [Xe,Xf];omega) (by simp only [Xe,Xf,maxLen];omega)) rfl ?_;rintro lv' w4 ⟨aC,hT,cb⟩;refine QO ?_
   repeat (first|refine JU ?_|refine W1 ?_)
   refine RU ?_;exact ⟨⟨lv',rfl,aC⟩,aC.2⟩
 rw [if_pos ag] at hR;have aR:s.drop q≠[]:=λh=>by have:=congrArg List.length h;simp at this;omega
 have jD:(s.drop q).length≠0:=λh=>aR (Xw.1 h);have fY:(s.drop q).length<=1000000:=by simp;omega
 have jv:=cY.up ab.2;have jw:=ab.2.cell (by simp) eH;refine QO ?_;refine Zbv (l:=q) rfl rfl rfl (by omega) rfl ?_;refine QO ?_;have lB:Jg (s.drop q) 0=(((s.drop q).getD 0 0).toNat:Int):=rfl;have lF:=Z7J (s.drop q) 0;refine J9 (i:=0) rfl rfl rfl (by omega) rfl ?_;refine Z9 (Z4s (b:=Jg (s.drop q) 0) rfl (Z7i lF.1 (by omega))) rfl ?_;rw [lB];refine QO ?_;refine CL (ZaE ((s.drop q).getD 0 0) _) ?_;rintro _ w2 ⟨rfl,hT⟩;replace ab:=ab.up hT;replace jv:=jv.up hT;replace jw:=hT.cell (by simp) jw;have dt:=ab;clear hT;cases bD:Z1E ((s.drop q).getD 0 0)
 rotate_left
 . rw [if_pos bD] at hR
   refine QO ?_
   repeat (first|refine Z04 ?_|refine W1 ?_)
   exact QL (f,q+1,l,lv) ⟨hR,by dsimp only;omega,by dsimp only;omega,by dsimp only;omega,ab⟩ (by dsimp only;omega)
 rw [if_neg (by rw [bD];decide)] at hR;have pj:(s.drop q).getD 0 0≠32:=λh=>by rw [h] at bD;exact absurd bD (by decide)
 by_cases nY:(s.drop q).getD 0 0=35
 . rw [if_pos nY] at hR
   have yo:=ZnL nY;have nT:nlM (s.drop q)<=(s.drop q).length:=Z9v _ _ _ _;have xf:(s.drop q).length=s.length - q:=by simp
   rw [nY];have nZ:(((35:UInt8).toNat:Nat):Int)=35:=rfl;rw [nZ];refine QO ?_;refine CL (Z6h Z81 ZsG (s.drop q) _ fY) ?_;rintro _ w3 ⟨rfl,hT⟩;replace ab:=ab.up hT;have sf:JT (s.drop q) Z81 (s.drop q).length 0=nlM (s.drop q):=rfl;rw [sf];refine QO ?_
   repeat (first|refine Z04 ?_|refine W1 ?_)
   exact Zx (f,q+nlM (s.drop q),l,lv) ⟨rfl,rfl,rfl,trivial⟩ ⟨hR,by dsimp only;omega,by dsimp only;omega,by dsimp only;omega,ab⟩ (by dsimp only;omega)
 rw [if_neg nY] at hR;have xg:¬ ((((s.drop q).getD 0 0).toNat:Nat):Int)=35:=λh=>nY (by
  have nZ:(35:UInt8).toNat=35:=rfl;exact UInt8.toNat_inj.1 (by omega))
 refine QO ?_;refine CL (Z82 ((s.drop q).getD 0 0).toNat _) ?_;rintro _ wv ⟨rfl,jd⟩;subst wv;have ou:Zaz ((s.drop q).getD 0 0).toNat=Z5A ((s.drop q).getD 0 0):=rfl;rw [ou];cases jx:Z5A ((s.drop q).getD 0 0)
 rotate_left
 . have eT:JV (s.drop q)=Z4T (s.drop q):=by unfold JV;simp only [jx,if_true]
   refine QO ?_;cases hr:JV (s.drop q) with
   | err e=>
     rw [hr] at hR;subst hR;have he:=Z2T hr;refine CL (Za7 (s.drop q) _ fY) ?_;rintro _ w4 ⟨rfl,hT⟩;rw [<- eT,hr];simp only [lxV];refine QO ?_;refine Z1 Z2 rfl ?_;rintro _ w5 ⟨b10,rfl,ea,e10,aq⟩;refine SA (us:=Z3.enc (⟨0,0,[],0⟩:Tkn)) e10 ?_;rintro _ w6 ⟨cA,e10'⟩;have lq:=(ab.2.trans hT).trans (aq.ow cA);refine QO ?_
     repeat (first|refine JU ?_|refine W1 ?_)
     refine RU ?_;exact ⟨rfl,lq⟩
   | ok t=>
     rw [hr] at hR;simp only at hR;have dR:=Z2I aR pj hr;have iE:t.text.length≠0:=λh=>dR.1.text (Xw.1 h);have ls:t.text.length<=s.length - q:=by have:=dR.2.1;simpa using this
     refine CL (Za7 (s.drop q) _ fY) ?_;rintro _ w4 ⟨rfl,hT⟩;rw [<- eT,hr];simp only [lxV];replace ab:=ab.up hT;clear hT;refine QO ?_;refine Z1 Z2 rfl ?_;rintro _ w5 ⟨b10,rfl,ea,e10,hT⟩;refine SA (us:=Z3.enc t) e10 ?_;rintro _ w6 ⟨aq,e10'⟩;have iN:=hT.ow aq;have eG:b10∉ob lv:=λh=>by have:=(ab.ob_le b10 h).2;omega
     clear hT aq e10;refine QO ?_;refine Z4 (Zc (u:=.I (q:Int)) rfl rfl rfl rfl e10' (by simp [Z3.enc])) ?_;rintro _ w7 ⟨hT,e11⟩;replace e11:Blk w7 b10 183 (Z3.enc ({ t with pos:=(q:Int) }:Tkn)):=e11;replace ab:ZI 183 w w7 lv l:=ab.up (iN.ow hT);clear hT e10';refine QO ?_;refine Z1 (Z0 (vs:=[(0,.agg (Z3.enc ({ t with pos:=(q:Int) }:Tkn)).toArray)]) rfl (Z4c _)) rfl ?_;intro bv w8 hN;have an:SlV (ob lv) w8 bv [({ t with pos:=(q:Int) }:Tkn)]:=hN.slv (λb hb=>(ab.ob_le b hb).2) rfl rfl (by simp [maxLen]);replace ab:=ab.up (Z5.stp hN);replace e11:=e11.up (Z5.stp hN);clear hN;refine Z1 (JD rfl (by decide) rfl rfl ab an (by simp only [Xe,Xf];omega) (by simp only [Xe,Xf,maxLen];omega)) rfl ?_;rintro lv' w9 ⟨aC,hT,cb⟩;replace e11:=e11.ext hT eG;clear hT;have kQ:({ t with pos:=(q:Int) }:Tkn).text.length=t.text.length:=rfl;refine QO ?_
     repeat (first|refine Z04 ?_|refine W1 ?_)
     exact Zx (f,q+t.text.length,l++[{ t with pos:=(q:Int) }],lv') ⟨rfl,rfl,rfl,trivial⟩ ⟨hR,by dsimp only;omega,by dsimp only;omega,by simp;omega,aC⟩ (by dsimp only;omega)
 refine QO ?_;refine CL (Z4q ((s.drop q).getD 0 0).toNat _) ?_;rintro _ wv ⟨rfl,jd⟩;subst wv;have xh:Z6g ((s.drop q).getD 0 0).toNat=ZQ ((s.drop q).getD 0 0):=rfl;rw [xh];cases iL:ZQ ((s.drop q).getD 0 0)
 rotate_left
 . have eT:JV (s.drop q)=Z37 (s.drop q):=by unfold JV;simp only [jx,iL,if_true,XO,if_false]
   refine QO ?_;cases hr:JV (s.drop q) with
   | err e=>
     rw [hr] at hR;subst hR;have he:=Z2T hr;refine CL (Z7h (s.drop q) ev _ fY iL aR jw bM) ?_;rintro _ w4 ⟨rfl,hT⟩;rw [<- eT,hr];simp only [lxV];refine QO ?_;refine Z1 Z2 rfl ?_;rintro _ w5 ⟨b10,rfl,ea,e10,aq⟩;refine SA (us:=Z3.enc (⟨0,0,[],0⟩:Tkn)) e10 ?_;rintro _ w6 ⟨cA,e10'⟩;have lq:=(ab.2.trans hT).trans (aq.ow cA);refine QO ?_
     repeat (first|refine JU ?_|refine W1 ?_)
     refine RU ?_;exact ⟨rfl,lq⟩
   | ok t=>
     rw [hr] at hR;simp only at hR;have dR:=Z2I aR pj hr;have iE:t.text.length≠0:=λh=>dR.1.text (Xw.1 h);have ls:t.text.length<=s.length - q:=by have:=dR.2.1;simpa using this
     refine CL (Z7h (s.drop q) ev _ fY iL aR jw bM) ?_;rintro _ w4 ⟨rfl,hT⟩;rw [<- eT,hr];simp only [lxV];replace ab:=ab.up hT;clear hT;refine QO ?_;refine Z1 Z2 rfl ?_;rintro _ w5 ⟨b10,rfl,ea,e10,hT⟩;refine SA (us:=Z3.enc t) e10 ?_;rintro _ w6 ⟨aq,e10'⟩;have iN:=hT.ow aq;have eG:b10∉ob lv:=λh=>by have:=(ab.ob_le b10 h).2;omega
     clear hT aq e10;refine QO ?_;refine Z4 (Zc (u:=.I (q:Int)) rfl rfl rfl rfl e10' (by simp [Z3.enc])) ?_;rintro _ w7 ⟨hT,e11⟩;replace e11:Blk w7 b10 183 (Z3.enc ({ t with pos:=(q:Int) }:Tkn)):=e11;replace ab:ZI 183 w w7 lv l:=ab.up (iN.ow hT);clear hT e10';refine QO ?_;refine Z1 (Z0 (vs:=[(0,.agg (Z3.enc ({ t with pos:=(q:Int) }:Tkn)).toArray)]) rfl (Z4c _)) rfl ?_;intro bv w8 hN;have an:SlV (ob lv) w8 bv [({ t with pos:=(q:Int) }:Tkn)]:=hN.slv (λb hb=>(ab.ob_le b hb).2) rfl rfl (by simp [maxLen]);replace ab:=ab.up (Z5.stp hN);replace e11:=e11.up (Z5.stp hN);clear hN;refine Z1 (JD rfl (by decide) rfl rfl ab an (by simp only [Xe,Xf];omega) (by simp only [Xe,Xf,maxLen];omega)) rfl ?_;rintro lv' w9 ⟨aC,hT,cb⟩;replace e11:=e11.ext hT eG;clear hT;have kQ:({ t with pos:=(q:Int) }:Tkn).text.length=t.text.length:=rfl;refine QO ?_
     repeat (first|refine Z04 ?_|refine W1 ?_)
     exact Zx (f,q+t.text.length,l++[{ t with pos:=(q:Int) }],lv') ⟨rfl,rfl,rfl,trivial⟩ ⟨hR,by dsimp only;omega,by dsimp only;omega,by simp;omega,aC⟩ (by dsimp only;omega)
 by_cases jN:(s.drop q).getD 0 0=64
 . have eT:JV (s.drop q)=Z94 (s.drop q):=by
    unfold JV;simp only [jx,iL,XO,if_false];rw [if_pos jN]
   rw [jN];have oa:(((64:UInt8).toNat:Nat):Int)=64:=rfl;rw [oa];refine QO ?_;cases hr:JV (s.drop q) with
   | err e=>
     rw [hr] at hR;subst hR;have he:=Z2T hr;refine CL (Zfu (s.drop q) _ jv fY) ?_;rintro _ w4 ⟨rfl,hT⟩;rw [<- eT,hr];simp only [lxV];refine QO ?_;refine Z1 Z2 rfl ?_;rintro _ w5 ⟨b10,rfl,ea,e10,aq⟩;refine SA (us:=Z3.enc (⟨0,0,[],0⟩:Tkn)) e10 ?_;rintro _ w6 ⟨cA,e10'⟩;have lq:=(ab.2.trans hT).trans (aq.ow cA);refine QO ?_
     repeat (first|refine JU ?_|refine W1 ?_)
     refine RU ?_;exact ⟨rfl,lq⟩
   | ok t=>
     rw [hr] at hR;simp only at hR;have dR:=Z2I aR pj hr;have iE:t.text.length≠0:=λh=>dR.1.text (Xw.1 h);have ls:t.text.length<=s.length - q:=by have:=dR.2.1;simpa using this
     refine CL (Zfu (s.drop q) _ jv fY) ?_;rintro _ w4 ⟨rfl,hT⟩;rw [<- eT,hr];simp only [lxV];replace ab:=ab.up hT;clear hT;refine QO ?_;refine Z1 Z2 rfl ?_;rintro _ w5 ⟨b10,rfl,ea,e10,hT⟩;refine SA (us:=Z3.enc t) e10 ?_;rintro _ w6 ⟨aq,e10'⟩;have iN:=hT.ow aq;have eG:b10∉ob lv:=λh=>by have:=(ab.ob_le b10 h).2;omega
     clear hT aq e10;refine QO ?_;refine Z4 (Zc (u:=.I (q:Int)) rfl rfl rfl rfl e10' (by simp [Z3.enc])) ?_;rintro _ w7 ⟨hT,e11⟩;replace e11:Blk w7 b10 183 (Z3.enc ({ t with pos:=(q:Int) }:Tkn)):=e11;replace ab:ZI 183 w w7 lv l:=ab.up (iN.ow hT);clear hT e10';refine QO ?_;refine Z1 (Z0 (vs:=[(0,.agg (Z3.enc ({ t with pos:=(q:Int) }:Tkn)).toArray)]) rfl (Z4c _)) rfl ?_;intro bv w8 hN;have an:SlV (ob lv) w8 bv [({ t with pos:=(q:Int) }:Tkn)]:=hN.slv (λb hb=>(ab.ob_le b hb).2) rfl rfl (by simp [maxLen]);replace ab:=ab.up (Z5.stp hN);replace e11:=e11.up (Z5.stp hN);clear hN;refine Z1 (JD rfl (by decide) rfl rfl ab an (by simp only [Xe,Xf];omega) (by simp only [Xe,Xf,maxLen];omega)) rfl ?_;rintro lv' w9 ⟨aC,hT,cb⟩;replace e11:=e11.ext hT eG;clear hT;have kQ:({ t with pos:=(q:Int) }:Tkn).text.length=t.text.length:=rfl;refine QO ?_
     repeat (first|refine Z04 ?_|refine W1 ?_)
     exact Zx (f,q+t.text.length,l++[{ t with pos:=(q:Int) }],lv') ⟨rfl,rfl,rfl,trivial⟩ ⟨hR,by dsimp only;omega,by dsimp only;omega,by simp;omega,aC⟩ (by dsimp only;omega)
 have eT:JV (s.drop q)=JZ (s.drop q):=by
  unfold JV;simp only [jx,iL,XO,if_false];rw [if_neg jN]
 have xi:¬ ((((s.drop q).getD 0 0).toNat:Nat):Int)=64:=λh=>jN (by
  have oa:(64:UInt8).toNat=64:=rfl;exact UInt8.toNat_inj.1 (by omega))
 refine QO ?_;cases hr:JV (s.drop q) with
 | err e=>
   rw [hr] at hR;subst hR;have he:=Z2T hr;refine CL (Z8V (s.drop q) _ aR) ?_;rintro _ w4 ⟨rfl,hT⟩;rw [<- eT,hr];simp only [lxV];refine QO ?_;refine Z1 Z2 rfl ?_;rintro _ w5 ⟨b10,rfl,ea,e10,aq⟩;refine SA (us:=Z3.enc (⟨0,0,[],0⟩:Tkn)) e10 ?_;rintro _ w6 ⟨cA,e10'⟩;have lq:=(ab.2.trans hT).trans (aq.ow cA);refine QO ?_
   repeat (first|refine JU ?_|refine W1 ?_)
   refine RU ?_;exact ⟨rfl,lq⟩
 | ok t=>
   rw [hr] at hR;simp only at hR;have dR:=Z2I aR pj hr;have iE:t.text.length≠0:=λh=>dR.1.text (Xw.1 h);have ls:t.text.length<=s.length - q:=by have:=dR.2.1;simpa using this
   refine CL (Z8V (s.drop q) _ aR) ?_;rintro _ w4 ⟨rfl,hT⟩;rw [<- eT,hr];simp only [lxV];replace ab:=ab.up hT;clear hT;refine QO ?_;refine Z1 Z2 rfl ?_;rintro _ w5 ⟨b10,rfl,ea,e10,hT⟩;refine SA (us:=Z3.enc t) e10 ?_;rintro _ w6 ⟨aq,e10'⟩;have iN:=hT.ow aq;have eG:b10∉ob lv:=λh=>by have:=(ab.ob_le b10 h).2;omega
   clear hT aq e10;refine QO ?_;refine Z4 (Zc (u:=.I (q:Int)) rfl rfl rfl rfl e10' (by simp [Z3.enc])) ?_;rintro _ w7 ⟨hT,e11⟩;replace e11:Blk w7 b10 183 (Z3.enc ({ t with pos:=(q:Int) }:Tkn)):=e11;replace ab:ZI 183 w w7 lv l:=ab.up (iN.ow hT);clear hT e10';refine QO ?_;refine Z1 (Z0 (vs:=[(0,.agg (Z3.enc ({ t with pos:=(q:Int) }:Tkn)).toArray)]) rfl (Z4c _)) rfl ?_;intro bv w8 hN;have an:SlV (ob lv) w8 bv [({ t with pos:=(q:Int) }:Tkn)]:=hN.slv (λb hb=>(ab.ob_le b hb).2) rfl rfl (by simp [maxLen]);replace ab:=ab.up (Z5.stp hN);replace e11:=e11.up (Z5.stp hN);clear hN;refine Z1 (JD rfl (by decide) rfl rfl ab an (by simp only [Xe,Xf];omega) (by simp only [Xe,Xf,maxLen];omega)) rfl ?_;rintro lv' w9 ⟨aC,hT,cb⟩;replace e11:=e11.ext hT eG;clear hT;have kQ:({ t with pos:=(q:Int) }:Tkn).text.length=t.text.length:=rfl;refine QO ?_
   repeat (first|refine Z04 ?_|refine W1 ?_)
   exact Zx (f,q+t.text.length,l++[{ t with pos:=(q:Int) }],lv') ⟨rfl,rfl,rfl,trivial⟩ ⟨hR,by dsimp only;omega,by dsimp only;omega,by simp;omega,aC⟩ (by dsimp only;omega)
end Go.Proofs.YtipfkbkkndacjaaGreatDoor
namespace Go.Eng
open Go Go.RowKit Go.Proofs
theorem Z2v {nl:Str->Nat} {s:Str}:∀ (f at_:Nat) (l:List Tkn) (a c:Int),JQ nl s f at_ l=.err a c->c≠0
 | 0,at_,l,a,c,h=>by simp [JQ] at h
 | f + 1, at_, l, a, c, h => by
   simp only [JQ] at h;split at h;split at h;exact Z2v f _ _ _ _ h;split at h;exact Z2v f _ _ _ _ h
   . cases hr:JV (s.drop at_) with
     | err e=>
       rw [hr] at h;simp only [Tks.err.injEq] at h;obtain ⟨_,rfl⟩:=h;exact Z2T hr
     | ok t=>
       rw [hr] at h;exact Z2v f _ _ _ _ h
   simp at h
theorem Zd9 {s:Str} {a c:Int} (h:Z00 s=.err a c):c≠0:=by
 unfold Z00 at h;split at h;simp only [Tks.err.injEq] at h;omega;exact Z2v _ _ _ _ _ h
theorem Zbf {s:Str} {l:List Tkn} (h:Z00 s=.ok l) (cq:∀ t∈l,t.text∉Z3u):Z3P l/\∃ l1 p,l=l1++[⟨0,p,[],0⟩]/\∀ t∈l1,Zjc t:=by
 unfold Z00 at h;split at h;cases h;rename_i hl;obtain ⟨l1,p,rfl,h1,h2,h3⟩:=Z38 (nl:=nlM) (s:=s) (by omega) (s.length+1) 0 [] l (by simp) (by simp) (by simp) (by simp) h;exact ⟨Zmu h1 h2 (by omega) (λt ht=>cq t (by simp [ht])),l1,p,rfl,h1⟩
theorem Z8W {l:List Tkn}:∀ (f:Nat) (rs:List RuleM) (i o:Nat) (rs':List RuleM) (i' o':Nat),Z20 l f rs i o=.ok rs' i' o'->l.length<=i+f->i'<l.length->(cur l i').kind=0
 | 0,rs,i,o,rs',i',o',h,h1,h2=>by simp only [Z20,Out.ok.injEq] at h;omega
 | f + 1, rs, i, o, rs', i', o', h, h1, h2 => by
   simp only [Z20] at h;split at h;rename_i hk;simp only [Out.ok.injEq] at h;obtain ⟨_,rfl,_⟩:=h;exact hk;obtain ⟨r,i1,o1,h3,h4⟩:=Z0j h;have:=ZcZ h3;exact Z8W f _ _ _ _ _ _ h4 (by omega) h2
end Go.Eng
namespace Go.Proofs.YtipfkbkkndacjaaGreatDoor
open Go Go.Eng Go.RowKit Go.Proofs
theorem ZnM (a c:Int) (w):(Instr.typeAssert (Z4V a c) 20 235 true).run Tryz.prog w=.ok (.tuple #[.agg #[.I a,.I c],.B true]) w:=by kernel_rfl
theorem ZnN (w):(Instr.typeAssert .nilIface 20 235 true).run Tryz.prog w=.ok (.tuple #[.agg #[.I 0,.I 0],.B false]) w:=by kernel_rfl
theorem Zew (a c:Int) (b7 b4 b5 b6:Nat) (z7 v4 v5 v6:Value) (w) (e7:Blk w b7 90 [z7]) (e4:Blk w b4 90 [v4]) (e5:Blk w b5 3 [v5]) (e6:Blk w b6 92 [v6])
 (hz:z7.cells.toList=[z7]) (fK:z7.oneCell'=true) (n74:b7≠b4) (n75:b7≠b5) (n76:b7≠b6) (n45:b4≠b5) (n46:b4≠b6) (n56:b5≠b6) :
 CallsD Tryz.prog 158 #[pQ b7,pQ b4,pQ b5,pQ b6] (.panicking [⟨Z4V a c,false,false⟩]) w
  (λe u' w'=>∃ v,e=.returned v/\(u'=.panicking [⟨Z4V a c,true,false⟩]/\Blk w' b4 90 [z7]/\Blk w' b5 3 [.I a]/\Blk w' b6 92 [.I c]/\Stp [b4,b5,b6] w w')):=by
 refine callsD_of_wpS Tryz.func158 rfl λgO cs hu=>?_;apply wpS_seq;apply wpS_region;simp [wpOpsS,go_sem,recoverD,hu,Tryz.ntmps158,Exit.thenS];refine Za2 (n:=22) (e:=[(0,pQ b7),(1,pQ b4),(2,pQ b5),(3,pQ b6),(4,Z4V a c)]) (Has.of rfl (by simp) (by
  intro p hp;simp only [Xb,Xj,or_false] at hp;rcases hp with rfl|rfl|rfl|rfl|rfl<;>kernel_rfl)) ?_
 refine W ?_;refine Z9 (Z4Z rfl (ZnM a c)) rfl ?_;refine W ?_;refine Z1 Z2 rfl ?_;rintro _ w1 ⟨bf,rfl,xj,ef,hT⟩;refine SB (us:=[.I a,.I c]) (by intro u hu;simp at hu;rcases hu with rfl|rfl<;>rfl) ef ?_;rintro _ w2 ⟨aq,ef'⟩;have nf7:=e7.lt;have nf4:=e4.lt;have nf5:=e5.lt;have nf6:=e6.lt;have hS:=hT.ow aq;clear hT aq ef;replace e7:=e7.up hS;replace e4:=e4.up hS;replace e5:=e5.up hS;replace e6:=e6.up hS;refine W ?_;refine ZDr 8 ([b4,b5,b6]) [] [(0,1),(1,0),(2,1),(3,0),(4,1),(5,2),(6,2),(7,2)] (λw1 ae=>?_);replace e7:=e7.up ae;replace e4:=e4.up ae;replace e5:=e5.up ae;replace e6:=e6.up ae;replace ef':=ef'.up ae;replace hS:=hS.trans ae;clear ae;have m7:b7∉[b4,b5,b6]:=by simp;exact ⟨n74,n75,n76⟩
 have mf:bf∉[b4,b5,b6]:=by simp;omega
 refine Z0w rfl trivial rfl rfl e7 m7 rfl rfl ?_;refine Z5q rfl trivial rfl rfl ?_;refine Z0w rfl trivial rfl rfl ef' mf rfl rfl ?_;refine Z5q rfl trivial rfl rfl ?_;refine Z0w rfl trivial rfl rfl ef' mf rfl rfl ?_;refine ZF rfl trivial (Zb (us:=[z7]) rfl rfl hz rfl (by simpa using fK) e4 rfl) (λ_ _ h=>h.1.mn) ?_;rintro _ w3 ⟨hT,e4'⟩;replace e5:=e5.ext hT (by simpa using n45.symm);replace e6:=e6.ext hT (by simpa using n46.symm);replace hS:=(hS.mono (S':=[b4,b5,b6]) (by simp)).trans hT.mn;clear hT;refine ZF rfl trivial (Zb (us:=[.I a]) rfl rfl rfl rfl (by simp;rfl) e5 rfl) (λ_ _ h=>h.1.mn) ?_;rintro _ w4 ⟨hT,e5'⟩;replace e4':=e4'.ext hT (by simpa using n45);replace e6:=e6.ext hT (by simpa using n56.symm);replace hS:=hS.trans hT.mn;clear hT;refine ZF rfl trivial (Zb (us:=[.I c]) rfl rfl rfl rfl (by simp;rfl) e6 rfl) (λ_ _ h=>h.1.mn) ?_;rintro _ w5 ⟨hT,e6'⟩;replace e4':=e4'.ext hT (by simpa using n46);replace e5':=e5'.ext hT (by simpa using n56);replace hS:=hS.trans hT.mn;refine Zdj ?_;refine W ?_;first|refine Zac rfl ?_|refine Zad rfl ?_
 exact ⟨⟨_,rfl⟩,rfl,e4',e5',e6',hS⟩
theorem Zex (b7 b4 b5 b6:Nat) (w) :
 CallsD Tryz.prog 158 #[pQ b7,pQ b4,pQ b5,pQ b6] .returning w
  (λe u' w'=>∃ v,e=.returned v/\(u'=.returning/\Stp [] w w')):=by
 refine callsD_of_wpS Tryz.func158 rfl λgO cs hu=>?_;have hc:gO={ gO with mode:=.returning }:=by rw [<- hu]
 apply wpS_seq;apply wpS_region;simp [wpOpsS,go_sem,recoverD,hu,Tryz.ntmps158,Exit.thenS];rw [hc];refine Za2 (n:=22) (e:=[(0,pQ b7),(1,pQ b4),(2,pQ b5),(3,pQ b6),(4,.nilIface)]) (Has.of rfl (by simp) (by
  intro p hp;simp only [Xb,Xj,or_false] at hp;rcases hp with rfl|rfl|rfl|rfl|rfl<;>kernel_rfl)) ?_
 refine W ?_;refine Z9 (Z4Z rfl ZnN) rfl ?_;refine W ?_;refine Z1 Z2 rfl ?_;rintro _ w1 ⟨bf,rfl,xj,ef,hT⟩;refine SB (us:=[.I 0,.I 0]) (by intro u hu;simp at hu;rcases hu with rfl|rfl<;>rfl) ef ?_;rintro _ w2 ⟨aq,ef'⟩;have hS:=hT.ow aq;refine W ?_;refine Zom ⟨_,rfl⟩ rfl rfl ?_;refine W ?_;first|refine Zac rfl ?_|refine Zad rfl ?_
 exact ⟨⟨_,rfl⟩,rfl,hS⟩
def PsV (X:List Nat) (w':World) (r:Value):Ps->Prop
 | .err a c=>r=.tuple #[.N,.I a,.I c]
 | .ok rs=>∃ rv,r=.tuple #[rv,.I 0,.I 0]/\SlV X w' rv (rs.map RuleM.rul)
theorem Z4d {w w':World} {b T:Nat} {cs:List Value} (hS:Stp [b] w w') (h:Blk w b T cs) (h':Blk w' b T cs):Stp [] w w':=
 ⟨hS.os, hS.tape, hS.output, hS.size, λk hk _ => by
   by_cases hb:k=b;subst hb;rw [h,h'];exact hS.block k hk (by simpa using hb)⟩
theorem ZnO (p:Option Addr) (l c:Nat) (w):(Instr.build 186 #[(0,.slice p l c)]).run Tryz.prog w=.ok (.agg #[.slice p l c,.I 0,.I 0]) w:=by kernel_rfl
theorem Zh9 (X:List Nat) (s:Str) (er:Value) (m:Int) (w:World) (hX:∀ c∈X,c<w.heap.size) (cY:Z0I w) (hm:w.cell? ⟨2,0,none⟩=some (.I m)) (eH:w.cell? ⟨8,0,none⟩=some er) (bM:er=.nilIface\/∃ te pe,er=.iface te pe) (hl:s.length<=1000000) (cq:∀ l,Z00 s=.ok l->∀ t∈l,t.text∉Z3u) :
 CC 89 #[str s,.func (.func 90) #[] #[]] w λr w'=>PsV X w' r (Z22 s)/\Stp [] w w':=by
 have yp:2<w.heap.size:=by have:=block_lt_of_cell hm;simpa using this
 refine Z9d (n:=43) Tryz.func89 rfl rfl rfl ?_;refine W ?_;refine Z1 Z2 rfl ?_;rintro _ w1 ⟨b4,rfl,bC,e4,hS⟩;refine W ?_;refine Z1 Z2 rfl ?_;rintro _ w2 ⟨b5,rfl,jS,e5,hT⟩;have n45:b4≠b5:=by have:=e4.lt;omega
 have g5:w.heap.size<=b5:=Xg hS.size jS;replace e4:=e4.up hT;replace hS:=hS.trans hT;refine W ?_;refine Z1 Z2 rfl ?_;rintro _ w3 ⟨b6,rfl,ew,e6,hT⟩;have n46:b4≠b6:=by have:=e4.lt;omega
 have n56:b5≠b6:=by have:=e5.lt;omega
 have g6:w.heap.size<=b6:=Xg hS.size ew;replace e4:=e4.up hT;replace e5:=e5.up hT;replace hS:=hS.trans hT;refine W ?_;refine Z1 Z2 rfl ?_;rintro _ w4 ⟨b7,rfl,fb,e7,hT⟩;have n74:b7≠b4:=by have:=e4.lt;omega
 have n75:b7≠b5:=by have:=e5.lt;omega
 have n76:b7≠b6:=by have:=e6.lt;omega
 replace e4:=e4.up hT;replace e5:=e5.up hT;replace e6:=e6.up hT;replace hS:=hS.trans hT;clear hT;have g4:w.heap.size<=b4:=bC;have sg:∀ c∈[b4,b5,b6,b7],c<w4.heap.size:=λc hc=>by
  simp only [Xb,Xj,or_false] at hc;rcases hc with rfl|rfl|rfl|rfl
  exact e4.lt;exact e5.lt;exact e6.lt;exact e7.lt
 refine W ?_;refine CM (ZP rfl) (Zev s er _ (cY.up hS) (hS.cell (by simp) eH) bM hl) ?_;rintro r w5 ⟨hr,hT⟩;replace e4:=e4.up hT;replace e5:=e5.up hT;replace e6:=e6.up hT;replace e7:=e7.up hT;have yq:=hS;replace hS:=hS.trans hT;clear hT;have own3:∀ {S:List Nat},(∀ c∈S,c=b4\/c=b5\/c=b6)->∀ c∈S,c∈([]:List Nat)\/w.heap.size<=c:=λh c hc=>by
  rcases h c hc with rfl|rfl|rfl
  exact .inr g4;exact .inr g5;exact .inr g6
 cases hK:Z00 s with
 | err a c=>
   rw [hK] at hr;have bH:r=.tuple #[.N,.I a,.I c]:=hr;subst bH;have ia:=Zd9 hK;refine W ?_;refine SB (us:=[.I a]) (by simp;rfl) e5 ?_;rintro _ w6 ⟨hT,e5'⟩;replace e4:=e4.ext hT (by simpa using n45);replace e6:=e6.ext hT (by simpa using n56.symm);replace e7:=e7.ext hT (by simpa using n75);replace hS:=hS.own hT (own3 (by simp));refine W ?_;refine SB (us:=[.I c]) (by simp;rfl) e6 ?_;rintro _ w7 ⟨aq,e6'⟩;replace e4:=e4.ext aq (by simpa using n46);replace e5':=e5'.ext aq (by simpa using n56);replace e7:=e7.ext aq (by simpa using n76);replace hS:=hS.own aq (own3 (by simp));clear hT aq e5 e6;refine QO ?_;refine ZDr 6 ([b4]) [] [(0,1),(1,1),(2,1),(3,2),(4,2),(5,2)] (λw8 ae=>?_);replace e7:=e7.up ae;replace e4:=e4.up ae;replace e5':=e5'.up ae;replace e6':=e6'.up ae;replace hS:=hS.trans ae;clear ae;refine Z0w rfl trivial rfl rfl e7 (by simpa using n74) rfl rfl ?_;refine Z0w rfl trivial rfl rfl e5' (by simpa using n45.symm) rfl rfl ?_;refine Z0w rfl trivial rfl rfl e6' (by simpa using n46.symm) rfl rfl ?_;refine ZF rfl trivial (Zb (us:=[.N]) rfl rfl rfl rfl (by simp;rfl) e4 rfl) (λ_ _ h=>h.1) ?_;rintro _ w9 ⟨hT,e4'⟩;replace e5':=e5'.ext hT (by simpa using n45.symm);replace e6':=e6'.ext hT (by simpa using n46.symm);replace hS:=hS.own hT (own3 (by simp));clear hT e4 e7;refine ZF (G:=λ_ w'=>Stp [] w9 w') rfl trivial ((Zb (us:=[.I a]) rfl rfl rfl rfl (by simp;rfl) e5' rfl).mono (λ_ _ h=>Z4d h.1 e5' h.2)) (λ_ _ h=>h.mn) ?_;intro _ w10 hT;replace e4':=e4'.up hT;replace e5':=e5'.up hT;replace e6':=e6'.up hT;replace hS:=hS.trans hT;clear hT;refine ZF (G:=λ_ w'=>Stp [] w10 w') rfl trivial ((Zb (us:=[.I c]) rfl rfl rfl rfl (by simp;rfl) e6' rfl).mono (λ_ _ h=>Z4d h.1 e6' h.2)) (λ_ _ h=>h.mn) ?_;intro _ w11 hT;replace e4':=e4'.up hT;replace e5':=e5'.up hT;replace e6':=e6'.up hT;replace hS:=hS.trans hT;clear hT;refine Zdj ?_;refine W ?_;refine ⟨λact ha=>?_⟩;show Leaves _ _ act.tmps _ act.defers .returning _;rw [ha.defers];refine ⟨_,Z6L rfl rfl rfl rfl (ha.vals 4 _ rfl) (ha.vals 5 _ rfl) (ha.vals 6 _ rfl) e4' e5' e6',?_⟩;refine .mk ⟨?_,hS⟩;unfold Z22;rw [hK];rfl
 | ok l=>
   rw [hK] at hr;obtain ⟨tv,rfl,ab⟩:∃ tv,r=.tuple #[tv,.I 0,.I 0]/\ZI 183 w4 w5 tv l:=hr;obtain ⟨hL,-⟩:=Zbf hK (cq _ hK);have cg:SlV (α:=Tkn) [b4,b5,b6,b7] w5 tv l:=ab.slv sg;have go:=hL.pos;have jK:l.length<=1000000:=by have:=hL.len;omega
   refine W ?_;refine SB (us:=[.I 0]) (by simp;rfl) e5 ?_;rintro _ w6 ⟨hT,e5'⟩;replace e4:=e4.ext hT (by simpa using n45);replace e6:=e6.ext hT (by simpa using n56.symm);replace e7:=e7.ext hT (by simpa using n75);replace cg:=cg.ext (X':=[b4,b5,b6,b7]) hT (by simp) (λ_ h=>.inl h);replace hS:=hS.own hT (own3 (by simp));refine W ?_;refine SB (us:=[.I 0]) (by simp;rfl) e6 ?_;rintro _ w7 ⟨aq,e6'⟩;replace e4:=e4.ext aq (by simpa using n46);replace e5':=e5'.ext aq (by simpa using n56);replace e7:=e7.ext aq (by simpa using n76);replace cg:=cg.ext (X':=[b4,b5,b6,b7]) aq (by simp) (λ_ h=>.inl h);replace hS:=hS.own aq (own3 (by simp));clear hT aq e5 e6;refine QO ?_;refine Z9 (Zb8 rfl rfl rfl rfl) rfl ?_;refine ZkD rfl ?_;refine Z4B (Z5l ?_);refine W ?_;obtain ⟨tp,tc,tY⟩:=cg.len;refine Z9 (Z0L (vs:=[(0,tv)]) rfl (by rw [tY];exact λw=>ZnO _ _ _ w)) rfl ?_;refine Z1 (Zp rfl) rfl ?_;rintro _ w8 ⟨bp,rfl,tZ,ep,hT⟩;have l4:=e4.lt;have l5:=e5'.lt;have l6:=e6'.lt;have l7:=e7.lt;have ot:∀ c∈bp :: b4 :: b5 :: b6 :: b7 :: X,c<w8.heap.size:=λc hc=>by
    have h8:=hT.size;have hp:=ep.lt;have h0:=hS.size;simp only [Xb] at hc;rcases hc with rfl|rfl|rfl|rfl|rfl|hc
    exact hp;omega;omega;omega;omega;have:=hX c hc;omega
   have xl:Pd w8 bp tv l 0 0:=⟨by rw [tY];exact ep,cg.ext hT (by simp) (λc hc=>by simp at hc;subst hc;exact .inr tZ),go,jK,by omega⟩
   replace cg:=cg.ext (X':=[bp,b4,b5,b6,b7]) hT (by simp) (λc hc=>by
    rcases Xb.1 hc with rfl|hc
    exact .inr tZ;exact .inl hc)
   replace e4:=e4.up hT;replace e5':=e5'.up hT;replace e6':=e6'.up hT;replace e7:=e7.up hT;replace hS:=hS.trans hT;have gp:w.heap.size<=bp:=by have:=hS.size;omega
   have np4:b4≠bp:=by omega
   have np5:b5≠bp:=by omega
   have np6:b6≠bp:=by omega
   have np7:b7≠bp:=by omega
   clear hT;refine Z9 (Z65 rfl) rfl ?_;refine Z2U ?_;refine Z6A (Z2b ?_);refine Z4B (Z5l ?_);refine Z9 (ZZ rfl) rfl ?_;refine Z9 (ZZ rfl) rfl ?_;have hP:=Zek (bp :: b4 :: b5 :: b6 :: b7 :: X) bp tv l hL m 0 0 (l.length+1) w8 (by omega) (by simp) ot (hS.cell (by simp) hm) xl (by omega);cases hR:Z20 l (l.length+1) [] 0 0 with
   | err a c=>
     rw [hR] at hP;refine ZgY rfl (ZP rfl) hP rfl ?_;intro w9 hT;replace e4:=e4.ext hT (by simpa using np4);replace e5':=e5'.ext hT (by simpa using np5);replace e6':=e6'.ext hT (by simpa using np6);replace e7:=e7.ext hT (by simpa using np7);replace hS:=hS.ow hT;refine Z6A (Z8v ?_);refine ⟨λact ha=>?_⟩;show Leaves _ _ act.tmps _ (act.defers++_) (.panicking _) _;rw [ha.defers];refine Z8Q (f:=158) (by simp) (Zew a c b7 b4 b5 b6 _ _ _ _ w9 e7 e4 e5' e6' rfl rfl n74 n75 n76 n45 n46 n56) ?_;rintro v u' w10 ⟨rfl,e4',e5'',e6'',hT⟩;refine ⟨rfl,_,Z6L rfl rfl rfl rfl (ha.vals 4 _ rfl) (ha.vals 5 _ rfl) (ha.vals 6 _ rfl) e4' e5'' e6'',?_⟩;refine .mk ⟨?_,hS.own hT (own3 (by simp))⟩;unfold Z22;rw [hK];simp only [hR];rfl
   | ok rs i' o'=>
     rw [hR] at hP;refine CL hP ?_;rintro rv w9 ⟨bN,si,hT⟩;replace e4:=e4.ext hT (by simpa using np4);replace e5':=e5'.ext hT (by simpa using np5);replace e6':=e6'.ext hT (by simpa using np6);replace e7:=e7.ext hT (by simpa using np7);replace cg:=cg.ext (X':=[bp,b4,b5,b6,b7]) hT (by simp) (λ_ h=>.inl h);replace hS:=hS.ow hT;obtain ⟨ep',-,j9,-,-⟩:=si;have fc:=Z8W _ _ _ _ _ _ _ hR (by omega) j9;refine Z4 (Zb (us:=[rv]) rfl rfl bN.cells rfl (by simpa using bN.one) e4 rfl) ?_;rintro _ w10 ⟨hT,e4'⟩;replace ep':=ep'.ext hT (by simpa using np4.symm);replace e5':=e5'.ext hT (by simpa using n45.symm);replace e6':=e6'.ext hT (by simpa using n46.symm);replace cg:=cg.ext (X':=[bp,b4,b5,b6,b7]) hT (by simp) (λ_ h=>.inl h);replace bN:=bN.ext (X':=bp :: b4 :: b5 :: b6 :: b7 :: X) hT (by simp) (λ_ h=>.inl h);replace hS:=hS.own hT (own3 (by simp));clear hT;refine Z2U ?_;refine Z6A (Z2b ?_);refine Z4B (Z4B ?_);refine Z9N 12 [] [] [(0,0),(1,0),(2,0),(3,1),(4,0),(5,0),(6,0),(7,1),(8,0),(9,0),(10,1),(11,0)] rfl mixed (by kernel_rfl) (by kernel_rfl) (by kernel_rfl) (λw1 ae=>?_);replace e4':=e4'.up ae;replace e5':=e5'.up ae;replace e6':=e6'.up ae;replace ep':=ep'.up ae;replace cg:=cg.up ae;replace bN:=bN.up ae;replace hS:=hS.trans ae;clear ae;refine D ?_;refine W ?_;refine Z6A (Z2b ?_);rw [Z6n j9] at fc;refine Z8w (by simp [ev,fc];rfl) (ZjW (Z2b (Z4B ?_)));refine Z5l ?_;refine Z9 (Jp rfl rfl e4' rfl) rfl ?_;refine Z4 (G:=λ_ w'=>Stp [] w1 w') ((Zb (us:=[rv]) rfl rfl bN.cells rfl (by simpa using bN.one) e4' rfl).mono (λ_ _ h=>Z4d h.1 e4' h.2)) ?_;intro _ w12 hT;replace e4':=e4'.up hT;replace e5':=e5'.up hT;replace e6':=e6'.up hT;replace bN:=bN.up hT;replace hS:=hS.trans hT;clear hT;refine Z4 (G:=λ_ w'=>Stp [] w12 w') ((Zb (us:=[.I 0]) rfl rfl rfl rfl (by simp;rfl) e5' rfl).mono (λ_ _ h=>Z4d h.1 e5' h.2)) ?_;intro _ w13 hT;replace e4':=e4'.up hT;replace e5':=e5'.up hT;replace e6':=e6'.up hT;replace bN:=bN.up hT;replace hS:=hS.trans hT;clear hT;refine Z4 (G:=λ_ w'=>Stp [] w13 w') ((Zb (us:=[.I 0]) rfl rfl rfl rfl (by simp;rfl) e6' rfl).mono (λ_ _ h=>Z4d h.1 e6' h.2)) ?_;intro _ w14 hT;replace e4':=e4'.up hT;replace e5':=e5'.up hT;replace e6':=e6'.up hT;replace bN:=bN.up hT;replace hS:=hS.trans hT;clear hT;refine Z2U ?_;refine Z6A (Z2b (Zf3 ?_));refine ⟨λact ha=>?_⟩;show Leaves _ _ act.tmps _ (act.defers++_) .returning _;rw [ha.defers];refine Z8Q (f:=158) (by simp) (Zex b7 b4 b5 b6 w14) ?_;rintro v u' w15 ⟨rfl,hT⟩;refine ⟨rfl,_,Z6L rfl rfl rfl rfl (ha.vals 4 _ rfl) (ha.vals 5 _ rfl) (ha.vals 6 _ rfl) (e4'.up hT) (e5'.up hT) (e6'.up hT),?_⟩;have hM:Z22 s=.ok rs:=by
      unfold Z22;rw [hK];simp only [hR]
     rw [hM];exact .mk ⟨⟨rv,rfl,(bN.up hT).ext (Stp.refl [] _) (by simp) (λc hc=>.inl (by simp [hc]))⟩,hS.trans hT⟩
theorem Zha (X:List Nat) (s:Str) (er:Value) (m:Int) (w:World) (hX:∀ c∈X,c<w.heap.size) (cY:Z0I w) (hm:w.cell? ⟨2,0,none⟩=some (.I m)) (eH:w.cell? ⟨8,0,none⟩=some er) (bM:er=.nilIface\/∃ te pe,er=.iface te pe) (hl:s.length<=1000000) (cq:∀ l,Z00 s=.ok l->∀ t∈l,t.text∉Z3u) :
 CC 58 #[str s] w λr w'=>PsV X w' r (Z22 s)/\Stp [] w w':=by
 refine cW1 10 Tryz.func58 ?_;refine W ?_;refine CL (Zh9 X s er m w hX cY hm eH bM hl cq) ?_;rintro r w1 ⟨hr,hS⟩;cases hK:Z22 s with
 | err a c=>
   rw [hK] at hr;have bH:r=.tuple #[.N,.I a,.I c]:=hr;subst bH;refine RT ?_;exact ⟨rfl,hS⟩
 | ok rs=>
   rw [hK] at hr;obtain ⟨rv,rfl,bN⟩:=hr;refine RT ?_;exact ⟨⟨rv,rfl,bN⟩,hS⟩
theorem Z4e (X:List Nat) (s:Str) (rs:List RuleM) (er:Value) (m:Int) (w:World) (hX:∀ b∈X,b<w.heap.size) (hF:SlV [] w Z2x Zf) (cY:Z0I w) (fe:w.cell? ⟨2,0,none⟩=some (.I m)) (eH:w.cell? ⟨8,0,none⟩=some er) (bM:er=.nilIface\/∃ te pe,er=.iface te pe) (hl:s.length<=1000000) (cq:∀ l,Z00 s=.ok l->∀ t∈l,t.text∉Z3u)
 (hp:Z22 s=.ok rs) (h4:rs.length<=100) (lP:∀ r∈rs,Z0r r.rul=0/\ZG r.cond<=1000/\ZG r.due<=1000/\Smp r.cond/\Smp r.due) :
 CC 29 #[str s] w λr w'=>∃ v,r=.tuple #[v,.B true]/\SlV X w' v (rs.map (λr=>crF r.rul))/\Stp [] w w':=by
 refine cW1 40 Tryz.func29 ?_;refine W ?_;refine CL (Zha X s er m w hX cY fe eH bM hl cq) ?_;rintro rv w1 ⟨hr,hS⟩;rw [hp] at hr;obtain ⟨gv,rfl,mc⟩:=hr;have mC:=mc.max;have px:(rs.map RuleM.rul).length=rs.length:=Xt ..;have gW:∀ b∈X,b<w1.heap.size:=λb hb=>Xa (hX b hb) hS.size;refine QO ?_;refine LP (σ:=Nat×Value) (λq=>[(0,str s),(4,gv),(7,q.2),(8,.I (q.1:Int))]) (λq W=>q.1<=rs.length/\Row X W w1.heap.size 62 q.2 ((rs.take q.1).map (λr=>crF r.rul))/\Stp [] w1 W) (λq=>rs.length - q.1) (0,.N) ⟨Xq _,Row.nil,Stp.refl _ _⟩ ?_;rintro ⟨j,ov⟩ y1 ⟨hj,ab,hT⟩;dsimp only at hj ab ⊢;have bq:=λb hb=>ab.ob_le b hb;have fp:SlV X y1 gv (rs.map RuleM.rul):=mc.up hT;by_cases ag:j<rs.length;have bW:j<(rs.map RuleM.rul).length:=by omega
 obtain ⟨hG,fK,kI,cn,bu⟩:=lP _ (Xd ag);have nQ:(rs.map RuleM.rul)[j]=rs[j].rul:=by simp
 have fz:(rs.take (j+1)).map (λr=>crF r.rul)=(rs.take j).map (λr=>crF r.rul)++[crF rs[j].rul]:=by
  rw [Xh ag,XQ];rfl
 have ai:((rs.take j).map (λr=>crF r.rul)).length<=100:=by rw [Xt,Xv];omega
 obtain ⟨ka,kb,lj,jm,iC⟩:=ZjA fp bW;rw [nQ] at lj jm;have ua:=hS.trans hT;refine QO ?_;refine Z9 (Z8e rfl rfl fp bW iC) rfl ?_;rw [nQ];refine CM (ZP rfl) (ZjC _ rs[j].rul _ ⟨ka,kb,rfl,lj.wk (by simp),jm.wk (by simp)⟩ cn bu fK kI (hF.up ua) m (ua.cell (by simp) fe)) ?_;rintro _ y2 ⟨cv,rfl,ca,hU⟩;obtain ⟨k1,d1,rfl,bF,cK⟩:=ca (ob ov++X) (λb hb=>by
  have:=hT.size;rcases Xi.1 hb with h|h
  exact (bq b h).2;have:=gW b h;omega)
 clear ca fp lj jm iC;rw [hG];replace ab:=ab.up hU;replace hT:=hT.trans hU;clear hU;refine W ?_;refine Z1 Z2 rfl ?_;rintro _ y3 ⟨b7,rfl,fb,e7,hU⟩;have cw:=λb hb=>ab.ob_le b hb;replace ab:=ab.ext (X':=b7 :: X) hU (by simp) (λb hb=>by
  rcases Xb.1 hb with rfl|h
  exact .inr fb;exact .inl h)
 have nb7:∀ b∈b7 :: (ob ov++X),b∈ob ov++X\/y2.heap.size<=b:=λb hb=>by
  rcases Xb.1 hb with rfl|h
  exact .inr fb;exact .inl h
 replace bF:=bF.ext hU (by simp) nb7;replace cK:=cK.ext hU (by simp) nb7;have zT:=hT.size;replace hT:=hT.trans hU;clear hU;refine SB (us:=crC (crF rs[j].rul) k1 d1) (Z0q bF cK) e7 ?_;rintro _ y4 ⟨hU,e7⟩;replace ab:=ab.ext (X':=X) hU (λb hb=>by
  simp only [Xk] at hb;subst hb;exact ⟨by simp,λh=>by have:=(cw _ h).2;omega⟩) (λb hb=>.inl (XJ _ hb))
 replace bF:=bF.ext (X':=ob ov++X) hU (by simp) (λb hb=>.inl (XJ _ hb));replace cK:=cK.ext (X':=ob ov++X) hU (by simp) (λb hb=>.inl (XJ _ hb));replace hT:=hT.ow hU;clear hU;have zT4:=hT.size;refine QO ?_;refine APG (X:=X) (base:=w1.heap.size) (crF rs[j].rul) ab (λb hb=>by have:=gW b hb;omega) (by omega) ⟨k1,d1,rfl,bF,cK⟩ (Xg (Xp _ (Nat.succ_le_succ ai)) (by decide)) (by simp only [maxLen];omega) λv1 rv' y5 aC hU gN=>?_
 replace hT:=hT.own hU (λb hb=>.inr (cw b hb).1);refine QO ?_;exact QL (j+1,rv') ⟨ag,by dsimp only;rw [fz];exact aC,hT⟩ (by dsimp only;omega);obtain rfl:j=rs.length:=by omega
 rw [Xo] at ab;refine RT ?_;exact ⟨ov,rfl,ab.slv gW,hS.trans hT⟩
end Go.Proofs.YtipfkbkkndacjaaGreatDoor
