/-
Contracts and plain laws, merged out of own texts.
-/
import Derived.Test.YtipfkbkkndacjaaGreatDoorM5
import Derived.WideLaws
set_option linter.unusedVariables false
set_option linter.unusedSimpArgs false
set_option maxHeartbeats 4000000
set_option maxRecDepth 20000
namespace Go.Eng
open Go
def Z8m (ops:Array Oper) (Lt:List Nat) (i q:Nat) (r1 r2:List (Nat×Nat)):List Nat→Array Bool→Bool
 | [],listed=>Region.ready .any ops listed == [i,q] && J9 ops Lt r1 (listed.setIfInBounds i true) && J9 ops Lt r2 (listed.setIfInBounds q true)
 | j :: p,listed=>(Region.ready .any ops listed).contains j && Region.free .any ops listed j && Z8m ops Lt i q r1 r2 p (listed.setIfInBounds j true)
structure WDF (P:Program) (n:Nat) (ops:Array Oper) (S:List Nat) (Lt:List Nat) (Q:Exit→Act→World→Prop) (i q:Nat) (r1 r2:List (Nat×Nat)) (p:List Nat) (e:Env) (w:World):Prop where
 h:∀ listed:Array Bool,Region.noSelect ops=true→Z8m ops Lt i q r1 r2 p listed=true→∀ a,Has n e a→Z0P P .any ops S (fun j=>Lt.contains j) (fun a w=>Q .normal a w) (p.length+(wt r1+1)) listed a w
section
variable {P:Program} {n:Nat} {Q:Exit→Act→World→Prop} {e:Env} {w:World} {ops:Array Oper} {S:List Nat} {Lt:List Nat}
theorem ZgL {id:Nat} {l:List Oper} (m:Nat) (S:List Nat) (Lt:List Nat) (p:List Nat) (i q:Nat) (r1 r2:List (Nat×Nat)) (hlm:l.length=m) (hm:P.follows .mixedOrders=true) (hs:Region.noSelect l.toArray=true) (hl:Nat.beq (p.length+(wt r1+1)) l.length=true)
 (hB:Z8m l.toArray Lt i q r1 r2 p (Array.replicate m false)=true)
 (h:∀ w',Stp [] w w'→WDF P n l.toArray S Lt Q i q r1 r2 p e w'):WC P n (.region id l.toArray true) Q e w:=by
 subst hlm;refine ⟨fun a ha=>wp_region_any hm ?_⟩;have h1:=(h { w with drawn:=w.drawn+1 } (Stp.drew [] w)).h _ hs hB a ha;have h2:=Z0Q (Q:=Q) (fun a w hz=>hz) _ _ _ _ h1;rw [XK hl] at h2;simpa using h2
theorem Z8n {i q j d:Nat} {r1 r2:List (Nat×Nat)} {p:List Nat} {op:Op} {ty:TypeId} {pos:String} {af:Array Edge} {gd:Option (Nat×Bool)} {v:Value} (hi:ops[j]?=some ⟨some d,op,ty,pos,af,gd⟩) (hg:Zz ops e gd) (hp:∀ w',PR P n ⟨some d,op,ty,pos,af,gd⟩ e w' v) (hdn:Nat.blt d n=true)
 (k:WDF P n ops S Lt Q i q r1 r2 p ((d,v) :: e) w):WDF P n ops S Lt Q i q r1 r2 (j :: p) e w:=by
 refine ⟨fun listed hs hB a ha=>?_⟩;simp only [Z8m,Xm] at hB;obtain ⟨⟨h1,h2⟩,h3⟩:=hB;have hk:=k.h _ hs h3 _ (ha.put (v:=v) hdn);have e1:(j :: p).length+(wt r1+1)=p.length+(wt r1+1)+1:=by simp only [Xe];omega
 rw [e1];exact Z55 (oi:=⟨some d,op,ty,pos,af,gd⟩) (R:=fun _ _=>True) (fun _=>trivial) (fun _ _ _ _ _=>trivial) hi (fun _ _ _ _ _ _ _ _=>trivial) (Region.noSelect_spec hs) _ _ _ _ (Region.free_spec hi h2) (fun _=>trivial) (by simpa using h1) (.inl ⟨Jt ha hg,fun w' _=>(hp w').h a ha⟩) hk
theorem ZkE {i q:Nat} {r1 r2:List (Nat×Nat)} (hw:Nat.beq (wt r1) (wt r2)=true) (h1:WD1 P n ops S Lt Q i r1 e w) (h2:WD1 P n ops S Lt Q q r2 e w):WDF P n ops S Lt Q i q r1 r2 [] e w:=by
 refine ⟨fun listed hs hB a ha=>?_⟩;simp only [Z8m,Xm,beq_iff_eq] at hB;obtain ⟨⟨hr,c1⟩,c2⟩:=hB;have e1:([]:List Nat).length+(wt r1+1)=wt r1+1:=by simp
 rw [e1];refine ⟨fun h0=>absurd (hr ▸ h0) (by simp),fun j hj=>?_⟩;rw [hr] at hj;have hj':j=i∨j=q:=by simpa using hj
 rcases hj' with rfl|rfl
 exact h1.h _ hs c1 a ha;rw [XK hw];exact h2.h _ hs c2 a ha
theorem Z8o {i q j d:Nat} {r1 r2:List (Nat×Nat)} {p:List Nat} {x:Operand} {ty:TypeId} {pos:String} {af:Array Edge} {gd:Option (Nat×Bool)} {v:Value} (hi:ops[j]?=some ⟨some d,.move x,ty,pos,af,gd⟩) (hg:Zz ops e gd) (hx:ev e x=some v) (hdn:Nat.blt d n=true)
 (k:WDF P n ops S Lt Q i q r1 r2 p ((d,v) :: e) w):WDF P n ops S Lt Q i q r1 r2 (j :: p) e w:=Z8n hi hg (fun _=>ZY hx) hdn k
theorem ZcH {i q j d:Nat} {r1 r2:List (Nat×Nat)} {p:List Nat} {x y:Operand} {t u:TypeId} {a b:Int} {ty:TypeId} {pos:String} {af:Array Edge} {gd:Option (Nat×Bool)} (hi:ops[j]?=some ⟨some d,.binOp .rem t x y u,ty,pos,af,gd⟩) (hg:Zz ops e gd) (hx:ev e x=some (.I a)) (hy:ev e y=some (.I b)) (h0:0≤a) (hb:0<b) (hr:I64 a) (hdn:Nat.blt d n=true)
 (k:WDF P n ops S Lt Q i q r1 r2 p ((d,.I (a % b)) :: e) w):WDF P n ops S Lt Q i q r1 r2 (j :: p) e w:=Z8n hi hg (fun _=>Z9S hx hy h0 hb hr) hdn k
theorem ZkF {i q j d:Nat} {r1 r2:List (Nat×Nat)} {p:List Nat} {x y:Operand} {t u:TypeId} {a b:Int} {ty:TypeId} {pos:String} {af:Array Edge} {gd:Option (Nat×Bool)} (hi:ops[j]?=some ⟨some d,.binOp .quo t x y u,ty,pos,af,gd⟩) (hg:Zz ops e gd) (hx:ev e x=some (.I a)) (hy:ev e y=some (.I b)) (h0:0≤a) (hb:0<b) (hr:I64 a) (hdn:Nat.blt d n=true)
 (k:WDF P n ops S Lt Q i q r1 r2 p ((d,.I (a / b)) :: e) w):WDF P n ops S Lt Q i q r1 r2 (j :: p) e w:=Z8n hi hg (fun _=>Z9T hx hy h0 hb hr) hdn k
end
end Go.Eng
namespace Go.Proofs.YtipfkbkkndacjaaGreatDoor
open Go Go.Eng Go.RowKit Go.Proofs
theorem ZgM (z:Int) (w) (hz:I64 z):CC 28 #[.I z] w fun r w'=>(∃ s∈Z1v,r=str s)∧Stp [] w w':=by
 refine cW1 10 Tryz.func28 ?_;refine W ?_;refine Z1 (Z0 (vs:=[(0,str [99,108,97,105,109]),(1,str [97,110,115,119,101,114]),(2,str [109,111,116,105,111,110]),(3,str [111,114,100,101,114]),(4,str [97,112,112,101,97,108]),(5,str [108,97,112,115,101])]) rfl (bS6 _ _ _ _ _ _)) rfl ?_;rintro v w1 hN;have hv:SlV [] w1 v Z1v:=hN.slv (by simp) rfl rfl (by decide);have hS:=Z6.stp hN;clear hN;refine W ?_;refine CM (Zh rfl rfl) (JC z 6 _ (by decide) hz) ?_;rintro _ w2 ⟨rfl,hT⟩;have hr:=Jm (if z<0 then -(z+1) else z) 6 (by decide);generalize (if z<0 then -(z+1) else z) % 6=y at hr ⊢;obtain ⟨q,rfl⟩:∃ q:Nat,y=(q:Int):=⟨y.toNat,by omega⟩
 replace hv:=hv.up hT;have hqn:q<Z1v.length:=by show q<6;omega
 refine RT ?_;exact ⟨⟨_,Xd hqn,rfl⟩,hS.trans hT⟩
theorem Z1e (v:Value) (l:List Int) (k:Nat) (w) (hs:SlV [] w v l) :
 CC 33 #[v,.I (k:Int)] w fun r w'=>SlV [] w r (l.drop k)∧w'=w:=by
 have hmax:=hs.max;refine cW2 11 Tryz.func33 ?_;refine W ?_;have hm:(if (l.length:Int)<(k:Int) then (l.length:Int) else (k:Int))=((min k l.length:Nat):Int):=by split<;>omega
 refine Z4 (Z2N (l:=min k l.length) rfl hs rfl (by omega) (by omega)) rfl ?_;refine W ?_;refine WR ?_;have h:=hs.slc (l:=min k l.length) (r:=l.length) (by omega) (Xn _);rw [Xo] at h;have e:l.drop (min k l.length)=l.drop k:=by
  by_cases hk:k≤l.length;rw [Yad hk];rw [Ybx (by omega),YaU,Yau (by omega)]
 rw [e] at h;exact .mk ⟨h,rfl⟩
structure Z9A (f:Fct):Prop where
 kind:f.kind∈Z1v
 day:739616≤f.day∧f.day≤739655
 by_:0≤f.by_∧f.by_≤2
 to_:0≤f.to_∧f.to_≤2
 amt:-20≤f.amt∧f.amt≤179
theorem Z9A.ok {f:Fct} (h:Z9A f):Z0B f:=⟨by have:=h.day;omega,by have:=h.by_;omega,by have:=h.to_;omega,by have:=h.amt;omega⟩
theorem ZnN (f:Fct) (w):(Instr.build 45 #[(0,.I f.entry),(1,str f.kind),(2,.I f.day),(3,.I f.by_),(4,.I f.to_),(5,.I f.amt)]).run Tryz.prog w=.ok (aG f) w:=by kernel_rfl
theorem ZgN (en z:Int) (w) (hz:I64 z) :
 CC 26 #[.I en,.I z] w fun r w'=>∃ f:Fct,r=aG f∧f.entry=en∧Z9A f∧Stp [] w w':=by
 refine cW2 26 Tryz.func26 ?_;refine W ?_;refine Z1 Z2 rfl ?_;rintro _ w1 ⟨b4,rfl,hb4,k4,hS⟩;refine W ?_;refine CM (Zh rfl rfl) (JC z 100000000 _ (by decide) hz) ?_;rintro _ w2 ⟨rfl,hT⟩;have hr:=Jm (if z<0 then -(z+1) else z) 100000000 (by decide);generalize (if z<0 then -(z+1) else z) % 100000000=y at hr ⊢;replace k4:=k4.up hT;replace hS:=hS.trans hT;clear hT;refine W ?_;refine CM (ZX rfl) (ZgM y _ (by unfold I64;omega)) ?_;rintro _ w3 ⟨⟨s,hs,rfl⟩,hT⟩;replace k4:=k4.up hT;replace hS:=hS.trans hT;clear hT;refine W ?_;have hf:Z9A (⟨en,s,739616+y / 6 % 40,y / 240 % 3,y / 720 % 3,y / 2160 % 200 - 20⟩:Fct):=by
  refine ⟨hs,?_,?_,?_,?_⟩<;>dsimp only<;>omega
 refine Z8 rfl (ZnN (⟨en,s,739616+y / 6 % 40,y / 240 % 3,y / 720 % 3,y / 2160 % 200 - 20⟩:Fct)) rfl ?_;generalize hg:(⟨en,s,739616+y / 6 % 40,y / 240 % 3,y / 720 % 3,y / 2160 % 200 - 20⟩:Fct)=f at hf;have he:f.entry=en:=by rw [← hg]
 refine SA (us:=Z3.enc f) k4 ?_;rintro _ w4 ⟨hT,k4⟩;replace hS:=hS.ow hT;refine W ?_;refine Zk rfl rfl rfl k4 rfl ?_;exact .mk ⟨f,rfl,he,hf,hS⟩
structure Z9B (x:Crr):Prop where
 ext:0≤x.extra∧x.extra≤1000
 tol:0≤x.tol∧x.tol≤1000
theorem Z7f (a b c d:Int) (w):(Instr.buildSlice 23 4 #[(0,.I a),(1,.I b),(2,.I c),(3,.I d)]).run Tryz.prog w=.ok (.slice (some ⟨w.heap.size,0,none⟩) 4 4) (w.alloc (.cells #[.I a,.I b,.I c,.I d] 3)):=by kernel_rfl
theorem Z9C (x:Crr) (w):(Instr.build 143 #[(0,.I x.extra),(1,.I x.tol)]).run Tryz.prog w=.ok (aG x) w:=by kernel_rfl
theorem Z9D (x:Crr) (w):(Instr.buildSlice 26 1 #[(0,aG x)]).run Tryz.prog w=.ok (.slice (some ⟨w.heap.size,0,none⟩) 1 1) (w.alloc (.cells (Z3.enc x).toArray 143)):=by kernel_rfl
theorem ZaY (lv:Value) (l:List Int) (w) (hs:SlV [] w lv l) (hl:∀ a∈l,I64 a) :
 CC 34 #[lv] w fun r w'=>∃ cs:List Crr,1≤cs.length∧cs.length≤4∧(∀ x∈cs,Z9B x)∧ZI 143 w w' r cs:=by
 refine cW1 32 Tryz.func34 ?_;refine W ?_;refine LP (σ:=Nat×Value×List Crr) (fun q=>[(0,lv),(3,q.2.1),(4,.I (q.1:Int))]) (fun q W=>q.1≤4∧q.2.2.length=q.1∧(∀ x∈q.2.2,Z9B x)∧Row [] W w.heap.size 143 q.2.1 q.2.2∧Stp [] w W) (fun q=>4 - q.1) (0,.N,[]) ⟨by decide,rfl,by simp,Row.nil,Stp.refl _ _⟩ ?_;rintro ⟨j,ov,cs⟩ w1 ⟨hj,hlen,hok,hrow,hS⟩;dsimp only at hj hlen hok hrow ⊢;have hob:=fun b hb=>hrow.ob_le b hb;have hs1:=hs.up hS;refine W ?_;refine CM (Js rfl rfl rfl) (J1 [] _ l 0 4 _ (by decide) (by unfold I64;omega) hs1 hl) ?_;rintro _ w2 ⟨q,rfl,hq,hT⟩;replace hrow:=hrow.up hT;replace hs1:=hs1.up hT;replace hS:=hS.trans hT;clear hT;by_cases hlt:(j:Int)≤(q:Int);refine QO ?_;refine CM (Js rfl rfl rfl) (J1 [] _ l (1+(j:Int)) 1000 _ (by decide) (by unfold I64;omega) hs1 hl) ?_;rintro _ w3 ⟨x,rfl,hx,hT⟩;replace hrow:=hrow.up hT;replace hs1:=hs1.up hT;replace hS:=hS.trans hT;clear hT;refine W ?_;refine ZgL 16 (ob ov) [] [0,2,3,7,8,9] 1 6 [(4,0),(5,1),(6,2),(10,0),(11,1),(12,0),(13,2),(14,2),(15,0)] [(10,0),(11,1),(1,2),(4,0),(5,1),(12,0),(13,2),(14,2),(15,0)] rfl mixed (by kernel_rfl) (by kernel_rfl) (by kernel_rfl) (fun w1 hS1=>?_);replace hrow:=hrow.up hS1;replace hS:=hS.trans hS1;clear hS1;have za:=hS.size;refine Z8o rfl trivial rfl rfl ?_;refine Z8o rfl trivial rfl rfl ?_;refine ZcH rfl trivial rfl rfl (by omega) (by decide) (by unfold I64;omega) rfl ?_;refine Z8o rfl trivial rfl rfl ?_;refine ZkF rfl trivial rfl rfl (by omega) (by decide) (by unfold I64;omega) rfl ?_;refine ZcH rfl trivial rfl rfl (by omega) (by decide) (by unfold I64;omega) rfl ?_;obtain ⟨k1,hk1,hq1⟩:∃ k:Nat,(x:Int) % 4=(k:Int)∧k<([0,3,5,2]:List Int).length:=⟨x % 4,by omega,YbB _ (by decide)⟩
 obtain ⟨k2,hk2,hq2⟩:∃ k:Nat,(x:Int) / 4 % 4=(k:Int)∧k<([0,0,1,2]:List Int).length:=⟨x / 4 % 4,by omega,YbB _ (by decide)⟩
 rw [hk1,hk2];apply ZkE rfl;refine Z48 rfl trivial (Z0 (vs:=[(0,.I 0),(1,.I 3),(2,.I 5),(3,.I 2)]) rfl (Z7f _ _ _ _)) (fun _ _ h=>(Z6.stp h).mn) rfl ?_;rintro va wa hN;have hva:SlV (ob ov) wa va ([0,3,5,2]:List Int):=hN.slv (fun b hb=>(hrow.ob_le b hb).2) rfl rfl (by simp [maxLen]);have hT:=Z6.stp hN;clear hN;replace hrow:=hrow.up hT;replace hS:=hS.trans hT;clear hT;refine QD ?_;refine Zc rfl trivial (Z0 (vs:=[(0,.I 0),(1,.I 0),(2,.I 1),(3,.I 2)]) rfl (Z7f _ _ _ _)) (fun _ _ h=>(Z6.stp h).mn) rfl ?_;rintro vb wb hN;have hvb:SlV (ob ov) wb vb ([0,0,1,2]:List Int):=hN.slv (fun b hb=>(hrow.ob_le b hb).2) rfl rfl (by simp [maxLen]);have hT:=Z6.stp hN;clear hN;replace hrow:=hrow.up hT;replace hva:=hva.up hT;replace hS:=hS.trans hT;clear hT;refine QD ?_;have hy:Z9B (⟨([0,3,5,2]:List Int)[k1]'hq1,([0,0,1,2]:List Int)[k2]'hq2⟩:Crr):=by
  constructor;have:=Xd hq1;dsimp only;generalize ([0,3,5,2]:List Int)[k1]'hq1=A at this ⊢;simp only [Xb,Xj,or_false] at this;omega;have:=Xd hq2;dsimp only;generalize ([0,0,1,2]:List Int)[k2]'hq2=A at this ⊢;simp only [Xb,Xj,or_false] at this;omega
 refine ZA rfl trivial (fun w'=>Z0H rfl (fun w=>Z9C (⟨([0,3,5,2]:List Int)[k1]'hq1,([0,0,1,2]:List Int)[k2]'hq2⟩:Crr) w)) rfl ?_;generalize (⟨([0,3,5,2]:List Int)[k1]'hq1,([0,0,1,2]:List Int)[k2]'hq2⟩:Crr)=y at hy ⊢;refine Zc rfl trivial (Z0 rfl (Z9D y)) (fun _ _ h=>(Z6.stp h).mn) rfl ?_;rintro vs wd hN;have hys:SlV (ob ov++[]) wd vs [y]:=hN.slv (fun b hb=>(hrow.ob_le b (by simpa using hb)).2) rfl (by simp) (by simp [maxLen]);have hT:=Z6.stp hN;clear hN;replace hrow:=hrow.up hT;replace hS:=hS.trans hT;clear hT;have zd:=hS.size;refine Zc rfl trivial (ZW (α:=Crr) (X:=[]) (base:=w.heap.size) rfl (by decide) rfl rfl hrow hys (Xg (Xp _ (show cs.length+[y].length≤10 by simp;omega)) (by decide)) (by simp [maxLen];omega) (by omega)) (fun _ _ h=>h.2.1) rfl ?_;rintro ov' we ⟨hr3,hT3,hob3⟩;refine QD ?_;refine W ?_;exact QL (j+1,ov',cs++[y]) ⟨by dsimp only;omega,by simp [hlen],fun z hz=>by
  rcases Xh.1 hz with h|h
  exact hok z h;simp only [Xl] at h;subst h;exact hy,hr3,hS.own hT3 (fun b hb=>.inr (hrow.ob_le b hb).1)⟩ (by dsimp only;omega)
 refine Z48 rfl trivial (Z0 (vs:=[(0,.I 0),(1,.I 0),(2,.I 1),(3,.I 2)]) rfl (Z7f _ _ _ _)) (fun _ _ h=>(Z6.stp h).mn) rfl ?_;rintro vb wb hN;have hvb:SlV (ob ov) wb vb ([0,0,1,2]:List Int):=hN.slv (fun b hb=>(hrow.ob_le b hb).2) rfl rfl (by simp [maxLen]);have hT:=Z6.stp hN;clear hN;replace hrow:=hrow.up hT;replace hS:=hS.trans hT;clear hT;refine QD ?_;refine Zc rfl trivial (Z0 (vs:=[(0,.I 0),(1,.I 3),(2,.I 5),(3,.I 2)]) rfl (Z7f _ _ _ _)) (fun _ _ h=>(Z6.stp h).mn) rfl ?_;rintro va wa hN;have hva:SlV (ob ov) wa va ([0,3,5,2]:List Int):=hN.slv (fun b hb=>(hrow.ob_le b hb).2) rfl rfl (by simp [maxLen]);have hT:=Z6.stp hN;clear hN;replace hrow:=hrow.up hT;replace hvb:=hvb.up hT;replace hS:=hS.trans hT;clear hT;refine QD ?_;have hy:Z9B (⟨([0,3,5,2]:List Int)[k1]'hq1,([0,0,1,2]:List Int)[k2]'hq2⟩:Crr):=by
  constructor;have:=Xd hq1;dsimp only;generalize ([0,3,5,2]:List Int)[k1]'hq1=A at this ⊢;simp only [Xb,Xj,or_false] at this;omega;have:=Xd hq2;dsimp only;generalize ([0,0,1,2]:List Int)[k2]'hq2=A at this ⊢;simp only [Xb,Xj,or_false] at this;omega
 refine ZA rfl trivial (fun w'=>Z0H rfl (fun w=>Z9C (⟨([0,3,5,2]:List Int)[k1]'hq1,([0,0,1,2]:List Int)[k2]'hq2⟩:Crr) w)) rfl ?_;generalize (⟨([0,3,5,2]:List Int)[k1]'hq1,([0,0,1,2]:List Int)[k2]'hq2⟩:Crr)=y at hy ⊢;refine Zc rfl trivial (Z0 rfl (Z9D y)) (fun _ _ h=>(Z6.stp h).mn) rfl ?_;rintro vs wd hN;have hys:SlV (ob ov++[]) wd vs [y]:=hN.slv (fun b hb=>(hrow.ob_le b (by simpa using hb)).2) rfl (by simp) (by simp [maxLen]);have hT:=Z6.stp hN;clear hN;replace hrow:=hrow.up hT;replace hS:=hS.trans hT;clear hT;have zd:=hS.size;refine Zc rfl trivial (ZW (α:=Crr) (X:=[]) (base:=w.heap.size) rfl (by decide) rfl rfl hrow hys (Xg (Xp _ (show cs.length+[y].length≤10 by simp;omega)) (by decide)) (by simp [maxLen];omega) (by omega)) (fun _ _ h=>h.2.1) rfl ?_;rintro ov' we ⟨hr3,hT3,hob3⟩;refine QD ?_;refine W ?_;exact QL (j+1,ov',cs++[y]) ⟨by dsimp only;omega,by simp [hlen],fun z hz=>by
  rcases Xh.1 hz with h|h
  exact hok z h;simp only [Xl] at h;subst h;exact hy,hr3,hS.own hT3 (fun b hb=>.inr (hrow.ob_le b hb).1)⟩ (by dsimp only;omega)
 · refine QO ?_
   all_goals
    refine RU ?_;exact ⟨cs,by omega,by omega,hok,hrow,hS⟩
theorem ZgO (x:Spn) (w):(Instr.buildSlice 27 1 #[(0,aG x)]).run Tryz.prog w=.ok (.slice (some ⟨w.heap.size,0,none⟩) 1 1) (w.alloc (.cells (Z3.enc x).toArray 75)):=by kernel_rfl
structure Zfa (x:Spn):Prop where
 lo:0≤x.1
 le:x.1≤x.2
 hi:x.2≤3652058
theorem ZcI (lv:Value) (l:List Int) (w) (hs:SlV [] w lv l) (hl:∀ a∈l,I64 a) (h4:l.length≤4) :
 CC 38 #[lv,.I 739616] w fun r w'=>∃ xs:List Spn,xs.length≤2∧(∀ x∈xs,Zfa x)∧ZI 75 w w' r xs:=by
 refine cW2 44 Tryz.func38 ?_;refine W ?_;refine LP (σ:=Nat×Value×List Spn) (fun q=>[(0,lv),(1,.I 739616),(5,q.2.1),(6,.I ((2 * q.1:Nat):Int))]) (fun q W=>q.1≤2∧q.2.2.length=q.1∧(∀ x∈q.2.2,Zfa x)∧Row [] W w.heap.size 75 q.2.1 q.2.2∧Stp [] w W) (fun q=>4 - q.1) (0,.N,[]) ⟨by decide,rfl,by simp,Row.nil,Stp.refl _ _⟩ ?_;rintro ⟨j,ov,xs⟩ w1 ⟨hj,hlen,hok,hrow,hS⟩;dsimp only at hj hlen hok hrow ⊢;have hob:=fun b hb=>hrow.ob_le b hb;have hs1:=hs.up hS;by_cases hlt:2 * j+1<l.length;have hlt0:2 * j<l.length:=by omega
 refine QO ?_;have hy0:=hl _ (Xd hlt0);have hy1:=hl _ (Xd hlt);refine CM (Zh rfl rfl) (JC (l[2 * j]'hlt0) 80 _ (by decide) hy0) ?_;rintro _ w2 ⟨rfl,hT⟩;have hr:=Jm (if l[2 * j]<0 then -(l[2 * j]+1) else l[2 * j]) 80 (by decide);generalize (if l[2 * j]<0 then -(l[2 * j]+1) else l[2 * j]) % 80=y at hr ⊢;replace hrow:=hrow.up hT;replace hs1:=hs1.up hT;replace hS:=hS.trans hT;clear hT;refine QO ?_;have hix:2 * j+1<l.length:=hlt;refine CM (Zh rfl rfl) (JC (l[2 * j+1]'hlt) 15 _ (by decide) hy1) ?_;rintro _ w3 ⟨rfl,hT⟩;have hr2:=Jm (if l[2 * j+1]<0 then -(l[2 * j+1]+1) else l[2 * j+1]) 15 (by decide);generalize (if l[2 * j+1]<0 then -(l[2 * j+1]+1) else l[2 * j+1]) % 15=z at hr2 ⊢;replace hrow:=hrow.up hT;replace hs1:=hs1.up hT;replace hS:=hS.trans hT;clear hT;refine QO ?_;obtain ⟨f0,hf0⟩:∃ f0:Int,max 0 (min 3652058 (739616 - 20+y))=f0:=⟨_,rfl⟩
 obtain ⟨f1,hf1⟩:∃ f1:Int,min 3652058 (f0+z)=f1:=⟨_,rfl⟩
 rw [hf0,hf1];have hst:Zfa (f0,f1):=by constructor<;>dsimp only<;>omega
 refine Z8 (vs:=[(0,.I f0),(1,.I f1)]) rfl (Z8h _ _) rfl ?_;have zS:=hS.size;refine APG ((f0,f1):Spn) hrow (by simp) (by omega) rfl (Xg (Xp _ (show xs.length+1≤10 by omega)) (by decide)) (by simp [maxLen];omega) (fun v1 ov' w4 hr3 hT3 hob3=>?_);refine QO ?_;exact ZD (j+1,ov',xs++[(f0,f1)]) ⟨rfl,rfl,rfl,rfl,trivial⟩ ⟨by dsimp only;omega,by simp [hlen],fun z hz=>by
  rcases Xh.1 hz with h|h
  exact hok z h;simp only [Xl] at h;subst h;exact hst,hr3,hS.own hT3 (fun b hb=>.inr (hob b hb).1)⟩ (by dsimp only;omega)
 · refine QO ?_
   all_goals
    refine RU ?_;exact ⟨xs,by omega,hok,hrow,hS⟩
structure Zfb (n:Nat) (r:Rtn):Prop where
 crr:0≤r.crr∧r.crr<n
 lo:0≤r.lo∧r.lo≤3652058
 hi:0≤r.hi∧r.hi≤3652058
 kind:(r.kind=1∧r.lo≤r.hi)∨(r.kind=2∧r.lo=0)∨(r.kind=3∧r.lo=0∧r.hi=0)
theorem Zfc (w):(Instr.buildSlice 23 8 #[(0,.I 1),(1,.I 1),(2,.I 1),(3,.I 1),(4,.I 2),(5,.I 2),(6,.I 3),(7,.I 1)]).run Tryz.prog w=.ok (.slice (some ⟨w.heap.size,0,none⟩) 8 8) (w.alloc (.cells #[.I 1,.I 1,.I 1,.I 1,.I 2,.I 2,.I 3,.I 1] 3)):=by kernel_rfl
theorem Zfd (a k:Int) (w):(Instr.build 80 #[(0,.I a),(1,.I k)]).run Tryz.prog w=.ok (aG (⟨a,k,0,0⟩:Rtn)) w:=by kernel_rfl
def K8:List Int:=[1,1,1,1,2,2,3,1]
theorem ZtQ {k:Nat} (h:k<K8.length):K8[k]=1∨K8[k]=2∨K8[k]=3:=by
 have:=Xd h;generalize K8[k]=z at this ⊢;simp only [K8,Xb,Xj,or_false] at this;omega
theorem ZcJ (lv cv:Value) (l:List Int) (cs:List Crr) (day:Int) (w) (hs:SlV [] w lv l) (hl:∀ a∈l,I64 a) (h3:l.length≤3) (hcv:SlV [] w cv cs) (hc:1≤cs.length∧cs.length≤4) (hd:739616≤day∧day≤739655) :
 CC 39 #[lv,cv,.I day] w fun r w'=>∃ xs:List Rtn,xs.length≤3∧(∀ x∈xs,Zfb cs.length x)∧ZI 80 w w' r xs:=by
 refine cW3 69 Tryz.func39 ?_;refine W ?_;refine LP (σ:=Nat×Value×List Rtn) (fun q=>[(0,lv),(1,cv),(2,.I day),(7,q.2.1),(8,.I (q.1:Int))]) (fun q W=>q.1≤3∧q.2.2.length=q.1∧(∀ x∈q.2.2,Zfb cs.length x)∧Row [] W w.heap.size 80 q.2.1 q.2.2∧Stp [] w W) (fun q=>4 - q.1) (0,.N,[]) ⟨by decide,rfl,by simp,Row.nil,Stp.refl _ _⟩ ?_;rintro ⟨j,ov,xs⟩ w1 ⟨hj,hlen,hok,hrow,hS⟩;dsimp only at hj hlen hok hrow ⊢;have hob:=fun b hb=>hrow.ob_le b hb;have hs1:=hs.up hS;have hc1:=hcv.up hS;by_cases hlt:j<l.length;refine QO ?_;have hy0:=hl _ (Xd hlt);refine CM (Zh rfl rfl) (JC (l[j]'hlt) 1000000 _ (by decide) hy0) ?_;rintro _ w2 ⟨rfl,hT⟩;have hr:=Jm (if l[j]<0 then -(l[j]+1) else l[j]) 1000000 (by decide);generalize (if l[j]<0 then -(l[j]+1) else l[j]) % 1000000=y at hr ⊢;replace hrow:=hrow.up hT;replace hc1:=hc1.up hT;replace hS:=hS.trans hT;clear hT hs1;refine W ?_;have zS:=hS.size
 refine JA (σ:=Nat×Int×Int) (fun q=>[(0,lv),(1,cv),(2,.I day),(7,ov),(8,.I (j:Int)),(9,.I y),(10,.pointer (some ⟨q.1,0,none⟩))])
  (fun q w'=>w2.heap.size≤q.1∧Stp [] w2 w'∧(0≤q.2.1∧q.2.1<cs.length)∧(q.2.2=1∨q.2.2=2∨q.2.2=3)∧Blk w' q.1 80 (Z3.enc (⟨q.2.1,q.2.2,0,0⟩:Rtn))) ?_ ?_
 refine ZDr 14 [] [13] [(0,0),(1,0),(2,0),(3,0),(4,0),(6,0),(7,0),(8,0),(5,15),(9,0),(10,1),(11,0),(12,2),(13,2)] (fun w1 hS1=>?_);have hB:=hS1;have hca:=hc1.up hS1;clear hS1;obtain ⟨k1,hk1,hq1⟩:∃ k:Nat,y / 4 % 8=(k:Int)∧k<K8.length:=⟨(y / 4 % 8).toNat,by omega,by simp only [K8,Xe,Xf];omega⟩
 obtain ⟨a0,hq0⟩:∃ a0:Int,y % max 1 (cs.length:Int)=a0:=⟨_,rfl⟩
 have ha0:0≤a0∧a0<cs.length:=by
  have h1:=Ya0 y (show max 1 (cs.length:Int)≠0 by omega);have h2:=YaN y (show 0<max 1 (cs.length:Int) by omega);omega
 have hK:=ZtQ hq1;refine QD ?_;rw [hk1,hq0];apply Ziv rfl;refine Z48 rfl trivial (Z0 rfl Zfc) (fun _ _ h=>Z6.stp h) rfl ?_;rintro va wa hN;have hva:SlV [] wa va K8:=hN.slv (by simp) rfl rfl (by simp [maxLen,K8]);have hT:=Z6.stp hN;clear hN;replace hB:=hB.trans hT;clear hT;refine QD ?_;refine ZA rfl trivial (fun w'=>Z0H rfl (fun w=>Zfd a0 (K8[k1]'hq1) w)) rfl ?_;focus repeat'(first|refine D1 ?_|omega|refine Zy rfl rfl rfl rfl (fun hg=>?_) (fun hg=>?_)|(refine Zr rfl rfl rfl rfl (fun hg=>?_) (fun hg=>?_)<;>refine D1 ?_)|fail)
 have zB:=hB.size;refine Zc rfl trivial Z2 (fun _ _ h=>h.choose_spec.2.2.2) rfl ?_;rintro _ wb ⟨b,rfl,hb,e3,hT⟩;have gb:w2.heap.size≤b:=by omega
 replace hB:=hB.trans hT;replace hva:=hva.up hT;clear hT;focus repeat'(first|refine D1 ?_|omega|refine Zy rfl rfl rfl rfl (fun hg=>?_) (fun hg=>?_)|(refine Zr rfl rfl rfl rfl (fun hg=>?_) (fun hg=>?_)<;>refine D1 ?_)|fail)
 refine Jy rfl trivial (Z9 (us:=Z3.enc (⟨a0,K8[k1]'hq1,0,0⟩:Rtn)) rfl rfl rfl rfl (Z3.one _) e3 rfl) rfl ?_;rintro _ wc ⟨hT2,e3⟩;refine QD ?_;exact QT (b,a0,K8[k1]'hq1) ⟨gb,hB.ow hT2,ha0,hK,e3⟩;have zB:=hB.size;refine Z48 rfl trivial Z2 (fun _ _ h=>h.choose_spec.2.2.2) rfl ?_;rintro _ wb ⟨b,rfl,hb,e3,hT⟩;have gb:w2.heap.size≤b:=by omega
 replace hB:=hB.trans hT;clear hT;focus repeat'(first|refine D1 ?_|omega|refine Zy rfl rfl rfl rfl (fun hg=>?_) (fun hg=>?_)|(refine Zr rfl rfl rfl rfl (fun hg=>?_) (fun hg=>?_)<;>refine D1 ?_)|fail)
 refine Zc rfl trivial (Z0 rfl Zfc) (fun _ _ h=>Z6.stp h) rfl ?_;rintro va wa hN;have hva:SlV [] wa va K8:=hN.slv (by simp) rfl rfl (by simp [maxLen,K8]);have hT:=Z6.stp hN;clear hN;replace hB:=hB.trans hT;replace e3:=e3.up hT;clear hT;refine QD ?_;refine ZA rfl trivial (fun w'=>Z0H rfl (fun w=>Zfd a0 (K8[k1]'hq1) w)) rfl ?_;focus repeat'(first|refine D1 ?_|omega|refine Zy rfl rfl rfl rfl (fun hg=>?_) (fun hg=>?_)|(refine Zr rfl rfl rfl rfl (fun hg=>?_) (fun hg=>?_)<;>refine D1 ?_)|fail)
 refine Jy rfl trivial (Z9 (us:=Z3.enc (⟨a0,K8[k1]'hq1,0,0⟩:Rtn)) rfl rfl rfl rfl (Z3.one _) e3 rfl) rfl ?_;rintro _ wc ⟨hT2,e3⟩;refine QD ?_;exact QT (b,a0,K8[k1]'hq1) ⟨gb,hB.ow hT2,ha0,hK,e3⟩;rintro ⟨b,a,k⟩ w3 ⟨hb,hT,ha,hk,e3⟩;dsimp only at hb ha hk e3 ⊢;rcases hk with rfl|rfl|rfl
 refine QO ?_;have hf0r:0≤(max 0 (min 3652058 (day - 3+y / 32 % 40)))∧(max 0 (min 3652058 (day - 3+y / 32 % 40)))≤3652058:=by omega
 generalize (max 0 (min 3652058 (day - 3+y / 32 % 40)))=f0 at hf0r ⊢;refine Z5 (Za (u:=.I f0) rfl rfl rfl rfl e3 (show (2:Nat)<4 by decide)) ?_;rintro _ w4 ⟨hT2,e3⟩;replace e3:Blk w4 b 80 (Z3.enc (⟨a,1,f0,0⟩:Rtn)):=e3;replace hT:=hT.ow hT2;clear hT2;refine QO ?_;have hf1r:f0≤min 3652058 (f0+y / 1280 % 5)∧min 3652058 (f0+y / 1280 % 5)≤3652058:=by omega
 generalize min 3652058 (f0+y / 1280 % 5)=f1 at hf1r ⊢;refine Z5 (Za (u:=.I f1) rfl rfl rfl rfl e3 (show (3:Nat)<4 by decide)) ?_;rintro _ w5 ⟨hT2,e3⟩;replace e3:Blk w5 b 80 (Z3.enc (⟨a,1,f0,f1⟩:Rtn)):=e3;replace hT:=hT.ow hT2;clear hT2;have z4:=hT.size;have hrow4:=hrow.up hT;have hS4:=hS.trans hT;have zS4:=hS4.size;refine QO ?_;refine APG (⟨a,1,f0,f1⟩:Rtn) hrow4 (by simp) (by omega) rfl (Xg (Xp _ (show xs.length+1≤10 by omega)) (by decide)) (by simp [maxLen];omega) (fun v1 ov' w4 hr3 hT3 hob3=>?_);refine QO ?_;exact QL (j+1,ov',xs++[⟨a,1,f0,f1⟩]) ⟨by dsimp only;omega,by simp [hlen],fun z hz=>by
  rcases Xh.1 hz with h|h
  exact hok z h;simp only [Xl] at h;subst h;constructor<;>dsimp only<;>omega,hr3,hS4.own hT3 (fun b hb=>.inr (hrow4.ob_le b hb).1)⟩ (by dsimp only;omega)
 refine QO ?_;have hf0r:0≤(max 0 (min 3652058 (day - 3+y / 32 % 40)))∧(max 0 (min 3652058 (day - 3+y / 32 % 40)))≤3652058:=by omega
 generalize (max 0 (min 3652058 (day - 3+y / 32 % 40)))=f0 at hf0r ⊢;refine Z5 (Za (u:=.I f0) rfl rfl rfl rfl e3 (show (3:Nat)<4 by decide)) ?_;rintro _ w4 ⟨hT2,e3⟩;replace e3:Blk w4 b 80 (Z3.enc (⟨a,2,0,f0⟩:Rtn)):=e3;replace hT:=hT.ow hT2;clear hT2;have z4:=hT.size;have hrow4:=hrow.up hT;have hS4:=hS.trans hT;have zS4:=hS4.size;refine QO ?_;refine APG (⟨a,2,0,f0⟩:Rtn) hrow4 (by simp) (by omega) rfl (Xg (Xp _ (show xs.length+1≤10 by omega)) (by decide)) (by simp [maxLen];omega) (fun v1 ov' w4 hr3 hT3 hob3=>?_);refine QO ?_;exact QL (j+1,ov',xs++[⟨a,2,0,f0⟩]) ⟨by dsimp only;omega,by simp [hlen],fun z hz=>by
  rcases Xh.1 hz with h|h
  exact hok z h;simp only [Xl] at h;subst h;constructor<;>dsimp only<;>omega,hr3,hS4.own hT3 (fun b hb=>.inr (hrow4.ob_le b hb).1)⟩ (by dsimp only;omega)
 have z4:=hT.size;have hrow4:=hrow.up hT;have hS4:=hS.trans hT;have zS4:=hS4.size;refine QO ?_;refine APG (⟨a,3,0,0⟩:Rtn) hrow4 (by simp) (by omega) rfl (Xg (Xp _ (show xs.length+1≤10 by omega)) (by decide)) (by simp [maxLen];omega) (fun v1 ov' w4 hr3 hT3 hob3=>?_);refine QO ?_;exact QL (j+1,ov',xs++[⟨a,3,0,0⟩]) ⟨by dsimp only;omega,by simp [hlen],fun z hz=>by
  rcases Xh.1 hz with h|h
  exact hok z h;simp only [Xl] at h;subst h;constructor<;>dsimp only<;>omega,hr3,hS4.own hT3 (fun b hb=>.inr (hrow4.ob_le b hb).1)⟩ (by dsimp only;omega)
 · refine QO ?_
   all_goals
    refine RU ?_;exact ⟨xs,by omega,hok,hrow,hS⟩
theorem Z3e (z:Int) (m:Int) (w) (hm:0<m) (hz:I64 z):CC 102 #[.I z,.I m] w fun r w'=>r=.I ((if z<0 then -(z+1) else z) % m)∧Stp [] w w':=by
 unfold I64 at hz;refine cW2 13 Tryz.func102 ?_;by_cases h:z<0;refine RT ?_;exact ⟨by rw [if_pos h],Stp.refl _ _⟩;refine RT ?_;exact ⟨by rw [if_neg h],Stp.refl _ _⟩
theorem Ze9 (X:List Nat) (v:Value) (l:List Int) (i m:Int) (w) (hm:0<m) (hi:I64 i) (hs:SlV X w v l) (hl:∀ a∈l,I64 a):CC 101 #[v,.I i,.I m] w fun r w'=>∃ q:Nat,r=.I (q:Int)∧(q:Int)<m∧Stp [] w w':=by
 unfold I64 at hi;have hmax:=hs.max;refine cW3 21 Tryz.func101 ?_;refine W ?_;by_cases hgo:0≤i∧i<l.length;obtain ⟨h0,h1⟩:=hgo;obtain ⟨k,rfl⟩:∃ k:Nat,i=(k:Int):=⟨i.toNat,by omega⟩
 have hk:k<l.length:=by omega
 refine QO ?_;refine CL (Z3e _ m _ hm (hl _ (Xd hk))) ?_;rintro _ w2 ⟨rfl,hS⟩;refine W ?_;refine WR ?_;have:=Jm (if l[k]<0 then -(l[k]+1) else l[k]) m hm;exact .mk ⟨_,by rw [YaW this.1],by rw [YaW this.1];exact this.2,hS⟩
 · repeat'(first|refine W1 ?_|omega|refine VG ?_ ?_<;>intro hg|refine VC ?_ ?_<;>intro hc)
   all_goals first
    | (refine RU ?_
       exact ⟨0,rfl,by simpa using hm,Stp.refl _ _⟩)
theorem ZnO (a:Int) (w):(Instr.build 33 #[(0,.I a)]).run Tryz.prog w=.ok (.agg #[.I a,.N]) w:=by kernel_rfl
theorem ZnP (a b:Int) (w):(Instr.build 141 #[(0,.I a),(1,.I b)]).run Tryz.prog w=.ok (agg ((a,b):Spn)) w:=by kernel_rfl
theorem ZkG (d:Spn) (w):(Instr.buildSlice 31 1 #[(0,agg d)]).run Tryz.prog w=.ok (.slice (some ⟨w.heap.size,0,none⟩) 1 1) (w.alloc (.cells (Z3.enc d).toArray 141)):=by kernel_rfl
def ZcK (x:Spn):Prop:=0≤x.1∧x.1≤2000000
theorem Z8p (v:Value) (l:List Int) (w) (hs:SlV [] w v l) (hl:∀ a∈l,I64 a) :
 CC 64 #[v] w fun r w'=>∃ (o:Int) (zs:Value) (xs:List Spn),r=.agg #[.I o,zs]∧(∀ x∈xs,ZcK x)∧xs.length≤100∧ZI 141 w w' zs xs:=by
 have hmax:=hs.max;refine cW1 45 Tryz.func64 ?_;refine W ?_;refine Z1 Z2 rfl ?_;rintro _ w1 ⟨b2,rfl,hb2,k2,hS⟩;refine W ?_;refine CM (Js rfl rfl rfl) (Ze9 [] _ l 0 1801 _ (by decide) (by unfold I64;omega) (hs.up hS) hl) ?_;rintro _ w2 ⟨q0,rfl,hq0,hS2⟩;replace k2:=k2.up hS2;replace hS:=hS.trans hS2;clear hS2;refine W ?_;refine Z8 (vs:=[(0,.I ((q0:Int) - 900))]) rfl (ZnO _) rfl ?_;have k2lt:=k2.lt;refine Z1 Z2 rfl ?_;rintro _ w3 ⟨b3,rfl,hb3,k3,hS3⟩;replace k2:=k2.up hS3;replace hS:=hS.trans hS3;clear hS3;refine W ?_;have n23:b2≠b3:=by omega
 refine SB (us:=[.I ((q0:Int) - 900),.N]) (by simp [Value.oneCell']) k3 ?_;rintro _ w4 ⟨hS4,k3⟩;replace k2:=k2.ext hS4 (by simpa using n23);replace hS:=hS.ow hS4;clear hS4;have hsz:=hS.size;have k3lt:=k3.lt;have k2lt':=k2.lt;refine W ?_;refine Z0l (σ:=Value×List Spn) (fun q=>[(2,pQ b2),(3,pQ b3)]) (fun q w'=>Blk w' b2 33 (.agg #[.I 0,.N]:Value).cells.toList∧Blk w' b3 33 [.I ((q0:Int) - 900),q.1]∧Row [] w' w4.heap.size 141 q.1 q.2∧q.2.length≤42∧(∀ x∈q.2,ZcK x)∧Stp [b3] w4 w') ?_ ?_
 refine Zu (σ:=Nat×Int×Value×List Spn) (fun q=>[(0,v),(2,pQ b2),(3,pQ b3),(4,.I q.2.1),(5,.I (q.1:Int))])
  (fun q w'=>(1≤q.1∧q.1≤43∧0≤q.2.1∧q.2.1≤25000 * q.1∧q.2.2.2.length<q.1)∧Blk w' b2 33 (.agg #[.I 0,.N]:Value).cells.toList∧Blk w' b3 33 [.I ((q0:Int) - 900),q.2.2.1]∧Row [] w' w4.heap.size 141 q.2.2.1 q.2.2.2∧(∀ x∈q.2.2.2,ZcK x)∧Stp [b3] w4 w') (fun q=>43 - q.1)
  (1,0,.N,[]) ⟨rfl,rfl,rfl,rfl,rfl,trivial⟩ ⟨⟨by decide,by decide,by decide,by decide,by decide⟩,k2,k3,Row.nil,by simp,Stp.refl _ _⟩ ?_
 rintro ⟨k,at_,zs,xs⟩ w5 ⟨⟨hk1,hk43,ha0,ha1,hxl⟩,k2,k3,hrow,hxs,hS5⟩;dsimp only at hk1 hk43 ha0 ha1 hxl k3 hrow hxs ⊢;have hS05:Stp [] w w5:=hS.ow hS5;have hs0:=hs;replace hs:=hs.up hS05;by_cases hlt:k+1<l.length∧k<41;obtain ⟨hlt,h41⟩:=hlt;have hkl:k<l.length:=by omega
 refine QO ?_;refine CM (Zh rfl rfl) (Z3e _ 20000 _ (by decide) (hl _ (Xd hkl))) ?_;rintro _ w6 ⟨rfl,hS6⟩;have hr:=Jm (if l[k]<0 then -(l[k]+1) else l[k]) 20000 (by decide);generalize (if l[k]<0 then -(l[k]+1) else l[k]) % 20000=m at hr ⊢;refine W ?_;replace k2:=k2.up hS6;replace k3:=k3.up hS6;replace hrow:=hrow.up hS6;replace hs:=hs.up hS6;replace hS5:=hS5.trans hS6.mn;clear hS6 hS05;have n3:b3∉ob zs:=fun h=>by have:=(hrow.ob_le _ h).1;omega
 have n2:b2∉ob zs:=fun h=>by have:=(hrow.ob_le _ h).1;omega
 replace hs:SlV (ob zs) w6 v l:=hs0.ext (X':=ob zs) (hS.ow hS5) (by simp) (fun b hb=>.inr (by have:=(hrow.ob_le b hb).1;omega));refine Z7n 15 (ob zs) [14] [(0,0),(1,1),(2,0),(3,0),(4,0),(5,0),(6,0),(7,1),(8,2),(9,0),(10,0),(11,2),(12,2),(13,0),(14,2)] rfl mixed (by kernel_rfl) (by kernel_rfl) (by kernel_rfl) (fun w1 hS1=>?_);replace k2:=k2.up hS1;replace k3:=k3.up hS1;replace hrow:=hrow.up hS1;replace hs:=hs.up hS1;replace hS5:=hS5.trans hS1.mn;clear hS1;refine D ?_;refine Zc rfl trivial (Zd rfl (Zh rfl rfl) (Z3e _ 1801 _ (by decide) (hl _ (Xd hlt)))) (fun _ _ h=>h.2.mn) rfl ?_;rintro _ w7 ⟨rfl,hS7⟩;have hr2:=Jm (if l[k+1]<0 then -(l[k+1]+1) else l[k+1]) 1801 (by decide);generalize (if l[k+1]<0 then -(l[k+1]+1) else l[k+1]) % 1801=m2 at hr2 ⊢;replace k2:=k2.up hS7;replace k3:=k3.up hS7;replace hrow:=hrow.up hS7;replace hS5:=hS5.trans hS7.mn;clear hS7;refine D ?_;refine ZA rfl trivial (fun w'=>Z0H (vs:=[(0,.I (at_+m)),(1,.I (m2 - 900))]) rfl (ZnP _ _)) rfl ?_;refine D ?_;refine Zc rfl trivial (Z0 (vs:=[(0,agg ((at_+m,m2 - 900):Spn))]) rfl (ZkG _)) (fun _ _ h=>(Z6.stp h).mn) rfl ?_;rintro bv w8 hN;have hbv:SlV (ob zs++[]) w8 bv [((at_+m,m2 - 900):Spn)]:=hN.slv (fun b hb=>(hrow.ob_le b (by simpa using hb)).2) rfl rfl (by simp [maxLen]);have hT:=Z6.stp hN;clear hN;replace k2:=k2.up hT;replace k3:=k3.up hT;replace hrow:=hrow.up hT;replace hS5:=hS5.trans hT.mn;clear hT;have hbase:=hS5.size;have hob:=hrow.ob_le;refine D ?_;refine Zc rfl trivial (ZW (X:=[]) (base:=w4.heap.size) rfl (by decide) rfl rfl hrow hbv (by simp only [Xe,Xf];omega) (by simp only [Xe,Xf,maxLen];omega) hbase) (fun _ _ h=>h.2.1) rfl ?_;rintro zs' w9 ⟨hrow,hT,hob'⟩;replace k2:=k2.ext hT (fun h=>by have:=(hob _ h).1;omega);replace k3:=k3.ext hT (fun h=>by have:=(hob _ h).1;omega);replace hS5:Stp [b3] w4 w9:=hS5.own hT (fun c hc=>.inr (hob c hc).1);clear hT;refine D ?_;refine Jy rfl trivial (Za (u:=zs') rfl rfl (Row.slv (X:=[]) hrow (by simp)).cells (Row.slv (X:=[]) hrow (by simp)).one k3 (by simp)) rfl ?_;rintro _ w10 ⟨hT,k3⟩;replace k3:Blk w10 b3 33 [.I ((q0:Int) - 900),zs']:=k3;replace k2:=k2.ext hT (by simpa using n23);have hob2:=hrow.ob_le;replace hrow:=hrow.keep hT (fun b hb h=>by have:=hob2 _ h;simp at hb;omega);replace hS5:=hS5.trans hT;clear hT;refine D ?_;refine W ?_;refine ZD (k+2,at_+m+2880,zs',xs++[((at_+m,m2 - 900):Spn)]) ⟨rfl,rfl,rfl,rfl,rfl,trivial⟩ ⟨⟨by dsimp only;omega,by dsimp only;omega,by dsimp only;omega,by dsimp only;omega,by dsimp only;rw [Xc];simp only [Xe,Xf];omega⟩,k2,k3,hrow,?_,hS5⟩ (by dsimp only;omega);intro x hx;rcases Xh.1 hx with h|h
 exact hxs x h;rw [Xl.1 h];unfold ZcK;dsimp only;omega
 · repeat'(first|refine W1 ?_|omega|refine VG ?_ ?_<;>intro hg|refine VC ?_ ?_<;>intro hc)
   all_goals exact QT (zs,xs) ⟨k2,k3,hrow,(by dsimp only;omega),hxs,hS5⟩
 rintro ⟨zs,xs⟩ w5 ⟨k2,k3,hrow,hxl,hxs,hS5⟩;dsimp only at k3 hrow hxl hxs ⊢;refine W ?_;have hob:=hrow.ob_le;have hS05:Stp [] w w5:=hS.ow hS5;refine SB (us:=[.I ((q0:Int) - 900),zs]) (by intro u hu;simp at hu;rcases hu with rfl|rfl;exact rfl;exact (Row.slv (X:=[]) hrow (by simp)).one) k2 ?_;rintro _ w6 ⟨hT,k2⟩;replace hrow:=hrow.keep hT (fun b hb h=>by have:=hob _ h;simp at hb;omega);refine W ?_;refine Zk rfl rfl rfl k2 rfl ?_;exact .mk ⟨_,zs,xs,rfl,hxs,by omega,hrow.lower hsz,hS05.ow hT⟩
def cL (b0 b5 b6:Bool) (hv cv zo zs hr:Value):List Value:=[.B b0,.B false,.B false,.B false,.B false,.B b5,.B b6,hv,cv,zo,zs,hr]
theorem ZnQ (w):(Instr.buildSlice 23 4 #[(0,.I 1439),(1,.I 1020),(2,.I 0),(3,.I 720)]).run Tryz.prog w=.ok (.slice (some ⟨w.heap.size,0,none⟩) 4 4) (w.alloc (.cells #[.I 1439,.I 1020,.I 0,.I 720] 3)):=by kernel_rfl
theorem ZnR (h:Int) (w):(Instr.build 35 #[(4,.I h)]).run Tryz.prog w=.ok (.agg (cL false false false (.N) (.N) (.I 0) (.N) (.I h)).toArray) w:=by kernel_rfl
theorem ZtR (a b c:Int) (w):(Instr.build 138 #[(0,.I a),(1,.I b),(7,.I 1),(8,.I 9999),(6,.I c)]).run Tryz.prog w=.ok (agg (⟨a,b,0,0,0,0,c,1,9999⟩:Hol)) w:=by kernel_rfl
theorem ZnS (h:Hol) (w):(Instr.buildSlice 29 1 #[(0,agg h)]).run Tryz.prog w=.ok (.slice (some ⟨w.heap.size,0,none⟩) 1 1) (w.alloc (.cells (Z3.enc h).toArray 138)):=by kernel_rfl
theorem ZnT (a b c:Int) (w):(Instr.build 73 #[(0,.I a),(1,.I b),(2,.I c)]).run Tryz.prog w=.ok (agg (⟨a,b,c⟩:Clo)) w:=by kernel_rfl
theorem ZnU (h:Clo) (w):(Instr.buildSlice 30 1 #[(0,agg h)]).run Tryz.prog w=.ok (.slice (some ⟨w.heap.size,0,none⟩) 1 1) (w.alloc (.cells (Z3.enc h).toArray 73)):=by kernel_rfl
def ZcL (x:Clo):Prop:=739616≤x.lo∧x.lo<739736∧x.lo≤x.hi∧x.hi≤x.lo+5∧739616≤x.known∧x.known<739746
structure Zoz (c:Cal):Prop where
 ok:ZjP c
 wk:∃ b0 b5 b6:Bool,c.week=[b0,false,false,false,false,b5,b6]
 h3:c.hols.length≤3
 c3:c.clos.length≤3
 cl:∀ x∈c.clos,ZcL x
theorem Z8q (X:List Nat) (v:Value) (l:List Int) (w:World) (hX:∀ b∈X,b<w.heap.size) (hs:SlV [] w v l) (hl:∀ a∈l,I64 a) :
 CC 32 #[v] w fun r w'=>∃ (c:Cal) (hv cv zo zs hr:Value),r=Z6o c hv cv zo zs hr∧(zo.oneCell'=true∧zs.oneCell'=true∧hr.oneCell'=true)∧Zoz c∧SlV X w' hv c.hols∧SlV X w' cv c.clos∧Stp [] w w':=by
 have hmax:=hs.max;refine cW1 160 Tryz.func32 ?_;refine W ?_;refine Z1 Z2 rfl ?_;rintro _ w1 ⟨b2,rfl,hb2,k2,hS⟩;refine W ?_;refine Z1 (Z0 (vs:=[(0,.I 1439),(1,.I 1020),(2,.I 0),(3,.I 720)]) rfl (ZnQ)) rfl ?_;rintro bv w2 hN;have hbv:SlV [] w2 bv ([1439,1020,0,720]:List Int):=hN.slv (by simp) rfl rfl (by simp [maxLen]);have hT:=Z6.stp hN;clear hN;replace k2:=k2.up hT;replace hS:=hS.trans hT;clear hT;refine W ?_;refine CM (Js rfl rfl rfl) (J1 [] _ l 0 4 _ (by decide) (by unfold I64;omega) (hs.up hS) hl) ?_;rintro _ wn ⟨q0,rfl,hq0,hT⟩;replace hbv:=hbv.up hT;replace k2:=k2.up hT;replace hS:=hS.trans hT;clear hT;have hq0':q0<([1439,1020,0,720]:List Int).length:=by simp only [Xe,Xf];omega
 refine W ?_;generalize ([1439,1020,0,720]:List Int)[q0]=hr;refine Z8 (vs:=[(4,.I hr)]) rfl (ZnR _) rfl ?_;have k2lt:=k2.lt;clear hbv;refine Z1 Z2 rfl ?_;rintro _ w3 ⟨b3,rfl,hb3,k3,hT⟩;replace k2:=k2.up hT;replace hS:=hS.trans hT;clear hT;refine W ?_;have n23:b2≠b3:=by omega
 refine SB (us:=cL false false false (.N) (.N) (.I 0) (.N) (.I hr)) (by simp [cL,Value.oneCell']) k3 ?_;rintro _ w4 ⟨hT,k3⟩;replace k2:=k2.ext hT (by simpa using n23);replace hS:=hS.ow hT;clear hT;have k3lt:=k3.lt;have k2lt':=k2.lt;have hsz3:w.heap.size≤b3:=by have:=k3lt;have:=hS.size;omega
 refine W ?_;refine CM (Js rfl rfl rfl) (J1 [] _ l 1 8 _ (by decide) (by unfold I64;omega) (hs.up hS) hl) ?_;rintro _ wn ⟨q1,rfl,hq1,hT⟩;replace k3:=k3.up hT;replace k2:=k2.up hT;replace hS:=hS.trans hT;clear hT;refine W ?_;refine Z13 (len:=7) (i:=5) rfl rfl rfl (by decide) rfl ?_;refine Z5 (Za (u:=.B (decide (¬ (q1:Int)=1))) rfl rfl rfl rfl k3 (by simp [cL])) ?_;rintro _ wn ⟨hT,k3⟩;replace k3:Blk wn b3 35 (cL false (decide (¬ (q1:Int)=1)) false (.N) (.N) (.I 0) (.N) (.I hr)):=k3;replace k2:=k2.ext hT (by simpa using n23);replace hS:=hS.ow hT;clear hT;refine W ?_;refine Z13 (len:=7) (i:=6) rfl rfl rfl (by decide) rfl ?_;refine Z5 (Za (u:=.B (decide (¬ (q1:Int)=2))) rfl rfl rfl rfl k3 (by simp [cL])) ?_;rintro _ wn ⟨hT,k3⟩;replace k3:Blk wn b3 35 (cL false (decide (¬ (q1:Int)=1)) (decide (¬ (q1:Int)=2)) (.N) (.N) (.I 0) (.N) (.I hr)):=k3;replace k2:=k2.ext hT (by simpa using n23);replace hS:=hS.ow hT;clear hT;refine W ?_;refine Z5 (Za (u:=.B (decide ((q1:Int)=3))) rfl rfl rfl rfl k3 (by simp [cL])) ?_;rintro _ w5 ⟨hT,k3⟩;replace k3:Blk w5 b3 35 (cL (decide ((q1:Int)=3)) (decide (¬ (q1:Int)=1)) (decide (¬ (q1:Int)=2)) (.N) (.N) (.I 0) (.N) (.I hr)):=k3;replace k2:=k2.ext hT (by simpa using n23);replace hS:=hS.ow hT;clear hT;refine W ?_;generalize decide ((q1:Int)=3)=b0 at k3 ⊢;generalize decide (¬ (q1:Int)=1)=b5 at k3 ⊢;generalize decide (¬ (q1:Int)=2)=b6 at k3 ⊢;replace k2:Blk w5 b2 35 ((.agg (cL false false false (.N) (.N) (.I 0) (.N) (.I 0)).toArray:Value).cells.toList):=k2;have hsz5:=hS.size;have k3lt5:=k3.lt;have k2lt5:=k2.lt;refine Z0l (σ:=Value×List Hol) (fun q=>[(0,v),(2,pQ b2),(3,pQ b3)]) (fun q w'=>q.2.length≤3∧Blk w' b2 35 ((.agg (cL false false false (.N) (.N) (.I 0) (.N) (.I 0)).toArray:Value).cells.toList)∧Blk w' b3 35 (cL b0 b5 b6 q.1 (.N) (.I 0) (.N) (.I hr))∧Row [] w' w5.heap.size 138 q.1 q.2∧(∀ x∈q.2,Z1Z x)∧Stp [b3] w5 w') ?_ ?_
 refine Zu (σ:=Nat×Value×List Hol) (fun q=>[(0,v),(2,pQ b2),(3,pQ b3),(5,.I (q.1:Int))]) (fun q w'=>q.1≤3∧q.2.2.length≤q.1∧Blk w' b2 35 ((.agg (cL false false false (.N) (.N) (.I 0) (.N) (.I 0)).toArray:Value).cells.toList)∧Blk w' b3 35 (cL b0 b5 b6 q.2.1 (.N) (.I 0) (.N) (.I hr))∧Row [] w' w5.heap.size 138 q.2.1 q.2.2∧(∀ x∈q.2.2,Z1Z x)∧Stp [b3] w5 w') (fun q=>3 - q.1)
  (0,.N,[]) ⟨rfl,rfl,rfl,rfl,trivial⟩ ⟨by decide,by decide,k2,k3,Row.nil,by simp,Stp.refl _ _⟩ ?_
 rintro ⟨j,hv,hols⟩ w6 ⟨hj3,hlen,k2,k3,hrow,hho,hSb⟩;dsimp only at hj3 hlen k3 hrow hho ⊢;have hs':=hs.up (hS.ow hSb);have hrob:=hrow.ob_le;refine W ?_;refine CM (Js rfl rfl rfl) (J1 [] _ l 2 4 _ (by decide) (by unfold I64;omega) hs' hl) ?_;rintro _ wn ⟨q,rfl,hq,hT⟩;replace k3:=k3.up hT;replace k2:=k2.up hT;replace hrow:=hrow.up hT;replace hs':=hs'.up hT;replace hSb:=hSb.trans hT.mn;clear hT;by_cases hlt:(j:Int)<(q:Int);refine QO ?_;refine CM (Js rfl rfl rfl) (J1 [] _ l (3+2 * (j:Int)) 1000000 _ (by decide) (by unfold I64;omega) hs' hl) ?_;rintro _ wn ⟨x,rfl,hx,hT⟩;replace k3:=k3.up hT;replace k2:=k2.up hT;replace hrow:=hrow.up hT;replace hs':=hs'.up hT;replace hSb:=hSb.trans hT.mn;clear hT;refine W ?_;refine CM (Js rfl rfl rfl) (J1 [] _ l (4+2 * (j:Int)) 1000000 _ (by decide) (by unfold I64;omega) hs' hl) ?_;rintro _ wn ⟨y,rfl,hy,hT⟩;replace k3:=k3.up hT;replace k2:=k2.up hT;replace hrow:=hrow.up hT;replace hs':=hs'.up hT;replace hSb:=hSb.trans hT.mn;clear hT;refine W ?_;refine Z8 (vs:=[(0,.I (1+(x:Int) % 4)),(1,.I (1+(x:Int) / 4 % 4)),(7,.I 1),(8,.I 9999),(6,.I ((y:Int) % 3))]) rfl (ZtR _ _ _) rfl ?_;have hk3':=k3.lt;have hk2':=k2.lt;have hrob':=hrow.ob_le;have hsb':=hSb.size;refine Z1 Z2 rfl ?_;rintro _ wn ⟨b8,rfl,hb8,k8,hT⟩;replace k3:=k3.up hT;replace k2:=k2.up hT;replace hrow:=hrow.up hT;replace hs':=hs'.up hT;replace hSb:=hSb.trans hT.mn;clear hT;refine W ?_;have hn8:b8≠b2∧b8≠b3∧b8∉ob hv:=⟨by omega,by omega,fun h=>by have:=(hrob' _ h).2;omega⟩
 have hS8:w5.heap.size≤b8:=by omega
 generalize hm1:1+(x:Int) % 4=m1;generalize hm2:1+(x:Int) / 4 % 4=m2;generalize hm3:(y:Int) % 3=m3;refine SA (us:=Z3.enc (⟨m1,m2,0,0,0,0,m3,1,9999⟩:Hol)) k8 ?_;rintro _ wn ⟨hT,k8⟩;replace k3:=k3.ext hT (by simp;omega);replace k2:=k2.ext hT (by simp;omega);replace hrow:=hrow.keep hT (by simp;exact hn8.2.2);replace hSb:=hSb.ow hT;clear hT;replace k8:Blk wn b8 138 [.I m1,.I m2,.I 0,.I 0,.I 0,.I 0,.I m3,.I 1,.I 9999]:=k8;clear hs';refine W ?_
 refine Z0l (σ:=Hol) (fun _=>[(0,v),(2,pQ b2),(3,pQ b3),(5,.I (j:Int)),(8,pQ b8)])
  (fun h w'=>Z1Z h∧Blk w' b8 138 [.I h.kind,.I h.month,.I h.day,.I h.wd,.I h.nth,.I h.off,.I h.move,.I h.first,.I h.last]∧Blk w' b2 35 ((.agg (cL false false false (.N) (.N) (.I 0) (.N) (.I 0)).toArray:Value).cells.toList)∧Blk w' b3 35 (cL b0 b5 b6 hv (.N) (.I 0) (.N) (.I hr))∧Row [] w' w5.heap.size 138 hv hols∧Stp [b3] w5 w') ?_ ?_
 have hk:m1=1∨m1=2∨m1=3∨m1=4:=by omega
 rcases hk with rfl|rfl|rfl|rfl
 refine W ?_;refine S1 (u:=.I (1+(y:Int) / 3 % 31)) k8 ?_;rintro _ wn ⟨hT,k8⟩;replace k8:Blk wn b8 138 [.I (1),.I (m2),.I (1+(y:Int) / 3 % 31),.I (0),.I (0),.I (0),.I (m3),.I (1),.I (9999)]:=k8;replace k3:=k3.ext hT (by simp;omega);replace k2:=k2.ext hT (by simp;omega);replace hrow:=hrow.keep hT (by simp;exact hn8.2.2);replace hSb:=hSb.ow hT;clear hT;refine W ?_;have hof:Z1Z (⟨1,m2,1+(y:Int) / 3 % 31,0,0,0,m3,1,9999⟩:Hol):=by constructor<;>dsimp only<;>omega
 exact ZN (⟨1,m2,1+(y:Int) / 3 % 31,0,0,0,m3,1,9999⟩:Hol) ⟨rfl,rfl,rfl,rfl,rfl,trivial⟩ ⟨hof,k8,k2,k3,hrow,hSb⟩;refine W ?_;refine S1 (u:=.I ((y:Int) / 3 % 7)) k8 ?_;rintro _ wn ⟨hT,k8⟩;replace k8:Blk wn b8 138 [.I (2),.I (m2),.I (0),.I ((y:Int) / 3 % 7),.I (0),.I (0),.I (m3),.I (1),.I (9999)]:=k8;replace k3:=k3.ext hT (by simp;omega);replace k2:=k2.ext hT (by simp;omega);replace hrow:=hrow.keep hT (by simp;exact hn8.2.2);replace hSb:=hSb.ow hT;clear hT;refine W ?_;refine S1 (u:=.I (1+(y:Int) / 21 % 5)) k8 ?_;rintro _ wn ⟨hT,k8⟩;replace k8:Blk wn b8 138 [.I (2),.I (m2),.I (0),.I ((y:Int) / 3 % 7),.I (1+(y:Int) / 21 % 5),.I (0),.I (m3),.I (1),.I (9999)]:=k8;replace k3:=k3.ext hT (by simp;omega);replace k2:=k2.ext hT (by simp;omega);replace hrow:=hrow.keep hT (by simp;exact hn8.2.2);replace hSb:=hSb.ow hT;clear hT;refine W ?_;refine S1 (u:=.I (0)) k8 ?_;rintro _ wn ⟨hT,k8⟩;replace k8:Blk wn b8 138 [.I (2),.I (m2),.I (0),.I ((y:Int) / 3 % 7),.I (1+(y:Int) / 21 % 5),.I (0),.I (0),.I (1),.I (9999)]:=k8;replace k3:=k3.ext hT (by simp;omega);replace k2:=k2.ext hT (by simp;omega);replace hrow:=hrow.keep hT (by simp;exact hn8.2.2);replace hSb:=hSb.ow hT;clear hT;refine W ?_;have hof:Z1Z (⟨2,m2,0,(y:Int) / 3 % 7,1+(y:Int) / 21 % 5,0,0,1,9999⟩:Hol):=by constructor<;>dsimp only<;>omega
 exact ZN (⟨2,m2,0,(y:Int) / 3 % 7,1+(y:Int) / 21 % 5,0,0,1,9999⟩:Hol) ⟨rfl,rfl,rfl,rfl,rfl,trivial⟩ ⟨hof,k8,k2,k3,hrow,hSb⟩;refine W ?_;refine S1 (u:=.I ((y:Int) / 3 % 7)) k8 ?_;rintro _ wn ⟨hT,k8⟩;replace k8:Blk wn b8 138 [.I (3),.I (m2),.I (0),.I ((y:Int) / 3 % 7),.I (0),.I (0),.I (m3),.I (1),.I (9999)]:=k8;replace k3:=k3.ext hT (by simp;omega);replace k2:=k2.ext hT (by simp;omega);replace hrow:=hrow.keep hT (by simp;exact hn8.2.2);replace hSb:=hSb.ow hT;clear hT;refine W ?_;refine S1 (u:=.I (0)) k8 ?_;rintro _ wn ⟨hT,k8⟩;replace k8:Blk wn b8 138 [.I (3),.I (m2),.I (0),.I ((y:Int) / 3 % 7),.I (0),.I (0),.I (0),.I (1),.I (9999)]:=k8;replace k3:=k3.ext hT (by simp;omega);replace k2:=k2.ext hT (by simp;omega);replace hrow:=hrow.keep hT (by simp;exact hn8.2.2);replace hSb:=hSb.ow hT;clear hT;refine W ?_;have hof:Z1Z (⟨3,m2,0,(y:Int) / 3 % 7,0,0,0,1,9999⟩:Hol):=by constructor<;>dsimp only<;>omega
 exact ZN (⟨3,m2,0,(y:Int) / 3 % 7,0,0,0,1,9999⟩:Hol) ⟨rfl,rfl,rfl,rfl,rfl,trivial⟩ ⟨hof,k8,k2,k3,hrow,hSb⟩;refine W ?_;refine S1 (u:=.I ((y:Int) / 3 % 61 - 10)) k8 ?_;rintro _ wn ⟨hT,k8⟩;replace k8:Blk wn b8 138 [.I (4),.I (m2),.I (0),.I (0),.I (0),.I ((y:Int) / 3 % 61 - 10),.I (m3),.I (1),.I (9999)]:=k8;replace k3:=k3.ext hT (by simp;omega);replace k2:=k2.ext hT (by simp;omega);replace hrow:=hrow.keep hT (by simp;exact hn8.2.2);replace hSb:=hSb.ow hT;clear hT;refine W ?_;refine S1 (u:=.I (0)) k8 ?_;rintro _ wn ⟨hT,k8⟩;replace k8:Blk wn b8 138 [.I (4),.I (0),.I (0),.I (0),.I (0),.I ((y:Int) / 3 % 61 - 10),.I (m3),.I (1),.I (9999)]:=k8;replace k3:=k3.ext hT (by simp;omega);replace k2:=k2.ext hT (by simp;omega);replace hrow:=hrow.keep hT (by simp;exact hn8.2.2);replace hSb:=hSb.ow hT;clear hT;refine W ?_;have hof:Z1Z (⟨4,0,0,0,0,(y:Int) / 3 % 61 - 10,m3,1,9999⟩:Hol):=by constructor<;>dsimp only<;>omega
 exact ZN (⟨4,0,0,0,0,(y:Int) / 3 % 61 - 10,m3,1,9999⟩:Hol) ⟨rfl,rfl,rfl,rfl,rfl,trivial⟩ ⟨hof,k8,k2,k3,hrow,hSb⟩;rintro hh wq ⟨hof,k8,k2,k3,hrow,hSb⟩;refine W ?_;refine Z1 (Z0 (vs:=[(0,agg hh)]) rfl (ZnS _)) rfl ?_;rintro bw wn hN;have hbw:SlV (ob hv++[]) wn bw [hh]:=hN.slv (fun b hb=>(hrow.ob_le b (by simpa using hb)).2) rfl rfl (by simp [maxLen]);have hT:=Z6.stp hN;clear hN;replace k3:=k3.up hT;replace k2:=k2.up hT;replace hrow:=hrow.up hT;replace hSb:=hSb.trans hT.mn;clear hT;have hob:=hrow.ob_le;have hbase:=hSb.size;refine Z1 (ZW (X:=[]) (base:=w5.heap.size) rfl (by decide) rfl rfl hrow hbw (by simp only [Xe,Xf];omega) (by simp only [Xe,Xf,maxLen];omega) hbase) rfl ?_;rintro hv' wn ⟨hrow,hT,hob'⟩;replace k2:=k2.ext hT (fun h=>by have:=(hob _ h).1;omega);replace k3:=k3.ext hT (fun h=>by have:=(hob _ h).1;omega);replace hSb:Stp [b3] w5 wn:=hSb.own hT (fun c hc=>.inr (hob c hc).1);clear hT;have hob2:=hrow.ob_le;refine W ?_;refine Z5 (Za (u:=hv') rfl rfl (Row.slv (X:=[]) hrow (by simp)).cells (Row.slv (X:=[]) hrow (by simp)).one k3 (by simp [cL])) ?_;rintro _ wn ⟨hT,k3⟩;replace k3:Blk wn b3 35 (cL b0 b5 b6 hv' (.N) (.I 0) (.N) (.I hr)):=k3;replace k2:=k2.ext hT (by simpa using n23);replace hrow:=hrow.keep hT (fun b hb h=>by have:=hob2 _ h;simp at hb;omega);replace hSb:=hSb.trans hT;clear hT;refine W ?_;refine QL (j+1,hv',hols++[hh]) ⟨by dsimp only;omega,by dsimp only;rw [Xc];simp only [Xe,Xf];omega,k2,k3,hrow,?_,hSb⟩ (by dsimp only;omega);intro z hz;rcases Xh.1 hz with h|h
 exact hho z h;rw [Xl.1 h];exact hof
 · refine QO ?_
   all_goals exact QT (hv,hols) ⟨(by dsimp only;omega),k2,k3,hrow,hho,hSb⟩
 rintro ⟨hv,hols⟩ w6 ⟨hl3,k2,k3,hrow,hho,hSb⟩;dsimp only at hl3 k3 hrow hho ⊢;have hhv:SlV (b2 :: b3 :: X) w6 hv hols:=Row.slv (X:=b2 :: b3 :: X) hrow (fun b hb=>by
  rcases Xb.1 hb with rfl|hb
  omega;rcases Xb.1 hb with rfl|hb
  omega;have:=hX b hb;omega)
 replace hS:=hS.ow hSb;clear hrow hSb;have hsz6:=hS.size;have k3lt6:=k3.lt;have k2lt6:=k2.lt;refine W ?_;refine Z0l (σ:=Value×List Clo) (fun q=>[(0,v),(2,pQ b2),(3,pQ b3)]) (fun q w'=>q.2.length≤3∧(∀ x∈q.2,ZcL x)∧Blk w' b2 35 ((.agg (cL false false false (.N) (.N) (.I 0) (.N) (.I 0)).toArray:Value).cells.toList)∧Blk w' b3 35 (cL b0 b5 b6 hv q.1 (.I 0) (.N) (.I hr))∧Row [] w' w6.heap.size 73 q.1 q.2∧Stp [b3] w6 w') ?_ ?_
 refine Zu (σ:=Nat×Value×List Clo) (fun q=>[(0,v),(2,pQ b2),(3,pQ b3),(9,.I (q.1:Int))]) (fun q w'=>q.1≤3∧q.2.2.length≤q.1∧(∀ x∈q.2.2,ZcL x)∧Blk w' b2 35 ((.agg (cL false false false (.N) (.N) (.I 0) (.N) (.I 0)).toArray:Value).cells.toList)∧Blk w' b3 35 (cL b0 b5 b6 hv q.2.1 (.I 0) (.N) (.I hr))∧Row [] w' w6.heap.size 73 q.2.1 q.2.2∧Stp [b3] w6 w') (fun q=>3 - q.1)
  (0,.N,[]) ⟨rfl,rfl,rfl,rfl,trivial⟩ ⟨by decide,by decide,(by simp),k2,k3,Row.nil,Stp.refl _ _⟩ ?_
 rintro ⟨j,cv,clos⟩ w7 ⟨hj3,hlen,hsm,k2,k3,hrow,hSb⟩;dsimp only at hj3 hlen k3 hrow ⊢;have hs':=hs.up (hS.ow hSb);have hrob:=hrow.ob_le;refine W ?_;refine CM (Js rfl rfl rfl) (J1 [] _ l 9 4 _ (by decide) (by unfold I64;omega) hs' hl) ?_;rintro _ wn ⟨q,rfl,hq,hT⟩;replace k3:=k3.up hT;replace k2:=k2.up hT;replace hrow:=hrow.up hT;replace hs':=hs'.up hT;replace hSb:=hSb.trans hT.mn;clear hT;by_cases hlt:(j:Int)<(q:Int);refine QO ?_;refine CM (Js rfl rfl rfl) (J1 [] _ l (10+(j:Int)) 1000000 _ (by decide) (by unfold I64;omega) hs' hl) ?_;rintro _ wn ⟨x,rfl,hx,hT⟩;replace k3:=k3.up hT;replace k2:=k2.up hT;replace hrow:=hrow.up hT;replace hs':=hs'.up hT;replace hSb:=hSb.trans hT.mn;clear hT;refine W ?_;refine Z8 (vs:=[(0,.I (739616+(x:Int) % 120)),(1,.I (739616+(x:Int) % 120+(x:Int) / 120 % 6)),(2,.I (739616+(x:Int) / 720 % 130))]) rfl (ZnT _ _ _) rfl ?_;have hx3:ZcL ⟨739616+(x:Int) % 120,739616+(x:Int) % 120+(x:Int) / 120 % 6,739616+(x:Int) / 720 % 130⟩:=by unfold ZcL;dsimp only;omega
 generalize 739616+(x:Int) % 120=lo at hx3 ⊢;generalize lo+(x:Int) / 120 % 6=hi at hx3 ⊢;generalize 739616+(x:Int) / 720 % 130=kn at hx3 ⊢;refine Z1 (Z0 (vs:=[(0,agg (⟨lo,hi,kn⟩:Clo))]) rfl (ZnU _)) rfl ?_;rintro bw wn hN;have hbw:SlV (ob cv++[]) wn bw [(⟨lo,hi,kn⟩:Clo)]:=hN.slv (fun b hb=>(hrow.ob_le b (by simpa using hb)).2) rfl rfl (by simp [maxLen]);have hT:=Z6.stp hN;clear hN;replace k3:=k3.up hT;replace k2:=k2.up hT;replace hrow:=hrow.up hT;replace hSb:=hSb.trans hT.mn;clear hT;have hob:=hrow.ob_le;have hbase:=hSb.size;refine Z1 (ZW (X:=[]) (base:=w6.heap.size) rfl (by decide) rfl rfl hrow hbw (by simp only [Xe,Xf];omega) (by simp only [Xe,Xf,maxLen];omega) hbase) rfl ?_;rintro cv' wn ⟨hrow,hT,hob'⟩;replace k2:=k2.ext hT (fun h=>by have:=(hob _ h).1;omega);replace k3:=k3.ext hT (fun h=>by have:=(hob _ h).1;omega);replace hSb:Stp [b3] w6 wn:=hSb.own hT (fun c hc=>.inr (hob c hc).1);clear hT;have hob2:=hrow.ob_le;refine W ?_;refine Z5 (Za (u:=cv') rfl rfl (Row.slv (X:=[]) hrow (by simp)).cells (Row.slv (X:=[]) hrow (by simp)).one k3 (by simp [cL])) ?_;rintro _ wn ⟨hT,k3⟩;replace k3:Blk wn b3 35 (cL b0 b5 b6 hv cv' (.I 0) (.N) (.I hr)):=k3;replace k2:=k2.ext hT (by simpa using n23);replace hrow:=hrow.keep hT (fun b hb h=>by have:=hob2 _ h;simp at hb;omega);replace hSb:=hSb.trans hT;clear hT;refine W ?_;refine ZD (j+1,cv',clos++[(⟨lo,hi,kn⟩:Clo)]) ⟨rfl,rfl,rfl,rfl,trivial⟩ ⟨by dsimp only;omega,by dsimp only;rw [Xc];simp only [Xe,Xf];omega,(fun y hy=>by rcases Xh.1 hy with h|h;exact hsm y h;rw [Xl.1 h];exact hx3),k2,k3,hrow,hSb⟩ (by dsimp only;omega)
 · refine QO ?_
   all_goals exact QT (cv,clos) ⟨(by dsimp only;omega),hsm,k2,k3,hrow,hSb⟩
 rintro ⟨cv,clos⟩ w7 ⟨hcl3,hsm,k2,k3,hrow,hSb⟩;dsimp only at k3 hrow ⊢;have hcv:SlV (b2 :: b3 :: X) w7 cv clos:=Row.slv (X:=b2 :: b3 :: X) hrow (fun b hb=>by
  rcases Xb.1 hb with rfl|hb
  omega;rcases Xb.1 hb with rfl|hb
  omega;have:=hX b hb;omega)
 replace hhv:SlV (b2 :: b3 :: X) w7 hv hols:=hhv.ext hSb (by simp) (fun _ h=>.inl h);replace hS:=hS.ow hSb;clear hrow hSb;have hs':=hs.up hS;have hsz7:=hS.size;have k3lt7:=k3.lt;have k2lt7:=k2.lt;by_cases h13:13<l.length;refine QO ?_;have hsd:=hs'.slc (l:=13) (r:=l.length) (by omega) (Xn _);rw [Xo] at hsd;refine Z4P (l:=13) rfl hs' rfl (by simp) (by omega) rfl ?_;refine W ?_;refine CL (Z8p _ (l.drop 13) _ hsd (fun a ha=>hl a (YaG ha))) ?_;rintro _ w8 ⟨zo,zs,xs,rfl,hxs,hxl,hz⟩;have hob:=hz.ob_le;have hT:=hz.2;replace k3:=k3.up hT;replace k2:=k2.up hT;have hzr:=hz.1;replace hhv:SlV (b2 :: b3 :: (ob zs++X)) w8 hv hols:=hhv.ext hT (by simp) (fun b hb=>by
  simp at hb;rcases hb with rfl|rfl|hb|hb
  exact .inl (by simp);exact .inl (by simp);exact .inr (hob b hb).1;exact .inl (by simp [hb]))
 replace hcv:SlV (b2 :: b3 :: (ob zs++X)) w8 cv clos:=hcv.ext hT (by simp) (fun b hb=>by
  simp at hb;rcases hb with rfl|rfl|hb|hb
  exact .inl (by simp);exact .inl (by simp);exact .inr (hob b hb).1;exact .inl (by simp [hb]))
 replace hS:=hS.trans hT;have hn3:b3∉ob zs:=fun h=>by have:=(hob _ h).1;omega
 have hn2:b2∉ob zs:=fun h=>by have:=(hob _ h).1;omega
 clear hT hz hs hs';refine W ?_;refine Z5 (Z12 (o:=9) (us:=[.I zo,zs]) rfl rfl rfl rfl (by intro u hu;simp at hu;rcases hu with rfl|rfl;exact rfl;exact (Row.slv (X:=[]) hzr (by simp)).one) k3 (by simp [cL])) ?_;rintro _ w9 ⟨hT,k3⟩;replace k3:Blk w9 b3 35 (cL b0 b5 b6 hv cv (.I zo) zs (.I hr)):=k3;replace k2:=k2.ext hT (by simpa using n23);replace hzr:=hzr.keep hT (fun b hb h=>by simp at hb;subst hb;exact hn3 h);replace hhv:=hhv.ext (X':=b2 :: b3 :: (ob zs++X)) hT (by simp) (fun _ h=>.inl h);replace hcv:=hcv.ext (X':=b2 :: b3 :: (ob zs++X)) hT (by simp) (fun _ h=>.inl h);replace hS:=hS.ow hT;clear hT;refine W ?_;refine Z0l (σ:=Unit) (fun q=>[(2,pQ b2),(3,pQ b3)]) (fun q w'=>Stp (ob zs) w9 w') ?_ ?_
 refine Zu (σ:=Nat×List Spn) (fun q=>[(2,pQ b2),(3,pQ b3),(13,.I (q.1:Int))]) (fun q w'=>q.1≤xs.length∧q.2.length=xs.length∧(∀ i (hi:i<q.2.length),q.1≤i→ZcK q.2[i])∧Row [] w' w7.heap.size 141 zs q.2∧Stp (ob zs) w9 w') (fun q=>xs.length - q.1)
  (0,xs) ⟨rfl,rfl,rfl,trivial⟩ ⟨by dsimp only;omega,rfl,(fun i hi _=>hxs _ (Xd hi)),hzr,Stp.refl _ _⟩ ?_
 rintro ⟨j,ys⟩ wa ⟨hj,hyl,hys,hzr,hSb⟩;dsimp only at hj hyl hys hzr ⊢;have k3:=k3.ext hSb hn3;have hzs:SlV [] wa zs ys:=Row.slv (X:=[]) hzr (by simp);rw [← hyl] at hj;by_cases hlt:j<ys.length;refine QO ?_;have hel:=(hys j hlt (Xn _))
 unfold ZcK at hel;refine ZDr 15 [] [14] [(0,0),(1,0),(2,1),(3,0),(4,0),(5,0),(6,1),(7,0),(8,0),(9,0),(10,1),(11,0),(12,0),(13,0),(14,2)] (fun w1 hS1=>?_);replace k3:=k3.up hS1;replace hzr:=hzr.up hS1;replace hzs:=hzs.up hS1;replace hSb:=hSb.trans hS1.mn;clear hS1;refine D ?_;refine Jy rfl trivial (Z49 (β:=Spn) (i:=j) (y':=((ys[j].1+1065047040,ys[j].2):Spn)) rfl rfl rfl rfl rfl hzr hlt (by decide) rfl) rfl ?_;rintro _ wb ⟨hzr,hT⟩;replace hSb:=hSb.trans hT;refine D ?_;refine W ?_;refine ZD (j+1,ys.set j ((ys[j].1+1065047040,ys[j].2):Spn)) ⟨rfl,rfl,rfl,trivial⟩ ⟨by dsimp only;omega,by dsimp only;rw [X4];exact hyl,?_,hzr,hSb⟩ (by dsimp only;omega);intro i hi hle;dsimp only at hi hle ⊢;rw [YaI (by omega)];exact hys i (by rw [X4] at hi;exact hi) (by omega)
 · refine QO ?_
   all_goals exact QT () hSb
 rintro _ wa hSb;have k3:=k3.ext hSb hn3;have k2:=k2.ext hSb hn2;have hhv:=hhv.ext (X':=b2 :: b3 :: X) hSb (fun b h=>by simp [h]) (fun b h=>.inl (by simp at h;rcases h with rfl|rfl|h<;>simp [*]));have hcv:=hcv.ext (X':=b2 :: b3 :: X) hSb (fun b h=>by simp [h]) (fun b h=>.inl (by simp at h;rcases h with rfl|rfl|h<;>simp [*]));replace hS:=hS.own hSb (fun c hc=>.inr (by have:=(hob _ hc).1;omega));have hsa:zs.oneCell'=true:=(Row.slv (X:=[]) hzr (by simp)).one;clear hSb;refine W ?_;refine SB (us:=cL b0 b5 b6 hv cv (.I zo) zs (.I hr)) (by intro u hu;simp [cL] at hu;rcases hu with rfl|rfl|rfl|rfl|rfl|rfl|rfl|rfl|rfl|rfl|rfl<;>first|exact rfl|exact hsa|exact hhv.one|exact hcv.one) k2 ?_;rintro _ wb ⟨hT,k2⟩;refine W ?_;refine Zk rfl rfl rfl k2 rfl ?_;exact .mk ⟨⟨[b0,false,false,false,false,b5,b6],hols,clos⟩,hv,cv,.I zo,zs,.I hr,rfl,⟨rfl,hsa,rfl⟩,⟨⟨rfl,hho,by dsimp only;omega⟩,⟨b0,b5,b6,rfl⟩,hl3,hcl3,hsm⟩,hhv.ext hT (by simp) (fun b h=>.inl (by simp [h])),hcv.ext hT (by simp) (fun b h=>.inl (by simp [h])),hS.ow hT⟩;refine QO ?_;refine CM (ZX rfl) (Z8p _ [] _ (Row.slv (X:=[]) (Row.nil (base:=0) (T:=0)) (by simp)) (by simp)) ?_;rintro _ w8 ⟨zo,zs,xs,rfl,hxs,hxl,hz⟩;have hob:=hz.ob_le;have hT:=hz.2;replace k3:=k3.up hT;replace k2:=k2.up hT;have hzr:=hz.1;replace hhv:SlV (b2 :: b3 :: (ob zs++X)) w8 hv hols:=hhv.ext hT (by simp) (fun b hb=>by
  simp at hb;rcases hb with rfl|rfl|hb|hb
  exact .inl (by simp);exact .inl (by simp);exact .inr (hob b hb).1;exact .inl (by simp [hb]))
 replace hcv:SlV (b2 :: b3 :: (ob zs++X)) w8 cv clos:=hcv.ext hT (by simp) (fun b hb=>by
  simp at hb;rcases hb with rfl|rfl|hb|hb
  exact .inl (by simp);exact .inl (by simp);exact .inr (hob b hb).1;exact .inl (by simp [hb]))
 replace hS:=hS.trans hT;have hn3:b3∉ob zs:=fun h=>by have:=(hob _ h).1;omega
 have hn2:b2∉ob zs:=fun h=>by have:=(hob _ h).1;omega
 clear hT hz hs hs';refine W ?_;refine Z5 (Z12 (o:=9) (us:=[.I zo,zs]) rfl rfl rfl rfl (by intro u hu;simp at hu;rcases hu with rfl|rfl;exact rfl;exact (Row.slv (X:=[]) hzr (by simp)).one) k3 (by simp [cL])) ?_;rintro _ w9 ⟨hT,k3⟩;replace k3:Blk w9 b3 35 (cL b0 b5 b6 hv cv (.I zo) zs (.I hr)):=k3;replace k2:=k2.ext hT (by simpa using n23);replace hzr:=hzr.keep hT (fun b hb h=>by simp at hb;subst hb;exact hn3 h);replace hhv:=hhv.ext (X':=b2 :: b3 :: (ob zs++X)) hT (by simp) (fun _ h=>.inl h);replace hcv:=hcv.ext (X':=b2 :: b3 :: (ob zs++X)) hT (by simp) (fun _ h=>.inl h);replace hS:=hS.ow hT;clear hT;refine W ?_;refine Z0l (σ:=Unit) (fun q=>[(2,pQ b2),(3,pQ b3)]) (fun q w'=>Stp (ob zs) w9 w') ?_ ?_
 refine Zu (σ:=Nat×List Spn) (fun q=>[(2,pQ b2),(3,pQ b3),(13,.I (q.1:Int))]) (fun q w'=>q.1≤xs.length∧q.2.length=xs.length∧(∀ i (hi:i<q.2.length),q.1≤i→ZcK q.2[i])∧Row [] w' w7.heap.size 141 zs q.2∧Stp (ob zs) w9 w') (fun q=>xs.length - q.1)
  (0,xs) ⟨rfl,rfl,rfl,trivial⟩ ⟨by dsimp only;omega,rfl,(fun i hi _=>hxs _ (Xd hi)),hzr,Stp.refl _ _⟩ ?_
 rintro ⟨j,ys⟩ wa ⟨hj,hyl,hys,hzr,hSb⟩;dsimp only at hj hyl hys hzr ⊢;have k3:=k3.ext hSb hn3;have hzs:SlV [] wa zs ys:=Row.slv (X:=[]) hzr (by simp);rw [← hyl] at hj;by_cases hlt:j<ys.length;refine QO ?_;have hel:=(hys j hlt (Xn _))
 unfold ZcK at hel;refine ZDr 15 [] [14] [(0,0),(1,0),(2,1),(3,0),(4,0),(5,0),(6,1),(7,0),(8,0),(9,0),(10,1),(11,0),(12,0),(13,0),(14,2)] (fun w1 hS1=>?_);replace k3:=k3.up hS1;replace hzr:=hzr.up hS1;replace hzs:=hzs.up hS1;replace hSb:=hSb.trans hS1.mn;clear hS1;refine D ?_;refine Jy rfl trivial (Z49 (β:=Spn) (i:=j) (y':=((ys[j].1+1065047040,ys[j].2):Spn)) rfl rfl rfl rfl rfl hzr hlt (by decide) rfl) rfl ?_;rintro _ wb ⟨hzr,hT⟩;replace hSb:=hSb.trans hT;refine D ?_;refine W ?_;refine ZD (j+1,ys.set j ((ys[j].1+1065047040,ys[j].2):Spn)) ⟨rfl,rfl,rfl,trivial⟩ ⟨by dsimp only;omega,by dsimp only;rw [X4];exact hyl,?_,hzr,hSb⟩ (by dsimp only;omega);intro i hi hle;dsimp only at hi hle ⊢;rw [YaI (by omega)];exact hys i (by rw [X4] at hi;exact hi) (by omega)
 · refine QO ?_
   all_goals exact QT () hSb
 rintro _ wa hSb;have k3:=k3.ext hSb hn3;have k2:=k2.ext hSb hn2;have hhv:=hhv.ext (X':=b2 :: b3 :: X) hSb (fun b h=>by simp [h]) (fun b h=>.inl (by simp at h;rcases h with rfl|rfl|h<;>simp [*]));have hcv:=hcv.ext (X':=b2 :: b3 :: X) hSb (fun b h=>by simp [h]) (fun b h=>.inl (by simp at h;rcases h with rfl|rfl|h<;>simp [*]));replace hS:=hS.own hSb (fun c hc=>.inr (by have:=(hob _ hc).1;omega));have hsa:zs.oneCell'=true:=(Row.slv (X:=[]) hzr (by simp)).one;clear hSb;refine W ?_;refine SB (us:=cL b0 b5 b6 hv cv (.I zo) zs (.I hr)) (by intro u hu;simp [cL] at hu;rcases hu with rfl|rfl|rfl|rfl|rfl|rfl|rfl|rfl|rfl|rfl|rfl<;>first|exact rfl|exact hsa|exact hhv.one|exact hcv.one) k2 ?_;rintro _ wb ⟨hT,k2⟩;refine W ?_;refine Zk rfl rfl rfl k2 rfl ?_;exact .mk ⟨⟨[b0,false,false,false,false,b5,b6],hols,clos⟩,hv,cv,.I zo,zs,.I hr,rfl,⟨rfl,hsa,rfl⟩,⟨⟨rfl,hho,by dsimp only;omega⟩,⟨b0,b5,b6,rfl⟩,hl3,hcl3,hsm⟩,hhv.ext hT (by simp) (fun b h=>.inl (by simp [h])),hcv.ext hT (by simp) (fun b h=>.inl (by simp [h])),hS.ow hT⟩
end Go.Proofs.YtipfkbkkndacjaaGreatDoor
namespace Go.Eng
open Go Go.RowKit Go.Proofs
theorem Z6V:∀ {e:Env} {t:Nat} {v:Value},look e t=some v→(t,v)∈e
 | (k, u) :: r, t, v, h => by
   rw [Z1I] at h;by_cases hk:k=t;subst hk;simp at h;subst h;simp;rw [if_neg hk] at h;exact XE _ (Z6V h)
theorem Has.of {n:Nat} {e:Env} {a:Act} (h1:a.defers=[]) (h2:a.tmps.size=n) (h3:∀ p∈e,a.tmps.getD p.1 undef=p.2):Has n e a:=⟨h1,h2,fun t v h=>h3 (t,v) (Z6V h)⟩
section
variable {P:Program} {n:Nat} {Q:Exit→Act→World→Prop} {e:Env} {w:World} {ops:Array Oper} {rest:List Oper} {ty:TypeId} {pos:String} {af:Array Edge} {ds:List Deferred}
theorem Z9E {fn:Func} {c₀:Frame} {cs:List Frame} {u':FrameMode} {R:Ending→FrameMode→World→Prop} {c:Code} {a:Act} (ha:Has n e a) (h:WC P n c (bodyPost P fn (fun x w=>R x u' w)) e w) :
 c.wpS P (bodyPostS P fn c₀ cs R) a ({ c₀ with mode:=u' } :: cs) w:=by
 refine wpS_of_wp (wp_mono (h.h a ha) fun ex a' w' hq=>?_);cases ex with
 | normal=>obtain ⟨hd,v,hr,hR⟩:=hq;exact ⟨hd,u',rfl,v,hr,hR⟩
 | ret=>obtain ⟨hd,v,hr,hR⟩:=hq;exact ⟨hd,u',rfl,v,hr,hR⟩
 | panic ch=>obtain ⟨hd,hR⟩:=hq;exact ⟨hd,u',rfl,hR⟩
 | exit i=>exact hq.elim
 | goto l=>exact hq.elim
 | outgrown=>exact ⟨u',hq⟩
theorem ZaZ {f:FuncId} {fn:Func} {c:Code} {args:Array Value} {w} {R:Ending→World→Prop} {n:Nat} (hf:P.funcs[f]?=some fn) (hb:fn.body=some c)
 (hn:fn.ntmps=n) (hs:Nat.ble args.size n=true) (h:WC P n c (bodyPostD P fn R) (Z4L args.toList 0) w):Calls P f args w R:=by
 refine calls_of_wp_defers hf hb (h.h _ ?_);rw [hn];have hle:args.size≤n:=XU hs;refine ⟨rfl,by simp;omega,fun t v hv=>?_⟩;obtain ⟨_,h2⟩:=Z3p _ _ _ _ hv;simp only [Nat.sub_zero] at h2;have hlt:t<args.size:=by
  have:=(Xw.1 h2).1;simpa using this
 have:args[t]?=some v:=by simpa using h2
 have h3:(args++Array.replicate (n - args.size) undef)[t]?=some v:=by
  rw [XT hlt];exact this
 simp [Xz,h3]
theorem Z8P {f:FuncId} {fn:Func} {c:Code} {a0 a1:Value} {w} {R:Ending→World→Prop} {n:Nat} (hf:P.funcs[f]?=some fn) (hb:fn.body=some c)
 (hn:fn.ntmps=n) (hs:Nat.ble 2 n=true) (h:WC P n c (bodyPostD P fn R) [(0,a0),(1,a1)] w):Calls P f #[a0,a1] w R:=ZaZ hf hb hn hs h
theorem ZkH {y:Code} {t:Operand} {fv:Fn} {cap:Array Value} (hc:ev e t=some (.func fv #[] cap)) {ts:Array TypeId}
 (h:WCD [{ target:=.fn fv cap,args:=#[] }] P n y Q e w) :
 WL P n ops (Exit.then (fun a w=>y.wp P Q a w) Q) [⟨none,.defer { callee:=.value t,args:=#[],argTypes:=ts },ty,pos,af,none⟩] e w:=by
 refine ⟨fun a ha=>?_⟩;refine wpList_plain rfl (fun K hK=>?_);unfold Oper.wp;have he:(execOp a.eval ⟨none,.defer { callee:=.value t,args:=#[],argTypes:=ts },ty,pos,af,none⟩).run P w=.ok (.defer { target:=.fn fv cap,args:=#[] }) w:=by
  simp [execOp,resolve,ha.ev hc,Deferred.ofValue]
 rw [he];simp only [Oper.upon];refine hK _ _ ?_;have hd:({ a with defers:={ target:=.fn fv cap,args:=#[] } :: a.defers }:Act)=Z1q [{ target:=.fn fv cap,args:=#[] }] a:=by
  unfold Z1q;rw [ha.defers];rfl
 show wpList P ops _ [] (Act.put { a with defers:=_ } none undef) w;rw [hd];exact wpList_nil (h.h a ha)
theorem ZgP {d:Nat} {f:Nat} {fn:Func} {xs:Array Operand} {ts:Array TypeId} {vs:Array Value} {c:Operand} {ch:List PanicEntry} {F:World→Prop} [hf:Fun P f fn]
 (hc:ev e c=some (.func (.func f) #[] #[])) (hv:∀ a,Has n e a→xs.map a.eval=vs) (h:Calls P f vs w (fun e w'=>e=.panicked ch∧F w')) (hd:Nat.blt d n=true) (k:∀ w',F w'→WQ n Q (.panic ch) e w') :
 WL P n ops Q (⟨some d,.call { callee:=.value c,args:=xs,argTypes:=ts },ty,pos,af,none⟩ :: rest) e w:=
 Zan (G:=fun _ _=>False) (F:=fun ch' w'=>ch'=ch∧F w') (Z7C hc hv (h.mono fun e w' ⟨h1,h2⟩=>by rw [h1];exact .pan ⟨rfl,h2⟩)) hd (fun ch' w' ⟨h1,h2⟩=>by subst h1;exact k w' h2) (fun _ _ h=>h.elim)
theorem Z6s {t b T:Nat} {D:TypeDesc} {v:Value} [hu:Und P t D] (hA:JV D=false) (hb:Blk w b T [v]):(loadVar t ⟨b,0,none⟩).run P w=.ok v w:=by
 have:=hb.cell (j:=0) rfl;simp [loadVar,Und.isAgg,hA,this]
theorem Z6t {fn:Func} {a:Act} {t1 t2 t3 T1 T2 T3 b1 b2 b3 S1 S2 S3:Nat} {D1 D2 D3:TypeDesc} {v1 v2 v3:Value} (hr:fn.results=#[.cell t1 T1,.cell t2 T2,.cell t3 T3]) [hu1:Und P T1 D1] [hu2:Und P T2 D2] [hu3:Und P T3 D3] (hA1:JV D1=false) (hA2:JV D2=false) (hA3:JV D3=false)
 (h1:a.tmps.getD t1 undef=pQ b1) (h2:a.tmps.getD t2 undef=pQ b2) (h3:a.tmps.getD t3 undef=pQ b3)
 (e1:Blk w b1 S1 [v1]) (e2:Blk w b2 S2 [v2]) (e3:Blk w b3 S3 [v3]):(results fn a.tmps).run P w=.ok (.tuple #[v1,v2,v3]) w:=by
 rw [Xz] at h1 h2 h3;simp [results,hr,h1,h2,h3,asAddr,Z6s hA1 e1,Z6s hA2 e2,Z6s hA3 e3]
theorem Z8r {fn fn':Func} {tmps:Array Value} {R:Ending→World→Prop} {f:FuncId} {cap:Array Value} {u:FrameMode} (hu:u≠.run) [hf:Fun P f fn'] {G:Value→FrameMode→World→Prop}
 (h:CallsD P f cap u w fun e u' w'=>∃ v,e=.returned v∧G v u' w') (hk:∀ v u' w',G v u' w'→settle u'=.returning∧∃ r,(results fn tmps).run P w'=.ok r w'∧R (.returned r) w') :
 Leaves P fn tmps R [{ target:=.fn (.func f) cap,args:=#[] }] u w:=by
 refine leaves_cons (f:=f) (args:=cap) hu ?_ (h.mono fun e u' w' ⟨v,h1,h2⟩=>?_);simp [invoke];exact hf.enters cap w;subst h1;obtain ⟨h3,r,h4,h5⟩:=hk v u' w' h2;show Leaves P fn tmps R [] (settle u') w';rw [h3];exact ⟨r,h4,h5⟩
theorem Z4J {d:Option Nat} {g:Option (Nat×Bool)} {x:Operand} {t s:TypeId} {u v:Value} (hx:ev e x=some u) (hb:∀ w,(Instr.typeAssert u t s true).run P w=.ok v w):PR P n ⟨d,.typeAssert x t s true,ty,pos,af,g⟩ e w v:=
 ⟨fun a ha=>by simp [execOp,ha.ev hx,hb]⟩
theorem Zb0 {d:Option Nat} {g:Option (Nat×Bool)} {f:Nat} {x y z r:Operand} {v u s q:Value} (hx:ev e x=some v) (hy:ev e y=some u) (hz:ev e z=some s) (hr:ev e r=some q):PR P n ⟨d,.makeFunc (.func f) #[] #[x,y,z,r],ty,pos,af,g⟩ e w (.func (.func f) #[] #[v,u,s,q]):=
 ⟨fun a ha=>by simp [execOp,Instr.makeFunc,ha.ev hx,ha.ev hy,ha.ev hz,ha.ev hr]⟩
end
theorem Z0g {α β:Type} {x:Out α} {k:α→Nat→Nat→Out β} {y:β} {i o:Nat} (h:x.bind k=.ok y i o):∃ a i1 o1,x=.ok a i1 o1∧k a i1 o1=.ok y i o:=by
 cases x with
 | err a c=>simp [Out.bind] at h
 | ok a i1 o1=>exact ⟨a,i1,o1,rfl,h⟩
theorem Z5N {l:List Tkn} {i o:Nat} {s:Str} {i' o':Nat} (h:Z2e l i o=.ok s i' o'):i<i':=by
 unfold Z2e at h;split at h;simp [Z1c] at h;obtain ⟨a,i1,o1,h1,h2⟩:=Z0g h;have:=Z1n h1;simp only [Out.ok.injEq] at h2;omega
theorem Z9F {l:List Tkn} {i o:Nat} {x:Nd} {i' o':Nat} (h:Z1S l i o=.ok x i' o'):i<i':=by
 have h1:=Z99 l i o;rw [h] at h1;have:=Z1T l _ _ _ _ _ _ _ h1;simp only [Call.lo] at this;omega
theorem Z40 {α:Type} {l:List Tkn} {wd:Str} {z:α} {rd:Nat→Nat→Out α} {i o:Nat} {x:α} {i' o':Nat} (hr:∀ i o x i' o',rd i o=.ok x i' o'→i<i') (h:Z1y l wd z rd i o=.ok x i' o'):i≤i':=by
 unfold Z1y at h;split at h;obtain ⟨a,i1,o1,h1,h2⟩:=Z0g h;obtain ⟨a2,i2,o2,h3,h4⟩:=Z0g h2;have:=hr _ _ _ _ _ h1;have:=(Z2f h3).1;simp only [Out.ok.injEq] at h4;omega;simp only [Out.ok.injEq] at h;omega
theorem ZcM {l:List Tkn} {i o:Nat} {r:RuleM} {i' o':Nat} (h:Z97 l i o=.ok r i' o'):i<i':=by
 unfold Z97 at h;obtain ⟨a1,i1,o1,h1,h⟩:=Z0g h;obtain ⟨a2,i2,o2,h2,h⟩:=Z0g h;obtain ⟨a3,i3,o3,h3,h⟩:=Z0g h;obtain ⟨a4,i4,o4,h4,h⟩:=Z0g h;obtain ⟨a5,i5,o5,h5,h⟩:=Z0g h;split at h;obtain ⟨a6,i6,o6,h6,h⟩:=Z0g h;obtain ⟨a7,i7,o7,h7,h⟩:=Z0g h;split at h;obtain ⟨a8,i8,o8,h8,h⟩:=Z0g h;obtain ⟨a9,i9,o9,h9,h⟩:=Z0g h;obtain ⟨a10,i10,o10,h10,h⟩:=Z0g h;obtain ⟨a11,i11,o11,h11,h⟩:=Z0g h;have:=(Z2f h1).1;have:=Z5N h2;have:=(Z2f h3).1;have:=(Z1n h4).2.1;have:=(Z2f h5).1;have:=Z40 (fun _ _ _ _ _ h=>Z5N h) h6;have:=Z40 (fun _ _ _ _ _ h=>Z9F h) h7;have:=Z40 (fun _ _ _ _ _ h=>Z9F h) h8;have:=Z40 (fun _ _ _ _ _ h=>Z5N h) h9;have:=Z40 (fun _ _ _ _ _ h=>Z5N h) h10;have:=(Z2f h11).1;simp only [Out.ok.injEq] at h;omega;simp [Z1c] at h;simp [Z1c] at h
end Go.Eng
namespace Go.Proofs.YtipfkbkkndacjaaGreatDoor
open Go Go.Eng Go.RowKit Go.Proofs
theorem ZcN (r:Rul) (p:Option Addr) (a c:Nat) (p':Option Addr) (a' c':Nat) (w):(Instr.buildSlice 90 1 #[(0,.agg (rlC r (.slice p a c) (.slice p' a' c')).toArray)]).run Tryz.prog w=.ok (.slice (some ⟨w.heap.size,0,none⟩) 1 1) (w.alloc (.cells (rlC r (.slice p a c) (.slice p' a' c')).toArray 99)):=by kernel_rfl
theorem ZkI {X:List Nat} {w} {r:Rul} {cs:List Value} (h:Z7.rep X w r cs):∀ i (hi:i < [r].length) (hi':i < [cs].length),Z7.rep X w [r][i] [cs][i]
 | 0,_,_=>h
theorem Zea (X:List Nat) (b:Nat) (tv:Value) (l:List Tkn) (hL:Z3E l) (m:Int) (i o f:Nat) (w:World) (hb1:b≠2) (hbX:b∈X) (hX:∀ c∈X,c<w.heap.size) (hm:w.cell? ⟨2,0,none⟩=some (.I m)) (hp:Pd w b tv l i o) (hf:l.length≤i+f) :
 Calls Tryz.prog 90 #[pQ b] w (PC b w tv l (Z2s l f [] i o) (fun rs v w'=>SlV X w' v (rs.map RuleM.rul))):=by
 have hs0:=hp.2.1;have hm0:=hm;have hbw:=hp.lt;have hll:=hp.2.2.2.1;generalize hR:Z2s l f [] i o=R;refine cW1 22 Tryz.func90 ?_;refine W ?_
 refine Zu (σ:=Nat×List RuleM×Value×Nat×Nat) (fun q=>[(0,pQ b),(3,q.2.2.1)])
  (fun q w'=>Z2s l q.1 q.2.1 q.2.2.2.1 q.2.2.2.2=R∧l.length≤q.2.2.2.1+q.1∧q.2.1.length≤q.2.2.2.1∧Pd w' b tv l q.2.2.2.1 q.2.2.2.2∧Row X w' w.heap.size 99 q.2.2.1 (q.2.1.map RuleM.rul)∧w'.cell? ⟨2,0,none⟩=some (.I m)∧Stp [b] w w')
  (fun q=>q.1) (f,[],.N,i,o) ⟨rfl,rfl,trivial⟩ ⟨hR,hf,Xq _,hp,Row.nil,hm,Stp.refl _ _⟩ ?_
 clear hR hp hm hf;rintro ⟨f1,rs,rv,i1,o1⟩ w1 ⟨hR,hf,hrl,hp,hrow,hm,hS⟩;dsimp only at hR hf hrl hp hrow ⊢;have hi1:=hp.i_lt;obtain ⟨f1,rfl⟩:∃ f',f1=f'+1:=⟨f1 - 1,by omega⟩
 simp only [Z2s] at hR;refine W ?_;refine ZDr 12 [] [] [(0,0),(1,0),(2,0),(3,1),(4,0),(5,0),(6,0),(7,1),(8,0),(9,0),(10,1),(11,0)] (fun w1 hS1=>?_);replace hS1':=hS1;replace hp:=hp.up hS1;replace hrow:=hrow.up hS1;replace hm:=hS1.cell (by simp) hm;replace hS:=hS.trans hS1.mn;clear hS1 hS1';obtain ⟨hpb,hps,hpi,hpl,hpo⟩:=id hp;have hcur:=Z68 hpi;refine D ?_;by_cases hk:(cur l i1).kind=0;rw [if_pos hk] at hR;subst hR;rw [hcur] at hk;refine QO ?_;refine WR ?_;refine PC.ok ?_ hp hS;exact hrow.slv hX;rw [if_neg hk] at hR;rw [hcur] at hk;refine QO ?_;have hXk:∀ c∈ob rv++X,c<w1.heap.size:=fun c hc=>by
  rcases Xh.1 hc with h|h
  exact (hrow.ob_le c h).2;exact Xa (hX c h) hS.size
 have hsub:=ZjC (ob rv++X) b tv l hL m i1 o1 _ hb1 (by simp [hbX]) hXk hm hp;rcases hU:Z97 l i1 o1 with ⟨a,c⟩|⟨r,i2,o2⟩
 rw [hU] at hR;simp only [Out.bind] at hR;subst hR;refine ZU rfl (ZX rfl) (PC.falls hsub hU hS) rfl ?_;intro wz hwz;focus repeat'(first|refine Zj ?_|refine Zg ?_)
 refine ZJ ?_;exact PC.err hwz;rw [hU] at hR;simp only [Out.bind] at hR;have hlt:=ZcM hU;refine CL (PC.goes hsub hU) ?_;rintro _ w3 ⟨⟨ki,kd,rfl,hki,hkd⟩,hp3,hT⟩;replace hrow:=hrow.ext (X':=X) hT (fun c hc=>by
  simp only [Xl] at hc;subst hc;exact ⟨hbX,fun h=>by have:=(hrow.ob_le c h).1;omega⟩) (fun c hc=>.inl hc)
 replace hm:=Ju hm hb1 hT;replace hS:=hS.trans hT;have hXk3:∀ c∈ob rv++X,c<w3.heap.size:=fun c hc=>Xa (hXk c hc) hT.size;clear hT hp hXk hsub hpb hps;obtain ⟨p1,c1,rfl,-⟩:=id hki;obtain ⟨p2,c2,rfl,-⟩:=id hkd;refine Z1 (Z0 (vs:=[(0,.agg (rlC r.rul (.slice p1 r.rul.cnd.kids.length c1) (.slice p2 r.rul.due.kids.length c2)).toArray)]) rfl (ZcN _ _ _ _ _ _ _)) rfl ?_;intro bv w4 hN;have hbv:SlV (ob rv++X) w4 bv [r.rul]:=hN.slvG (css:=[rlC r.rul _ _]) hXk3 rfl rfl (by simp) (ZkI ⟨_,_,rfl,hki,hkd⟩) (by simp [maxLen]);have hT:=Z6.stp hN;replace hp3:=hp3.up hT;replace hrow:=hrow.up hT;replace hm:=hT.cell (by simp) hm;replace hS:=hS.trans hT.mn;clear hT hN hki hkd;have hls:=hS.size;refine Z1 (ZW (X:=X) (base:=w.heap.size) rfl (by decide) rfl rfl hrow hbv (by simp only [Xe,Xf,Xs];omega) (by simp only [Xe,Xf,Xs,maxLen];omega) hls) rfl ?_;rintro rv' w5 ⟨hrow',hT,hown⟩;have hown1:∀ c∈ob rv,w.heap.size≤c:=fun c hc=>(hrow.ob_le c hc).1;have hn1:(2:Nat)∉ob rv:=fun h=>by have:=hown1 _ h;have:=block_lt_of_cell hm0;simp at this;omega
 replace hm:=hT.cell hn1 hm;replace hS:=hS.own hT (fun c hc=>.inr (hown1 c hc));replace hp3:Pd w5 b tv l i2 o2:=by
  obtain ⟨g1,g2,g3,g4,g5⟩:=hp3;exact ⟨g1.ext hT (fun h=>by have:=hown1 b h;omega),hs0.ext hS (fun c hc=>hc) (fun c hc=>.inl hc),g3,g4,g5⟩
 clear hT;refine W ?_;refine QL (f1,rs++[r],rv',i2,o2) ⟨hR,by dsimp only;omega,by simp;omega,hp3,?_,hm,hS⟩ (by dsimp only;omega);rw [XI];exact hrow'
theorem Zeb (X:List Nat) (v:Value) (l:List Int) (m:Nat) (w) (hs:SlV X w v l) (hl:∀ a∈l,I64 a) (hm:m≤100000):CC 65 #[v,.I (m:Int)] w fun r w'=>ZI 3 w w' r (l.take m):=by
 have hmax:=hs.max;refine cW2 14 Tryz.func65 ?_;refine W ?_;have hmin:min (l.length:Int) (m:Int)=((min l.length m:Nat):Int):=by omega
 refine Z4 (Z1d (r:=min l.length m) rfl hs rfl (by omega) (Nat.min_le_left _ _)) rfl ?_;have hsl:SlV X w _ (l.take (min l.length m)):=hs.slc (Xq (min l.length m)) (Nat.min_le_left _ _);refine Z1 (JB rfl (by decide) rfl rfl (ZI.nil (w:=w)) (ys:=l.take (min l.length m)) (hsl.wk (by simp [ob])) (by simp;omega) (by simp [maxLen];omega)) rfl ?_;rintro v' w1 ⟨hrow,-,-⟩;refine W ?_;refine WR ?_;refine .mk ?_;have e:l.take (min l.length m)=l.take m:=by rw [Nat.min_comm,← YaA,Xo]
 rw [XL,e] at hrow;exact hrow
theorem ZkJ (p:Option Addr) (l c:Nat) (w):(Instr.build 146 #[(0,.slice p l c)]).run Tryz.prog w=.ok (.agg #[.slice p l c,.I 0]) w:=by kernel_rfl
theorem ZgQ (X:List Nat) (lv:Value) (l:List Int) (w:World) (hX:∀ b∈X,b<w.heap.size) (hs:SlV [] w lv l) (hl:∀ a∈l,I64 a):CC 36 #[lv] w fun r w'=>∃ rs:List RuleM,rs.length≤4∧(∀ x∈rs,Z7T x)∧SlV X w' r (rs.map RuleM.rul)∧Stp [] w w':=by
 refine cW1 24 Tryz.func36 ?_;refine W ?_;refine CM (Zh rfl rfl) (Zeb [] lv l 120 _ hs hl (by decide)) ?_;rintro v w1 hrow0;have hsl:=hrow0.slv (X:=[]) (by simp);have hS:=hrow0.2;have hl':∀ a∈l.take 120,I64 a:=fun a ha=>hl a (Yaq ha);clear hrow0;generalize l.take 120=l' at *;obtain ⟨p,c,rfl,-⟩:=id hsl;refine W ?_;apply Z8 (vs:=[(0,.slice p l'.length c)]) rfl (ZkJ _ _ _) rfl;refine Z1 (Zq rfl) rfl ?_;rintro _ w2 ⟨bm,rfl,hbm,hmk,hT⟩;replace hmk:Mk3 w2 bm (.slice p l'.length c) 0:=hmk;replace hsl:SlV [bm] w2 (.slice p l'.length c) l':=hsl.ext hT (by simp) (fun b h=>.inr (by simp at h;omega));have hbw:w.heap.size≤bm:=Xg hS.size hbm;replace hS:=hS.trans hT;clear hT hbm;refine W ?_;refine CM (Zh rfl rfl) (Zw bm _ l' _ 5 _ (by decide) (by omega) hmk hsl hl') ?_;rintro _ w3 ⟨k,rfl,hk,hmk,hT⟩;replace hsl:=hsl.ext hT (fun _ h=>h) (fun _ h=>.inl h);have hlt:=hmk.lt;refine W ?_
 refine Zu (σ:=Nat×List RuleM×Value×Nat) (fun q=>[(3,pQ bm),(4,q.2.2.1),(5,.I (k:Int)),(6,.I (q.1:Int))])
  (fun q w'=>q.1≤k∧q.2.1.length=q.1∧(∀ x∈q.2.1,Z7T x)∧q.2.2.2≤1+300 * q.1∧Mk3 w' bm (.slice p l'.length c) q.2.2.2∧Row (bm :: X) w' w3.heap.size 99 q.2.2.1 (q.2.1.map RuleM.rul)∧Stp [bm] w3 w')
  (fun q=>k - q.1) (0,[],.N,1) ⟨rfl,rfl,rfl,rfl,trivial⟩ ⟨Xq _,rfl,by simp,by simp,hmk,Row.nil,Stp.refl _ _⟩ ?_
 have hS3:=hS.ow hT;have hsl3:=hsl;clear hmk hsl hS hT;rintro ⟨i,rs,v,at_⟩ w4 ⟨hi,hlen,hall,hat,hmk,hrow,hS⟩;dsimp only at hi hlen hall hat hmk hrow ⊢;have hsz:=hS.size;by_cases hgo:i<k;refine QO ?_;have hXk:∀ b∈ob v++bm :: X,b<w4.heap.size:=fun b hb=>by
  rcases Xh.1 hb with h|h
  exact (hrow.ob_le b h).2;rcases Xb.1 h with rfl|h
  omega;have:=hX b h;have:=hS3.size;omega
 refine CM (ZX rfl) (Zg2 (ob v++bm :: X) bm _ l' _ _ hmk (hsl3.ext hS (fun _ h=>h) (fun _ h=>.inl h)) hl' (by omega) hXk) ?_;rintro _ w5 ⟨r,i',⟨ki,kd,rfl,hki,hkd⟩,hr,hmk,hi',hT⟩;replace hrow:=hrow.ext (X':=bm :: X) hT (fun b hb=>by
  simp only [Xl] at hb;subst hb;exact ⟨by simp,fun h=>by have:=(hrow.ob_le b h).1;omega⟩) (fun b hb=>.inl hb)
 have hXk5:∀ b∈ob v++bm :: X,b<w5.heap.size:=fun b hb=>Xa (hXk b hb) hT.size;replace hS:=hS.trans hT;clear hT hXk;obtain ⟨p1,c1,rfl,-⟩:=id hki;obtain ⟨p2,c2,rfl,-⟩:=id hkd;refine Z1 (Z0 (vs:=[(0,.agg (rlC r.rul (.slice p1 r.rul.cnd.kids.length c1) (.slice p2 r.rul.due.kids.length c2)).toArray)]) rfl (ZcN _ _ _ _ _ _ _)) rfl ?_;intro bv w6 hN;have hbv:SlV (ob v++bm :: X) w6 bv [r.rul]:=hN.slvG (css:=[rlC r.rul _ _]) hXk5 rfl rfl (by simp) (ZkI ⟨_,_,rfl,hki,hkd⟩) (by simp [maxLen]);have hT:=Z6.stp hN;replace hmk:=hmk.up hT;replace hrow:=hrow.up hT;replace hS:=hS.trans hT.mn;clear hT hN hki hkd;have hls:=hS.size;have hrl:(rs.map RuleM.rul).length=i:=by rw [Xs,hlen]
 refine Z1 (ZW (X:=bm :: X) (base:=w3.heap.size) rfl (by decide) rfl rfl hrow hbv (by simp only [Xe,Xf,Xs];omega) (by simp only [Xe,Xf,Xs,maxLen];omega) hls) rfl ?_;rintro rv' w7 ⟨hrow',hT,hown⟩;have hown1:∀ c∈ob v,w3.heap.size≤c:=fun c hc=>(hrow.ob_le c hc).1;replace hmk:=hmk.ext hT (fun h=>by have:=hown1 _ h;omega);replace hS:=hS.own hT (fun c hc=>.inr (hown1 c hc));clear hT;refine W ?_;refine QL (i+1,rs++[r],rv',i') ⟨hgo,by simp [hlen],?_,Xg hi' (Xg (Ybe hat 300) (Nat.le_of_eq (by rw [Nat.mul_add,Yav]))),hmk,?_,hS⟩ (by dsimp only;omega);intro x hx;rcases Xh.1 hx with h|h
 exact hall x h;simp at h;subst h;exact hr;rw [XI];exact hrow';refine QO ?_;refine WR ?_;refine .mk ⟨rs,by omega,hall,(hrow.slv (fun b hb=>by
  rcases Xb.1 hb with rfl|h
  exact hlt;have:=hX b h;have:=hS3.size;omega)).wk (by simp;exact fun _ h=>.inr h),hS3.ow hS⟩
abbrev rlN (s:Str):Rul:=⟨s,0,s,.mk 2 0 [] [],.mk 3 0 [] [],[],[]⟩
theorem ckN (s:Str):decide (Z0S (rlN s)=0)=ZG s:=by
 have m1:Z1V (.mk 2 0 [] []) 2=0:=by
  unfold Z1V;rw [show ZE (.mk 2 0 [] [])=1 by simp only [Z0J,Nd.kids,XQ];rfl,show Ze (.mk 2 0 [] [])=2 by simp only [Z0I,Nd.kids,Nd.kind,Nd.num,Nd.word,XQ];rfl];decide
 have m2:Z1V (.mk 3 0 [] []) 3=0:=by
  unfold Z1V;rw [show ZE (.mk 3 0 [] [])=1 by simp only [Z0J,Nd.kids,XQ];rfl,show Ze (.mk 3 0 [] [])=3 by simp only [Z0I,Nd.kids,Nd.kind,Nd.num,Nd.word,XQ];rfl];decide
 have hn:Jh (rlN s)=ZG s:=by simp [Jh]
 unfold Z0S;rw [hn,m1,m2];cases ZG s<;>simp
theorem ZcO (k:Int) (w):(Instr.build 97 #[(0,.I k)]).run Tryz.prog w=.ok (.agg #[.I k,.I 0,str [],.N]) w:=by kernel_rfl
theorem Z26 (s:Str) (m:Int) (w) (hF:SlV [] w Z2q Zf) (hm:w.cell? ⟨2,0,none⟩=some (.I m)) :
 CC 191 #[str s] w fun r w'=>r=.B (ZG s)∧Stp [] w w':=by
 refine cW1 12 Tryz.func191 ?_;refine W ?_;apply Z8 (vs:=[(0,.I 2)]) rfl (ZcO _) rfl;apply Z8 (vs:=[(0,.I 3)]) rfl (ZcO _) rfl;apply Z8 (vs:=[(0,str s),(2,str s),(3,.agg #[.I 2,.I 0,str [],.N]),(4,.agg #[.I 3,.I 0,str [],.N])]) rfl (ZjN _ _ _ _ _ _ _ _ _ _ _ _ _ _) rfl;refine Z1 Z2 rfl ?_;rintro _ w1 ⟨b,rfl,hb,e0,hT⟩;refine SB (us:=rlC (rlN s) Jk Jk) (Zaz (rlN s) (Zm (α:=Nd) [] w) (Zm (α:=Nd) [] w)) e0 ?_;rintro _ w2 ⟨hT2,e1⟩;have hS:=hT.ow hT2;clear hT hT2 e0;refine W ?_;refine CM (ZX rfl) (Z6J _ (rlN s) m _ ⟨Jk,Jk,rfl,Zm _ _,Zm _ _⟩ (hF.up hS) (hS.cell (by simp) hm)) ?_;rintro _ w3 ⟨rfl,hT⟩;replace hS:=hS.trans hT;refine RT ?_;exact ⟨by rw [← ckN s],hS⟩
def Z0y (q:Cr):Bool:=decide ((Z1W q.cnd).2≠0) || decide ((Z1W q.due).2≠0) || decide ((Z1W q.cnd).1≠2) || decide ((Z1W q.due).1≠3) || decide (q.frm<0) || decide (q.frm > 3652058) || !ZG q.name || !ZG q.on || (decide (q.unl≠[]) && !ZG q.unl) || (decide (q.els≠[]) && !ZG q.els)
def ZcP (q:Cr):Int:=if Z0y q then 22 else 0
theorem Zec (v:Value) (q:Cr) (w) (m:Int) (hF:SlV [] w Z2q Zf) (hm:w.cell? ⟨2,0,none⟩=some (.I m)) (hv:CrV [] w v q) (hop:∀ x∈q.cnd++q.due,opP x.op) :
 CC 110 #[v] w fun r w'=>r=.I (ZcP q)∧Stp [] w w':=by
 obtain ⟨kc,kd,rfl,hc1,hd1⟩:=hv;refine cW1 60 Tryz.func110 ?_;refine W ?_;refine Z1 (Zq rfl) rfl ?_;rintro _ w1 ⟨b,rfl,hb,e1,hS⟩;replace e1:Blk w1 b 62 (crC q kc kd):=e1;replace hc1:=hc1.up hS;replace hd1:=hd1.up hS;clear hb;refine W ?_;refine CL (Z7V _ q.cnd _ hc1 (fun x hx=>hop x (Xh.2 (.inl hx)))) ?_;rintro _ w2 ⟨rfl,hT⟩;replace e1:=e1.up hT;replace hc1:=hc1.up hT;replace hd1:=hd1.up hT;replace hS:=hS.trans hT;clear hT;refine W ?_;refine CL (Z7V _ q.due _ hd1 (fun x hx=>hop x (Xh.2 (.inr hx)))) ?_;rintro _ w2 ⟨rfl,hT⟩;replace e1:=e1.up hT;replace hc1:=hc1.up hT;replace hd1:=hd1.up hT;replace hS:=hS.trans hT;clear hT;refine W ?_;refine JA (σ:=Bool) (fun u=>[(1,pQ b),(2,.I 0),(19,.B u)]) (fun u w'=>Blk w' b 62 (crC q kc kd)∧Stp [] w w'∧u=Z0y q) ?_ ?_
 · repeat'(first|refine W1 ?_|omega|refine VG ?_ ?_<;>intro hg|refine VC ?_ ?_<;>intro hc)
   all_goals try (first|exact ZN true ⟨rfl,rfl,rfl,trivial⟩ ⟨e1,hS,by simp [Z0y, *]⟩|exact ZN false ⟨rfl,rfl,rfl,trivial⟩ ⟨e1,hS,by simp [Z0y, *]⟩|exact ZN _ ⟨rfl,rfl,rfl,trivial⟩ ⟨e1,hS,by simp [Z0y, *]⟩)
   refine W ?_;refine CM (ZX rfl) (Z26 q.name m _ (hF.up hS) (hS.cell (by simp) hm)) ?_;rintro _ w3 ⟨rfl,hT⟩;replace e1:=e1.up hT;replace hc1:=hc1.up hT;replace hd1:=hd1.up hT;replace hS:=hS.trans hT;clear hT;cases hn_name:ZG q.name with
   | false=>
     repeat'(first|refine W1 ?_|omega|refine VG ?_ ?_<;>intro hg|refine VC ?_ ?_<;>intro hc)
     all_goals (first|exact ZN true ⟨rfl,rfl,rfl,trivial⟩ ⟨e1,hS,by simp [Z0y, *]⟩|exact ZN false ⟨rfl,rfl,rfl,trivial⟩ ⟨e1,hS,by simp [Z0y, *]⟩|exact ZN _ ⟨rfl,rfl,rfl,trivial⟩ ⟨e1,hS,by simp [Z0y, *]⟩)
   | true=>
     repeat'(first|refine W1 ?_|omega|refine VG ?_ ?_<;>intro hg|refine VC ?_ ?_<;>intro hc)
     refine W ?_;refine CM (ZX rfl) (Z26 q.on m _ (hF.up hS) (hS.cell (by simp) hm)) ?_;rintro _ w3 ⟨rfl,hT⟩;replace e1:=e1.up hT;replace hc1:=hc1.up hT;replace hd1:=hd1.up hT;replace hS:=hS.trans hT;clear hT;cases hn_on:ZG q.on with
     | false=>
       repeat'(first|refine W1 ?_|omega|refine VG ?_ ?_<;>intro hg|refine VC ?_ ?_<;>intro hc)
       all_goals (first|exact ZN true ⟨rfl,rfl,rfl,trivial⟩ ⟨e1,hS,by simp [Z0y, *]⟩|exact ZN false ⟨rfl,rfl,rfl,trivial⟩ ⟨e1,hS,by simp [Z0y, *]⟩|exact ZN _ ⟨rfl,rfl,rfl,trivial⟩ ⟨e1,hS,by simp [Z0y, *]⟩)
     | true=>
       repeat'(first|refine W1 ?_|omega|refine VG ?_ ?_<;>intro hg|refine VC ?_ ?_<;>intro hc)
       · refine W ?_
         refine CM (ZX rfl) (Z26 q.unl m _ (hF.up hS) (hS.cell (by simp) hm)) ?_;rintro _ w3 ⟨rfl,hT⟩;replace e1:=e1.up hT;replace hc1:=hc1.up hT;replace hd1:=hd1.up hT;replace hS:=hS.trans hT;clear hT;cases hn_unl:ZG q.unl with
         | false=>
           repeat'(first|refine W1 ?_|omega|refine VG ?_ ?_<;>intro hg|refine VC ?_ ?_<;>intro hc)
           all_goals (first|exact ZN true ⟨rfl,rfl,rfl,trivial⟩ ⟨e1,hS,by simp [Z0y, *]⟩|exact ZN false ⟨rfl,rfl,rfl,trivial⟩ ⟨e1,hS,by simp [Z0y, *]⟩|exact ZN _ ⟨rfl,rfl,rfl,trivial⟩ ⟨e1,hS,by simp [Z0y, *]⟩)
         | true=>
           repeat'(first|refine W1 ?_|omega|refine VG ?_ ?_<;>intro hg|refine VC ?_ ?_<;>intro hc)
           · refine W ?_
             refine CM (ZX rfl) (Z26 q.els m _ (hF.up hS) (hS.cell (by simp) hm)) ?_;rintro _ w3 ⟨rfl,hT⟩;replace e1:=e1.up hT;replace hc1:=hc1.up hT;replace hd1:=hd1.up hT;replace hS:=hS.trans hT;clear hT;cases hn_els:ZG q.els with
             | false=>
               repeat'(first|refine W1 ?_|omega|refine VG ?_ ?_<;>intro hg|refine VC ?_ ?_<;>intro hc)
               all_goals (first|exact ZN true ⟨rfl,rfl,rfl,trivial⟩ ⟨e1,hS,by simp [Z0y, *]⟩|exact ZN false ⟨rfl,rfl,rfl,trivial⟩ ⟨e1,hS,by simp [Z0y, *]⟩|exact ZN _ ⟨rfl,rfl,rfl,trivial⟩ ⟨e1,hS,by simp [Z0y, *]⟩)
             | true=>
               repeat'(first|refine W1 ?_|omega|refine VG ?_ ?_<;>intro hg|refine VC ?_ ?_<;>intro hc)
               all_goals (first|exact ZN true ⟨rfl,rfl,rfl,trivial⟩ ⟨e1,hS,by simp [Z0y, *]⟩|exact ZN false ⟨rfl,rfl,rfl,trivial⟩ ⟨e1,hS,by simp [Z0y, *]⟩|exact ZN _ ⟨rfl,rfl,rfl,trivial⟩ ⟨e1,hS,by simp [Z0y, *]⟩)
           all_goals (first|exact ZN true ⟨rfl,rfl,rfl,trivial⟩ ⟨e1,hS,by simp [Z0y, *]⟩|exact ZN false ⟨rfl,rfl,rfl,trivial⟩ ⟨e1,hS,by simp [Z0y, *]⟩|exact ZN _ ⟨rfl,rfl,rfl,trivial⟩ ⟨e1,hS,by simp [Z0y, *]⟩)
       · refine W ?_
         refine CM (ZX rfl) (Z26 q.els m _ (hF.up hS) (hS.cell (by simp) hm)) ?_;rintro _ w3 ⟨rfl,hT⟩;replace e1:=e1.up hT;replace hc1:=hc1.up hT;replace hd1:=hd1.up hT;replace hS:=hS.trans hT;clear hT;cases hn_els:ZG q.els with
         | false=>
           repeat'(first|refine W1 ?_|omega|refine VG ?_ ?_<;>intro hg|refine VC ?_ ?_<;>intro hc)
           all_goals (first|exact ZN true ⟨rfl,rfl,rfl,trivial⟩ ⟨e1,hS,by simp [Z0y, *]⟩|exact ZN false ⟨rfl,rfl,rfl,trivial⟩ ⟨e1,hS,by simp [Z0y, *]⟩|exact ZN _ ⟨rfl,rfl,rfl,trivial⟩ ⟨e1,hS,by simp [Z0y, *]⟩)
         | true=>
           repeat'(first|refine W1 ?_|omega|refine VG ?_ ?_<;>intro hg|refine VC ?_ ?_<;>intro hc)
           all_goals (first|exact ZN true ⟨rfl,rfl,rfl,trivial⟩ ⟨e1,hS,by simp [Z0y, *]⟩|exact ZN false ⟨rfl,rfl,rfl,trivial⟩ ⟨e1,hS,by simp [Z0y, *]⟩|exact ZN _ ⟨rfl,rfl,rfl,trivial⟩ ⟨e1,hS,by simp [Z0y, *]⟩)
       all_goals (first|exact ZN true ⟨rfl,rfl,rfl,trivial⟩ ⟨e1,hS,by simp [Z0y, *]⟩|exact ZN false ⟨rfl,rfl,rfl,trivial⟩ ⟨e1,hS,by simp [Z0y, *]⟩|exact ZN _ ⟨rfl,rfl,rfl,trivial⟩ ⟨e1,hS,by simp [Z0y, *]⟩)
 rintro u w4 ⟨e1,hS,hu⟩
 try dsimp only at hu ⊢
 unfold ZcP;rw [← hu];cases u with
 | true=>
   repeat'(first|refine W1 ?_|omega|refine VG ?_ ?_<;>intro hg|refine VC ?_ ?_<;>intro hc)
   refine RU ?_;exact ⟨rfl,hS⟩
 | false=>
   repeat'(first|refine W1 ?_|omega|refine VG ?_ ?_<;>intro hg|refine VC ?_ ?_<;>intro hc)
   refine RU ?_;exact ⟨rfl,hS⟩
structure Zxb (q:Cr):Prop where
 frm:I64 q.frm
 cnd:∀ x∈q.cnd,I64 x.op∧I64 x.n
 due:∀ x∈q.due,I64 x.op∧I64 x.n
 lcnd:q.cnd.length≤200
 ldue:q.due.length≤200
 lname:q.name.length≤12
 lon:q.on.length≤12
 lunl:q.unl.length≤12
 lels:q.els.length≤12
def Z4z (m:Nat) (z:Ins):Prop:=0≤z.op∧z.op≤24∧0≤z.n∧z.n≤2147483647+(m:Int)
theorem Z4z.le {m k:Nat} {z:Ins} (h:Z4z m z) (hk:m≤k):Z4z k z:=⟨h.1,h.2.1,h.2.2.1,by have:=h.2.2.2;omega⟩
theorem ZkK:∀ (l:List Nd) (p m:Nat),(∀ y∈l,∀ p,∀ z∈Zb y p,Z4z (p+(Zb y p).length) z)→p+(Jn (l.map Zb) p).length≤m→∀ z∈Jn (l.map Zb) p,Z4z m z
 | [],p,m,_,_,z,hz=>by simp [Jn] at hz
 | y :: l, p, m, h, hm, z, hz => by
   simp only [Xy,Jn,Xh,Xc] at hz hm;rcases hz with hz|hz
   exact (h y (by simp) p z hz).le (by omega);exact ZkK l _ m (fun y hy=>h y (by simp [hy])) (by omega) z hz
theorem Zxc (s:Str):∀ o∈opF s,0≤o∧o≤24:=by
 intro o ho;unfold opF at ho;cases h:Z7w.find? (fun p=>decide (p.1=s)) with
 | none=>rw [h] at ho;cases ho
 | some p=>
   rw [h] at ho;have hall:∀ q∈Z7w,∀ o∈q.2,0≤o∧o≤24:=by decide +kernel
   exact hall p (X3 h) o ho
theorem ZkL (k:Int) (s:Str) (m:Nat):∀ z∈Z3L k s,Z4z m z:=by
 intro z hz;unfold Z3L Z29 at hz;simp only [Xh,XC] at hz;rcases hz with hz|⟨o,ho,rfl⟩
 split at hz;simp only [Xb,Xj,or_false] at hz;subst hz;exact ⟨by decide,by decide,by decide,by simp only;omega⟩;cases hz;obtain ⟨h1,h2⟩:=Zxc s o ho;exact ⟨h1,h2,by simp,by simp only;omega⟩
theorem ZkM (c y n:Cf) (p m:Nat) (hc:∀ p,∀ z∈c p,Z4z (p+(c p).length) z) (hy:∀ p,∀ z∈y p,Z4z (p+(y p).length) z) (hn:∀ p,∀ z∈n p,Z4z (p+(n p).length) z) (hm:p+(chC c y n p).length≤m):∀ z∈chC c y n p,Z4z m z:=by
 intro z hz;unfold chC at hz hm;simp only [Xh,Xb,Xj,or_false,Xc,Xe,Xf] at hz hm;rcases hz with (((hz|rfl)|hz)|rfl)|hz
 exact (hc p z hz).le (by omega);exact ⟨by simp,by simp,by simp only;omega,by simp only;omega⟩;exact (hy _ z hz).le (by omega);exact ⟨by simp,by simp,by simp only;omega,by simp only;omega⟩;exact (hn _ z hz).le (by omega)
theorem ZnV (k n:Int) (s:Str) (m:Nat) (h:Z0Y k n s≠0):Z4z m (Z0Z k n s):=by
 unfold Z0Y at h;unfold Z0Z;by_cases k4:k=4
 · subst k4
   rw [if_pos rfl] at h;have hf:(ZR s).2.2=true:=by
    cases hb:(ZR s).2.2 with
    | true=>rfl
    | false=>rw [Z5V hb] at h;simp at h
   obtain ⟨i,hi,_,he⟩:=(Z7W s (ZR s).1).1 ⟨hf,rfl⟩;rw [if_neg (by decide),if_neg (by decide),if_neg (by decide)];exact ⟨by simp,by simp,by simp only;omega,by simp only;omega⟩
 rw [if_neg k4] at h;split at h;exact absurd rfl h;by_cases k1:k=1;rw [if_pos k1] at h ⊢;split at h;exact ⟨by simp,by simp,by simp only;omega,by simp only;omega⟩;exact absurd rfl h;rw [if_neg k1] at h ⊢;by_cases k2:k=2;rw [if_pos k2] at h ⊢;split at h;exact ⟨by simp,by simp,by simp only;omega,by simp only;omega⟩;exact absurd rfl h;rw [if_neg k2] at h ⊢;by_cases k3:k=3;rw [if_pos k3] at h ⊢;split at h;exact ⟨by simp,by simp,by simp only;omega,by simp only;omega⟩;exact absurd rfl h;rw [if_neg k3] at h;exact absurd rfl h
theorem ZtS (x:Nd):Ze x≠0→∀ p,∀ z∈Zb x p,Z4z (p+(Zb x p).length) z:=by
 induction x using Nd.ind with
 | h k n s l ih=>
 intro ht p;have hk:∀ y∈l,Ze y≠0:=fun y hy=>Z6a (x:=.mk k n s l) ht hy;have ih':∀ y∈l,∀ p,∀ z∈Zb y p,Z4z (p+(Zb y p).length) z:=fun y hy=>ih y hy (hk y hy);have hteq:Ze (.mk k n s l)=JF k n s (l.map Ze):=Z0I _;rw [hteq] at ht;have hplain:∀ m,p+(Z0C k s (l.map Zb) p).length≤m→∀ z∈Z0C k s (l.map Zb) p,Z4z m z:=fun m hm z hz=>by
  rw [Z2E] at hz hm;rw [Xc] at hm;rcases Xh.1 hz with hz|hz
  exact ZkK l p m ih' (by omega) z hz;exact ZkL k s m z hz
 have hget:∀ i,∀ p,∀ z∈(l.map Zb).getD i Z4S p,Z4z (p+((l.map Zb).getD i Z4S p).length) z:=fun i p z hz=>by
  by_cases hi:i<l.length;have e:(l.map Zb).getD i Z4S=Zb l[i]:=by rw [XA,XN (by simpa using hi)];simp
  rw [e] at hz ⊢;exact ih' _ (Xd hi) p z hz;have e:(l.map Zb).getD i Z4S=Z4S:=by rw [XA,YaP (by simpa using hi)];rfl
  rw [e] at hz;cases hz
 have hbool:∀ b:Int,(b=0∨b=1)→∀ p:Nat,∀ z∈[(⟨2,b⟩:Ins)],Z4z (p+[(⟨2,b⟩:Ins)].length) z:=fun b hb p z hz=>by
  simp only [Xb,Xj,or_false] at hz;subst hz;exact ⟨by simp,by simp,by simp only;omega,by simp only;omega⟩
 have hle:∀ c:List Ins,p+c.length≤p+c.length:=fun c=>Xn _;rw [Zb];rcases Z6M ht with ⟨he,hc⟩|⟨h0,h3,hn0,hc⟩
 have hl:l=[]:=by simpa using he
 subst hl;unfold Z1b;rw [if_pos (show (List.map Zb ([]:List Nd)).length=0 from rfl)];intro z hz;simp only [Xb,Xj,or_false] at hz;subst hz;exact ZnV k n s _ (by rw [← hc];exact ht);have hl:l≠[]:=fun h=>hn0 (by rw [h];rfl)
 have hlen0:¬ (l.map Zb).length=0:=by simpa using hl
 unfold Z1b;rw [if_neg hlen0];split;exact ZkM _ _ _ p _ (hget 0) (hget 1) (hget 2) (Xn _);split;exact ZkM _ _ _ p _ (hget 0) (hget 1) (hbool 0 (.inl rfl)) (Xn _);split;exact ZkM _ _ _ p _ (hget 0) (hbool 1 (.inr rfl)) (hget 1) (Xn _);split;intro z hz;rcases Xh.1 hz with hz|hz
 exact hplain _ (by simp) z hz;simp only [Xb,Xj,or_false] at hz;subst hz;exact ⟨by simp,by simp,by simp only;omega,by simp only;omega⟩;exact hplain _ (Xn _)
theorem Z9G (x:Nd) (ht:Ze x≠0) (hl:(J0 x).length≤200):∀ z∈J0 x,I64 z.op∧I64 z.n:=by
 intro z hz;unfold J0 at hz hl;rw [Xc] at hl;rcases Xh.1 hz with hz|hz
 obtain ⟨h1,h2,h3,h4⟩:=ZtS x ht 0 z hz;unfold I64;constructor<;>omega;simp only [Xb,Xj,or_false] at hz;subst hz;unfold I64;simp
theorem Z4s {s:Str} (h:ZG s=true):s.length≤12:=by
 unfold ZG Z3I at h;simp only [Xm,decide_eq_true_eq] at h;have:=h.1;omega
theorem ZcQ (r:Rul) (h:Z0z r=0):Zxb (crF r)∧ZcP (crF r)=0:=by
 unfold crF;rw [if_pos h];unfold Z0z at h;split at h
 contradiction;rename_i hck;have hck':Z0S r=0:=by omega
 unfold Z0S at hck';split at hck';simp at hck';rename_i hnm;split at hck';simp at hck';rename_i hfr;split at hck'
 contradiction;rename_i hm1;have hm1':Z1V r.cnd 2=0:=by omega
 split at h
 contradiction;rename_i he1;have he1':Z0D r.cnd=0:=by omega
 have key:∀ (x:Nd) (t:Int),t≠0→Z1V x t=0→Z0D x=0→ZE x≤12∧Ze x=t∧(J0 x).length≤200:=fun x t ht0 hm he=>by
  unfold Z1V at hm;unfold Z0D at he;split at hm;rename_i hn;rw [if_pos hn] at he;split at hm;simp at hm;rename_i h0;rw [if_neg h0] at he;split at hm;rename_i htt;split at he;simp at he;exact ⟨hn,htt,by omega⟩;simp at hm;simp at hm
 obtain ⟨n1,t1,l1⟩:=key r.cnd 2 (by decide) hm1' he1';obtain ⟨n2,t2,l2⟩:=key r.due 3 (by decide) hck' h;have v1:=Z9l r.cnd (by omega) n1 l1;have v2:=Z9l r.due (by omega) n2 l2;have hnm':Jh r=true:=by simpa using hnm
 unfold Jh at hnm';simp only [Xm,YaE,decide_eq_true_eq] at hnm';obtain ⟨⟨⟨a1,a2⟩,a3⟩,a4⟩:=hnm';refine ⟨⟨show I64 r.frm by unfold I64;omega,Z9G _ (by omega) l1,Z9G _ (by omega) l2,l1,l2,Z4s a1,Z4s a2,?_,?_⟩,?_⟩;rcases a3 with h|h
 rw [show (⟨r.name,r.frm,r.on,J0 r.cnd,J0 r.due,r.unl,r.els⟩:Cr).unl=r.unl from rfl,h];simp;exact Z4s h;rcases a4 with h|h
 rw [show (⟨r.name,r.frm,r.on,J0 r.cnd,J0 r.due,r.unl,r.els⟩:Cr).els=r.els from rfl,h];simp;exact Z4s h;unfold ZcP Z0y;simp only [v1,v2,t1,t2,a1,a2];rcases a3 with h3|h3<;>rcases a4 with h4|h4<;>simp [h3,h4]<;>omega
structure ZkN (n:Nat) (a:Atp):Prop where
 entry:0≤a.entry∧a.entry≤15
 party:0≤a.party∧a.party≤2
 crr:0≤a.crr∧a.crr<n
 sent:739616≤a.sent∧a.sent≤739655
 len:a.rets.length≤3
 rets:∀ x∈a.rets,Zfb n x
def Z9H (l:List Fct):Prop:=∀ k (h:k<l.length),2 * (k:Int)≤l[k].entry∧l[k].entry≤2 * (k:Int)+1
structure Z8Q (c:Cas):Prop where
 fl:c.fcts.length≤8
 fo:∀ f∈c.fcts,Z9A f
 en:Z9H c.fcts
 rl:c.ruls.length≤4
 ro:∀ q∈c.ruls,∃ r:RuleM,Z7T r∧Z0z r.rul=0∧q=crF r.rul
 al:c.atts.length≤4
 ao:∀ a∈c.atts,ZkN c.crrs.length a
 cl:1≤c.crrs.length∧c.crrs.length≤4
 co:∀ x∈c.crrs,Z9B x
 sl:c.stys.length≤2
 so:∀ x∈c.stys,Zfa x
 cal:Zoz c.cal
 court:0≤c.court∧c.court≤2
 today:739616≤c.today∧c.today≤739705
structure Z8R (X:List Nat) (lv:Value) (l:List Int) (c:Cas) (R:Z11) (w:World):Prop where
 li:SlV X w lv l
 ff:SlV X w R.fv c.fcts
 rr:SlV X w R.rv c.ruls
 aa:SlV X w R.av c.atts
 cc:SlV X w R.cv c.crrs
 ss:SlV X w R.sv c.stys
 ho:SlV X w R.hv c.cal.hols
 clo:SlV X w R.lv c.cal.clos
 one:R.zo.oneCell'=true∧R.zs.oneCell'=true∧R.hr.oneCell'=true
theorem Z8R.ext {X:List Nat} {lv:Value} {l:List Int} {c:Cas} {R:Z11} {w w':World} (h:Z8R X lv l c R w) (hS:Stp X w w'):Z8R X lv l c R w':=
 ⟨h.li.ext hS (fun _ h=>h) (fun _ h=>.inl h),h.ff.ext hS (fun _ h=>h) (fun _ h=>.inl h),h.rr.ext hS (fun _ h=>h) (fun _ h=>.inl h),h.aa.ext hS (fun _ h=>h) (fun _ h=>.inl h),h.cc.ext hS (fun _ h=>h) (fun _ h=>.inl h),h.ss.ext hS (fun _ h=>h) (fun _ h=>.inl h),h.ho.ext hS (fun _ h=>h) (fun _ h=>.inl h),h.clo.ext hS (fun _ h=>h) (fun _ h=>.inl h),h.one⟩
theorem Z8R.cell {X:List Nat} {lv:Value} {l:List Int} {c:Cas} {R:Z11} {w} (h:Z8R X lv l c R w):∀ u∈JE c R,u.oneCell'=true:=by
 have h1:=h.ff.one;have h2:=h.rr.one;have h3:=h.aa.one;have h4:=h.cc.one;have h5:=h.ss.one;have h6:=h.ho.one;have h7:=h.clo.one;obtain ⟨h8,h9,h10⟩:=h.one;intro u hu;simp only [JE,Z0e,Xb,Xj,or_false,XR,XL] at hu;rcases hu with rfl|rfl|rfl|rfl|rfl|rfl|rfl|rfl|rfl|rfl|rfl|rfl|rfl|rfl|rfl|rfl|rfl|rfl|rfl<;>first|assumption|rfl
theorem ZgR (c:Cal) (hv lv zo zs hr:Value) (p:Option Addr) (n k:Nat) (cs:List Crr) (ct td:Int) (w):(Instr.build 37 #[(5,Z6o c hv lv zo zs hr),(3,.slice p n k),(6,.I ct),(7,.I td)]).run Tryz.prog w=.ok (.agg (JE ⟨[],[],[],cs,[],c,ct,td⟩ ⟨.N,.N,.N,.slice p n k,.N,hv,lv,zo,zs,hr⟩).toArray) w:=by kernel_rfl
theorem ZgS (f:Fct) (w):(Instr.buildSlice 24 1 #[(0,aG f)]).run Tryz.prog w=.ok (.slice (some ⟨w.heap.size,0,none⟩) 1 1) (w.alloc (.cells (Z3.enc f).toArray 45)):=by kernel_rfl
theorem ZkO (a b c d:Int) (w):(Instr.build 78 #[(0,.I a),(1,.I b),(2,.I c),(3,.I d)]).run Tryz.prog w=.ok (.agg (atC ⟨a,b,c,d,[]⟩ (.N)).toArray) w:=by kernel_rfl
theorem Zfe {a:Atp} {v:Value} (h:v.oneCell'=true):∀ u∈atC a v,u.oneCell'=true:=by
 intro u hu;simp only [Xb,Xj,or_false] at hu;rcases hu with rfl|rfl|rfl|rfl|rfl<;>first|assumption|rfl
theorem Zed (lv:Value) (l:List Int) (w) (hs:SlV [] w lv l) (hl:∀ a∈l,I64 a) (hL:Z0E w) (hM:Z3n w) :
 CC 10 #[lv] w fun r w'=>∃ (c:Cas) (R:Z11),r=.agg (JE c R).toArray∧Z1H w' c R∧Z8Q c∧Stp [] w w':=by
 have hl':∀ k,∀ a∈l.drop k,I64 a:=fun k a h=>hl a (YaG h);refine cW1 137 Tryz.func10 ?_;refine W ?_;refine Z1 Z2 rfl ?_;rintro _ w1 ⟨b2,rfl,hb2,e2,hS⟩;refine W ?_;refine CL (Z1e lv l 40 _ (hs.up hS)) ?_;rintro v1 w2 ⟨h1,rfl⟩;have b2w:=e2.lt;refine W ?_;refine CM (ZX rfl) (Z8q [b2] v1 _ _ (by simpa using b2w) h1 (hl' 40)) ?_;rintro _ w3 ⟨cal,hv,cv,zo,zs,hr,rfl,hone,hcal,hho,hcl,hT⟩;replace e2:=e2.up hT;replace hS:=hS.trans hT;clear hT h1;refine W ?_;refine CL (Z1e lv l 60 _ (hs.up hS)) ?_;rintro v1 w4 ⟨h1,rfl⟩;refine W ?_;refine CL (ZaY v1 _ _ h1 (hl' 60)) ?_;rintro crv w5 ⟨cs,hc1,hc4,hco,hcr⟩;have hcc:SlV [b2] w5 crv cs:=hcr.slv (by simpa using e2.lt);have hT:=hcr.2;replace e2:=e2.up hT;replace hho:=hho.up hT;replace hcl:=hcl.up hT;replace hS:=hS.trans hT;clear hT h1 hcr;refine W ?_;refine CM (Js rfl rfl rfl) (J1 [] _ l 0 3 _ (by decide) (by unfold I64;omega) (hs.up hS) hl) ?_;rintro _ w6 ⟨ct,rfl,hct,hT⟩;replace e2:=e2.up hT;replace hho:=hho.up hT;replace hcl:=hcl.up hT;replace hcc:=hcc.up hT;replace hS:=hS.trans hT;clear hT;refine W ?_;refine CM (Js rfl rfl rfl) (J1 [] _ l 1 90 _ (by decide) (by unfold I64;omega) (hs.up hS) hl) ?_;rintro _ w7 ⟨td,rfl,htd,hT⟩;replace e2:=e2.up hT;replace hho:=hho.up hT;replace hcl:=hcl.up hT;replace hcc:=hcc.up hT;replace hS:=hS.trans hT;clear hT;obtain ⟨p,k,rfl,-⟩:=id hcc;refine W ?_;refine Z8 rfl (ZgR cal hv cv zo zs hr p cs.length k cs (ct:Int) (739616+(td:Int))) rfl ?_;generalize (.slice p cs.length k:Value)=crv at hcc ⊢;refine Z1 Z2 rfl ?_;rintro _ w8 ⟨b3,rfl,hb3,e3,hT⟩;have b2w7:=e2.lt;have n23:b2≠b3:=by omega
 replace e2:=e2.up hT;have nc:∀ b∈[b2,b3],b∈[b2]∨w7.heap.size≤b:=fun b hb=>by simp at hb ⊢;omega
 obtain ⟨hs8,hho8,hcl8,hcc8⟩:SlV [b2,b3] w8 lv l∧SlV [b2,b3] w8 hv cal.hols∧SlV [b2,b3] w8 cv cal.clos∧SlV [b2,b3] w8 crv cs:=⟨by
  have h:=hs.ext (X':=[b2,b3]) (hS.trans hT) (by simp) (fun b hb=>.inr (by have:=hS.size;simp at hb;omega));exact h,hho.ext hT (by simp) nc,hcl.ext hT (by simp) nc,hcc.ext hT (by simp) nc⟩
 replace hS:=hS.trans hT;clear hT hho hcl hcc nc;have hcb:Z8R [b2,b3] lv l ⟨[],[],[],cs,[],cal,(ct:Int),739616+(td:Int)⟩ ⟨.N,.N,.N,crv,.N,hv,cv,zo,zs,hr⟩ w8:=⟨hs8,ZZ _ _,ZZ _ _,ZZ _ _,hcc8,ZZ _ _,hho8,hcl8,hone⟩
 have hmk:Z8Q ⟨[],[],[],cs,[],cal,(ct:Int),739616+(td:Int)⟩:=⟨Xq _,by simp,fun k h=>by simp at h,Xq _,by simp,Xq _,by simp,⟨hc1,hc4⟩,hco,Xq _,by simp,hcal,by dsimp only;omega,by dsimp only;omega⟩
 clear hs8 hho8 hcl8 hcc8 hone;generalize hCe:(⟨[],[],[],cs,[],cal,(ct:Int),739616+(td:Int)⟩:Cas)=C at *;generalize hRe:(⟨.N,.N,.N,crv,.N,hv,cv,zo,zs,hr⟩:Z11)=R at *;refine SB (us:=JE C R) hcb.cell e3 ?_;rintro _ w9 ⟨hT,e3⟩;replace hcb:=hcb.ext hT.mn;replace e2:=e2.ext hT (by simpa using n23);have g3:w.heap.size≤b3:=by have:=hS.size;have:=e3.lt;omega
 replace hS:=hS.ow hT;clear hT;have l2:=e2.lt;have l3:=e3.lt;have hC0:C.fcts=[]:=by rw [← hCe]
 have hC1:C.ruls=[]:=by rw [← hCe]
 have hC2:C.atts=[]:=by rw [← hCe]
 clear hCe;have hR0:R.fv=.N:=by rw [← hRe]
 have hR1:R.rv=.N:=by rw [← hRe]
 have hR2:R.av=.N:=by rw [← hRe]
 clear hRe;refine W ?_
 refine Zu (σ:=Nat×Value×List Fct) (fun q=>[(0,lv),(2,pQ b2),(3,pQ b3),(4,.I (q.1:Int))])
  (fun q W=>q.1≤8∧q.2.2.length=q.1∧(∀ f∈q.2.2,Z9A f)∧Z9H q.2.2∧Row [b2,b3] W w9.heap.size 45 q.2.1 q.2.2∧Blk W b3 37 (JE C { R with fv:=q.2.1 })∧Stp [b3] w9 W) (fun q=>9 - q.1) (0,.N,[])
  ⟨rfl,rfl,rfl,rfl,trivial⟩ ⟨by decide,rfl,by simp,fun k h=>by simp at h,Row.nil,by rw [← hR0];exact e3,Stp.refl _ _⟩ ?_
 clear e3;rintro ⟨j,fv,fs⟩ y1 ⟨hj,hlen,hok,hen,hrow,e3,hT⟩;dsimp only at hj hlen hok hen hrow e3 ⊢;have hcY:=hcb.ext hT.mn;have hli:SlV [] y1 lv l:=hcY.li.wk (by simp);have hob:=fun b hb=>hrow.ob_le b hb;refine W ?_;refine CM (Js rfl rfl rfl) (J1 [] _ l 2 9 _ (by decide) (by unfold I64;omega) hli hl) ?_;rintro _ y2 ⟨q,rfl,hq,hU⟩;replace hrow:=hrow.up hU;replace e3:=e3.up hU;replace hli:=hli.up hU;replace hT:=hT.trans hU.mn;clear hU hcY;by_cases hlt:(j:Int)<(q:Int);refine QO ?_;refine ZDr 16 [] [13,15] [(0,0),(1,1),(2,0),(3,0),(4,0),(7,0),(8,0),(9,0),(5,2),(6,0),(10,2),(11,2),(12,2),(13,2),(14,0),(15,2)] (fun w1 hS1=>?_);replace hrow:=hrow.up hS1;replace e3:=e3.up hS1;replace hli:=hli.up hS1;replace hT:=hT.trans hS1.mn;clear hS1;refine QD ?_;refine Zc rfl trivial (Zd rfl (Js rfl rfl rfl) (J1 [] _ l 3 2 _ (by decide) (by unfold I64;omega) hli hl)) (fun _ _ h=>h.choose_spec.2.2) rfl ?_;rintro _ y3 ⟨q3,rfl,hq3,hU⟩;replace hrow:=hrow.up hU;replace e3:=e3.up hU;replace hli:=hli.up hU;replace hT:=hT.trans hU.mn;clear hU;refine QD ?_;refine Zc rfl trivial (Zd rfl (Js rfl rfl rfl) (J1 [] _ l (4+(j:Int)) 100000000 _ (by decide) (by unfold I64;omega) hli hl)) (fun _ _ h=>h.choose_spec.2.2) rfl ?_;rintro _ y4 ⟨q4,rfl,hq4,hU⟩;replace hrow:=hrow.up hU;replace e3:=e3.up hU;replace hT:=hT.trans hU.mn;clear hU hli;focus repeat'(first|refine D1 ?_|omega|refine Zy rfl rfl rfl rfl (fun hg=>?_) (fun hg=>?_)|(refine Zr rfl rfl rfl rfl (fun hg=>?_) (fun hg=>?_)<;>refine D1 ?_)|fail)
 refine Zc rfl trivial (Zd rfl (Zh rfl rfl) (ZgN (2 * (j:Int)+(q3:Int)) (q4:Int) _ (by unfold I64;omega))) (fun _ _ h=>h.choose_spec.2.2.2) rfl ?_;rintro _ y5 ⟨f,rfl,hfe,hf,hU⟩;replace hrow:=hrow.up hU;replace e3:=e3.up hU;replace hT:=hT.trans hU.mn;clear hU;focus repeat'(first|refine D1 ?_|omega|refine Zy rfl rfl rfl rfl (fun hg=>?_) (fun hg=>?_)|(refine Zr rfl rfl rfl rfl (fun hg=>?_) (fun hg=>?_)<;>refine D1 ?_)|fail)
 refine Zc rfl trivial (Z0 rfl (ZgS f)) (fun _ _ h=>Z6.stp h) rfl ?_;rintro vs y6 hN;have hvs:SlV (ob fv++[b2,b3]) y6 vs [f]:=hN.slv (fun b hb=>by
  have:=hT.size;rcases Xh.1 hb with h|h
  exact (hrow.ob_le b h).2;simp at h;omega) rfl (by simp) (by simp [maxLen])
 have hU:=Z6.stp hN;clear hN;replace hrow:=hrow.up hU;replace e3:=e3.up hU;replace hT:=hT.trans hU.mn;clear hU;focus repeat'(first|refine D1 ?_|omega|refine Zy rfl rfl rfl rfl (fun hg=>?_) (fun hg=>?_)|(refine Zr rfl rfl rfl rfl (fun hg=>?_) (fun hg=>?_)<;>refine D1 ?_)|fail)
 refine Zm8 rfl trivial (ZW (α:=Fct) (X:=[b2,b3]) (base:=w9.heap.size) rfl (by decide) rfl rfl hrow hvs (Xg (Xp _ (show fs.length+[f].length≤10 by simp;omega)) (by decide)) (by simp [maxLen];omega) (by have:=hT.size;omega)) rfl rfl ?_;rintro fv' y7 ⟨hrow',hU,hob'⟩;have hob2:=fun b hb=>hrow.ob_le b hb;replace e3:=e3.ext hU (fun h=>by have:=hob2 _ h;omega);replace hT:=hT.own hU (fun b hb=>.inr (hob2 b hb).1);clear hU;obtain ⟨pv,kv,rfl,-⟩:=id (Row.slv (X:=[b2,b3]) hrow' (fun b hb=>by simp at hb;omega));refine QD ?_;refine Jy rfl trivial (Za (u:=.slice pv (fs++[f]).length kv) rfl rfl rfl rfl e3 (show (0:Nat)<19 by decide)) rfl ?_;rintro _ y8 ⟨hU,e3⟩;replace e3:Blk y8 b3 37 (JE C { R with fv:=.slice pv (fs++[f]).length kv }):=e3;replace hT:=hT.own hU (fun b hb=>.inl hb);replace hrow':=hrow'.keep hU (fun b hb h=>by simp only [Xl] at hb;subst hb;have:=(hrow'.ob_le _ h).1;omega);clear hU;refine QD ?_;refine QO ?_;exact ZD (j+1,.slice pv (fs++[f]).length kv,fs++[f]) ⟨rfl,rfl,rfl,rfl,trivial⟩ ⟨by dsimp only;omega,by simp [hlen],fun z hz=>by
  rcases Xh.1 hz with h|h
  exact hok z h;simp only [Xl] at h;subst h;exact hf,fun k hk=>by
  dsimp only at hk ⊢;rw [List.getElem_append];split;exact hen k _;have:k=j:=by simp at hk;omega
  subst this;simp only [List.getElem_singleton];omega,hrow',e3,hT⟩ (by dsimp only;omega)
 as_aux_lemma=>
 have hcF:Z8R [b2,b3] lv l { C with fcts:=fs } { R with fv:=fv } y2:={ hcb.ext hT.mn with ff:=Row.slv (X:=[b2,b3]) hrow (fun b hb=>by simp at hb;omega) }
 have hmF:Z8Q { C with fcts:=fs }:=⟨by dsimp only;omega,hok,hen,hmk.rl,hmk.ro,hmk.al,hmk.ao,hmk.cl,hmk.co,hmk.sl,hmk.so,hmk.cal,hmk.court,hmk.today⟩
 replace e2:=e2.ext hT (by simp;omega);replace hS:=hS.ow hT;replace l2:=e2.lt;replace l3:=e3.lt;replace hC1:({ C with fcts:=fs }:Cas).ruls=[]:=hC1;replace hC2:({ C with fcts:=fs }:Cas).atts=[]:=hC2;replace hR1:({ R with fv:=fv }:Z11).rv=.N:=hR1;replace hR2:({ R with fv:=fv }:Z11).av=.N:=hR2;clear hcb hmk hT hrow hob hok hen hC0 hR0 hlen;replace e3:Blk y2 b3 37 (JE { C with fcts:=fs } { R with fv:=fv }):=e3;generalize ({ C with fcts:=fs }:Cas)=C at *;generalize ({ R with fv:=fv }:Z11)=R at *;refine QO ?_;refine CL (Z1e lv l 80 _ hli) ?_;rintro v1 z1 ⟨h1,rfl⟩;focus repeat'(first|refine W1 ?_|omega|refine VG ?_ ?_<;>intro hg|refine VC ?_ ?_<;>intro hc)
 refine CM (ZX rfl) (ZgQ [b2,b3] v1 _ _ (fun b hb=>by simp at hb;omega) h1 (hl' 80)) ?_;rintro gv z2 ⟨rs,h4,hall,hgv,hT⟩;have hcR:=hcF.ext hT.mn;replace e2:=e2.up hT;replace e3:=e3.up hT;replace hS:=hS.trans hT;replace l2:=e2.lt;replace l3:=e3.lt;clear hcF hT h1 hli;have hlr:(rs.map RuleM.rul).length=rs.length:=Xs ..;have hmg:=hgv.max;refine QO ?_
 refine Zu (σ:=Nat×Value×List Cr) (fun q=>[(0,lv),(2,pQ b2),(3,pQ b3),(5,gv),(6,.I (q.1:Int))])
  (fun q W=>q.1≤rs.length∧q.2.2.length≤q.1∧(∀ x∈q.2.2,∃ r:RuleM,Z7T r∧Z0z r.rul=0∧x=crF r.rul)∧Row [b2,b3] W z2.heap.size 62 q.2.1 q.2.2∧Blk W b3 37 (JE C { R with rv:=q.2.1 })∧Stp [b3] z2 W) (fun q=>rs.length - q.1) (0,.N,[])
  ⟨rfl,rfl,rfl,rfl,rfl,trivial⟩ ⟨by omega,Xn _,by simp,Row.nil,by rw [← hR1];exact e3,Stp.refl _ _⟩ ?_
 clear e3;rintro ⟨j,rv,qs⟩ y1 ⟨hj,hlen,hok,hrow,e3,hT⟩;dsimp only at hj hlen hok hrow e3 ⊢;have hob:=fun b hb=>hrow.ob_le b hb;have hgvY:SlV [b2,b3] y1 gv (rs.map RuleM.rul):=hgv.ext hT (by simp) (fun _ h=>.inl h);by_cases hlt:j<rs.length;have hli:j<(rs.map RuleM.rul).length:=by omega
 have hG:=hall _ (Xd hlt);have hri:(rs.map RuleM.rul)[j]=rs[j].rul:=by simp
 obtain ⟨ka,kb,hka,hkb,hca⟩:=ZjD hgvY hli;rw [hri] at hka hkb;have hz1:ZM rs[j].cond≤1000:=Xg hG.cond.size (by decide);have hz2:ZM rs[j].due≤1000:=Xg hG.due.size (by decide);refine QO ?_;refine Z4 (Z7S rfl rfl hgvY hli hca) rfl ?_;rw [hri];refine CM (ZX rfl) (Zg3 _ rs[j].rul _ ⟨ka,kb,rfl,hka.wk (by simp),hkb.wk (by simp)⟩ hz1 hz2) ?_;rintro _ y2 ⟨cv,rfl,hcv,hU⟩;obtain ⟨k1,d1,rfl,hk1,hd1⟩:=hcv (ob rv++[b2,b3]) (fun b hb=>by
  have:=hT.size;rcases Xh.1 hb with h|h
  exact (hob b h).2;simp at h;omega)
 clear hcv hgvY hka hkb hca;replace hrow:=hrow.up hU;replace e3:=e3.up hU;replace hT:=hT.trans hU.mn;clear hU;refine W ?_;have hsT:=hT.size;refine Z1 Z2 rfl ?_;rintro _ y3 ⟨b7,rfl,hb7,e7,hU⟩;have n37:b3≠b7:=by have:=e3.lt;omega
 have hob2:=fun b hb=>hrow.ob_le b hb;replace hrow:=hrow.ext (X':=[b2,b3,b7]) hU (by simp) (fun b hb=>by simp at hb ⊢;omega);replace e3:=e3.up hU;have nb7:∀ b∈b7 :: (ob rv++[b2,b3]),b∈ob rv++[b2,b3]∨y2.heap.size≤b:=fun b hb=>by
  rcases Xb.1 hb with rfl|h
  exact .inr hb7;exact .inl h
 replace hk1:=hk1.ext hU (by simp) nb7;replace hd1:=hd1.ext hU (by simp) nb7;replace hT:=hT.trans hU.mn;clear hU;refine SB (us:=crC (crF rs[j].rul) k1 d1) (Z0n hk1 hd1) e7 ?_;rintro _ y4 ⟨hU,e7⟩;replace hrow:=hrow.ext (X':=[b2,b3]) hU (fun b hb=>by
  simp only [Xl] at hb;subst hb;exact ⟨by simp,fun h=>by have:=(hob2 _ h).2;omega⟩) (fun b hb=>.inl (by simp at hb ⊢;omega))
 replace e3:=e3.ext hU (by simpa using n37);replace hk1:=hk1.ext (X':=ob rv++[b2,b3]) hU (by simp) (fun b hb=>.inl (XE _ hb));replace hd1:=hd1.ext (X':=ob rv++[b2,b3]) hU (by simp) (fun b hb=>.inl (XE _ hb));replace hT:=hT.ow hU;clear hU;by_cases he:Z0z rs[j].rul=0;refine QO ?_;have zT:=hT.size;refine APG (X:=[b2,b3]) (base:=z2.heap.size) (crF rs[j].rul) hrow (fun b hb=>by simp at hb;omega) (by omega) ⟨k1,d1,rfl,hk1,hd1⟩ (Xg (Xp _ (show qs.length+1≤10 by omega)) (by decide)) (by simp only [maxLen];omega) fun v1 rv' y5 hrow' hU hob'=>?_
 replace e3:=e3.ext hU (fun h=>by have:=(hob2 _ h).1;omega);replace hT:=hT.own hU (fun b hb=>.inr (hob2 b hb).1);clear hU;obtain ⟨pv,kv,rfl,-⟩:=id (Row.slv (X:=[b2,b3]) hrow' (fun b hb=>by simp at hb;omega));refine QO ?_;refine Z5 (Za (u:=.slice pv (qs++[crF rs[j].rul]).length kv) rfl rfl rfl rfl e3 (show (1:Nat)<19 by decide)) ?_;rintro _ y6 ⟨hU,e3⟩;replace e3:Blk y6 b3 37 (JE C { R with rv:=.slice pv (qs++[crF rs[j].rul]).length kv }):=e3;replace hT:=hT.own hU (fun b hb=>.inl hb);replace hrow':=hrow'.ext (X':=[b2,b3]) hU (fun b hb=>by
  simp only [Xl] at hb;subst hb;exact ⟨by simp,fun h=>by have:=(hrow'.ob_le _ h).1;omega⟩) (fun b hb=>.inl hb)
 clear hU;refine QO ?_;exact ZD (j+1,.slice pv (qs++[crF rs[j].rul]).length kv,qs++[crF rs[j].rul]) ⟨rfl,rfl,rfl,rfl,rfl,trivial⟩ ⟨by dsimp only;omega,by simp;omega,fun z hz=>by
  rcases Xh.1 hz with h|h
  exact hok z h;simp only [Xl] at h;subst h;exact ⟨rs[j],hG,he,rfl⟩,hrow',e3,hT⟩ (by dsimp only;omega)
 refine QO ?_;exact QL (j+1,rv,qs) ⟨by dsimp only;omega,by dsimp only;omega,hok,hrow,e3,hT⟩ (by dsimp only;omega)
 as_aux_lemma=>
 refine QO ?_;have hcS:Z8R [b2,b3] lv l { C with ruls:=qs } { R with rv:=rv } y1:={ hcR.ext hT.mn with rr:=Row.slv (X:=[b2,b3]) hrow (fun b hb=>by simp at hb;omega) }
 have hmS:Z8Q { C with ruls:=qs }:=⟨hmF.fl,hmF.fo,hmF.en,by dsimp only;omega,hok,hmF.al,hmF.ao,hmF.cl,hmF.co,hmF.sl,hmF.so,hmF.cal,hmF.court,hmF.today⟩
 replace e2:=e2.ext hT (by simp;omega);replace hS:=hS.ow hT;replace l2:=e2.lt;replace l3:=e3.lt;replace hC2:({ C with ruls:=qs }:Cas).atts=[]:=hC2;replace hR2:({ R with rv:=rv }:Z11).av=.N:=hR2;replace e3:Blk y1 b3 37 (JE { C with ruls:=qs } { R with rv:=rv }):=e3;clear hcR hmF hT hrow hob hok hC1 hR1 hlen hgvY hgv;generalize ({ C with ruls:=qs }:Cas)=C at *;generalize ({ R with rv:=rv }:Z11)=R at *;have hli:SlV [] y1 lv l:=hcS.li.wk (by simp);refine CL (Z1e lv l 30 _ hli) ?_;rintro v3 u1 ⟨h3,rfl⟩;refine QO ?_;refine CL (Z1e lv l 30 _ hli) ?_;rintro v4 u2 ⟨h4',rfl⟩;have hm3:=h3.max;have hm4:=h4'.max;refine QO ?_;refine Z4 (Z1d (r:=min 4 (l.drop 30).length) rfl h3 rfl (by omega) (by omega)) rfl ?_;have h5:=h3.slc (l:=0) (r:=min 4 (l.drop 30).length) (by omega) (by omega);have hl5:∀ a∈((l.drop 30).take (min 4 (l.drop 30).length)).drop 0,I64 a:=fun a h=>hl' 30 a (Yaq (YaG h));have hz5:(((l.drop 30).take (min 4 (l.drop 30).length)).drop 0).length≤4:=by simp only [Yaf,Xt];omega
 refine CL (ZcI _ _ _ h5 hl5 hz5) ?_;rintro sv u3 ⟨xs,hx2,hxo,hrx⟩;have hss:SlV [b2,b3] u3 sv xs:=hrx.slv (fun b hb=>by simp at hb;omega);have hT:=hrx.2;replace hcS:=hcS.ext hT.mn;replace e2:=e2.up hT;replace e3:=e3.up hT;replace hS:=hS.trans hT;clear hT h3 h4' h5 hl5 hz5 hrx hm3 hm4 hli;obtain ⟨ps,ks,rfl,-⟩:=id hss;refine QO ?_;refine Z5 (Za (u:=.slice ps xs.length ks) rfl rfl rfl rfl e3 (show (4:Nat)<19 by decide)) ?_;rintro _ u4 ⟨hT,e3⟩;replace e3:Blk u4 b3 37 (JE { C with stys:=xs } { R with sv:=.slice ps xs.length ks }):=e3;have hcT:Z8R [b2,b3] lv l { C with stys:=xs } { R with sv:=.slice ps xs.length ks } u4:={ hcS.ext hT.mn with ss:=hss.ext hT (by simp) (fun _ h=>.inl h) }
 have hmT:Z8Q { C with stys:=xs }:=⟨hmS.fl,hmS.fo,hmS.en,hmS.rl,hmS.ro,hmS.al,hmS.ao,hmS.cl,hmS.co,hx2,hxo,hmS.cal,hmS.court,hmS.today⟩
 replace e2:=e2.ext hT (by simp;omega);replace hS:=hS.ow hT;replace l2:=e2.lt;replace l3:=e3.lt;replace hC2:({ C with stys:=xs }:Cas).atts=[]:=hC2;replace hR2:({ R with sv:=.slice ps xs.length ks }:Z11).av=.N:=hR2;clear hcS hmS hT hss hx2 hxo;generalize ({ C with stys:=xs }:Cas)=C at *;generalize ({ R with sv:=.slice ps xs.length ks }:Z11)=R at *;refine QO ?_
 refine Zu (σ:=Nat×Value×List Atp) (fun q=>[(0,lv),(2,pQ b2),(3,pQ b3),(9,.I (q.1:Int))])
  (fun q W=>q.1≤4∧q.2.2.length=q.1∧(∀ x∈q.2.2,ZkN C.crrs.length x)∧Row [b2,b3] W u4.heap.size 78 q.2.1 q.2.2∧Blk W b3 37 (JE C { R with av:=q.2.1 })∧Stp [b3] u4 W) (fun q=>5 - q.1) (0,.N,[])
  ⟨rfl,rfl,rfl,rfl,trivial⟩ ⟨by decide,rfl,by simp,Row.nil,by rw [← hR2];exact e3,Stp.refl _ _⟩ ?_
 clear e3;rintro ⟨j,av,as_⟩ y1 ⟨hj,hlen,hok,hrow,e3,hT⟩;dsimp only at hj hlen hok hrow e3 ⊢;have hob:=fun b hb=>hrow.ob_le b hb;have hcY:=hcT.ext hT.mn;have hli:SlV [] y1 lv l:=hcY.li.wk (by simp);have hcc:=hcY.cc;have hcl:=hmT.cl;have hccm:=hcc.max;refine QO ?_;refine CM (Js rfl rfl rfl) (J1 [] _ l 12 5 _ (by decide) (by unfold I64;omega) hli hl) ?_;rintro _ y2 ⟨q,rfl,hq,hU⟩;replace hrow:=hrow.up hU;replace e3:=e3.up hU;replace hli:=hli.up hU;replace hcc:=hcc.up hU;replace hT:=hT.trans hU.mn;clear hU hcY;obtain ⟨pc,kc,hcv,-⟩:=id hcc;by_cases hlt:(j:Int)<(q:Int)
 as_aux_lemma=>(
 have hj4:j+1≤4:=by omega
 have hdec:5 - (j+1)<5 - j:=by omega
 refine QO ?_;refine CM (Js rfl rfl rfl) (J1 [] _ l (13+(j:Int)) 1000000 _ (by decide) (by unfold I64;omega) hli hl) ?_;rintro _ y3 ⟨n,rfl,hn,hU⟩;replace hrow:=hrow.up hU;replace e3:=e3.up hU;replace hli:=hli.up hU;replace hcc:=hcc.up hU;replace hT:=hT.trans hU.mn;clear hU;refine QO ?_;have r1:0≤(n:Int) % 16∧(n:Int) % 16≤15:=by omega
 have r2:0≤(n:Int) / 16 % 3∧(n:Int) / 16 % 3≤2:=by omega
 have r3:0≤(n:Int) / 48 % (C.crrs.length:Int)∧(n:Int) / 48 % (C.crrs.length:Int)<C.crrs.length:=⟨Ya0 _ (by omega),YaN _ (by omega)⟩
 have r4:739616≤739616+(n:Int) / 768 % 40∧739616+(n:Int) / 768 % 40≤739655:=by omega
 generalize (n:Int) % 16=a1 at r1 ⊢;generalize (n:Int) / 16 % 3=a2 at r2 ⊢;generalize (n:Int) / 48 % (C.crrs.length:Int)=a3 at r3 ⊢;generalize 739616+(n:Int) / 768 % 40=a4 at r4 ⊢;refine Z8 rfl (ZkO a1 a2 a3 a4) rfl ?_;have zT:=hT.size;refine Z1 Z2 rfl ?_;rintro _ y4 ⟨b,rfl,hb,e4,hU⟩;have n3:b3≠b:=by have:=e3.lt;omega
 have hob2:=fun b hb=>hrow.ob_le b hb;replace hrow:=hrow.ext (X':=[b2,b3,b]) hU (by simp) (fun c hc=>by simp at hc ⊢;omega);replace e3:=e3.up hU;replace hli:=hli.ext (X':=[b]) hU (by simp) (fun c hc=>.inr (by simp at hc;omega));replace hcc:=hcc.ext (X':=[b]) hU (by simp) (fun c hc=>.inr (by simp at hc;omega));replace hT:=hT.trans hU.mn;clear hU;refine SB (us:=atC ⟨a1,a2,a3,a4,[]⟩ (.N)) (Zfe (by rfl)) e4 ?_;rintro _ y5 ⟨hU,e4⟩;replace e3:=e3.ext hU (by simpa using n3);replace hrow:=hrow.ext (X':=[b2,b3,b]) hU (fun c hc=>by
  simp only [Xl] at hc;subst hc;exact ⟨by simp,fun h=>by have:=(hob2 _ h).2;omega⟩) (fun c hc=>.inl hc)
 replace hli:=hli.ext (X':=[b]) hU (by simp) (fun c hc=>.inl hc);replace hcc:=hcc.ext (X':=[b]) hU (by simp) (fun c hc=>.inl hc);replace hT:=hT.ow hU;clear hU;refine QO ?_
 refine JA (σ:=Value×List Rtn) (fun q=>[(0,lv),(2,pQ b2),(3,pQ b3),(9,.I (j:Int)),(11,pQ b)])
  (fun q W=>(q.2.length≤3∧∀ x∈q.2,Zfb C.crrs.length x)∧Blk W b 78 (atC ⟨a1,a2,a3,a4,q.2⟩ q.1)∧Row [b2,b3] W u4.heap.size 78 av as_∧SlV (ob av++[b2,b3]) W q.1 q.2∧Blk W b3 37 (JE C { R with av:=av })∧Stp [b3] u4 W) ?_ ?_
 as_aux_lemma=>(
 refine ZDr 20 [] [19] [(0,0),(1,0),(2,0),(3,0),(5,0),(6,0),(7,0),(8,0),(13,0),(14,1),(15,0),(16,1),(4,2),(9,2),(10,0),(11,0),(12,0),(17,2),(18,0),(19,2)] (fun w1 hS1=>?_);replace hrow:=hrow.up hS1;replace e3:=e3.up hS1;replace e4:=e4.up hS1;replace hli:=hli.up hS1;replace hcc:=hcc.up hS1;replace hT:=hT.trans hS1.mn;clear hS1;have hli0:=hli.wk (X':=[]) (by simp);have hpt:=Z1e lv l (18+3 * j) _ hli0;have hjj:((18+3 * j:Nat):Int)=18+3 * (j:Int):=by omega
 rw [hjj] at hpt;refine QD ?_;refine DC hpt (fun _ _ h=>by rw [h.2];exact Stp.refl _ _) ?_;rintro v5 u5 ⟨h5,rfl⟩;focus repeat'(first|refine D1 ?_|omega|refine Zy rfl rfl rfl rfl (fun hg=>?_) (fun hg=>?_)|(refine Zr rfl rfl rfl rfl (fun hg=>?_) (fun hg=>?_)<;>refine D1 ?_)|fail)
 refine DC hpt (fun _ _ h=>by rw [h.2];exact Stp.refl _ _) ?_;rintro v6 u6 ⟨h6,rfl⟩;clear hpt;have hm5:=h5.max;refine QD ?_;refine ZA rfl trivial (fun _=>Z1d (r:=min 3 (l.drop (18+3 * j)).length) rfl h5 rfl (by omega) (by omega)) rfl ?_;have h7:=h5.slc (l:=0) (r:=min 3 (l.drop (18+3 * j)).length) (by omega) (by omega);have hl7:∀ a∈((l.drop (18+3 * j)).take (min 3 (l.drop (18+3 * j)).length)).drop 0,I64 a:=fun a h=>hl' _ a (Yaq (YaG h));have hz7:(((l.drop (18+3 * j)).take (min 3 (l.drop (18+3 * j)).length)).drop 0).length≤3:=by simp only [Yaf,Xt];omega
 focus repeat'(first|refine D1 ?_|omega|refine Zy rfl rfl rfl rfl (fun hg=>?_) (fun hg=>?_)|(refine Zr rfl rfl rfl rfl (fun hg=>?_) (fun hg=>?_)<;>refine D1 ?_)|fail)
 refine Zc rfl trivial (Zd rfl (Js rfl rfl rfl) (ZcJ _ R.cv _ C.crrs a4 _ h7 hl7 hz7 (hcc.wk (by simp)) hcl r4)) (fun _ _ h=>h.choose_spec.2.2.2) rfl ?_;rintro rv u7 ⟨rs7,hr3,hro,hrr⟩;have hU:=hrr.2;have hsl:SlV (b :: (ob av++[b2,b3])) u7 rv rs7:=hrr.slv (fun c hc=>by
  have:=hT.size;have:=e4.lt;rcases Xb.1 hc with rfl|hc
  omega;rcases Xh.1 hc with h|h
  have:=hrow.ob_le c h;omega;simp at h;omega)
 replace hrow:=hrow.up hU;replace e3:=e3.up hU;replace e4:=e4.up hU;replace hT:=hT.trans hU.mn;clear hU hrr h7 hl7 hz7 h5 h6;obtain ⟨pr,kr,rfl,-⟩:=id hsl;refine QD ?_;refine Jy rfl trivial (Za (u:=.slice pr rs7.length kr) rfl rfl rfl rfl e4 (show (4:Nat)<5 by decide)) rfl ?_;rintro _ u8 ⟨hU,e4⟩;replace e4:Blk u8 b 78 (atC ⟨a1,a2,a3,a4,rs7⟩ (.slice pr rs7.length kr)):=e4;replace e3:=e3.ext hU (by simpa using n3);have hob3:=fun b hb=>hrow.ob_le b hb;replace hrow:=hrow.ext (X':=[b2,b3]) hU (fun c hc=>by
  simp only [Xl] at hc;subst hc;exact ⟨by simp,fun h=>by have:=(hob2 _ h).2;omega⟩) (fun c hc=>.inl (by simp at hc ⊢;omega))
 replace hT:=hT.ow hU;refine QD ?_;exact QT (.slice pr rs7.length kr,rs7) ⟨⟨hr3,hro⟩,e4,hrow,hsl.ext hU (by simp) (fun c hc=>.inl (XE _ hc)),e3,hT⟩)
 clear hrow e3 e4 hT hli hcc
 as_aux_lemma=>
 rintro ⟨rv,rs7⟩ u8 ⟨⟨hr3,hro⟩,e4,hrow,hsl,e3,hT⟩;dsimp only at hr3 hro e4 hsl;have hatt:ZkN C.crrs.length (⟨a1,a2,a3,a4,rs7⟩:Atp):=⟨r1,r2,r3,r4,hr3,hro⟩
 clear r1 r2 r3 r4 hr3 hro hn hccm hcl;have hob3:=fun b hb=>hrow.ob_le b hb;have zT8:=hT.size;have hmx:=hsl.max;refine QO ?_;refine APG (X:=[b2,b3]) (base:=u4.heap.size) (⟨a1,a2,a3,a4,rs7⟩:Atp) hrow (fun b hb=>by simp at hb;omega) (by omega) ⟨rv,rfl,hsl⟩ (Xg (Xp _ (show as_.length+1≤10 by omega)) (by decide)) (by simp only [maxLen];omega) fun v1 av' u9 hrow' hU hob'=>?_
 replace e3:=e3.ext hU (fun h=>by have:=(hob3 _ h).1;omega);replace hT:=hT.own hU (fun b hb=>.inr (hob3 b hb).1);clear hU;obtain ⟨pv,kv,rfl,-⟩:=id (Row.slv (X:=[b2,b3]) hrow' (fun b hb=>by simp at hb;omega));refine QO ?_;refine Z5 (Za (u:=.slice pv (as_++[(⟨a1,a2,a3,a4,rs7⟩:Atp)]).length kv) rfl rfl rfl rfl e3 (show (2:Nat)<19 by decide)) ?_;rintro _ x1 ⟨hU,e3⟩;replace e3:Blk x1 b3 37 (JE C { R with av:=.slice pv (as_++[(⟨a1,a2,a3,a4,rs7⟩:Atp)]).length kv }):=e3;replace hT:=hT.own hU (fun b hb=>.inl hb);replace hrow':=hrow'.ext (X':=[b2,b3]) hU (fun c hc=>by
  simp only [Xl] at hc;subst hc;exact ⟨by simp,fun h=>by have:=(hrow'.ob_le _ h).1;omega⟩) (fun c hc=>.inl hc)
 clear hU;refine QO ?_;exact ZD (j+1,.slice pv (as_++[(⟨a1,a2,a3,a4,rs7⟩:Atp)]).length kv,as_++[(⟨a1,a2,a3,a4,rs7⟩:Atp)]) ⟨rfl,rfl,rfl,rfl,trivial⟩ ⟨hj4,by simp [hlen],fun z hz=>by
  rcases Xh.1 hz with h|h
  exact hok z h;simp only [Xl] at h;subst h;exact hatt,hrow',e3,hT⟩ hdec)
 as_aux_lemma=>
 have hcD:Z8R [b2,b3] lv l { C with atts:=as_ } { R with av:=av } y2:={ hcT.ext hT.mn with aa:=Row.slv (X:=[b2,b3]) hrow (fun b hb=>by simp at hb;omega) }
 have hmD:Z8Q { C with atts:=as_ }:=⟨hmT.fl,hmT.fo,hmT.en,hmT.rl,hmT.ro,by dsimp only;omega,hok,hmT.cl,hmT.co,hmT.sl,hmT.so,hmT.cal,hmT.court,hmT.today⟩
 replace e3:Blk y2 b3 37 (JE { C with atts:=as_ } { R with av:=av }):=e3;replace e2:=e2.ext hT (by simp;omega);replace hS:=hS.ow hT;generalize ({ C with atts:=as_ }:Cas)=D at *;generalize ({ R with av:=av }:Z11)=Q at *;refine QO ?_;refine SB (us:=JE D Q) hcD.cell e2 ?_;rintro _ x2 ⟨hU,e2⟩;have hcE:=hcD.ext hU.mn;have hS2:=hS.ow hU;refine W ?_;refine Zk rfl rfl rfl e2 rfl ?_;exact .mk ⟨D,Q,rfl,⟨hcE.ff.wk (by simp),hcE.rr.wk (by simp),hcE.aa.wk (by simp),hcE.cc.wk (by simp),hcE.ss.wk (by simp),⟨hcE.ho.wk (by simp),hcE.clo.wk (by simp),hL.up hS2,hM.up hS2,hmD.cal.ok⟩,hcE.one⟩,hmD,hS2⟩
theorem Z1H.own {w w0 W:World} {B:List Nat} {c:Cas} {R:Z11} (hv:Z1H w c R) (h0:Stp [] w w0) (hB:∀ b∈B,w.heap.size≤b) (hS:Stp B w0 W):Z1H W c R:=hv.up (h0.own hS (fun b hb=>.inr (hB b hb)))
theorem Row.low {α:Type} [Z7 α] {X:List Nat} {w} {a b T:Nat} {v:Value} {xs:List α} (h:Row X w b T v xs) (hab:a≤b):Row [] w a T v xs:=(h.lower hab).ext (Stp.refl [] w) (by simp) (by simp)
theorem Z6u (c:Cas) (R:Z11) (w) (hv:Z1H w c R) (hs:Z3c c) :
 CC 19 #[.agg (JE c R).toArray] w fun v w'=>ZI 45 w w' v (Z0F c):=by
 have hfl:=hs.fl;refine cW1 43 Tryz.func19 ?_;refine W ?_;refine BX (Stp.refl [] w) fun b1 w1 h1 e1 _ hS=>?_;replace e1:Blk w1 b1 37 (JE c R):=e1;have l1:=e1.lt;refine W ?_;refine Z1 (Z0R Z73) rfl ?_;rintro _ w2 ⟨r,rfl,hr,hm,hT⟩;have gr:w.heap.size≤r:=Xg hS.size hr;have lr:=hm.lt;have z2:=hT.size;replace e1:=e1.up hT;replace hS:=hS.trans hT;clear hT;refine Z1 Z2 rfl ?_;rintro _ w3 ⟨b3,rfl,hb3,e3,hT⟩;have z3:=hT.size;replace e1:=e1.up hT;replace hm:=hm.up hT;replace hS:=hS.trans hT;clear hT;replace e3:Blk w3 b3 108 [.map none]:=e3;refine S1 (u:=.map (some r)) e3 ?_;rintro _ w4 ⟨hT,e3⟩;have z4:=hT.size;replace e3:Blk w4 b3 108 [.map (some r)]:=e3;replace e1:=e1.ext hT (by simp;omega);replace hm:=hm.ext hT (by simp;omega);replace hS:=hS.ow hT;have l3:=e3.lt;clear hT;refine W ?_;have hf0:=(hv.up hS).ff;refine W ?_
 refine Zu (σ:=Nat) (fun k=>[(1,pQ b1),(3,pQ b3),(12,R.fv),(13,.I c.fcts.length),(14,.I k)])
  (fun k W=>k≤c.fcts.length∧JI Z73 W r ((c.fcts.take k).map (fun f=>(f,.B true)))∧Stp [r] w4 W) (fun k=>c.fcts.length - k) 0 ⟨rfl,rfl,rfl,rfl,rfl,trivial⟩ ⟨by omega,by simpa using hm,Stp.refl _ _⟩ ?_
 clear hm hf0;rintro k w5 ⟨hk,hm,hT⟩;have hv5:=hv.own hS (B:=[r]) (by simpa using gr) hT;by_cases hlt:k<c.fcts.length;have hff:=hv5.ff;have e3':=e3.ext hT (by simp;omega);have hfresh:∀ x∈c.fcts.take k,x≠c.fcts[k]:=by
  have h:=hs.nd.sublist (List.take_sublist (k+1) c.fcts);rw [Xi hlt,List.nodup_append] at h;exact fun x hx=>h.2.2 x hx _ (by simp)
 refine QO ?_;refine Z1 Z2 rfl ?_;rintro _ w6 ⟨b5,rfl,hb5,e5,hA⟩;refine SA (us:=Z3.enc c.fcts[k]) e5 ?_;rintro _ w7 ⟨hA2,e5⟩;replace hA:=hA.ow hA2;replace e3':=e3'.up hA;replace hm:=hm.up hA;refine QO ?_;refine Z5 (Z1J (a:=c.fcts[k]) rfl rfl rfl hm (fun p hp=>by
  obtain ⟨x,hx,rfl⟩:=XC.1 hp;exact hfresh x hx)) ?_
 rintro _ w8 ⟨hm8,hT8⟩;refine QO ?_;exact QL (k+1) ⟨hlt,by rw [Xi hlt,XI];exact hm8,(hT.trans hA.mn).trans hT8⟩ (by omega);obtain rfl:k=c.fcts.length:=by omega
 rw [Xo] at hm;have e1':=e1.ext hT (by simp;omega);refine QO ?_;have hf5:SlV [r] w5 R.fv c.fcts:=hv.ff.ext (hS.ow hT) (by simp) (fun b hb=>.inr (by simp at hb;omega))
 refine Zu (σ:=Nat×Value×Value) (fun q=>[(1,pQ b1),(3,pQ b3),(6,q.2.2),(7,q.2.1),(8,.I q.1)])
  (fun q W=>q.1≤16∧JI Z73 W r ((ZQ c q.1).1.map (fun f=>(f,.B true)))∧Stp [r] w4 W∧SlV [r] W q.2.1 (ZQ c q.1).2.1∧Row [r] W w4.heap.size 45 q.2.2 (ZQ c q.1).2.2) (fun q=>16 - q.1) (0,R.fv,.N) ⟨rfl,rfl,rfl,rfl,rfl,trivial⟩
  ⟨by omega,hm,hT,hf5,Row.nil⟩ ?_
 clear hm hT hv5 e1' hf5;rintro ⟨k,nowv,ov⟩ Y ⟨hk,hm,hT,hnow,hrow⟩;dsimp only at hk hm hT hnow hrow ⊢;obtain ⟨q1,q2⟩:=Z8l hs hk;have q3:=(Z3d hs k).1;have hstop:=Z6U c (k:=k);have hnext:ZQ c (k+1)=(((Z1x c (ZQ c k).2.1).foldl (Z0p c) ((ZQ c k).1,[])).1,((Z1x c (ZQ c k).2.1).foldl (Z0p c) ((ZQ c k).1,[])).2,(ZQ c k).2.2++((Z1x c (ZQ c k).2.1).foldl (Z0p c) ((ZQ c k).1,[])).2):=rfl;generalize hfS:ZQ c k=S at *;obtain ⟨kn,now,out⟩:=S;dsimp only at *;have hor:=fun b hb=>hrow.ob_le b hb;have zT:=hT.size;have hnowm:=hnow.max;by_cases hgo:k<16∧0<now.length;obtain ⟨g1,g2⟩:=hgo;have hnl:SlV [] Y nowv now:=hnow.ext (Stp.refl [] Y) (by simp) (by simp);have f1:=e1.ext hT (by simp;omega);have f3:=e3.ext hT (by simp;omega);refine QO ?_;refine Z1 Z2 rfl ?_;rintro _ wA ⟨b9,rfl,hb9,e9,hA⟩;replace e9:Blk wA b9 24 [.N]:=e9;have zA:=hA.size;have l9:=e9.lt;replace f1:=f1.up hA;replace f3:=f3.up hA;replace hm:=hm.up hA;have hTA:=hT.trans hA.mn;have hSA:Stp [] w wA:=hS.ow hTA;have hnA:SlV [r,b9] wA nowv now:=hnow.ext hA (by simp) (fun b hb=>by
  simp only [Xb,Xj,or_false] at hb;rcases hb with rfl|rfl
  exact .inl (by simp);exact .inr hb9)
 have hrA:Row [r,b9] wA w4.heap.size 45 ov out:=hrow.ext hA (by simp) (fun b hb=>by
  simp only [Xb,Xj,or_false] at hb;rcases hb with rfl|rfl
  exact .inl (by simp);exact .inr hb9)
 clear hnl hA;refine QO ?_;have hcv:∀ Y',Stp [r,b9] wA Y'→Z1H Y' c R:=fun Y' h=>hv.own hSA (B:=[r,b9]) (by simp;omega) h
 have hK:Zoy ⟨c,R,wA,b1,b3,r,b9,kn⟩:=⟨⟨by dsimp only;omega,by dsimp only;omega⟩,⟨by dsimp only;omega,by dsimp only;omega⟩,by dsimp only;omega,by dsimp only;omega,by dsimp only;omega,by dsimp only;omega,l9,f1,f3,fun Y' h=>(hcv Y' h).rr⟩
 have hal:=ZcE (Ze7 _ hK) c R nowv now [r,b9] wA hs.ok hcv (fun Y' h=>hnA.ext h (fun b hb=>hb) (by simp)) q3 (fun j hj i hi ht=>⟨hi,by
  obtain ⟨o1,o2,o3⟩:=Z7e hs.ok (q3 _ (Xd hj)) ht;have:=(q3 _ (Xd hj)).day;rw [o1];omega,by
  have a1:=Z5M c (now.take j);have a2:=Z5L c now[j] i;have a3:=hs.rl;have a4:=Ya8 (show (now.take j).length≤70000000000 by rw [Xt];omega) a3;rw [Xc];omega⟩) ⟨⟨.N,rfl,e9,Row.nil⟩,hm,Stp.refl _ _⟩
 refine CL hal ?_;rintro _ W2 ⟨F,⟨⟨nv,rfl,e9,hrn⟩,hm,hST⟩,-,-⟩;dsimp only at hrn hm e9 hST;clear hal hK hcv hnA;have hTl:=Z9z c hs.rl now kn;generalize (Z1x c now).foldl (Z0p c) (kn,[])=T at *;have hor2:=fun b hb=>hrn.ob_le b hb;have zS:=hST.size;have hrB:Row [r] W2 w4.heap.size 45 ov out:=hrA.ext hST (fun b hb=>⟨hb,fun h=>by have:=hor b h;simp at hb;omega⟩) (fun b hb=>.inl (by simp at hb;simp [hb]));have hrn':Row (ob ov++[r]) W2 wA.heap.size 45 nv T.2:=Z20 hrn;have hsn:SlV (ob ov++[r]) W2 nv T.2:=hrn'.slv (fun b hb=>by
  rcases Xh.1 hb with h|h
  have:=hor b h;omega;simp at h;omega)
 refine QO ?_;refine Z1 (ZW (α:=Fct) (X:=[r]) (base:=w4.heap.size) rfl (by decide) rfl rfl hrB hsn (Xg (Xp _ (show out.length+T.2.length≤600000000000 by omega)) (by decide)) (by simp only [maxLen];omega) (by omega)) rfl ?_;rintro ov' W3 ⟨hr3,hT3,hob3⟩;replace e9:=e9.ext hT3 (fun h=>by have:=hor _ h;omega);refine QO ?_;refine QL (k+1,nv,ov') ⟨by dsimp only;omega,?_,?_,?_,?_⟩ (by dsimp only;omega);rw [hnext];exact hm.ext hT3 (fun h=>by have:=hor _ h;omega);exact (hTA.own hST (fun b hb=>by
  simp only [Xb,Xj,or_false] at hb;rcases hb with rfl|rfl
  exact .inl (by simp);exact .inr (by omega))).own hT3 (fun b hb=>.inr (hor b hb).1)
 rw [hnext];exact hsn.ext hT3 (fun b hb=>by simp [hb]) (fun b hb=>.inl (by simp at hb;simp [hb]));rw [hnext];exact hr3
 · have hout:out=(ZQ c 16).2.2:=by
    by_cases h16:k=16;rw [h16] at hfS;rw [hfS];have hn:now=[]:=Xv.1 (by omega);have:=(hstop hn (16 - k)).1;rw [show k+(16 - k)=16 by omega] at this;exact this.symm
   have hlo:out.length≤400000000000:=by omega
   clear hstop hnext;repeat'(first|refine W1 ?_|omega|refine VG ?_ ?_<;>intro hg|refine VC ?_ ?_<;>intro hc)
   all_goals
    refine CL (Z6T hrow hlo) ?_;rintro _ W2 ⟨rfl,hr2,hT2⟩;refine W ?_;refine WR ?_;refine .mk ?_;rw [hout] at hr2;exact ⟨Row.low hr2 (by have:=hS.size;omega),(hS.ow hT).own hT2 (fun b hb=>.inr (by have:=hor b hb;have:=hS.size;omega))⟩
end Go.Proofs.YtipfkbkkndacjaaGreatDoor
namespace Go.Eng
open Go Go.RowKit
variable {P:Program} {n:Nat} {e:Env} {w:World} {d:Option Nat} {ty:TypeId} {pos:String} {af:Array Edge} {g:Option (Nat×Bool)}
theorem ZkP {t tn T bytes k m:Nat} {kn:IntKind} {x y:Operand} {z:Value} [ht:Und P t (.slice T)] [hn:Und P tn (.int kn)] [hk:Siz P T m] [hb:Byt P T bytes] [hz:Zer P T z] (hz1:z.cells.size=m) (hm:0<m)
 (hx:ev e x=some (.N)) (hy:ev e y=some (.I (k:Int))) (h0:0<k) (hkm:k≤maxLen) (hbytes:k * bytes≤140737488355328) :
 OE P n ⟨d,.call { callee:=.builtin .append,args:=#[x,y],argTypes:=#[t,tn] },ty,pos,af,g⟩ e w
  (fun v w'=>∃ c,v=.slice (some ⟨w.heap.size,0,none⟩) k c∧w'.ownsRow w.heap.size T m (.slice (some ⟨w.heap.size,0,none⟩) 0 c) 0 []∧Stp [] w w'):=by
 obtain ⟨i,hi,hi1,hi2,hi3⟩:∃ i,P.info? T=some i∧i.size=m∧i.bytes=bytes∧i.zero=some z:=by
  have a1:=hk.h;have a2:=hb.h;have a3:=hz.h;cases hi:P.info? T with
  | none=>simp [hi] at a1
  | some i=>exact ⟨i,rfl,by simpa [hi] using a1,by simpa [hi] using a2,by simpa [hi] using a3⟩
 have hrun:=Go.Lib.run_append_nil_zeros (P:=P) w t tn ty T i z .i64 kn ht.h hn.h hi hi3 k h0 (by omega) (by simp [maxLen] at hkm;omega) (by rw [hi2];omega);have hge:=grownCap_ge w k 0 T;have hsz:(Builtin.zeroCells z.cells k++Builtin.zeroCells z.cells (grownCap w k 0 T - k)).size=grownCap w k 0 T * m:=by
  rw [Array.size_append,size_zeroCells,size_zeroCells,hz1,← Nat.add_mul];congr 1;omega
 refine Jd (v:=.slice (some ⟨w.heap.size,0,none⟩) k (grownCap w k 0 T)) (w':=w.drew.alloc (.cells (Builtin.zeroCells z.cells k++Builtin.zeroCells z.cells (grownCap w k 0 T - k)) T)) (fun a ha=>?_) ⟨_,rfl,World.ownsRow_made w.drew _ _ (Xn _) (grownCap_le_maxLen w k 0 T hkm) hsz,(Stp.drew [] w).trans (Stp.alloc [] _ _)⟩;simp [execOp,resolve,invoke,builtin,ha.ev hx,ha.ev hy,hrun]
end Go.Eng
namespace Go.Proofs.YtipfkbkkndacjaaGreatDoor
open Go Go.Eng Go.RowKit
theorem ZgT (k:Nat) (w) (hk:k≤1000000000000):CC 71 #[.N,.I (k:Int)] w fun r w'=>ZI 45 w w' r ([]:List Fct):=by
 refine cW2 27 Tryz.func71 ?_;refine W ?_;have h0:SlV (α:=Fct) [] w (.N) []:=Zm _ _;have hl0:([]:List Fct).length=0:=rfl;repeat'(first|refine W1 ?_|omega|refine VG ?_ ?_<;>intro hg|refine VC ?_ ?_<;>intro hc)
 apply Z4 (Zar rfl) rfl;by_cases hk0:k=0;subst hk0;refine QO ?_;refine WR ?_;exact .mk ZI.nil;refine QO ?_;apply Z4 (Zar rfl) rfl;apply Z4 (Z7I rfl rfl) rfl;refine W ?_;refine Z1 (ZkP (m:=6) (k:=k) rfl (by decide) rfl rfl (by omega) (by simp [maxLen];omega) (by omega)) rfl ?_;rintro _ w1 ⟨c,rfl,hown,hS⟩;replace h0:=h0.up hS;have hr:ZI 45 w w1 (.slice (some ⟨w.heap.size,0,none⟩) 0 c) ([]:List Fct):=⟨⟨[],rfl,fun i h=>absurd h (Xu _),hown⟩,hS⟩
 refine W ?_;apply Z4 (Z9d rfl rfl) rfl;refine W ?_;refine WR ?_;exact .mk hr
theorem ZcR (v:Value) (xss:List (Sl Fct)) (w) (hs:SlV [] w v xss) (hl:xss.length≤1000) (hlen:(xss.flatMap Sl.l).length≤1000000000000):CC 41 #[v] w fun r w'=>ZI 45 w w' r (xss.flatMap Sl.l):=by
 have hpre:∀ j,((xss.take j).flatMap Sl.l).length≤(xss.flatMap Sl.l).length:=fun j=>by
  rw [← XB j xss,Yaj,Xc];simp only [XB];have:(xss.take j).flatMap Sl.l=((xss.take j++xss.drop j).take j).flatMap Sl.l:=by rw [XB]
  omega
 have hstep:∀ j (h:j<xss.length),(xss.take (j+1)).flatMap Sl.l=(xss.take j).flatMap Sl.l++xss[j].l:=fun j h=>by
  rw [Xi h,Yaj];simp
 refine cW1 36 Tryz.func41 ?_;refine W ?_;refine Z0l (σ:=Unit) (fun _=>[(0,v),(3,.I ((xss.flatMap Sl.l).length:Int))]) (fun _ w'=>w'=w) ?_ ?_;refine LP (σ:=Nat) (fun j=>[(0,v),(9,v),(10,.I (xss.length:Int)),(3,.I (((xss.take j).flatMap Sl.l).length:Int)),(11,.I (j:Int))]) (fun j w'=>j≤xss.length∧w'=w) (fun j=>xss.length - j) 0 ⟨Xq _,rfl⟩ ?_;rintro j w2 ⟨hj,rfl⟩;by_cases hlt:j<xss.length;obtain ⟨u,hcell,hsu⟩:=hs.sub hlt;have hum:=hsu.max;have h1:=hpre j;have h2:=hpre (j+1);have h3:=hstep j hlt;have h4:((xss.take (j+1)).flatMap Sl.l).length=((xss.take j).flatMap Sl.l).length+xss[j].l.length:=by rw [h3,Xc]
 refine QO ?_;apply Z4 (Jw rfl rfl hcell) rfl;refine QO ?_;refine ZD (j+1) ⟨rfl,rfl,rfl,by rw [h4,Ybi];rfl,rfl,trivial⟩ ⟨hlt,rfl⟩ (by omega);have hje:j=xss.length:=by omega
 subst hje;rw [Xo];refine QO ?_;exact QT () rfl;rintro _ w2 rfl;refine W ?_;refine CM (Zh rfl rfl) (ZgT _ _ (by omega)) ?_;rintro g w3 hr;refine W ?_;have hs3:=hs.up hr.2;refine W ?_;refine LP (σ:=Nat×Value) (fun q=>[(6,q.2),(25,v),(26,.I (xss.length:Int)),(27,.I (q.1:Int))]) (fun q w'=>q.1≤xss.length∧ZI 45 w2 w' q.2 ((xss.take q.1).flatMap Sl.l)) (fun q=>xss.length - q.1) (0,g) ⟨Xq _,by simpa using hr⟩ ?_;clear hr hs3;rintro ⟨j,g⟩ w4 ⟨hj,hr⟩;dsimp only at hj hr ⊢;by_cases hlt:j<xss.length;have hs4:SlV (ob g) w4 v xss:=hs.ext hr.2 (by simp) (fun b hb=>.inr (hr.ob_le b hb).1);obtain ⟨u,hcell,hsu⟩:=hs4.sub hlt;have h1:=hpre j;have h2:=hpre (j+1);have h3:=hstep j hlt;have h4:((xss.take (j+1)).flatMap Sl.l).length=((xss.take j).flatMap Sl.l).length+xss[j].l.length:=by rw [h3,Xc]
 refine QO ?_;apply Z4 (Jw rfl rfl hcell) rfl;refine QO ?_;refine Z1 (JB rfl (by decide) rfl rfl hr hsu (by omega) (by simp only [maxLen];omega)) rfl ?_;rintro g' w5 ⟨hr',-,-⟩;refine W ?_;exact QL (j+1,g') ⟨hlt,by dsimp only;rw [h3];exact hr'⟩ (by dsimp only;omega);have hje:j=xss.length:=by omega
 subst hje;rw [Xo] at hr;refine QO ?_;refine WR ?_;exact .mk hr
def Z41 (c:Cas):List Dln:=(Z1x c (Z5J (c.fcts++Z0F c))).map Prod.fst
structure DlJ (w0:World) (b:Nat) (pre:List DI) (F:List Nat) (W:World):Prop where
 ex:∃ nv,F=b :: ob nv∧Blk W b 47 [nv]∧Row [b] W w0.heap.size 56 nv (pre.map Prod.fst)
 stp:Stp [b] w0 W
 lt:b<w0.heap.size
theorem ZgU (w0:World) (b:Nat) (hb0:b<w0.heap.size):Yld (.func (.func 45) #[] #[pQ b]) 45 #[pQ b] (DlJ w0 b) (fun pre d i=>pre.length≤900000000000):=by
 refine ⟨rfl,?_,?_,?_⟩;rintro pre F Y ⟨⟨nv,rfl,e,hrow⟩,hS,hb⟩ x hx;have:=hS.size;simp only [Xb] at hx;rcases hx with rfl|hx
 omega;exact (hrow.ob_le x hx).2;rintro pre F Y Y' ⟨⟨nv,rfl,e,hrow⟩,hS,hb⟩ hT;exact ⟨⟨nv,rfl,e.up hT,hrow.up hT⟩,hS.trans hT.mn,hb⟩;rintro pre F d dv i Y ⟨⟨nv,rfl,e,hrow⟩,hS,hb⟩ hsl hpl;have hor:=fun x hx=>hrow.ob_le x hx;have zS:=hS.size;have hrv:=hsl.one;refine cW3 9 Tryz.func45 ?_;refine W ?_;refine BX (Stp.refl [] Y) fun b3 w1 h3 e3 hT _=>?_;replace e3:Blk w1 b3 56 (dlC d dv):=e3;replace e:=e.up hT;replace hrow:=hrow.up hT;have zT:=hT.size;have hsl1:SlV (ob nv++[b]) w1 dv d.reas:=hsl.ext hT (by simp) (fun x hx=>by
  rcases Xh.1 hx with h|h
  exact .inl (by simp [h]);exact .inl (by simp at h;simp [h]))
 refine W ?_;refine APG (X:=[b]) (base:=w0.heap.size) (cs:=dlC d dv) d hrow (fun x hx=>by simp at hx;omega) (by omega) ⟨dv,rfl,hsl1⟩ (by rw [Xs];exact Xg (Xp _ (show pre.length+1≤900000000001 by omega)) (by decide)) (by rw [Xs];simp only [maxLen];omega) fun v1 nv' w2 hr2 hT2 hob=>?_
 have eb:b<w1.heap.size:=e.lt;replace e:=e.ext hT2 (fun h=>by have:=hor _ h;omega);refine W ?_;have hsl2:SlV [b] w2 nv' (pre.map Prod.fst++[d]):=hr2.slv (fun x hx=>by simp at hx;omega);refine Z5 (Za (u:=nv') rfl rfl hsl2.cells hsl2.one e (by simp)) ?_;rintro _ w3 ⟨hT3,e⟩;refine W ?_;refine WR ?_;have hor2:=fun x hx=>hr2.ob_le x hx;have hT23:Stp (b :: ob nv) w1 w3:=(hT2.mono (fun x hx=>by simp [hx])).trans hT3.mn;refine .mk ⟨b :: ob nv',⟨⟨nv',rfl,e,?_⟩,?_,hb⟩,hT.mn.trans hT23,fun x hx=>?_⟩;rw [XI];exact hr2.ext hT3 (fun x hx=>⟨hx,fun h=>by have:=hor2 x h;simp at hx;omega⟩) (fun x hx=>.inl hx);exact (hS.trans hT.mn).own hT23 (fun x hx=>by
  rcases Xb.1 hx with rfl|hx
  exact .inl (by simp);exact .inr (hor x hx).1)
 rcases Xb.1 hx with rfl|hx
 exact .inl (by simp);rcases hob x hx with h|h
 exact .inl (by simp [h]);exact .inr (by omega)
theorem Zee {c:Cas} (h:Z3c c):(Z0F c).length≤92000000000:=by
 unfold Z0F;rw [(Z0f _).length_eq];exact (Z8l h (Xn _)).2
theorem Z8s {c:Cas} (h:Z3c c):∀ f∈Z0F c,Z0B f:=fun f hf=>(Z3d h 16).2 f ((Z0f _).mem_iff.1 hf)
theorem ZnW (p q:Option Addr) (l m c d:Nat) (w):(Instr.buildSlice 153 2 #[(0,.slice p l c),(1,.slice q m d)]).run Tryz.prog w=.ok (.slice (some ⟨w.heap.size,0,none⟩) 2 2) (w.alloc (.cells #[.slice p l c,.slice q m d] 24)):=by kernel_rfl
theorem ZcS {α:Type} [Z7 α] {X:List Nat} {w} {v:Value} {xs:List α} (h:SlV X w v xs):∃ p c,v=.slice p xs.length c:=by
 obtain ⟨p,c,h,_⟩:=h;exact ⟨p,c,h⟩
theorem Z4K (c:Cas) (R:Z11) (w) (hv:Z1H w c R) (hs:Z3c c) :
 CC 17 #[.agg (JE c R).toArray] w fun v w'=>Row [] w' w.heap.size 56 v (Z41 c)∧Stp [] w w':=by
 have hfl:=hs.fl;have hml:=Zee hs;refine cW1 18 Tryz.func17 ?_;refine W ?_;refine BX (Stp.refl [] w) fun b1 w1 h1 e1 _ hS=>?_;replace e1:Blk w1 b1 37 (JE c R):=e1;refine W ?_;refine ZDr 7 [] [] [(0,0),(1,1),(2,1),(3,2),(4,2),(5,2),(6,0)] (fun w1 hS1=>?_);replace e1:=e1.up hS1;replace hS:=hS.trans hS1;clear hS1;refine D ?_;refine DC (Z6u c R _ (hv.up hS) hs) (fun _ _ h=>h.2) ?_;rintro fv w2 hr;have hd0:Z41 c=(Z1x c (Z5J (c.fcts++Z0F c))).map Prod.fst:=rfl;have hmo:=Z8s hs;generalize Z0F c=G at *;have hS2:=hS.trans hr.2;replace e1:=e1.up hr.2;have hff:=(hv.up hS2).ff;have hfm:SlV [] w2 fv (G):=hr.slv (by simp);obtain ⟨p1,c1,hp1⟩:=ZcS hff;obtain ⟨p2,c2,hp2⟩:=ZcS hfm;rw [hp1,hp2];rw [hp1] at hff;rw [hp2] at hfm;refine Zc rfl trivial (Z0 (vs:=[(0,.slice p1 c.fcts.length c1),(1,.slice p2 (G).length c2)]) rfl (ZnW _ _ _ _ _ _)) (fun _ _ h=>Z6.stp h) rfl ?_;rintro v3 w3 hN;have hss:SlV [] w3 v3 [(⟨c.fcts⟩:Sl Fct),⟨G⟩]:=hN.slvS (by simp) rfl rfl (fun i hi hi'=>by
  match i,hi with
  | 0,_=>exact hff
  | 1,_=>exact hfm) (by simp [maxLen])
 have hT:=Z6.stp hN;replace e1:=e1.up hT;have z13:=e1.lt;replace hS2:=hS2.trans hT;have hcc:=ZcR v3 _ w3 hss (by simp) (by simp;omega);rw [show [(⟨c.fcts⟩:Sl Fct),⟨G⟩].flatMap Sl.l=c.fcts++G by simp] at hcc;refine DC hcc (fun _ _ h=>h.2) ?_;rintro lv w4 hl;refine D ?_;replace e1:=e1.up hl.2;have z1:=e1.lt;replace hS2:=hS2.trans hl.2;have hol:=fun b hb=>hl.ob_le b hb;have z3:=(hS.trans hr.2).size;have z3':=hT.size;clear hff hfm hN hT hss hcc hr hS;refine W ?_;refine CM (Zh rfl rfl) (Z6T hl.1 (by rw [Xc];omega)) ?_;rintro _ w5 ⟨rfl,hl5,hT5⟩;have h15:b1∉ob lv:=fun h=>by have:=hol _ h;omega
 replace e1:=e1.ext hT5 h15;have hS5:Stp [] w w5:=hS2.own hT5 (fun b hb=>.inr (by have:=hol b hb;omega));generalize hL:Z5J (c.fcts++G)=L at *;have hLl:L.length≤92000000016:=by rw [← hL,(Z0f _).length_eq,Xc];omega
 have hLo:∀ f∈L,Z0B f:=fun f hf=>by
  rw [← hL,(Z0f _).mem_iff] at hf;rcases Xh.1 hf with h|h
  exact hs.fo f h;exact hmo f h
 refine W ?_;refine Z1 Z2 rfl ?_;rintro _ w6 ⟨b4,rfl,hb4,e4,hT6⟩;replace e4:Blk w6 b4 47 [.N]:=e4;have z4:=e4.lt;replace e1:=e1.up hT6;have hS6:=hS5.trans hT6;have hsl:SlV [b4] w6 lv L:=SlV.ext (X:=[]) (hl5.slv (by simp)) hT6 (by simp) (fun x hx=>.inr (by simp at hx;omega));have g4:w.heap.size≤b4:=by have:=hS5.size;omega
 refine W ?_;have hal:=ZcE (ZgU w6 b4 z4) c R lv L [b4] w6 hs.ok (fun Y hY=>hv.own hS6 (B:=[b4]) (by simpa using g4) hY) (fun Y hY=>hsl.ext hY (fun x hx=>hx) (by simp)) hLo (fun j hj i hi ht=>by
  have a1:=Z5M c (L.take j);have a2:=Z5L c L[j] i;have a3:=hs.rl;have a4:=Ya8 (show (L.take j).length≤220000000000 by rw [Xt];omega) a3;rw [Xc];omega) ⟨⟨.N,rfl,e4,Row.nil⟩,Stp.refl _ _,z4⟩
 refine CL hal ?_;rintro _ w7 ⟨F,⟨⟨nv,rfl,e4',hrow⟩,hS7,-⟩,-,-⟩;refine W ?_;refine WR ?_;refine .mk ⟨?_,hS6.ow hS7⟩;rw [hd0];exact Row.low hrow (by have:=hS6.size;omega)
open Go Go.Eng Go.RowKit Go.Proofs
theorem ZcT {q:Cr} (h:ZcP q=0):Z1W q.cnd=(2,0)∧Z1W q.due=(3,0):=by
 unfold ZcP at h;split at h;cases h;rename_i hb;unfold Z0y at hb;simp only [YaE,decide_eq_true_eq,not_or,Decidable.not_not] at hb;obtain ⟨⟨⟨⟨⟨⟨⟨⟨⟨a1,a2⟩,a3⟩,a4⟩,-⟩,-⟩,-⟩,-⟩,-⟩,-⟩:=hb;exact ⟨Prod.ext a3 a1,Prod.ext a4 a2⟩
theorem Z9H.lt {l:List Fct} (h:Z9H l) {i j:Nat} (hi:i<j) (hj:j<l.length):(l[i]'(by omega)).entry<l[j].entry:=by
 have h1:=h i (by omega);have h2:=h j hj;omega
theorem Z9H.nodup {l:List Fct} (h:Z9H l):l.Nodup:=by
 unfold List.Nodup;rw [Yal];intro i j hi hj hij e;have:=h.lt hij hj;rw [e] at this;omega
theorem Z8Q.att {c:Cas} (h:Z8Q c):Znp c.atts c.crrs:=by
 have hal:=h.al;refine ⟨by omega,fun a ha=>?_,fun a ha=>(h.ao a ha).crr,fun a ha=>?_⟩;have hx:=h.ao a ha;have hl:=hx.len;exact ⟨by omega,fun r hr=>(hx.rets r hr).crr,fun x hx=>(h.co x hx).tol,fun r hr=>⟨(hx.rets r hr).lo.1,(hx.rets r hr).lo.2,(hx.rets r hr).hi.1,(hx.rets r hr).hi.2⟩⟩;have:=(h.ao a ha).sent;omega
theorem Z8Q.cas {c:Cas} (h:Z8Q c):Z3c c:=by
 have hfl:=h.fl;have hrl:=h.rl;have hsl:=h.sl;have hct:=h.court;have htd:=h.today;have hv:∀ q∈c.ruls,Z1W q.cnd=(2,0)∧Z1W q.due=(3,0):=fun q hq=>by
  obtain ⟨r,-,hr,rfl⟩:=h.ro q hq;exact ZcT (ZcQ r.rul hr).2
 refine ⟨⟨by omega,by omega,fun q hq=>(hv q hq).1,fun q hq=>(hv q hq).2,h.att,fun x hx=>(h.co x hx).ext,⟨by omega,fun s hs=>⟨(h.so s hs).lo,(h.so s hs).le,(h.so s hs).hi⟩⟩,by omega,by omega⟩,by omega,hrl,fun f hf=>(h.fo f hf).ok,h.en.nodup⟩
theorem Z9I {c:Cas} {E:List Int}:∀ (l:List DI) (s:List Fct×List Fct),(∀ p∈l,p.1.trig.entry∈E)→(∀ f∈s.2,f.entry∈E)→∀ f∈(l.foldl (Z0p c) s).2,f.entry∈E
 | [],s,_,hs=>hs
 | p :: l, s, hl, hs => by
   rw [X1];refine Z9I l _ (fun q hq=>hl q (by simp [hq])) ?_;unfold Z0p;dsimp only;split;rename_i hc;intro f hf;rcases Xh.1 hf with h|h
   exact hs f h;simp only [Xl] at h;subst h;exact hl p (by simp);exact hs
theorem ZgV {c:Cas} (ho:Z5H c) {E:List Int} {fs:List Fct} (hf:∀ f∈fs,Z0B f) (hfs:∀ f∈fs,f.entry∈E) (known:List Fct):∀ f∈((Z1x c fs).foldl (Z0p c) (known,[])).2,f.entry∈E:=
 Z9I _ _ (fun p hp=>by
  obtain ⟨f,hf',_,he,ht⟩:=Z8j hp;rw [he,(Z7e ho (hf f hf') ht).1];exact hfs f hf') (by simp)
theorem Z8t {c:Cas} (h:Z3c c):∀ k,(∀ f∈(ZQ c k).2.1,f.entry∈c.fcts.map Fct.entry)∧(∀ f∈(ZQ c k).2.2,f.entry∈c.fcts.map Fct.entry)
 | 0=>⟨fun f hf=>XC.2 ⟨f,hf,rfl⟩,by simp [ZQ]⟩
 | k + 1 => by
   obtain ⟨h1,h2⟩:=Z8t h k;have h3:=ZgV h.ok (Z3d h k).1 h1 (ZQ c k).1;rw [ZQ];dsimp only;exact ⟨h3,fun f hf=>(Xh.1 hf).elim (h2 f) (h3 f)⟩
theorem Z8u {c:Cas} (h:Z3c c):∀ f∈Z0F c,f.entry∈c.fcts.map Fct.entry:=fun f hf=>(Z8t h 16).2 f ((Z0f _).mem_iff.1 hf)
theorem ZnX {c:Cas} (h:Z3c c):∀ f∈Z5J (c.fcts++Z0F c),Z0B f:=fun f hf=>by
 rw [(Z0f _).mem_iff] at hf;exact (Xh.1 hf).elim (h.fo f) (Z8s h f)
theorem ZgW {c:Cas} (h:Z3c c):∀ d∈Z41 c,d.trig.entry∈c.fcts.map Fct.entry:=fun d hd=>by
 unfold Z41 at hd;obtain ⟨p,hp,rfl⟩:=XC.1 hd;obtain ⟨f,hf,_,he,ht⟩:=Z8j hp;rw [he,(Z7e h.ok (ZnX h f hf) ht).1];rw [(Z0f _).mem_iff] at hf;exact (Xh.1 hf).elim (fun g=>XC.2 ⟨f,g,rfl⟩) (Z8u h f)
def ltr (i:Nat) (c:Int):Prop:=(97≤c∧c≤122)∨(48≤c∧c≤57∧i≠0)
instance (i:Nat) (c:Int):Decidable (ltr i c):=by unfold ltr;infer_instance
def Z9J (s:Str):Bool:=decide ((∀ i,i<s.length→ltr i (Jc s i))∧s≠[]∧s.length≤12)
theorem ZkQ (s:Str) (w) (hm:(s.length:Int)≤maxLen):CC 356 #[str s] w fun r w'=>r=.B (Z9J s)∧Stp [] w w':=by
 simp only [maxLen] at hm;refine cW1 49 Tryz.func356 ?_;refine W ?_;refine LP (σ:=Nat) (fun i=>[(0,str s),(7,.I (s.length:Int)),(8,.I (i:Int))]) (fun i w'=>i≤s.length∧Stp [] w w'∧∀ j,j<i→ltr j (Jc s j)) (fun i=>s.length - i) 0 ⟨Xq _,Stp.refl _ _,fun j h=>absurd h (Xu _)⟩ ?_;rintro i w2 ⟨hi,hS,hall⟩
 try dsimp only at hi hall ⊢
 by_cases hlx:¬ s.length≤i
 · have hno:¬ ltr i (Jc s i)→Z9J s=false:=fun h=>decide_eq_false (fun k=>h (k.1 i (by omega)))
   have hyes:ltr i (Jc s i)→∀ j,j<i+1→ltr j (Jc s j):=fun h j hj=>by
    by_cases e:j=i;subst e;exact h;exact hall j (by omega)
   generalize hc0:Jc s i=b at hno hyes;have hl1:(97≤b∧b≤122)→ltr i b:=.inl;have hl2:(48≤b∧b≤57∧i≠0)→ltr i b:=.inr;have hl3:¬ (97≤b∧b≤122)→¬ (48≤b∧b≤57∧i≠0)→¬ ltr i b:=fun h1 h2 h=>h.elim h1 h2;subst hc0;by_cases c1:97≤Jc s i;all_goals by_cases c2:Jc s i≤122
   all_goals by_cases c3:48≤Jc s i
   all_goals by_cases c4:Jc s i≤57
   all_goals by_cases c5:(i:Int)=0
   all_goals try omega
   all_goals
    refine QO ?_;refine ZDr 22 [] [] [(0,0),(1,0),(2,0),(3,0),(4,0),(5,0),(6,0),(7,0),(8,0),(9,0),(10,0),(11,0),(12,0),(13,0),(14,0),(15,0),(16,0),(17,0),(18,0),(19,0),(20,0),(21,0)] (fun w1 hS1=>?_);have hS':=hS.trans hS1;refine QD ?_;refine QO ?_
   all_goals first
    | exact QL (i+1) ⟨by omega,hS',hyes (by first|exact hl1 ⟨c1,c2⟩|exact hl2 ⟨c3,c4,by omega⟩)⟩ (by omega)
    | (refine RU ?_
       exact ⟨by rw [hno (hl3 (by omega) (by omega))],hS'⟩)
 obtain rfl:i=s.length:=by omega
 by_cases h0:s=[]
 subst h0;refine RT ?_;exact ⟨rfl,hS⟩;by_cases h12:s.length≤12
 · (refine QP ?_ ?_<;>intro hg)
   all_goals try contradiction
   all_goals
    refine RU ?_;exact ⟨by rw [show Z9J s=true from decide_eq_true ⟨hall,h0,h12⟩,decide_eq_true (by omega)],hS⟩
 · (refine QP ?_ ?_<;>intro hg)
   all_goals try contradiction
   all_goals
    refine RU ?_;exact ⟨by rw [show Z9J s=false from decide_eq_false (fun h=>h12 h.2.2),decide_eq_false (by omega)],hS⟩
theorem Zb1 (n m:Int) (w):CC 333 #[.I n,.I m] w fun r w'=>r=.B (decide (0≤n∧n<m))∧Stp [] w w':=by
 refine cW2 12 Tryz.func333 ?_
 (refine QP ?_ ?_<;>intro hg)
 refine RU ?_;exact ⟨by congr 1;rw [decide_eq_decide];exact ⟨fun h=>⟨by omega,h⟩,fun h=>h.2⟩,Stp.refl _ _⟩;refine RU ?_;exact ⟨by congr 1;symm;exact decide_eq_false (fun h=>by omega),Stp.refl _ _⟩
def VOk (f:Fct):Prop:=(0≤f.entry∧f.entry<65536)∧Z9J f.kind=true∧(0≤f.day∧f.day<3652059)∧(0≤f.by_∧f.by_<64)∧(0≤f.to_∧f.to_<64)∧-2147483647≤f.amt∧f.amt≤2147483647
instance (f:Fct):Decidable (VOk f):=by unfold VOk;infer_instance
theorem ZgX (f:Fct) (w) (hm:(f.kind.length:Int)≤maxLen):CC 334 #[aG f] w fun r w'=>r=.B (decide (VOk f))∧Stp [] w w':=by
 refine cW1 36 Tryz.func334 ?_;refine W ?_;refine BX (Stp.refl [] w) fun b1 w1 h1 e1 _ hS=>?_;replace e1:Blk w1 b1 45 (Z3.enc f):=e1;refine QO ?_;refine CP hS (Zb1 f.entry 65536 _) fun w3 hT hS=>?_;replace e1:=e1.up hT;clear hT;by_cases h0:(0≤f.entry∧f.entry<65536)
 rotate_left
 rw [decide_eq_false h0];refine RT ?_;exact ⟨by rw [decide_eq_false (fun h=>h0 (h.1))],hS⟩;rw [decide_eq_true h0];refine QO ?_;refine CP hS (ZkQ f.kind _ hm) fun w4 hT hS=>?_;replace e1:=e1.up hT;clear hT;by_cases h1:(Z9J f.kind=true)
 rotate_left
 rw [Ybs.2 h1];refine RT ?_;exact ⟨by rw [decide_eq_false (fun h=>h1 (h.2.1))],hS⟩;rw [h1];refine QO ?_;refine CP hS (Zb1 f.day 3652059 _) fun w5 hT hS=>?_;replace e1:=e1.up hT;clear hT;by_cases h2:(0≤f.day∧f.day<3652059)
 rotate_left
 rw [decide_eq_false h2];refine RT ?_;exact ⟨by rw [decide_eq_false (fun h=>h2 (h.2.2.1))],hS⟩;rw [decide_eq_true h2];refine QO ?_;refine CP hS (Zb1 f.by_ 64 _) fun w6 hT hS=>?_;replace e1:=e1.up hT;clear hT;by_cases h3:(0≤f.by_∧f.by_<64)
 rotate_left
 rw [decide_eq_false h3];refine RT ?_;exact ⟨by rw [decide_eq_false (fun h=>h3 (h.2.2.2.1))],hS⟩;rw [decide_eq_true h3];refine QO ?_;refine CP hS (Zb1 f.to_ 64 _) fun w7 hT hS=>?_;replace e1:=e1.up hT;clear hT;by_cases h4:(0≤f.to_∧f.to_<64)
 rotate_left
 rw [decide_eq_false h4];refine RT ?_;exact ⟨by rw [decide_eq_false (fun h=>h4 (h.2.2.2.2.1))],hS⟩;rw [decide_eq_true h4]
 (refine QP ?_ ?_<;>intro hg)
 all_goals
  refine RU ?_;exact ⟨by
   congr 1;symm
   first
    | (rw [decide_eq_decide];exact ⟨fun h=>by have:=h.2.2.2.2.2;omega,fun h=>⟨h0,h1,h2,h3,h4,by omega,by omega⟩⟩)
    | exact decide_eq_false (fun h=>by have:=h.2.2.2.2.2;omega),hS⟩
abbrev mkI (a:Int):Value:=.I a
structure Vr0 where
 f:Fct
instance:Z3 Vr0 where
 k:=8
 enc:=fun x=>.I 0 :: .B false :: Z3.enc x.f
 len:=fun _=>rfl
 one:=by
  intro x u hu;rcases Xb.1 hu with rfl|hu
  rfl;rcases Xb.1 hu with rfl|hu
  rfl;exact Z3.one x.f u hu
abbrev Zef (f:Fct):Int:=if VOk f then 0 else 5
theorem ZkR (r:Nat) (f:Fct) (w) (hm:(f.kind.length:Int)≤maxLen) (hr:JI mkI w r []) :
 CC 296 #[.map (some r),aG (⟨f⟩:Vr0),.I 0] w fun v w'=>v=.I (Zef f)∧Stp [r] w w':=by
 have lr:=hr.lt;refine cW3 50 Tryz.func296 ?_;refine W ?_;refine BX (Stp.refl [] w) fun b1 w1 h1 e1 _ hS=>?_;replace e1:Blk w1 b1 262 (Z3.enc (⟨f⟩:Vr0)):=e1;replace hr:=hr.up hS;refine QO ?_;refine Z4 (Zn rfl rfl e1 (us:=Z3.enc f) rfl rfl) rfl ?_;refine W ?_;refine CP hS (ZgX f _ hm) fun w2 hT hS=>?_;replace e1:=e1.up hT;replace hr:=hr.up hT;clear hT;unfold Zef;by_cases hv:VOk f
 rotate_left
 rw [decide_eq_false hv,if_neg hv];refine RT ?_;exact ⟨rfl,hS.mn⟩;rw [decide_eq_true hv,if_pos hv];refine QO ?_;refine Z5 (Z1J (a:=f.entry) rfl rfl rfl hr (by simp)) ?_;rintro _ w3 ⟨hm3,hT⟩;refine RT ?_;exact ⟨rfl,hS.mn.trans hT⟩
theorem ZnY (v:Value) (f:Fct) (w) (hm:(f.kind.length:Int)≤maxLen) (hs:SlV [] w v [(⟨f⟩:Vr0)]) :
 CC 249 #[v] w fun r w'=>∃ p q,r=.tuple #[p,q,.I (Zef f)]∧Stp [] w w':=by
 refine cW1 29 Tryz.func249 ?_;refine W ?_;refine Z1 (Z0R mkI) rfl ?_;rintro _ w1 ⟨r,rfl,gr,hm1,hS⟩;replace hs:=hs.up hS;refine W ?_;have hl0:0 < [(⟨f⟩:Vr0)].length:=by simp
 refine Zu (σ:=Nat) (fun k=>[(0,v),(5,.map (some r)),(6,.I 0),(11,v),(12,.I 1),(13,.I (k:Int))])
  (fun k W=>k≤1∧(k=0→W=w1)∧(k=1→VOk f)∧Stp [] w W) (fun k=>1 - k) 0 ⟨rfl,rfl,rfl,rfl,rfl,rfl,trivial⟩ ⟨by decide,fun _=>rfl,by simp,hS⟩ ?_
 rintro k w2 ⟨hk,hk0,hk1,hS2⟩;have hkk:k=0∨k=1:=by omega
 rcases hkk with rfl|rfl
 obtain rfl:=hk0 rfl;clear hk0 hk1 hS2;have lr:=hm1.lt;refine QO ?_;refine Z1 Z2 rfl ?_;rintro _ w3 ⟨b8,rfl,hb8,e8,hT⟩;refine SA (us:=Z3.enc (⟨f⟩:Vr0)) e8 ?_;rintro _ w4 ⟨hU,e8⟩;replace hT:=hT.ow hU;replace hm1:=hm1.up hT;have hS4:=hS.trans hT;have l8:=e8.lt;have n8:b8≠r:=by omega
 clear hU;refine QO ?_;refine CL (ZkR r f _ hm hm1) ?_;rintro _ w5 ⟨rfl,hU⟩;replace e8:=e8.ext hU (by simpa using n8);have hS5:Stp [] w w5:=hS4.ow hU;unfold Zef;by_cases hv:VOk f;rw [if_pos hv];refine QO ?_;exact QL 1 ⟨Xn _,by simp,fun _=>hv,hS5⟩ (by decide);rw [if_neg hv];refine RT ?_;exact ⟨_,_,rfl,hS5⟩;have hv:=hk1 rfl;refine RT ?_;exact ⟨_,_,by rw [show Zef f=0 from if_pos hv],hS2⟩
theorem Zeg (v:Value) (f:Fct) (w) (hm:(f.kind.length:Int)≤maxLen) (hs:SlV [] w v [(⟨f⟩:Vr0)]) :
 CC 189 #[v] w fun r w'=>r=.I (Zef f)∧Stp [] w w':=by
 refine cW1 13 Tryz.func189 ?_;refine W ?_;refine CL (ZnY v f _ hm hs) ?_;rintro _ w1 ⟨p,q,rfl,hS⟩;refine RT ?_;exact ⟨rfl,hS⟩
def ZcU:List Int→List Fct→Int
 | _,[]=>0
 | kn,f :: l=>if ¬ VOk f then 5 else if f.entry∈kn then 4 else ZcU (kn++[f.entry]) l
theorem ZgY (kn:List Int) (f:Fct) (l:List Fct):ZcU kn (f :: l)=if ¬ VOk f then 5 else if f.entry∈kn then 4 else ZcU (kn++[f.entry]) l:=rfl
theorem ZkS {κ:Type} [DecidableEq κ] (l:List Fct) (g:Fct→κ) (a:κ):Z3t (l.map (fun x=>(g x,Value.bool true))) a (.B false)=.B (decide (a∈l.map g)):=by
 have:=Zf8 (l.map g) a;rw [YbC] at this;exact this
theorem ZnZ (f:Fct) (w):(Instr.build 262 #[(2,aG f)]).run Tryz.prog w=.ok (aG (⟨f⟩:Vr0)) w:=by kernel_rfl
theorem Zo0 (f:Fct) (w):(Instr.buildSlice 263 1 #[(0,aG (⟨f⟩:Vr0))]).run Tryz.prog w=.ok (.slice (some ⟨w.heap.size,0,none⟩) 1 1) (w.alloc (.cells (Z3.enc (⟨f⟩:Vr0)).toArray 262)):=by kernel_rfl
theorem Z8v (v:Value) (l:List Fct) (w) (hm:∀ f∈l,(f.kind.length:Int)≤maxLen) (hs:SlV [] w v l) :
 CC 109 #[v] w fun r w'=>r=.I (ZcU [] l)∧Stp [] w w':=by
 have hmx:=hs.max;refine cW1 26 Tryz.func109 ?_;refine W ?_;refine Z1 (Z0R mkI) rfl ?_;rintro _ w1 ⟨r,rfl,gr,hm1,hS⟩;have hs1:=hs.ext (X':=[r]) hS (by simp) (fun b hb=>.inr (by simp at hb;omega));have lr:=hm1.lt;refine QO ?_
 refine Zu (σ:=Nat) (fun k=>[(3,.map (some r)),(7,v),(8,.I (l.length:Int)),(9,.I (k:Int))])
  (fun k W=>k≤l.length∧JI mkI W r ((l.take k).map (fun f=>(f.entry,.B true)))∧ZcU [] l=ZcU ((l.take k).map Fct.entry) (l.drop k)∧Stp [r] w1 W) (fun k=>l.length - k) 0 ⟨rfl,rfl,rfl,rfl,trivial⟩ ⟨Xq _,by simpa using hm1,by simp,Stp.refl _ _⟩ ?_
 clear hm1;rintro k w2 ⟨hk,hm2,hfil,hT⟩;have hs2:=hs1.ext (X':=[r]) hT (by simp) (fun b hb=>.inl hb);have hgw:=hT.size;by_cases hlt:k<l.length
 · have hd:l.drop k=l[k] :: l.drop (k+1):=Yab hlt
   have htk:l.take (k+1)=l.take k++[l[k]]:=Xi hlt;have hmk:=hm _ (Xd hlt);rw [hd,ZgY] at hfil;refine QO ?_;refine Z1 Z2 rfl ?_;rintro _ w3 ⟨b5,rfl,hb5,e5,hU⟩;refine SA (us:=Z3.enc l[k]) e5 ?_;rintro _ w4 ⟨hU2,e5⟩;replace hU:=hU.ow hU2;replace hm2:=hm2.up hU;have hT4:=hT.trans hU.mn;have l5:=e5.lt;clear hU2 hU;refine QO ?_;refine Z8 rfl (ZnZ l[k]) rfl ?_;refine Z1 (Z0 rfl (Zo0 l[k])) rfl ?_;rintro vs w5 hN;have hvs:SlV [] w5 vs [(⟨l[k]⟩:Vr0)]:=hN.slv (by simp) rfl (by simp) (by simp [maxLen]);have hU:=Z6.stp hN;clear hN;replace hm2:=hm2.up hU;replace e5:=e5.up hU;replace hT4:=hT4.trans hU.mn;clear hU;refine CP (Stp.refl [] w5) (Zeg vs l[k] _ hmk hvs) fun w6 hU _=>?_;replace hm2:=hm2.up hU;replace e5:=e5.up hU;replace hT4:=hT4.trans hU.mn;clear hU;unfold Zef;have hSw:∀ W,Stp [r] w1 W→Stp [] w W:=fun W h=>hS.ow h;by_cases hv:VOk l[k]
   rotate_left
   rw [if_neg hv];rw [if_pos hv] at hfil;refine RT ?_;exact ⟨by rw [hfil],hSw _ hT4⟩;rw [if_pos hv];rw [if_neg (by simpa using hv)] at hfil;refine QO ?_;refine Z4 (Z1K (a:=l[k].entry) rfl rfl hm2) rfl ?_;rw [ZkS];by_cases hin:l[k].entry∈(l.take k).map Fct.entry;rw [if_pos hin] at hfil;rw [decide_eq_true hin];refine RT ?_;exact ⟨by rw [hfil],hSw _ hT4⟩;rw [if_neg hin] at hfil;rw [decide_eq_false hin];refine QO ?_;refine Z5 (Z1J (a:=l[k].entry) rfl rfl rfl hm2 (fun p hp=>by
    obtain ⟨x,hx,rfl⟩:=XC.1 hp;exact fun h=>hin (XC.2 ⟨x,hx,h⟩))) ?_
   rintro _ w7 ⟨hm7,hU⟩;refine QO ?_;exact QL (k+1) ⟨hlt,by rw [htk,XI];exact hm7,by rw [hfil,htk,XI];rfl,hT4.trans hU⟩ (by omega)
 obtain rfl:k=l.length:=by omega
 rw [YaU] at hfil;refine RT ?_;exact ⟨by rw [hfil];rfl,hS.ow hT⟩
def Z74 (n:Nat) (r:Rtn):Prop:=(0≤r.crr∧r.crr<n)∧((r.kind=1∧(0≤r.lo∧r.lo≤3652058)∧(0≤r.hi∧r.hi≤3652058)∧r.lo≤r.hi)∨(r.kind=2∧r.lo=0∧(0≤r.hi∧r.hi≤3652058))∨(r.kind=3∧r.lo=0∧r.hi=0))
instance (n:Nat) (r:Rtn):Decidable (Z74 n r):=by unfold Z74;infer_instance
def ZtT (n:Nat) (l:List Rtn):Int:=if 32<l.length then 2 else if ∀ r∈l,Z74 n r then 0 else 5
theorem Z1s (d:Int) (w):CC 301 #[.I d] w fun r w'=>r=.B (decide (0≤d∧d≤3652058))∧Stp [] w w':=by
 refine cW1 9 Tryz.func301 ?_
 (refine QP ?_ ?_<;>intro hg)
 refine RU ?_;exact ⟨by congr 1;rw [decide_eq_decide];exact ⟨fun h=>⟨by omega,h⟩,fun h=>h.2⟩,Stp.refl _ _⟩;refine RU ?_;exact ⟨by congr 1;symm;exact decide_eq_false (fun h=>by omega),Stp.refl _ _⟩
theorem Zb2 (v cv:Value) (l:List Rtn) (cs:List Crr) (w) (hs:SlV [] w v l) (hcv:SlV [] w cv cs) :
 CC 251 #[v,cv] w fun r w'=>r=.I (ZtT cs.length l)∧Stp [] w w':=by
 have hmx:=hs.max;have hcm:=hcv.max;unfold ZtT;refine cW2 78 Tryz.func251 ?_;by_cases h32:32<l.length;rw [if_pos h32];refine RT ?_;exact ⟨rfl,Stp.refl _ _⟩;rw [if_neg h32];refine QO ?_
 refine Zu (σ:=Nat) (fun k=>[(0,v),(1,cv),(11,v),(12,.I (l.length:Int)),(13,.I (k:Int))])
  (fun k W=>k≤l.length∧(∀ i (h:i<l.length),i<k→Z74 cs.length l[i])∧Stp [] w W) (fun k=>l.length - k) 0 ⟨rfl,rfl,rfl,rfl,rfl,trivial⟩ ⟨Xq _,fun i _ h=>absurd h (Xu _),Stp.refl _ _⟩ ?_
 rintro k w2 ⟨hk,hall,hS⟩;have hs2:=hs.up hS;have hc2:=hcv.up hS;by_cases hlt:k<l.length;refine QO ?_;refine Z1 Z2 rfl ?_;rintro _ w3 ⟨b6,rfl,hb6,e6,hU⟩;refine SA (us:=Z3.enc l[k]) e6 ?_;rintro _ w4 ⟨hU2,e6⟩;replace hU:=hU.ow hU2;replace hc2:=hc2.up hU;replace hS:=hS.trans hU;clear hU hU2 hs2;have hyes:Z74 cs.length l[k]→∀ i (h:i<l.length),i<k+1→Z74 cs.length l[i]:=fun hv i h hik=>by
  by_cases e:i=k;subst e;exact hv;exact hall i h (by omega)
 have hno:¬ Z74 cs.length l[k]→(if ∀ r∈l,Z74 cs.length r then (0:Int) else 5)=5:=fun h=>if_neg (fun g=>h (g _ (Xd hlt)));generalize l[k]=y at *;clear hall;by_cases hv:Z74 cs.length y;replace hyes:=hyes hv;clear hno;unfold Z74 at hv;obtain ⟨⟨g1,g2⟩,⟨k1,g3,g4,g5⟩|⟨k1,g3,g4⟩|⟨k1,g3,g4⟩⟩:=hv;refine QO ?_;refine CP hS (Z1s _ _) fun w5 hT hS=>?_;replace e6:=e6.up hT;rw [decide_eq_true g3];refine QO ?_;refine CP hS (Z1s _ _) fun w6 hT hS=>?_;replace e6:=e6.up hT;rw [decide_eq_true g4];refine QO ?_;exact QL (k+1) ⟨hlt,hyes,hS⟩ (XM hlt (XS k));refine QO ?_;refine CP hS (Z1s _ _) fun w5 hT hS=>?_;replace e6:=e6.up hT;rw [decide_eq_true g4];refine QO ?_;exact QL (k+1) ⟨hlt,hyes,hS⟩ (XM hlt (XS k));refine QO ?_;exact QL (k+1) ⟨hlt,hyes,hS⟩ (XM hlt (XS k))
 · replace hno:=hno hv
   clear hyes;rw [hno];unfold Z74 at hv;repeat'(first|refine W1 ?_|omega|refine VG ?_ ?_<;>intro hg|refine VC ?_ ?_<;>intro hc)
   all_goals try
    refine CP hS (Z1s _ _) fun w5 hT hS=>?_;replace e6:=e6.up hT;repeat'(first|refine W1 ?_|omega|refine VG ?_ ?_<;>intro hg|refine VC ?_ ?_<;>intro hc)
   all_goals try
    refine CP hS (Z1s _ _) fun w6 hT hS=>?_;replace e6:=e6.up hT;repeat'(first|refine W1 ?_|omega|refine VG ?_ ?_<;>intro hg|refine VC ?_ ?_<;>intro hc)
   all_goals
    refine RU ?_;exact ⟨rfl,hS⟩
 obtain rfl:k=l.length:=by omega
 have hf:(if ∀ r∈l,Z74 cs.length r then (0:Int) else 5)=0:=if_pos (fun r hr=>by
  obtain ⟨i,hi,rfl⟩:=Xr hr;exact hall i hi hi)
 rw [hf];refine RT ?_;exact ⟨rfl,hS⟩
def ZgZ (n:Nat) (a:Atp):Prop:=(0≤a.entry∧a.entry<65536)∧(0≤a.party∧a.party<64)∧(0≤a.crr∧a.crr<n)∧(0≤a.sent∧a.sent≤3652058)
instance (n:Nat) (a:Atp):Decidable (ZgZ n a):=by unfold ZgZ;infer_instance
def ZcV (n:Nat) (a:Atp):Int:=if ZgZ n a then ZtT n a.rets else 5
def Zeh (n:Nat):List Atp→Int
 | []=>0
 | a :: l=>if ZcV n a≠0 then ZcV n a else Zeh n l
theorem Zb3 (rv cv:Value) (a:Atp) (cs:List Crr) (w) (hs:SlV [] w rv a.rets) (hcv:SlV [] w cv cs) :
 CC 192 #[.agg (atC a rv).toArray,cv] w fun r w'=>r=.I (ZcV cs.length a)∧Stp [] w w':=by
 have hcm:=hcv.max;unfold ZcV;refine cW2 36 Tryz.func192 ?_;refine W ?_;refine BX (Stp.refl [] w) fun b1 w1 h1 e1 _ hS=>?_;replace e1:Blk w1 b1 78 (atC a rv):=e1;have hc2:=hcv.up hS;have hs2:=hs.up hS;by_cases hv:ZgZ cs.length a;rw [if_pos hv];unfold ZgZ at hv;obtain ⟨g1,g2,g3,g4⟩:=hv;refine QO ?_;refine CP hS (Zb2 rv cv a.rets cs _ hs2 hc2) fun w5 hT hS=>?_;refine RT ?_;exact ⟨rfl,hS⟩
 · rw [if_neg hv]
   unfold ZgZ at hv;repeat'(first|refine W1 ?_|omega|refine VG ?_ ?_<;>intro hg|refine VC ?_ ?_<;>intro hc)
   all_goals
    refine RU ?_;exact ⟨rfl,hS⟩
theorem Zb4 (v cv:Value) (l:List Atp) (cs:List Crr) (w) (hl:l.length≤65536) (hs:SlV [] w v l) (hcv:SlV [] w cv cs) :
 CC 112 #[v,cv] w fun r w'=>r=.I (Zeh cs.length l)∧Stp [] w w':=by
 have hmx:=hs.max;refine cW2 24 Tryz.func112 ?_;refine QO ?_
 refine Zu (σ:=Nat) (fun k=>[(0,v),(1,cv),(11,v),(12,.I (l.length:Int)),(13,.I (k:Int))])
  (fun k W=>k≤l.length∧Zeh cs.length l=Zeh cs.length (l.drop k)∧Stp [] w W) (fun k=>l.length - k) 0 ⟨rfl,rfl,rfl,rfl,rfl,trivial⟩ ⟨Xq _,rfl,Stp.refl _ _⟩ ?_
 rintro k w2 ⟨hk,hfil,hS⟩;have hs2:=hs.up hS;have hc2:=hcv.up hS;by_cases hlt:k<l.length;have hd:l.drop k=l[k] :: l.drop (k+1):=Yab hlt;rw [hd] at hfil;have hf2:Zeh cs.length (l[k] :: l.drop (k+1))=if ZcV cs.length l[k]≠0 then ZcV cs.length l[k] else Zeh cs.length (l.drop (k+1)):=rfl
 rw [hf2] at hfil;obtain ⟨cs0,⟨rv,rfl,hrv⟩,hcell⟩:=hs2.cell hlt;refine QO ?_;refine Z4 (Z2F rfl rfl hs2 hlt ⟨rv,rfl,hrv⟩ hcell) rfl ?_;refine Z1 Z2 rfl ?_;rintro _ w3 ⟨b6,rfl,hb6,e6,hU⟩;refine SB (us:=atC l[k] rv) (Zfe hrv.one) e6 ?_;rintro _ w4 ⟨hU2,e6⟩;replace hU:=hU.ow hU2;replace hc2:=hc2.up hU;replace hrv:=hrv.up hU;replace hS:=hS.trans hU;clear hU hU2 hcell hs2;refine QO ?_;refine CP hS (Zb3 rv cv l[k] cs _ hrv hc2) fun w5 hT hS=>?_;by_cases he:ZcV cs.length l[k]=0;rw [he] at hfil ⊢;refine QO ?_;exact QL (k+1) ⟨hlt,hfil,hS⟩ (XM hlt (XS k));rw [if_pos he] at hfil;generalize ZcV cs.length l[k]=z at *;refine RT ?_;exact ⟨by rw [hfil],hS⟩;obtain rfl:k=l.length:=by omega
 rw [YaU] at hfil;refine RT ?_;exact ⟨by rw [hfil];rfl,hS⟩
theorem Zo1 (v:Value) (l:List Int) (w) (hs:SlV [] w v l):CC 111 #[v] w fun r w'=>r=.I (orL l)∧Stp [] w w':=by
 have hmax:=hs.max;refine cW1 18 Tryz.func111 ?_;refine W ?_;refine LP (σ:=Nat) (fun k=>[(3,.I 0),(6,v),(7,.I l.length),(8,.I k)]) (fun k w'=>k≤l.length∧Stp [] w w'∧∀ j (h:j<l.length),j<k→l[j]=0) (fun k=>l.length - k) 0 ⟨Xq _,Stp.refl _ _,fun j _ h=>absurd h (Xu _)⟩ ?_;have hs0:=hs;clear hs;rintro k w1 ⟨hk,hS,hz⟩;have hs:=hs0.up hS;by_cases hlt:k<l.length;by_cases h0:l[k]=0;refine QO ?_;exact QL (k+1) ⟨by omega,hS,fun j h hj=>by
  by_cases e:j=k;subst e;exact h0;exact hz j h (by omega)⟩ (by omega)
 refine RT ?_;exact ⟨by rw [ZdP hlt hz h0],hS⟩;refine RT ?_;exact ⟨by rw [Z80 (fun j h=>hz j h (by omega))],hS⟩
theorem Z8S (w):CC 194 #[.N] w fun r w'=>r=.I 0∧Stp [] w w':=by
 refine cW1 55 Tryz.func194 ?_;refine QO ?_;refine CL (Z9u _) ?_;rintro _ w1 ⟨rfl,hS⟩;repeat'(first|refine W1 ?_|omega|refine VG ?_ ?_<;>intro hg|refine VC ?_ ?_<;>intro hc)
 refine Z1 Z2 rfl ?_;rintro _ w2 ⟨b,rfl,hb,e6,hT⟩;refine SB (us:=Z54) (by intro u hu;simp [Z54] at hu;rcases hu with rfl|rfl|rfl|rfl|rfl|rfl|rfl|rfl<;>rfl) e6 ?_;rintro _ w3 ⟨hU,e6⟩;replace hS:=(hS.trans hT).own hU (fun c hc=>.inr (by have:=hS.size;simp at hc;omega));refine QO ?_;refine LP (σ:=Nat) (fun k=>[(11,.I 0),(12,.I (k:Int))]) (fun k w'=>k=0∧w'=w3) (fun k=>k) 0 ⟨rfl,rfl⟩ ?_;rintro k w4 ⟨rfl,rfl⟩;refine RT ?_;exact ⟨rfl,hS⟩
theorem Z8T (w):CC 195 #[.agg #[.I 0,.N]] w fun r w'=>r=.I 0∧Stp [] w w':=by
 have hof:∀ W:World,CC 254 #[.I 0] W fun r w'=>r=.B true∧Stp [] W w':=fun W=>by
  refine cW1 9 Tryz.func254 ?_;refine RT ?_;exact ⟨rfl,Stp.refl _ _⟩
 refine cW1 51 Tryz.func195 ?_;refine W ?_;refine BX (Stp.refl [] w) fun b1 w1 h1 e1 _ hS=>?_;replace e1:Blk w1 b1 33 [.I 0,.N]:=e1;refine QO ?_;refine CP hS (hof _) fun w2 hT hS=>?_;replace e1:=e1.up hT;refine QO ?_;refine LP (σ:=Nat) (fun k=>[(17,.I 0),(18,.I (k:Int))]) (fun k w'=>k=0∧w'=w2) (fun k=>k) 0 ⟨rfl,rfl⟩ ?_;rintro k w4 ⟨rfl,rfl⟩;refine RT ?_;exact ⟨rfl,hS⟩
theorem ZkT (v:Value) (l:List Bool) (x:Bool) (w) (hs:SlV [] w v l):CC 252 #[v,.B x] w fun r w'=>(∃ z:Int,r=.I z∧(0≤z↔x∈l))∧Stp [] w w':=by
 have hmax:=hs.max;refine cW2 19 Tryz.func252 ?_;refine W ?_;refine LP (σ:=Nat) (fun k=>[(0,v),(1,.B x),(6,v),(7,.I l.length),(8,.I k)]) (fun k w'=>k≤l.length∧Stp [] w w'∧∀ j (h:j<l.length),j<k→l[j]≠x) (fun k=>l.length - k) 0 ⟨Xq _,Stp.refl _ _,fun j _ h=>absurd h (Xu _)⟩ ?_;rintro k w2 ⟨hk,hT,hz⟩;have hs2:=hs.up hT;by_cases hlt:k<l.length
 (refine QP ?_ ?_<;>intro hc)
 refine RU ?_;exact ⟨⟨_,rfl,⟨fun _=>hc ▸ Xd hlt,fun _=>Int.natCast_nonneg _⟩⟩,hT⟩;exact QL (k+1) ⟨hlt,hT,fun j h hj=>by
  by_cases e:j=k;subst e;exact fun h=>hc h.symm;exact hz j h (by omega)⟩ (by omega)
 have hno:¬ x∈l:=fun h=>by
  obtain ⟨j,hj,e⟩:=Xr h;exact hz j hj (by omega) e
 refine RT ?_;exact ⟨⟨_,rfl,⟨fun h=>absurd h (by decide),fun h=>absurd h hno⟩⟩,hT⟩
theorem ZkU (v:Value) (l:List Bool) (x:Bool) (w) (hs:SlV [] w v l):CC 193 #[v,.B x] w fun r w'=>r=.B (decide (x∈l))∧Stp [] w w':=by
 refine cW2 9 Tryz.func193 ?_;refine W ?_;refine CG (ZkT v l x _ hs) ?_;rintro _ w2 ⟨⟨z,rfl,hz⟩,hT⟩;refine RT ?_;exact ⟨congrArg Value.bool (decide_eq_decide.2 hz),hT⟩
def ZoA:List Value:=[.B false,.B false,.B false,.B false,.B false,.B false,.B false,.N,.N,.I 0,.N,.I 0]
theorem Z8U (w):CC 114 #[.agg ZoA.toArray] w fun r w'=>r=.I 0∧Stp [] w w':=by
 refine cW1 66 Tryz.func114 ?_;refine W ?_;refine BX (Stp.refl [] w) fun b1 w1 h1 e1 _ hS=>?_;replace e1:Blk w1 b1 35 ZoA:=e1;have hwk:SlV [] w1 (.slice (some ⟨b1,0,none⟩) 7 7) [false,false,false,false,false,false,false]:=by
  refine ⟨some ⟨b1,0,none⟩,7,rfl,Xn _,by simp [maxLen],fun h=>by simp at h,fun i hi=>⟨b1,0,[.B false],rfl,e1.lt,by simp,?_,fun j u hu=>?_⟩⟩;have:i=0∨i=1∨i=2∨i=3∨i=4∨i=5∨i=6:=by simp at hi;omega
  rcases this with rfl|rfl|rfl|rfl|rfl|rfl|rfl<;>rfl
  have hj:j=0:=by
   have:=(Xw.1 hu).1;simp at this;exact this
  subst hj;refine e1.cell ?_;have:i=0∨i=1∨i=2∨i=3∨i=4∨i=5∨i=6:=by simp at hi;omega
  rcases this with rfl|rfl|rfl|rfl|rfl|rfl|rfl<;>exact hu
 refine W ?_;refine Z4 (Z5S (b:=b1) rfl) rfl ?_;refine W ?_;refine CP hS (ZkU _ _ false _ hwk) fun w2 hT hS=>?_;replace e1:=e1.up hT;clear hwk hT;rw [decide_eq_true (by simp)];refine QO ?_;refine CP hS (Z8S _) fun w3 hT hS=>?_;replace e1:=e1.up hT;refine QO ?_;refine LP (σ:=Nat) (fun k=>[(1,pQ b1),(23,.I 0),(24,.I (k:Int))]) (fun k w'=>k=0∧w'=w3) (fun k=>k) 0 ⟨rfl,rfl⟩ ?_;rintro k w4 ⟨rfl,rfl⟩;refine QO ?_;refine Z4 (Zn rfl rfl e1 (us:=[.I 0,.N]) rfl rfl) rfl ?_;refine W ?_;refine CP hS (Z8T _) fun w5 hT hS=>?_;replace e1:=e1.up hT;refine RT ?_;exact ⟨rfl,hS⟩
structure ZcW (c:Cas):Prop where
 ops:∀ q∈c.ruls,∀ x∈q.cnd++q.due,opP x.op
 fil:ZcU [] c.fcts=0
 fm:∀ f∈c.fcts,(f.kind.length:Int)≤maxLen
 cl:c.crrs.length≤16
 co:∀ x∈c.crrs,Z9B x
 rl:c.ruls.length≤1024
 ro:∀ q∈c.ruls,ZcP q=0
 al:c.atts.length≤65536
 ao:Zeh c.crrs.length c.atts=0
 so:Zgi c.stys=0
 court:0≤c.court∧c.court≤15
 today:0≤c.today∧c.today≤3652058
theorem Zo2 (a b d:Int) (w):(Instr.buildSlice 265 3 #[(0,.I a),(1,.I b),(2,.I d)]).run Tryz.prog w=.ok (.slice (some ⟨w.heap.size,0,none⟩) 3 3) (w.alloc (.cells #[.I a,.I b,.I d] 92)):=by kernel_rfl
theorem Zb5 (c:Cas) (R:Z11) (w) (m:Int) (hF:SlV [] w Z2q Zf) (hmm:w.cell? ⟨2,0,none⟩=some (.I m)) (hv:Z1H w c R) (ho:ZcW c)
 (hcal:∀ Y,Stp [] w Y→CC 114 #[.agg (Z0e c.cal R.hv R.lv R.zo R.zs R.hr).toArray] Y fun r w'=>r=.I 0∧Stp [] Y w') :
 CC 70 #[.agg (JE c R).toArray] w fun r w'=>r=.I 0∧Stp [] w w':=by
 have hcl:=ho.cl;have hrl:=ho.rl;have hct:=ho.court;have htd:=ho.today;have hcmx:=hv.cc.max;have hrmx:=hv.rr.max;refine cW1 78 Tryz.func70 ?_;refine W ?_;refine BX (Stp.refl [] w) fun b1 w1 h1 e1 _ hS=>?_;replace e1:Blk w1 b1 37 (JE c R):=e1;refine QO ?_;refine CP hS (Z8v R.fv c.fcts _ ho.fm (hv.ff.up hS)) fun w2 hT hS=>?_;replace e1:=e1.up hT;rw [ho.fil];have hvc:=(hv.up hS).cc;refine QO ?_;refine LP (σ:=Nat) (fun k=>[(1,pQ b1),(20,R.cv),(21,.I (c.crrs.length:Int)),(22,.I (k:Int))]) (fun k w'=>k≤c.crrs.length∧Stp [] w2 w') (fun k=>c.crrs.length - k) 0 ⟨Xq _,Stp.refl _ _⟩ ?_;rintro k y1 ⟨hk,hT1⟩;have e1':=e1.up hT1;have hS1:=hS.trans hT1;have hvc':=hvc.up hT1;by_cases hlt:k<c.crrs.length;have hxo:=ho.co _ (Xd hlt);have x1:=hxo.ext;have x2:=hxo.tol;refine QO ?_;refine Z1 Z2 rfl ?_;rintro _ w3 ⟨b6,rfl,hb6,e6,hU⟩;refine SA (us:=Z3.enc c.crrs[k]) e6 ?_;rintro _ w4 ⟨hU2,e6⟩;replace hU:=hU.ow hU2;replace hT1:=hT1.trans hU;generalize c.crrs[k]=x at *;refine QO ?_;refine CP hT1 (Z1r _ _ _ _) fun w5 hT hT1=>?_;replace e6:=e6.up hT;rw [decide_eq_true x1];refine QO ?_;refine CP hT1 (Z1r _ _ _ _) fun w6 hT hT1=>?_;rw [decide_eq_true x2];refine QO ?_;exact QL (k+1) ⟨hlt,hT1⟩ (XM hlt (XS k));replace e1:=e1';replace hS:=hS1;clear e1' hS1 hvc' hvc hT1 hT;have hvr:=(hv.up hS).rr;refine QO ?_;refine LP (σ:=Nat) (fun k=>[(1,pQ b1),(42,R.rv),(43,.I (c.ruls.length:Int)),(44,.I (k:Int))]) (fun k w'=>k≤c.ruls.length∧Stp [] y1 w') (fun k=>c.ruls.length - k) 0 ⟨Xq _,Stp.refl _ _⟩ ?_;rintro k y2 ⟨hk,hT1⟩;have e1':=e1.up hT1;have hS1:=hS.trans hT1;have hvr':=hvr.up hT1;by_cases hlt:k<c.ruls.length;have hxo:=ho.ro _ (Xd hlt);obtain ⟨cs0,⟨kc,kd,rfl,hkc,hkd⟩,hcell⟩:=hvr'.cell hlt;refine QO ?_;refine Z4 (Z2F rfl rfl hvr' hlt ⟨kc,kd,rfl,hkc,hkd⟩ hcell) rfl ?_;refine Z1 Z2 rfl ?_;rintro _ w3 ⟨b6,rfl,hb6,e6,hU⟩;refine SB (us:=crC c.ruls[k] kc kd) (Z0n hkc hkd) e6 ?_;rintro _ w4 ⟨hU2,e6⟩;replace hU:=hU.ow hU2;replace hT1:=hT1.trans hU;have hSw:=hS.trans hT1;refine QO ?_;refine CP hT1 (Zec _ c.ruls[k] _ m (hF.up hSw) (hSw.cell (by simp) hmm) ⟨kc,kd,rfl,hkc.up hU,hkd.up hU⟩ (ho.ops _ (Xd (by assumption)))) fun w5 hT hT1=>?_
 rw [hxo];refine QO ?_;exact QL (k+1) ⟨hlt,hT1⟩ (XM hlt (XS k));replace e1:=e1';replace hS:=hS1;clear e1' hS1 hvr' hvr hT1;have hvS:=hv.up hS;refine QO ?_;refine ZDr 14 [] [] [(0,0),(1,1),(2,0),(3,1),(5,0),(6,1),(8,0),(9,1),(4,2),(7,2),(10,2),(11,2),(12,2),(13,0)] (fun w1 hS1=>?_);replace e1:=e1.up hS1;replace hS:=hS.trans hS1;replace hvS:=hvS.up hS1;refine QD ?_;refine J3 rfl trivial (fun w' hS'=>Zn rfl rfl (e1.up hS') (us:=Z0e c.cal R.hv R.lv R.zo R.zs R.hr) rfl rfl) rfl ?_;repeat'(first|refine D1 ?_|omega|refine Zy rfl rfl rfl rfl (fun hg=>?_) (fun hg=>?_)|(refine Zr rfl rfl rfl rfl (fun hg=>?_) (fun hg=>?_)<;>refine D1 ?_)|fail)
 refine DP hS (Zb4 R.av R.cv c.atts c.crrs _ ho.al hvS.aa hvS.cc) fun w5 hT hS=>?_;replace e1:=e1.up hT;replace hvS:=hvS.up hT;rw [ho.ao];repeat'(first|refine D1 ?_|omega|refine Zy rfl rfl rfl rfl (fun hg=>?_) (fun hg=>?_)|(refine Zr rfl rfl rfl rfl (fun hg=>?_) (fun hg=>?_)<;>refine D1 ?_)|fail)
 refine DP hS (ZaH R.sv c.stys _ hvS.ss) fun w6 hT hS=>?_;replace e1:=e1.up hT;replace hvS:=hvS.up hT;rw [ho.so];repeat'(first|refine D1 ?_|omega|refine Zy rfl rfl rfl rfl (fun hg=>?_) (fun hg=>?_)|(refine Zr rfl rfl rfl rfl (fun hg=>?_) (fun hg=>?_)<;>refine D1 ?_)|fail)
 refine DP hS (hcal _ hS) fun w7 hT hS=>?_;replace e1:=e1.up hT;repeat'(first|refine D1 ?_|omega|refine Zy rfl rfl rfl rfl (fun hg=>?_) (fun hg=>?_)|(refine Zr rfl rfl rfl rfl (fun hg=>?_) (fun hg=>?_)<;>refine D1 ?_)|fail)
 refine Zc rfl trivial (Z0 rfl (Zo2 0 0 0)) (fun _ _ h=>Z6.stp h) rfl ?_;rintro vs w8 hN;have hvs:SlV [] w8 vs ([0,0,0]:List Int):=hN.slv (by simp) rfl rfl (by simp [maxLen]);have hU:=Z6.stp hN;clear hN;replace e1:=e1.up hU;replace hS:=hS.trans hU;repeat'(first|refine D1 ?_|omega|refine Zy rfl rfl rfl rfl (fun hg=>?_) (fun hg=>?_)|(refine Zr rfl rfl rfl rfl (fun hg=>?_) (fun hg=>?_)<;>refine D1 ?_)|fail)
 refine DP hS (Zo1 vs [0,0,0] _ hvs) fun w9 hT hS=>?_;replace e1:=e1.up hT;rw [show orL [0,0,0]=0 from rfl];refine QD ?_;refine QO ?_;refine CP hS (Z1r _ _ _ _) fun w10 hT hS=>?_;replace e1:=e1.up hT;rw [decide_eq_true hct];refine QO ?_;refine CP hS (Z1r _ _ _ _) fun w11 hT hS=>?_;rw [decide_eq_true htd];refine RT ?_;exact ⟨rfl,hS⟩
theorem Zff (op:BinOp) (x y:Operand) (a b:Fct) (w):(eqGuard op 45 x y (agg a) (agg b)).run Tryz.prog w=.ok () w:=by
 cases op<;>kernel_rfl
theorem ZoB (a b:Fct) (w):(binOp .neq 45 (agg a) (agg b)).run Tryz.prog w=.ok (.B (decide (¬ a=b))) w:=by
 have h1:Program.stoodInHeld Tryz.prog 45=false:=by kernel_rfl
 obtain ⟨i,hi⟩:∃ i,Tryz.prog.info? 3=some i:=by
  have:=(inferInstance:Siz Tryz.prog 3 1).h;cases h:Tryz.prog.info? 3 with
  | none=>rw [h] at this;cases this
  | some i=>exact ⟨i,rfl⟩
 obtain ⟨a1,a2,a3,a4,a5,a6⟩:=a;obtain ⟨b1,b2,b3,b4,b5,b6⟩:=b;simp [agg,Z3.enc,run_neq_struct,run_equalIn_struct,h1,Program.fieldsOf,Tryz.underlying45,Op.eqFields,part,Und.isAgg,Siz.run,JV,run_equalIn_int w _ _ .i64 .i64 _ _ Tryz.underlying3,run_equalIn_string w _ _ _ _ Tryz.underlying9];repeat' split
 all_goals simp_all
theorem Z8V (va vb:Value) (xs ys:List Fct) (w) (ha:SlV [] w va xs) (hb:SlV [] w vb ys) :
 CC 18 #[va,vb] w fun r w'=>r=.B (decide (xs=ys))∧Stp [] w w':=by
 have hma:=ha.max;have hmb:=hb.max;refine cW2 26 Tryz.func18 ?_;refine W ?_;by_cases hl:xs.length=ys.length
 case neg=>
  refine RT ?_;exact ⟨by congr 1;rw [eq_comm,decide_eq_false_iff_not];exact fun h=>hl (by rw [h]),Stp.refl _ _⟩
 refine QO ?_;refine LP (σ:=Nat) (fun j=>[(0,va),(1,vb),(4,.B false),(5,.I (j:Int))]) (fun j w'=>j≤xs.length∧Stp [] w w'∧∀ i (h:i<xs.length),i<j→xs[i]=ys[i]'(by omega)) (fun j=>xs.length - j) 0 ⟨Xq _,Stp.refl _ _,fun i _ h=>absurd h (Xu _)⟩ ?_;rintro j w2 ⟨hj,hS,heq⟩
 try dsimp only at hj heq ⊢
 replace ha:=ha.up hS;replace hb:=hb.up hS;by_cases hlt:j<xs.length;have hlt':j<ys.length:=by omega
 refine QO ?_;refine ZDr 9 [] [] [(0,0),(1,0),(2,0),(3,1),(4,0),(5,0),(6,0),(7,1),(8,0)] (fun w1 hS1=>?_);replace ha:=ha.up hS1;replace hb:=hb.up hS1;replace hS:=hS.trans hS1;refine D ?_;apply Z2c;exact rfl;refine Zez (c:=xs[j]=ys[j]) trivial rfl rfl (fun w=>Zff _ _ _ xs[j] ys[j] w) (by intro w;exact ZoB xs[j] ys[j] w) rfl ?_;refine D ?_
 (refine QP ?_ ?_<;>intro hc)
 refine RU ?_;exact ⟨by congr 1;rw [eq_comm,decide_eq_false_iff_not];exact fun h=>hc (by simp [h]),hS⟩;have he:xs[j]=ys[j]:=Decidable.byContradiction hc;have hk:∀ i (h:i<xs.length),i<j+1→xs[i]=ys[i]'(by omega):=fun i h hi=>by
  by_cases hij:i=j;subst hij;exact he;exact heq i h (by omega)
 exact QL (j+1) ⟨hlt,hS,hk⟩ (XM hlt (XS j));have hje:j=xs.length:=by omega
 subst hje;refine RT ?_;exact ⟨by congr 1;rw [eq_comm,decide_eq_true_eq];exact Yay hl (fun i h h'=>heq i h h),hS⟩
theorem Zo3 (op:BinOp) (x y:Operand) (a b:Rsn) (w):(eqGuard op 67 x y (agg a) (agg b)).run Tryz.prog w=.ok () w:=by
 cases op<;>kernel_rfl
theorem Zxd (a b:Rsn) (w):(binOp .neq 67 (agg a) (agg b)).run Tryz.prog w=.ok (.B (decide (¬ a=b))) w:=by
 have h1:Program.stoodInHeld Tryz.prog 67=false:=by kernel_rfl
 obtain ⟨i,hi⟩:∃ i,Tryz.prog.info? 3=some i:=by
  have:=(inferInstance:Siz Tryz.prog 3 1).h;cases h:Tryz.prog.info? 3 with
  | none=>rw [h] at this;cases this
  | some i=>exact ⟨i,rfl⟩
 obtain ⟨a1,a2,a3⟩:=a;obtain ⟨b1,b2,b3⟩:=b;simp [agg,Z3.enc,run_neq_struct,run_equalIn_struct,h1,Program.fieldsOf,Tryz.underlying67,Op.eqFields,part,Und.isAgg,Siz.run,JV,run_equalIn_int w _ _ .i64 .i64 _ _ Tryz.underlying3];repeat' split
 all_goals simp_all
theorem ZcX (d:Dln) (ra rb:Value) (w) (ha:SlV [] w ra d.reas) (hb:SlV [] w rb d.reas) :
 CC 25 #[.agg (dlC d ra).toArray,.agg (dlC d rb).toArray] w fun r w'=>r=.B true∧Stp [] w w':=by
 have hma:=ha.max;refine cW2 66 Tryz.func25 ?_;refine W ?_;refine BX (Stp.refl [] w) fun b2 w1 h2 e2 _ hS=>?_;refine BX hS fun b3 w2 h3 e3 hT hS=>?_;replace e2:=e2.up hT;replace e2:Blk w2 b2 56 (dlC d ra):=e2;replace e3:Blk w2 b3 56 (dlC d rb):=e3
 (refine QP ?_ ?_<;>intro hg)
 exact absurd rfl hg;refine Z4 (Zn rfl rfl e2 (us:=Z3.enc d.trig) rfl rfl) rfl ?_;refine W ?_;refine Z4 (Zn rfl rfl e3 (us:=Z3.enc d.trig) rfl rfl) rfl ?_;refine W ?_;refine Zmj (c:=d.trig=d.trig) rfl rfl (fun w=>Zff _ _ _ d.trig d.trig w) (fun w=>ZoB d.trig d.trig w) rfl ?_;rw [decide_eq_false (fun h=>h rfl)];refine QO ?_;refine LP (σ:=Nat) (fun j=>[(2,pQ b2),(3,pQ b3),(4,.B false),(5,.I (j:Int))]) (fun j w'=>j≤d.reas.length∧Stp [] w2 w') (fun j=>d.reas.length - j) 0 ⟨Xq _,Stp.refl _ _⟩ ?_;rintro j y ⟨hj,hT⟩;replace e2:=e2.up hT;replace e3:=e3.up hT;have hS2:=hS.trans hT;have ha2:=ha.up hS2;have hb2:=hb.up hS2;by_cases hlt:j<d.reas.length;refine QO ?_;refine ZDr 11 [] [] [(0,0),(1,1),(2,0),(3,0),(4,1),(5,0),(6,1),(7,0),(8,0),(9,1),(10,0)] (fun w1 hS1=>?_);replace ha2:=ha2.up hS1;replace hb2:=hb2.up hS1;replace e2:=e2.up hS1;replace e3:=e3.up hS1;refine QD ?_;apply Z2c;exact rfl;refine Zez (c:=d.reas[j]=d.reas[j]) trivial rfl rfl (fun w=>Zo3 _ _ _ d.reas[j] d.reas[j] w) (by intro w;exact Zxd d.reas[j] d.reas[j] w) rfl ?_;rw [decide_eq_false (fun h=>h rfl)];refine D ?_;refine QO ?_;exact QL (j+1) ⟨hlt,hT.trans hS1⟩ (XM hlt (XS j));refine RT ?_;exact ⟨rfl,hS2⟩
def Zfg:Str:=[114,117,108,101,32,114,32,102,114,111,109,32,64,50,48,50,54,45,48,49,45,48,49,32,123,32,111,110,32,99,108,97,105,109,59,32,100,117,101,32,100,97,121,32,43,32,50,48,32,100,97,121,115,59,32,117,110,108,101,115,115,32,97,110,115,119,101,114,59,32,101,108,115,101,32,108,97,112,115,101,59,32,125]
def Z3o:RuleM:=⟨[114],739616,[99,108,97,105,109],.mk 2 1 [] [],.mk 7 0 [100,97,121,115] [.mk 4 0 [100,97,121] [],.mk 1 20 [] []],[97,110,115,119,101,114],[108,97,112,115,101]⟩
theorem Zo4:Z31 Zfg=.ok [Z3o]:=by kernel_rfl
def Z42:Cr:=⟨[114],739616,[99,108,97,105,109],[⟨2,1⟩,⟨24,0⟩],[⟨4,0⟩,⟨1,20⟩,⟨15,0⟩,⟨24,0⟩],[97,110,115,119,101,114],[108,97,112,115,101]⟩
def z22:Cal:=⟨[false,false,false,false,false,false,false],[],[]⟩
def Zo:Fct:=⟨4,[99,108,97,105,109],739616,1,2,50⟩
def Zxe:Cas:=⟨[Zo],[Z42],[],[],[],z22,0,739630⟩
def Zxf:Cas:=⟨[Zo],[Z42],[],[],[],z22,0,739640⟩
def Zxg:Cas:=⟨[Zo,⟨7,[97,110,115,119,101,114],739636,2,0,0⟩],[Z42],[],[],[],z22,0,739640⟩
def Zxh:Cas:=⟨[Zo],[Z42],[],[],[(739620,739621)],z22,0,739630⟩
def Z4t:Fct:=⟨4,[108,97,112,115,101],739637,2,1,50⟩
def Z0U (due st:Int) (more:List Rsn):Dln:=⟨[114],Zo,2,due,st,[⟨1,4,739616⟩,⟨2,0,0⟩]++more⟩
theorem ZxZ:Z0F Zxe=[]:=by decide +kernel
theorem Zy0:Z0F Zxf=[Z4t]:=by decide +kernel
theorem Zy1:Z0F Zxg=[]:=by decide +kernel
theorem Zy2:Z0F Zxh=[]:=by decide +kernel
theorem Zy3:Z41 Zxe=[Z0U 739636 0 []]:=by kernel_rfl
theorem Zy4:Z41 Zxf=[Z0U 739636 2 []]:=by kernel_rfl
theorem Zy5:Z41 Zxg=[Z0U 739636 1 [⟨6,7,739636⟩]]:=by kernel_rfl
theorem Zy6:Z41 Zxh=[Z0U 739638 0 [⟨4,739638,739638⟩,⟨5,739620,739621⟩]]:=by kernel_rfl
theorem Zxi:Ze (.mk 2 1 [] [])=2:=by
 rw [Ze];decide +kernel
theorem Zxj:Ze (.mk 7 0 [100,97,121,115] [.mk 4 0 [100,97,121] [],.mk 1 20 [] []])=3:=by
 rw [Ze,Xy,Xy,XQ,Ze,Ze];decide +kernel
theorem Zxk:ZE (.mk 2 1 [] [])=1:=by
 rw [ZE];decide +kernel
theorem Zxl:ZE (.mk 7 0 [100,97,121,115] [.mk 4 0 [100,97,121] [],.mk 1 20 [] []])=2:=by
 rw [ZE,Xy,Xy,XQ,ZE,ZE];decide +kernel
theorem ZoC:J0 (.mk 2 1 [] [])=[⟨2,1⟩,⟨24,0⟩]:=by
 rw [J0,Zb];decide +kernel
theorem ZkV (k n:Int) (s:Str) (l:List Nd):Zb (.mk k n s l)=Z1b k n s (l.map Zb):=by rw [Zb]
theorem ZoD:J0 (.mk 7 0 [100,97,121,115] [.mk 4 0 [100,97,121] [],.mk 1 20 [] []])=[⟨4,0⟩,⟨1,20⟩,⟨15,0⟩,⟨24,0⟩]:=by
 rw [J0,Zb,Xy,Xy,XQ];simp only [ZkV];decide +kernel
theorem Zei:Z0z Z3o.rul=0:=by
 have c1:Z3o.rul.cnd=.mk 2 1 [] []:=rfl;have c2:Z3o.rul.due=.mk 7 0 [100,97,121,115] [.mk 4 0 [100,97,121] [],.mk 1 20 [] []]:=rfl;have c3:Jh Z3o.rul=true:=by decide +kernel
 have c4:¬ (Z3o.rul.frm<0∨Z3o.rul.frm > 3652058):=by decide +kernel
 unfold Z0z Z0S;rw [c1,c2,c3];simp only [Z1V,Z0D,Zxi,Zxj,Zxk,Zxl,ZoC,ZoD,if_neg c4];decide +kernel
theorem ZoE:crF Z3o.rul=Z42:=by
 unfold crF;rw [if_pos Zei];have c1:Z3o.rul.cnd=.mk 2 1 [] []:=rfl;have c2:Z3o.rul.due=.mk 7 0 [100,97,121,115] [.mk 4 0 [100,97,121] [],.mk 1 20 [] []]:=rfl;rw [c1,c2,ZoC,ZoD];rfl
theorem ZoF:ZcP Z42=0:=ZoE ▸ (ZcQ Z3o.rul Zei).2
def lxV:Lx→Value
 | .err c=>.tuple #[aG (⟨0,0,[],0⟩:Tkn),.I c]
 | .ok t=>.tuple #[aG t,.I 0]
theorem tk0 (w):(Instr.build 183 #[]).run Tryz.prog w=.ok (aG (⟨0,0,[],0⟩:Tkn)) w:=by kernel_rfl
theorem tk2 (k:Int) (s:Str) (w):(Instr.build 183 #[(0,.I k),(2,str s)]).run Tryz.prog w=.ok (aG (⟨k,0,s,0⟩:Tkn)) w:=by kernel_rfl
theorem tk3 (k n:Int) (s:Str) (w):(Instr.build 183 #[(0,.I k),(2,str s),(3,.I n)]).run Tryz.prog w=.ok (aG (⟨k,0,s,n⟩:Tkn)) w:=by kernel_rfl
theorem tk1 (k n:Int) (w):(Instr.build 183 #[(0,.I k),(1,.I n)]).run Tryz.prog w=.ok (aG (⟨k,n,[],0⟩:Tkn)) w:=by kernel_rfl
theorem ZtU {s:Str} {a b:UInt8} (h:s.take 2=[a,b]):2≤s.length:=by
 have:=congrArg List.length h;simp at this;omega
theorem Z8w (s:Str) (w) (hne:s≠[]):CC 215 #[str s] w fun r w'=>r=lxV (Z0b s)∧Stp [] w w':=by
 have hl:s.length≠0:=fun h=>hne (Xv.1 h);have hget:Jc s 0=((s.getD 0 0).toNat:Int):=rfl;refine cW1 22 Tryz.func215 ?_;refine W ?_;refine Z1 Z2 rfl ?_;rintro _ w1 ⟨b2,rfl,hb2,e2,hS⟩;refine W ?_;refine CL (Z2t s 60 61 _) ?_;rintro _ wv ⟨rfl,hwv⟩;subst wv;by_cases a1:s.take 2=[60,61]
 have h2:=ZtU a1;have hv:Z0b s=.ok ⟨4,0,s.take 2,0⟩:=by unfold Z0b;rw [if_pos (.inl a1)]
 rw [decide_eq_true a1];refine W ?_;refine Z0s (r:=2) rfl rfl rfl (by omega) rfl ?_;refine Z8 (vs:=[(0,.I 4),(2,str (s.take 2))]) rfl (tk2 _ _) rfl ?_;refine SA (us:=Z3.enc (⟨4,0,s.take 2,0⟩:Tkn)) e2 ?_;rintro _ wz ⟨hT,e2'⟩;refine W ?_;refine Zl rfl rfl rfl e2' rfl rfl ?_;exact .mk ⟨by rw [hv];rfl,hS.ow hT⟩;rw [decide_eq_false a1];refine W ?_;refine CL (Z2t s 33 61 _) ?_;rintro _ wv ⟨rfl,hwv⟩;subst wv;by_cases a2:s.take 2=[33,61]
 have h2:=ZtU a2;have hv:Z0b s=.ok ⟨4,0,s.take 2,0⟩:=by unfold Z0b;rw [if_pos (.inr (.inl a2))]
 rw [decide_eq_true a2];refine W ?_;refine Z0s (r:=2) rfl rfl rfl (by omega) rfl ?_;refine Z8 (vs:=[(0,.I 4),(2,str (s.take 2))]) rfl (tk2 _ _) rfl ?_;refine SA (us:=Z3.enc (⟨4,0,s.take 2,0⟩:Tkn)) e2 ?_;rintro _ wz ⟨hT,e2'⟩;refine W ?_;refine Zl rfl rfl rfl e2' rfl rfl ?_;exact .mk ⟨by rw [hv];rfl,hS.ow hT⟩;rw [decide_eq_false a2];refine W ?_;refine CL (Z2t s 62 61 _) ?_;rintro _ wv ⟨rfl,hwv⟩;subst wv;by_cases a3:s.take 2=[62,61]
 have h2:=ZtU a3;have hv:Z0b s=.ok ⟨4,0,s.take 2,0⟩:=by unfold Z0b;rw [if_pos (.inr (.inr a3))]
 rw [decide_eq_true a3];refine W ?_;refine Z0s (r:=2) rfl rfl rfl (by omega) rfl ?_;refine Z8 (vs:=[(0,.I 4),(2,str (s.take 2))]) rfl (tk2 _ _) rfl ?_;refine SA (us:=Z3.enc (⟨4,0,s.take 2,0⟩:Tkn)) e2 ?_;rintro _ wz ⟨hT,e2'⟩;refine W ?_;refine Zl rfl rfl rfl e2' rfl rfl ?_;exact .mk ⟨by rw [hv];rfl,hS.ow hT⟩;rw [decide_eq_false a3];have hno:¬ (s.take 2=[60,61]∨s.take 2=[33,61]∨s.take 2=[62,61]):=by
  rintro (h|h|h);exact a1 h;exact a2 h;exact a3 h
 refine QO ?_;refine J5 (i:=0) rfl rfl rfl (by omega) rfl ?_;repeat'(first|refine W1 ?_|omega|refine VG ?_ ?_<;>intro hg|refine VC ?_ ?_<;>intro hc)
 rw [hget];refine CL (Z6I ZbK (s.getD 0 0) _) ?_;rintro _ wv ⟨rfl,hwv⟩;subst wv;have him:=Z7P ZbK (s.getD 0 0);rw [decide_eq_decide] at him;by_cases a4:s.getD 0 0∈ZbK;have hv:Z0b s=.ok ⟨4,0,s.take 1,0⟩:=by unfold Z0b;rw [if_neg hno,if_pos a4]
 have h0:=him.2 a4;refine QO ?_;refine W ?_;refine Z0s (r:=1) rfl rfl rfl (by omega) rfl ?_;refine Z8 (vs:=[(0,.I 4),(2,str (s.take 1))]) rfl (tk2 _ _) rfl ?_;refine SA (us:=Z3.enc (⟨4,0,s.take 1,0⟩:Tkn)) e2 ?_;rintro _ wz ⟨hT,e2'⟩;refine W ?_;refine Zl rfl rfl rfl e2' rfl rfl ?_;exact .mk ⟨by rw [hv];rfl,hS.ow hT⟩;have hv:Z0b s=.err 20:=by unfold Z0b;rw [if_neg hno,if_neg a4]
 have h0:¬ 0≤Lib.indexByte ZbK (s.getD 0 0):=fun h=>a4 (him.1 h);refine QO ?_;refine Z8 (vs:=[]) rfl tk0 rfl ?_;refine SA (us:=Z3.enc (⟨0,0,[],0⟩:Tkn)) e2 ?_;rintro _ wz ⟨hT,e2'⟩;refine W ?_;refine Zl rfl rfl rfl e2' rfl rfl ?_;exact .mk ⟨by rw [hv];rfl,hS.ow hT⟩
theorem Z9K (s:Str) (w) (hl:s.length≤1000000):CC 220 #[str s] w fun r w'=>r=lxV (Z5h s)∧Stp [] w w':=by
 have hle:(s.takeWhile ldB).length≤s.length:=by
  have:=congrArg List.length (JY (p:=ldB) s);simp at this;omega
 refine cW1 14 Tryz.func220 ?_;refine W ?_;refine Z1 Z2 rfl ?_;rintro _ w1 ⟨b2,rfl,hb2,e2,hS⟩;refine W ?_;refine CL (Z63 (fun n=>Zap n || Z62 n) Ztv s _ hl) ?_;rintro _ w2 ⟨rfl,hT⟩;rw [Zjk];replace e2:=e2.up hT;replace hS:=hS.trans hT;clear hT;by_cases h12:12<(s.takeWhile ldB).length;have hv:Z5h s=.err 2:=by unfold Z5h;simp only;rw [if_pos h12]
 refine QO ?_;refine Z8 (vs:=[]) rfl tk0 rfl ?_;refine SA (us:=Z3.enc (⟨0,0,[],0⟩:Tkn)) e2 ?_;rintro _ wz ⟨hT,e2'⟩;refine W ?_;refine Zl rfl rfl rfl e2' rfl rfl ?_;exact .mk ⟨by rw [hv];rfl,hS.ow hT⟩;have hv:Z5h s=.ok ⟨1,0,s.take (s.takeWhile ldB).length,0⟩:=by unfold Z5h;simp only;rw [if_neg h12]
 generalize (s.takeWhile ldB).length=q at *;refine QO ?_;refine Z0s (r:=q) rfl rfl rfl hle rfl ?_;refine Z8 (vs:=[(0,.I 1),(2,str (s.take q))]) rfl (tk2 _ _) rfl ?_;refine SA (us:=Z3.enc (⟨1,0,s.take q,0⟩:Tkn)) e2 ?_;rintro _ wz ⟨hT,e2'⟩;refine W ?_;refine Zl rfl rfl rfl e2' rfl rfl ?_;exact .mk ⟨by rw [hv];rfl,hS.ow hT⟩
theorem Zxm {P:Program} {n:Nat} {Q:Exit→Act→World→Prop} {e:Env} {w} {ops:Array Oper} {rest:List Oper} {d₀:Nat} {ty:TypeId} {pos:String} {af:Array Edge} {t u p:Nat} {x y:Operand} {v:Value} {ds:TypeDesc} [hu:Und P t ds] (hds:∃ l,ds=.interface l) (hx:ev e x=some (.iface p v)) (hy:ev e y=some .nilIface) (hdn:Nat.blt d₀ n=true) (kk:WL P n ops Q rest ((d₀,.B true) :: e) w) :
 WL P n ops Q (⟨some d₀,.binOp .neq t x y u,ty,pos,af,none⟩ :: rest) e w:=by
 refine Z4 (v:=.B true) ⟨fun a ha=>?_⟩ hdn kk;obtain ⟨l,rfl⟩:=hds;simp only [execOp,ha.ev hx,ha.ev hy];have:=run_equal_held_nil (P:=P) (w:=w) t p v (by rw [hu.h,Program.methodsAt,hu.h]);simp [go_sem,binOp,this]
theorem ZoG {P:Program} {n:Nat} {Q:Exit→Act→World→Prop} {e:Env} {w} {ops:Array Oper} {rest:List Oper} {d₀:Nat} {ty:TypeId} {pos:String} {af:Array Edge} {t u:Nat} {x:Operand} {ds:TypeDesc} [hu:Und P t ds] (hds:∃ l,ds=.interface l) (hx:ev e x=some .nilIface) (hdn:Nat.blt d₀ n=true) (kk:WL P n ops Q rest ((d₀,.B false) :: e) w) :
 WL P n ops Q (⟨some d₀,.binOp .neq t x (.const .nilIface) u,ty,pos,af,none⟩ :: rest) e w:=by
 refine Z4 (v:=.B false) ⟨fun a ha=>?_⟩ hdn kk;obtain ⟨l,rfl⟩:=hds;have hy:a.eval (.const .nilIface)=.nilIface:=rfl;simp only [execOp,ha.ev hx,hy];have:=run_equal_nil_nil (P:=P) (w:=w) t (by rw [hu.h,Program.methodsAt,hu.h]);simp [go_sem,binOp,eqGuard,this]
theorem Zh0 (w) (el:TypeId) (t:ByteArray):Stp [] w (Lib.bytesWorld w el t):=by
 refine ⟨rfl,rfl,rfl,?_,fun b hb _=>Lib.bytesWorld_at_old w el _ b hb⟩;rw [Lib.bytesWorld_size];omega
theorem Zh1 (t:Str) (ev:Value) (w:World) (ht:t.all J7=true) (hne:t≠[]) (hl:t.length≤1000000) (hv4:w.cell? ⟨8,0,none⟩=some ev) (hev:ev=.nilIface∨∃ te pe,ev=.iface te pe) :
 CC 276 #[str t] w fun r w'=>(if Z1E t≤9223372036854775807 then r=.tuple #[.I (Z1E t:Int),.nilIface] else ∃ z p v,r=.tuple #[.I z,.iface p v])∧Stp [] w w':=by
 have ha:=ZbQ hne ht;by_cases h:Z1E t≤9223372036854775807;rw [if_pos h] at ha;refine (Tryz.strconv_Atoi_ok ⟨t.toArray⟩ (by rw [Z0r];omega) (Z1E t:Int) (by simpa using ha) w).mono ?_;rintro e w' ⟨rfl,hw⟩;refine .mk ⟨by rw [if_pos h],?_⟩;rcases hw with rfl|⟨x,rfl⟩
 exact Stp.refl _ _;exact Zh0 _ _ _;rw [if_neg h] at ha;refine (Tryz.strconv_Atoi_range ⟨t.toArray⟩ (by rw [Z0r];omega) (by simpa using ha) ev w hv4 hev).mono ?_;rintro e w' ⟨N,rfl,_,_,hw⟩;exact .mk ⟨by rw [if_neg h];exact ⟨_,_,_,rfl⟩,Stp.of_below hw⟩
theorem Z6W (s:Str) (ev:Value) (w:World) (hl:s.length≤1000000) (hd:J7 (s.getD 0 0)=true) (hne:s≠[]) (hv4:w.cell? ⟨8,0,none⟩=some ev) (hev:ev=.nilIface∨∃ te pe,ev=.iface te pe):CC 222 #[str s] w fun r w'=>r=lxV (Z4c s)∧Stp [] w w':=by
 have hle:(s.takeWhile J7).length≤s.length:=by
  have:=congrArg List.length (JY (p:=J7) s);simp at this;omega
 have hall:(s.takeWhile J7).all J7=true:=XY.2 fun c hc=>Z0L hc;have htk:=JY (p:=J7) s;have hpos:s.takeWhile J7≠[]:=by
  cases s with
  | nil=>exact absurd rfl hne
  | cons a r=>simp only [XW] at hd;simp [hd]
 have hp0:(s.takeWhile J7).length≠0:=fun h=>hpos (Xv.1 h);have hnl:Z4c s=if 1<(s.takeWhile J7).length∧(s.takeWhile J7).getD 0 0=48 then .err 20 else if 2147483647<Z1E (s.takeWhile J7) then .err 5 else .ok ⟨2,0,s.takeWhile J7,Z1E (s.takeWhile J7)⟩:=rfl
 rw [hnl];have hfd:=ZfM s;refine cW1 35 Tryz.func222 ?_;refine W ?_;refine Z1 Z2 rfl ?_;rintro _ w1 ⟨b2,rfl,hb2,e2,hS⟩;refine W ?_;refine CL (Z63 Z62 Z4d s _ hl) ?_;rintro _ w2 ⟨rfl,hT⟩;rw [hfd];replace e2:=e2.up hT;replace hS:=hS.trans hT;clear hT;refine Z0s (r:=(s.takeWhile J7).length) rfl rfl rfl hle rfl ?_;rw [htk];have hl2:(s.takeWhile J7).length≤1000000:=Xg hle hl;clear hnl htk hle hfd;generalize s.takeWhile J7=t at *;have hget:Jc t 0=((t.getD 0 0).toNat:Int):=rfl;have h48:Jc t 0=48↔t.getD 0 0=48:=by
  rw [hget];constructor;intro h;have h48:(48:UInt8).toNat=48:=rfl;exact UInt8.toNat_inj.1 (by omega);intro h;rw [h];rfl
 by_cases hz:1<t.length∧t.getD 0 0=48;rw [if_pos hz];have hz1:=hz.1;have hz2:=h48.2 hz.2;refine QO ?_;refine J5 (i:=0) rfl rfl rfl (by omega) rfl ?_;refine QO ?_;refine Z8 (vs:=[]) rfl tk0 rfl ?_;refine SA (us:=Z3.enc (⟨0,0,[],0⟩:Tkn)) e2 ?_;rintro _ wz ⟨hT,e2'⟩;refine W ?_;refine Zl rfl rfl rfl e2' rfl rfl ?_;exact .mk ⟨rfl,hS.ow hT⟩;rw [if_neg hz];refine W ?_;refine Z5k (σ:=Unit) (fun _=>[(0,str s),(2,pQ b2),(4,str t),(18,.B false)]) (fun _ w'=>w'=w2) ?_ ?_;by_cases h1:1<t.length;have h0:¬ Jc t 0=48:=fun h=>hz ⟨h1,h48.1 h⟩;refine QO ?_;refine J5 (i:=0) rfl rfl rfl (by omega) rfl ?_;refine QO ?_;rw [decide_eq_false h0];exact QT () rfl;refine QO ?_;exact QT () rfl;rintro _ wv hwv;subst wv;refine W ?_;refine CM (ZX rfl) (Zh1 t ev _ hall hpos hl2 (hS.cell (by simp) hv4) hev) ?_;rintro _ w3 ⟨hr,hT⟩;replace e2:=e2.up hT;replace hS:=hS.trans hT;clear hT;by_cases hmax:Z1E t≤9223372036854775807;rw [if_pos hmax] at hr;subst hr;refine W ?_;refine ZoG ⟨_,rfl⟩ rfl rfl ?_;by_cases hbig:2147483647<Z1E t;rw [if_pos hbig];refine QO ?_;refine Z8 (vs:=[]) rfl tk0 rfl ?_;refine SA (us:=Z3.enc (⟨0,0,[],0⟩:Tkn)) e2 ?_;rintro _ wz ⟨hT,e2'⟩;refine W ?_;refine Zl rfl rfl rfl e2' rfl rfl ?_;exact .mk ⟨rfl,hS.ow hT⟩;rw [if_neg hbig];refine QO ?_;refine Z8 (vs:=[(0,.I 2),(2,str t),(3,.I (Z1E t:Int))]) rfl (tk3 _ _ _) rfl ?_;refine SA (us:=Z3.enc (⟨2,0,t,Z1E t⟩:Tkn)) e2 ?_;rintro _ wz ⟨hT,e2'⟩;refine W ?_;refine Zl rfl rfl rfl e2' rfl rfl ?_;exact .mk ⟨rfl,hS.ow hT⟩;rw [if_neg hmax] at hr;obtain ⟨z,p,v,rfl⟩:=hr;rw [if_pos (by omega)];refine W ?_;refine Zxm ⟨_,rfl⟩ rfl rfl rfl ?_;refine QO ?_;refine Z8 (vs:=[]) rfl tk0 rfl ?_;refine SA (us:=Z3.enc (⟨0,0,[],0⟩:Tkn)) e2 ?_;rintro _ wz ⟨hT,e2'⟩;refine W ?_;refine Zl rfl rfl rfl e2' rfl rfl ?_;exact .mk ⟨rfl,hS.ow hT⟩
theorem Z6X {z:Int} (h0:0≤z) (h1:z<2147483648):IntKind.i32.wrap z=z:=by
 rw [IntKind.wrap_i32];omega
theorem Zo5:∀ i,i<Jf.length→(Jf.getD i 0).toNat<128:=by decide
theorem Zo6 {s:Str} (h:11≤s.length) (hf:∀ j,j<11→Z5i (Jf.getD j 0) (s.getD j 0)=true):((Jf.zip s).all fun p=>Z5i p.1 p.2)=true:=by
 rw [XY];intro p hp;obtain ⟨i,hi,rfl⟩:=Xr hp;have h1:i<11:=by
  have:Jf.length=11:=rfl;simp at hi;omega
 have:=hf i h1;rw [List.getElem_zip];have e1:Jf.getD i 0=Jf[i]'(by show i<11;omega):=by
  have:i<Jf.length:=h1;simp [List.getD,this]
 have e2:s.getD i 0=s[i]'(by omega):=by
  have:i<s.length:=by omega
  simp [List.getD,this]
 rw [e1,e2] at this;exact this
theorem Z9L {s:Str} {j:Nat} (h:11≤s.length) (hj:j<11) (hf:Z5i (Jf.getD j 0) (s.getD j 0)=false):((Jf.zip s).all fun p=>Z5i p.1 p.2)=false:=by
 cases hb:((Jf.zip s).all fun p=>Z5i p.1 p.2) with
 | false=>rfl
 | true=>
   rw [XY] at hb;have hl:j<(Jf.zip s).length:=by
    have:Jf.length=11:=rfl;simp;omega
   have:=hb _ (Xd hl);rw [List.getElem_zip] at this;have e1:Jf.getD j 0=Jf[j]'(by show j<11;omega):=by
    have:j<Jf.length:=hj;simp [List.getD,this]
   have e2:s.getD j 0=s[j]'(by omega):=by
    have:j<s.length:=by omega
    simp [List.getD,this]
   rw [e1,e2] at hf;rw [hf] at this;cases this
theorem Zfh (s:Str) (w) (hLG:Z0E w) (hl:s.length≤1000000):CC 223 #[str s] w fun r w'=>r=lxV (Zao s)∧Stp [] w w':=by
 have h5w:3<w.heap.size:=by have:=block_lt_of_cell (hLG 0 0 rfl);simpa using this
 refine cW1 52 Tryz.func223 ?_;refine W ?_;refine Z1 Z2 rfl ?_;rintro _ w1 ⟨b2,rfl,hb2,e2,hS⟩;by_cases h11:s.length<11;have hv:Zao s=.err 20:=by unfold Zao;rw [if_pos h11]
 rw [hv];refine QO ?_;refine Z8 (vs:=[]) rfl tk0 rfl ?_;refine SA (us:=Z3.enc (⟨0,0,[],0⟩:Tkn)) e2 ?_;rintro _ wz ⟨hT,e2'⟩;refine W ?_;refine Zl rfl rfl rfl e2' rfl rfl ?_;exact .mk ⟨rfl,hS.ow hT⟩
 · have hv0:Zao s=if ((Jf.zip s).all fun p=>Z5i p.1 p.2) then (let d:=Z1z ((s.take 11).drop 1);if d.2=0 then .ok ⟨3,0,s.take 11,d.1⟩ else .err 5) else .err 20:=by unfold Zao;rw [if_neg h11]
   rw [hv0];replace hLG:=hLG.up hS;refine QO ?_;refine Z1 (ZbI (s:=Jf) rfl) rfl ?_;rintro _ w2 ⟨bi,rfl,hbi,hI,hT⟩;have hbiw:w.heap.size≤bi:=Xg hS.size hbi;have ni2:b2≠bi:=by have:=e2.lt;omega
   have h5i:(3:Nat)≠bi:=by omega
   replace e2:=e2.up hT;replace hLG:=hLG.up hT;replace hS:=hS.trans hT;clear hT;refine W ?_
   refine Zu (σ:=Nat) (fun q=>[(0,str s),(2,pQ b2),(13,pQ bi)])
    (fun q w'=>q≤11∧Itr w' bi Jf q∧(∀ j,j<q→Z5i (Jf.getD j 0) (s.getD j 0)=true)∧(∃ cs:List Value,cs.length=4∧Blk w' b2 183 cs)∧Z0E w'∧Stp [] w w')
    (fun q=>11 - q) 0 ⟨rfl,rfl,rfl,trivial⟩ ⟨Xq _,hI,fun j h=>absurd h (Xu _),⟨_,rfl,e2⟩,hLG,hS⟩ ?_
   clear hI e2 hLG hS;rintro q w3 ⟨hq,hI,hfit,⟨cs2,hc2,e2⟩,hLG,hS⟩
   match cs2,hc2 with
   | [q0,q1,q2,q3],_=>
   have hfl:Jf.length=11:=rfl;by_cases hlt:q<11;have hqf:q<Jf.length:=by omega
   have hlo:=Zo5 q hqf;have hdec:dec Jf q=((Jf.getD q 0).toNat,1):=by
    have e1:Jf.getD q 0=Jf[q]'hqf:=by simp [List.getD,hqf]
    rw [e1] at hlo ⊢;exact Z4b hqf hlo
   refine W ?_;refine Z1 (ZeG rfl hI hqf) rfl ?_;rintro _ w4 ⟨rfl,hI4,hT⟩;rw [hdec] at hI4 ⊢;dsimp only at hI4 ⊢;replace e2:=e2.ext hT (by simpa using ni2);replace hLG:=hLG.ext hT (by simpa using h5i);replace hS:=hS.ow hT;clear hT hI;have hbr:=Z7q s q;refine QO ?_;refine Z4 (Z4f (b:=Jc s q) rfl (Z6X hbr.1 (by omega))) rfl ?_;have hby:Jc s q=((s.getD q 0).toNat:Int):=rfl;by_cases hc100:Jf.getD q 0=100;rw [hc100];have h100:(((100:UInt8).toNat:Nat):Int)=100:=rfl;rw [h100];have hfq:Z5i (Jf.getD q 0) (s.getD q 0)=J7 (s.getD q 0):=by unfold Z5i;rw [if_pos hc100]
   refine QO ?_;rw [hby];refine CL (Z4d (s.getD q 0).toNat _) ?_;rintro _ wv ⟨rfl,hwv⟩;subst wv;have hdg:Z62 (s.getD q 0).toNat=J7 (s.getD q 0):=rfl;rw [hdg];cases hd:J7 (s.getD q 0);have hz:=Z9L (s:=s) (by omega) hlt (by rw [hfq];exact hd);rw [if_neg (by rw [hz];decide)];refine QO ?_;refine Z8 (vs:=[]) rfl tk0 rfl ?_;refine SA (us:=Z3.enc (⟨0,0,[],0⟩:Tkn)) e2 ?_;rintro _ wz ⟨hT,e2'⟩;refine W ?_;refine Zl rfl rfl rfl e2' rfl rfl ?_;exact .mk ⟨rfl,hS.ow hT⟩;refine QO ?_;refine QL (q+1) ⟨hlt,hI4,fun j hj=>?_,⟨_,rfl,e2⟩,hLG,hS⟩ (by omega);rcases Yas j q with h|h
   exact hfit j h;obtain rfl:j=q:=by omega
   rw [hfq];exact hd;have hne:¬ ((Jf.getD q 0).toNat:Int)=100:=fun h=>hc100 (by
    have h100:(100:UInt8).toNat=100:=rfl;exact UInt8.toNat_inj.1 (by omega))
   have hfq:Z5i (Jf.getD q 0) (s.getD q 0)=decide (s.getD q 0=Jf.getD q 0):=by unfold Z5i;rw [if_neg hc100]
   have heq:Jc s q=((Jf.getD q 0).toNat:Int)↔s.getD q 0=Jf.getD q 0:=by
    rw [hby];constructor;intro h;exact UInt8.toNat_inj.1 (by omega);intro h;rw [h]
   by_cases hx:Jc s q=((Jf.getD q 0).toNat:Int)
   refine QO ?_;refine QL (q+1) ⟨hlt,hI4,fun j hj=>?_,⟨_,rfl,e2⟩,hLG,hS⟩ (by omega);rcases Yas j q with h|h
   exact hfit j h;obtain rfl:j=q:=by omega
   rw [hfq];exact decide_eq_true (heq.1 hx);have hz:=Z9L (s:=s) (by omega) hlt (by rw [hfq];exact decide_eq_false (fun h=>hx (heq.2 h)));rw [if_neg (by rw [hz];decide)];refine QO ?_;refine Z8 (vs:=[]) rfl tk0 rfl ?_;refine SA (us:=Z3.enc (⟨0,0,[],0⟩:Tkn)) e2 ?_;rintro _ wz ⟨hT,e2'⟩;refine W ?_;refine Zl rfl rfl rfl e2' rfl rfl ?_;exact .mk ⟨rfl,hS.ow hT⟩;have hq11:q=11:=by omega
   subst hq11;have hz:=Zo6 (s:=s) (by omega) hfit;rw [if_pos hz];refine W ?_;refine Z1 (Z7F rfl hI (by omega)) rfl ?_;rintro _ wv ⟨rfl,hwv⟩;subst wv;refine W ?_;refine Z58 (l:=1) (r:=11) rfl rfl rfl rfl rfl (by omega) (by omega) rfl ?_;refine CM (ZX rfl) (ZdH _ _ hLG (by simp;omega)) ?_;rintro _ w5 ⟨rfl,hT⟩;replace e2:=e2.up hT;replace hS:=hS.trans hT;clear hT;dsimp only;by_cases h0:(Z1z ((s.take 11).drop 1)).2=0;rw [if_pos h0];refine QO ?_;refine Z0s (r:=11) rfl rfl rfl (by omega) rfl ?_;refine W ?_;refine Z8 (vs:=[(0,.I 3),(2,str (s.take 11)),(3,.I (Z1z ((s.take 11).drop 1)).1)]) rfl (tk3 _ _ _) rfl ?_;refine Z5 (Z9 (us:=Z3.enc (⟨3,0,s.take 11,(Z1z ((s.take 11).drop 1)).1⟩:Tkn)) rfl rfl rfl rfl (Z3.one _) e2 rfl) ?_;rintro _ wz ⟨hT,e2'⟩;refine W ?_;refine Zl rfl rfl rfl e2' rfl rfl ?_;exact .mk ⟨rfl,hS.ow hT⟩;rw [if_neg h0];refine QO ?_;refine Z8 (vs:=[]) rfl tk0 rfl ?_;refine SA (us:=Z3.enc (⟨0,0,[],0⟩:Tkn)) e2 ?_;rintro _ wz ⟨hT,e2'⟩;refine W ?_;refine Zl rfl rfl rfl e2' rfl rfl ?_;exact .mk ⟨rfl,hS.ow hT⟩
end Go.Proofs.YtipfkbkkndacjaaGreatDoor
namespace Go.Eng
open Go Go.RowKit Go.Proofs
theorem Z2J {s:Str} {e:Int} (h:Z18 s=.err e):e≠0:=by
 unfold Z18 at h;simp only at h;split at h;unfold Z5h at h;simp only at h;split at h<;>simp at h;omega;split at h;unfold Z4c at h;simp only at h;split at h;simp at h;omega;split at h<;>simp at h;omega;split at h;unfold Zao at h;split at h;simp at h;omega;split at h;simp only at h;split at h<;>simp at h;omega;simp at h;omega;unfold Z0b at h;split at h;simp at h;split at h<;>simp at h;omega
theorem Zo7 {s:Str} (h:s.getD 0 0=35):1≤nlM s:=by
 cases s with
 | nil=>simp at h
 | cons a r=>
   simp only [XW] at h;subst h;unfold nlM;have h0:0<(35 :: r:Str).length:=by simp
   have hl:(35 :: r:Str).length=r.length+1:=by simp
   rw [hl];unfold JR;rw [if_pos h0,Z4b h0 (by show (35:UInt8).toNat<128;decide)];simp only;have hn:Z7G ((35 :: r:Str)[0]).toNat=true:=by show Z7G (35:UInt8).toNat=true;decide
   rw [if_pos hn];exact Z9b _ _ _ _ (by simp)
end Go.Eng
namespace Go.Proofs.YtipfkbkkndacjaaGreatDoor
open Go Go.Eng Go.RowKit Go.Proofs
theorem Z43 (t:Tkn) (w):(Instr.buildSlice 184 1 #[(0,aG t)]).run Tryz.prog w=.ok (.slice (some ⟨w.heap.size,0,none⟩) 1 1) (w.alloc (.cells (Z3.enc t).toArray 183)):=by kernel_rfl
def TkV (w w':World) (r:Value):Tks→Prop
 | .err a c=>r=.tuple #[.N,.I a,.I c]
 | .ok l=>∃ tv,r=.tuple #[tv,.I 0,.I 0]∧ZI 183 w w' tv l
theorem Zej (s:Str) (ev:Value) (w) (hLG:Z0E w) (hv4:w.cell? ⟨8,0,none⟩=some ev) (hev:ev=.nilIface∨∃ te pe,ev=.iface te pe) (hl:s.length≤1000000) :
 CC 157 #[str s] w fun r w'=>TkV w w' r (Z0x s)∧Stp [] w w':=by
 unfold Z0x;refine cW1 72 Tryz.func157 ?_;refine W ?_;refine Z7N ?_;by_cases h4:4000<s.length
 · rw [if_pos h4]
   refine QO ?_
   repeat (first|refine JS ?_|refine W1 ?_)
   refine RU ?_;exact ⟨rfl,Stp.refl _ _⟩
 rw [if_neg h4];generalize hR:Z0w nlM s (s.length+1) 0 []=R;refine QO ?_;refine Zjw ?_;refine QO ?_
 refine Zu (σ:=Nat×Nat×List Tkn×Value) (fun q=>[(0,str s),(5,q.2.2.2),(6,.I (q.2.1:Int))])
  (fun q w'=>Z0w nlM s q.1 q.2.1 q.2.2.1=R∧s.length<q.2.1+q.1∧q.2.1≤s.length∧q.2.2.1.length≤q.2.1∧ZI 183 w w' q.2.2.2 q.2.2.1)
  (fun q=>q.1) (s.length+1,0,[],.N) ⟨rfl,rfl,rfl,trivial⟩ ⟨hR,by dsimp only;omega,Xq _,Xn _,ZI.nil⟩ ?_
 clear hR;rintro ⟨f,q,l,lv⟩ w1 ⟨hR,hf,hq,hll,hrow⟩;dsimp only at hR hf hq hll hrow ⊢;have hrow0:=hrow;cases f with
 | zero=>omega
 | succ f=>
 simp only [Z0w] at hR;by_cases hlt:q<s.length
 rotate_left
 · rw [if_neg hlt] at hR
   subst hR;refine QO ?_;refine Z8 (vs:=[(0,.I 0),(1,.I (q:Int))]) rfl (tk1 _ _) rfl ?_;refine Z1 (Z0 (vs:=[(0,.agg (Z3.enc (⟨0,(q:Int),[],0⟩:Tkn)).toArray)]) rfl (Z43 _)) rfl ?_;intro bv w3 hN;have hbv:SlV (ob lv) w3 bv [(⟨0,(q:Int),[],0⟩:Tkn)]:=hN.slv (fun b hb=>(hrow.ob_le b hb).2) rfl rfl (by simp [maxLen]);replace hrow:=hrow.up (Z6.stp hN);clear hN;refine Z1 (JB rfl (by decide) rfl rfl hrow hbv (by simp only [Xe,Xf];omega) (by simp only [Xe,Xf,maxLen];omega)) rfl ?_;rintro lv' w4 ⟨hrow',hT,hown⟩;refine QO ?_
   repeat (first|refine JS ?_|refine W1 ?_)
   refine RU ?_;exact ⟨⟨lv',rfl,hrow'⟩,hrow'.2⟩
 rw [if_pos hlt] at hR;have hne:s.drop q≠[]:=fun h=>by have:=congrArg List.length h;simp at this;omega
 have hdl:(s.drop q).length≠0:=fun h=>hne (Xv.1 h);have hdl2:(s.drop q).length≤1000000:=by simp;omega
 have hLG1:=hLG.up hrow.2;have hv41:=hrow.2.cell (by simp) hv4;refine QO ?_;refine Zbk (l:=q) rfl rfl rfl (by omega) rfl ?_;refine QO ?_;have hby:Jc (s.drop q) 0=(((s.drop q).getD 0 0).toNat:Int):=rfl;have hbr:=Z7q (s.drop q) 0;refine J5 (i:=0) rfl rfl rfl (by omega) rfl ?_;refine Z4 (Z4f (b:=Jc (s.drop q) 0) rfl (Z6X hbr.1 (by omega))) rfl ?_;rw [hby];refine QO ?_;refine CL (Zat ((s.drop q).getD 0 0) _) ?_;rintro _ w2 ⟨rfl,hT⟩;replace hrow:=hrow.up hT;replace hLG1:=hLG1.up hT;replace hv41:=hT.cell (by simp) hv41;have hrow0:=hrow;clear hT;cases hsp:Z61 ((s.drop q).getD 0 0)
 rotate_left
 · rw [if_pos hsp] at hR
   refine QO ?_
   repeat (first|refine JZ ?_|refine W1 ?_)
   exact QL (f,q+1,l,lv) ⟨hR,by dsimp only;omega,by dsimp only;omega,by dsimp only;omega,hrow⟩ (by dsimp only;omega)
 rw [if_neg (by rw [hsp];decide)] at hR;have hns:(s.drop q).getD 0 0≠32:=fun h=>by rw [h] at hsp;exact absurd hsp (by decide)
 by_cases h35:(s.drop q).getD 0 0=35
 · rw [if_pos h35] at hR
   have hnp:=Zo7 h35;have hnl:nlM (s.drop q)≤(s.drop q).length:=Z9a _ _ _ _;have hnl2:(s.drop q).length=s.length - q:=by simp
   rw [h35];have h35':(((35:UInt8).toNat:Nat):Int)=35:=rfl;rw [h35'];refine QO ?_;refine CL (Z63 Z7G Ztu (s.drop q) _ hdl2) ?_;rintro _ w3 ⟨rfl,hT⟩;replace hrow:=hrow.up hT;have hnlm:JR (s.drop q) Z7G (s.drop q).length 0=nlM (s.drop q):=rfl;rw [hnlm];refine QO ?_
   repeat (first|refine JZ ?_|refine W1 ?_)
   exact ZD (f,q+nlM (s.drop q),l,lv) ⟨rfl,rfl,rfl,trivial⟩ ⟨hR,by dsimp only;omega,by dsimp only;omega,by dsimp only;omega,hrow⟩ (by dsimp only;omega)
 rw [if_neg h35] at hR;have hn35:¬ ((((s.drop q).getD 0 0).toNat:Nat):Int)=35:=fun h=>h35 (by
  have h35':(35:UInt8).toNat=35:=rfl;exact UInt8.toNat_inj.1 (by omega))
 refine QO ?_;refine CL (Z7H ((s.drop q).getD 0 0).toNat _) ?_;rintro _ wv ⟨rfl,hwv⟩;subst wv;have hlb:Zap ((s.drop q).getD 0 0).toNat=ZfL ((s.drop q).getD 0 0):=rfl;rw [hlb];cases hlt1:ZfL ((s.drop q).getD 0 0)
 rotate_left
 · have hrd:Z18 (s.drop q)=Z5h (s.drop q):=by unfold Z18;simp only [hlt1,if_true]
   refine QO ?_;cases hr:Z18 (s.drop q) with
   | err e=>
     rw [hr] at hR;subst hR;have he:=Z2J hr;refine CL (Z9K (s.drop q) _ hdl2) ?_;rintro _ w4 ⟨rfl,hT⟩;rw [← hrd,hr];simp only [lxV];refine QO ?_;refine Z1 Z2 rfl ?_;rintro _ w5 ⟨b10,rfl,hb10,e10,hT2⟩;refine SA (us:=Z3.enc (⟨0,0,[],0⟩:Tkn)) e10 ?_;rintro _ w6 ⟨hT3,e10'⟩;have hSS:=(hrow.2.trans hT).trans (hT2.ow hT3);refine QO ?_
     repeat (first|refine JS ?_|refine W1 ?_)
     refine RU ?_;exact ⟨rfl,hSS⟩
   | ok t=>
     rw [hr] at hR;simp only at hR;have hrok:=Z3F hne hns hr;have htpos:t.text.length≠0:=fun h=>hrok.1.text (Xv.1 h);have htle:t.text.length≤s.length - q:=by have:=hrok.2.1;simpa using this
     refine CL (Z9K (s.drop q) _ hdl2) ?_;rintro _ w4 ⟨rfl,hT⟩;rw [← hrd,hr];simp only [lxV];replace hrow:=hrow.up hT;clear hT;refine QO ?_;refine Z1 Z2 rfl ?_;rintro _ w5 ⟨b10,rfl,hb10,e10,hT⟩;refine SA (us:=Z3.enc t) e10 ?_;rintro _ w6 ⟨hT2,e10'⟩;have hTT:=hT.ow hT2;have hn10:b10∉ob lv:=fun h=>by have:=(hrow.ob_le b10 h).2;omega
     clear hT hT2 e10;refine QO ?_;refine Z5 (Za (u:=.I (q:Int)) rfl rfl rfl rfl e10' (by simp [Z3.enc])) ?_;rintro _ w7 ⟨hT,e11⟩;replace e11:Blk w7 b10 183 (Z3.enc ({ t with pos:=(q:Int) }:Tkn)):=e11;replace hrow:ZI 183 w w7 lv l:=hrow.up (hTT.ow hT);clear hT e10';refine QO ?_;refine Z1 (Z0 (vs:=[(0,.agg (Z3.enc ({ t with pos:=(q:Int) }:Tkn)).toArray)]) rfl (Z43 _)) rfl ?_;intro bv w8 hN;have hbv:SlV (ob lv) w8 bv [({ t with pos:=(q:Int) }:Tkn)]:=hN.slv (fun b hb=>(hrow.ob_le b hb).2) rfl rfl (by simp [maxLen]);replace hrow:=hrow.up (Z6.stp hN);replace e11:=e11.up (Z6.stp hN);clear hN;refine Z1 (JB rfl (by decide) rfl rfl hrow hbv (by simp only [Xe,Xf];omega) (by simp only [Xe,Xf,maxLen];omega)) rfl ?_;rintro lv' w9 ⟨hrow',hT,hown⟩;replace e11:=e11.ext hT hn10;clear hT;have htx:({ t with pos:=(q:Int) }:Tkn).text.length=t.text.length:=rfl;refine QO ?_
     repeat (first|refine JZ ?_|refine W1 ?_)
     exact ZD (f,q+t.text.length,l++[{ t with pos:=(q:Int) }],lv') ⟨rfl,rfl,rfl,trivial⟩ ⟨hR,by dsimp only;omega,by dsimp only;omega,by simp;omega,hrow'⟩ (by dsimp only;omega)
 refine QO ?_;refine CL (Z4d ((s.drop q).getD 0 0).toNat _) ?_;rintro _ wv ⟨rfl,hwv⟩;subst wv;have hdb:Z62 ((s.drop q).getD 0 0).toNat=J7 ((s.drop q).getD 0 0):=rfl;rw [hdb];cases hdg:J7 ((s.drop q).getD 0 0)
 rotate_left
 · have hrd:Z18 (s.drop q)=Z4c (s.drop q):=by unfold Z18;simp only [hlt1,hdg,if_true,XP,if_false]
   refine QO ?_;cases hr:Z18 (s.drop q) with
   | err e=>
     rw [hr] at hR;subst hR;have he:=Z2J hr;refine CL (Z6W (s.drop q) ev _ hdl2 hdg hne hv41 hev) ?_;rintro _ w4 ⟨rfl,hT⟩;rw [← hrd,hr];simp only [lxV];refine QO ?_;refine Z1 Z2 rfl ?_;rintro _ w5 ⟨b10,rfl,hb10,e10,hT2⟩;refine SA (us:=Z3.enc (⟨0,0,[],0⟩:Tkn)) e10 ?_;rintro _ w6 ⟨hT3,e10'⟩;have hSS:=(hrow.2.trans hT).trans (hT2.ow hT3);refine QO ?_
     repeat (first|refine JS ?_|refine W1 ?_)
     refine RU ?_;exact ⟨rfl,hSS⟩
   | ok t=>
     rw [hr] at hR;simp only at hR;have hrok:=Z3F hne hns hr;have htpos:t.text.length≠0:=fun h=>hrok.1.text (Xv.1 h);have htle:t.text.length≤s.length - q:=by have:=hrok.2.1;simpa using this
     refine CL (Z6W (s.drop q) ev _ hdl2 hdg hne hv41 hev) ?_;rintro _ w4 ⟨rfl,hT⟩;rw [← hrd,hr];simp only [lxV];replace hrow:=hrow.up hT;clear hT;refine QO ?_;refine Z1 Z2 rfl ?_;rintro _ w5 ⟨b10,rfl,hb10,e10,hT⟩;refine SA (us:=Z3.enc t) e10 ?_;rintro _ w6 ⟨hT2,e10'⟩;have hTT:=hT.ow hT2;have hn10:b10∉ob lv:=fun h=>by have:=(hrow.ob_le b10 h).2;omega
     clear hT hT2 e10;refine QO ?_;refine Z5 (Za (u:=.I (q:Int)) rfl rfl rfl rfl e10' (by simp [Z3.enc])) ?_;rintro _ w7 ⟨hT,e11⟩;replace e11:Blk w7 b10 183 (Z3.enc ({ t with pos:=(q:Int) }:Tkn)):=e11;replace hrow:ZI 183 w w7 lv l:=hrow.up (hTT.ow hT);clear hT e10';refine QO ?_;refine Z1 (Z0 (vs:=[(0,.agg (Z3.enc ({ t with pos:=(q:Int) }:Tkn)).toArray)]) rfl (Z43 _)) rfl ?_;intro bv w8 hN;have hbv:SlV (ob lv) w8 bv [({ t with pos:=(q:Int) }:Tkn)]:=hN.slv (fun b hb=>(hrow.ob_le b hb).2) rfl rfl (by simp [maxLen]);replace hrow:=hrow.up (Z6.stp hN);replace e11:=e11.up (Z6.stp hN);clear hN;refine Z1 (JB rfl (by decide) rfl rfl hrow hbv (by simp only [Xe,Xf];omega) (by simp only [Xe,Xf,maxLen];omega)) rfl ?_;rintro lv' w9 ⟨hrow',hT,hown⟩;replace e11:=e11.ext hT hn10;clear hT;have htx:({ t with pos:=(q:Int) }:Tkn).text.length=t.text.length:=rfl;refine QO ?_
     repeat (first|refine JZ ?_|refine W1 ?_)
     exact ZD (f,q+t.text.length,l++[{ t with pos:=(q:Int) }],lv') ⟨rfl,rfl,rfl,trivial⟩ ⟨hR,by dsimp only;omega,by dsimp only;omega,by simp;omega,hrow'⟩ (by dsimp only;omega)
 by_cases h64:(s.drop q).getD 0 0=64
 · have hrd:Z18 (s.drop q)=Zao (s.drop q):=by
    unfold Z18;simp only [hlt1,hdg,XP,if_false];rw [if_pos h64]
   rw [h64];have h64':(((64:UInt8).toNat:Nat):Int)=64:=rfl;rw [h64'];refine QO ?_;cases hr:Z18 (s.drop q) with
   | err e=>
     rw [hr] at hR;subst hR;have he:=Z2J hr;refine CL (Zfh (s.drop q) _ hLG1 hdl2) ?_;rintro _ w4 ⟨rfl,hT⟩;rw [← hrd,hr];simp only [lxV];refine QO ?_;refine Z1 Z2 rfl ?_;rintro _ w5 ⟨b10,rfl,hb10,e10,hT2⟩;refine SA (us:=Z3.enc (⟨0,0,[],0⟩:Tkn)) e10 ?_;rintro _ w6 ⟨hT3,e10'⟩;have hSS:=(hrow.2.trans hT).trans (hT2.ow hT3);refine QO ?_
     repeat (first|refine JS ?_|refine W1 ?_)
     refine RU ?_;exact ⟨rfl,hSS⟩
   | ok t=>
     rw [hr] at hR;simp only at hR;have hrok:=Z3F hne hns hr;have htpos:t.text.length≠0:=fun h=>hrok.1.text (Xv.1 h);have htle:t.text.length≤s.length - q:=by have:=hrok.2.1;simpa using this
     refine CL (Zfh (s.drop q) _ hLG1 hdl2) ?_;rintro _ w4 ⟨rfl,hT⟩;rw [← hrd,hr];simp only [lxV];replace hrow:=hrow.up hT;clear hT;refine QO ?_;refine Z1 Z2 rfl ?_;rintro _ w5 ⟨b10,rfl,hb10,e10,hT⟩;refine SA (us:=Z3.enc t) e10 ?_;rintro _ w6 ⟨hT2,e10'⟩;have hTT:=hT.ow hT2;have hn10:b10∉ob lv:=fun h=>by have:=(hrow.ob_le b10 h).2;omega
     clear hT hT2 e10;refine QO ?_;refine Z5 (Za (u:=.I (q:Int)) rfl rfl rfl rfl e10' (by simp [Z3.enc])) ?_;rintro _ w7 ⟨hT,e11⟩;replace e11:Blk w7 b10 183 (Z3.enc ({ t with pos:=(q:Int) }:Tkn)):=e11;replace hrow:ZI 183 w w7 lv l:=hrow.up (hTT.ow hT);clear hT e10';refine QO ?_;refine Z1 (Z0 (vs:=[(0,.agg (Z3.enc ({ t with pos:=(q:Int) }:Tkn)).toArray)]) rfl (Z43 _)) rfl ?_;intro bv w8 hN;have hbv:SlV (ob lv) w8 bv [({ t with pos:=(q:Int) }:Tkn)]:=hN.slv (fun b hb=>(hrow.ob_le b hb).2) rfl rfl (by simp [maxLen]);replace hrow:=hrow.up (Z6.stp hN);replace e11:=e11.up (Z6.stp hN);clear hN;refine Z1 (JB rfl (by decide) rfl rfl hrow hbv (by simp only [Xe,Xf];omega) (by simp only [Xe,Xf,maxLen];omega)) rfl ?_;rintro lv' w9 ⟨hrow',hT,hown⟩;replace e11:=e11.ext hT hn10;clear hT;have htx:({ t with pos:=(q:Int) }:Tkn).text.length=t.text.length:=rfl;refine QO ?_
     repeat (first|refine JZ ?_|refine W1 ?_)
     exact ZD (f,q+t.text.length,l++[{ t with pos:=(q:Int) }],lv') ⟨rfl,rfl,rfl,trivial⟩ ⟨hR,by dsimp only;omega,by dsimp only;omega,by simp;omega,hrow'⟩ (by dsimp only;omega)
 have hrd:Z18 (s.drop q)=Z0b (s.drop q):=by
  unfold Z18;simp only [hlt1,hdg,XP,if_false];rw [if_neg h64]
 have hn64:¬ ((((s.drop q).getD 0 0).toNat:Nat):Int)=64:=fun h=>h64 (by
  have h64':(64:UInt8).toNat=64:=rfl;exact UInt8.toNat_inj.1 (by omega))
 refine QO ?_;cases hr:Z18 (s.drop q) with
 | err e=>
   rw [hr] at hR;subst hR;have he:=Z2J hr;refine CL (Z8w (s.drop q) _ hne) ?_;rintro _ w4 ⟨rfl,hT⟩;rw [← hrd,hr];simp only [lxV];refine QO ?_;refine Z1 Z2 rfl ?_;rintro _ w5 ⟨b10,rfl,hb10,e10,hT2⟩;refine SA (us:=Z3.enc (⟨0,0,[],0⟩:Tkn)) e10 ?_;rintro _ w6 ⟨hT3,e10'⟩;have hSS:=(hrow.2.trans hT).trans (hT2.ow hT3);refine QO ?_
   repeat (first|refine JS ?_|refine W1 ?_)
   refine RU ?_;exact ⟨rfl,hSS⟩
 | ok t=>
   rw [hr] at hR;simp only at hR;have hrok:=Z3F hne hns hr;have htpos:t.text.length≠0:=fun h=>hrok.1.text (Xv.1 h);have htle:t.text.length≤s.length - q:=by have:=hrok.2.1;simpa using this
   refine CL (Z8w (s.drop q) _ hne) ?_;rintro _ w4 ⟨rfl,hT⟩;rw [← hrd,hr];simp only [lxV];replace hrow:=hrow.up hT;clear hT;refine QO ?_;refine Z1 Z2 rfl ?_;rintro _ w5 ⟨b10,rfl,hb10,e10,hT⟩;refine SA (us:=Z3.enc t) e10 ?_;rintro _ w6 ⟨hT2,e10'⟩;have hTT:=hT.ow hT2;have hn10:b10∉ob lv:=fun h=>by have:=(hrow.ob_le b10 h).2;omega
   clear hT hT2 e10;refine QO ?_;refine Z5 (Za (u:=.I (q:Int)) rfl rfl rfl rfl e10' (by simp [Z3.enc])) ?_;rintro _ w7 ⟨hT,e11⟩;replace e11:Blk w7 b10 183 (Z3.enc ({ t with pos:=(q:Int) }:Tkn)):=e11;replace hrow:ZI 183 w w7 lv l:=hrow.up (hTT.ow hT);clear hT e10';refine QO ?_;refine Z1 (Z0 (vs:=[(0,.agg (Z3.enc ({ t with pos:=(q:Int) }:Tkn)).toArray)]) rfl (Z43 _)) rfl ?_;intro bv w8 hN;have hbv:SlV (ob lv) w8 bv [({ t with pos:=(q:Int) }:Tkn)]:=hN.slv (fun b hb=>(hrow.ob_le b hb).2) rfl rfl (by simp [maxLen]);replace hrow:=hrow.up (Z6.stp hN);replace e11:=e11.up (Z6.stp hN);clear hN;refine Z1 (JB rfl (by decide) rfl rfl hrow hbv (by simp only [Xe,Xf];omega) (by simp only [Xe,Xf,maxLen];omega)) rfl ?_;rintro lv' w9 ⟨hrow',hT,hown⟩;replace e11:=e11.ext hT hn10;clear hT;have htx:({ t with pos:=(q:Int) }:Tkn).text.length=t.text.length:=rfl;refine QO ?_
   repeat (first|refine JZ ?_|refine W1 ?_)
   exact ZD (f,q+t.text.length,l++[{ t with pos:=(q:Int) }],lv') ⟨rfl,rfl,rfl,trivial⟩ ⟨hR,by dsimp only;omega,by dsimp only;omega,by simp;omega,hrow'⟩ (by dsimp only;omega)
end Go.Proofs.YtipfkbkkndacjaaGreatDoor
namespace Go.Eng
open Go Go.RowKit Go.Proofs
theorem Z2o {nl:Str→Nat} {s:Str}:∀ (f at_:Nat) (l:List Tkn) (a c:Int),Z0w nl s f at_ l=.err a c→c≠0
 | 0,at_,l,a,c,h=>by simp [Z0w] at h
 | f + 1, at_, l, a, c, h => by
   simp only [Z0w] at h;split at h;split at h;exact Z2o f _ _ _ _ h;split at h;exact Z2o f _ _ _ _ h
   · cases hr:Z18 (s.drop at_) with
     | err e=>
       rw [hr] at h;simp only [Tks.err.injEq] at h;obtain ⟨_,rfl⟩:=h;exact Z2J hr
     | ok t=>
       rw [hr] at h;exact Z2o f _ _ _ _ h
   simp at h
theorem ZcY {s:Str} {a c:Int} (h:Z0x s=.err a c):c≠0:=by
 unfold Z0x at h;split at h;simp only [Tks.err.injEq] at h;omega;exact Z2o _ _ _ _ _ h
theorem Zb6 {s:Str} {l:List Tkn} (h:Z0x s=.ok l) (hpl:∀ t∈l,t.text∉Z8F):Z3E l∧∃ l1 p,l=l1++[⟨0,p,[],0⟩]∧∀ t∈l1,Zji t:=by
 unfold Z0x at h;split at h;cases h;rename_i hl;obtain ⟨l1,p,rfl,h1,h2,h3⟩:=Z2Z (nl:=nlM) (s:=s) (by omega) (s.length+1) 0 [] l (by simp) (by simp) (by simp) (by simp) h;exact ⟨ZmO h1 h2 (by omega) (fun t ht=>hpl t (by simp [ht])),l1,p,rfl,h1⟩
theorem Z8x {l:List Tkn}:∀ (f:Nat) (rs:List RuleM) (i o:Nat) (rs':List RuleM) (i' o':Nat),Z2s l f rs i o=.ok rs' i' o'→l.length≤i+f→i'<l.length→(cur l i').kind=0
 | 0,rs,i,o,rs',i',o',h,h1,h2=>by simp only [Z2s,Out.ok.injEq] at h;omega
 | f + 1, rs, i, o, rs', i', o', h, h1, h2 => by
   simp only [Z2s] at h;split at h;rename_i hk;simp only [Out.ok.injEq] at h;obtain ⟨_,rfl,_⟩:=h;exact hk;obtain ⟨r,i1,o1,h3,h4⟩:=Z0g h;have:=ZcM h3;exact Z8x f _ _ _ _ _ _ h4 (by omega) h2
end Go.Eng
namespace Go.Proofs.YtipfkbkkndacjaaGreatDoor
open Go Go.Eng Go.RowKit Go.Proofs
theorem Zo8 (a c:Int) (w):(Instr.typeAssert (Z4F a c) 20 235 true).run Tryz.prog w=.ok (.tuple #[.agg #[.I a,.I c],.B true]) w:=by kernel_rfl
theorem Zo9 (w):(Instr.typeAssert .nilIface 20 235 true).run Tryz.prog w=.ok (.tuple #[.agg #[.I 0,.I 0],.B false]) w:=by kernel_rfl
theorem Zek (a c:Int) (b7 b4 b5 b6:Nat) (z7 v4 v5 v6:Value) (w) (e7:Blk w b7 90 [z7]) (e4:Blk w b4 90 [v4]) (e5:Blk w b5 3 [v5]) (e6:Blk w b6 92 [v6])
 (hz:z7.cells.toList=[z7]) (hz1:z7.oneCell'=true) (n74:b7≠b4) (n75:b7≠b5) (n76:b7≠b6) (n45:b4≠b5) (n46:b4≠b6) (n56:b5≠b6) :
 CallsD Tryz.prog 158 #[pQ b7,pQ b4,pQ b5,pQ b6] (.panicking [⟨Z4F a c,false,false⟩]) w
  (fun e u' w'=>∃ v,e=.returned v∧(u'=.panicking [⟨Z4F a c,true,false⟩]∧Blk w' b4 90 [z7]∧Blk w' b5 3 [.I a]∧Blk w' b6 92 [.I c]∧Stp [b4,b5,b6] w w')):=by
 refine callsD_of_wpS Tryz.func158 rfl fun c₀ cs hu=>?_;apply wpS_seq;apply wpS_region;simp [wpOpsS,go_sem,recoverD,hu,Tryz.ntmps158,Exit.thenS];refine Z9E (n:=22) (e:=[(0,pQ b7),(1,pQ b4),(2,pQ b5),(3,pQ b6),(4,Z4F a c)]) (Has.of rfl (by simp) (by
  intro p hp;simp only [Xb,Xj,or_false] at hp;rcases hp with rfl|rfl|rfl|rfl|rfl<;>kernel_rfl)) ?_
 refine W ?_;refine Z4 (Z4J rfl (Zo8 a c)) rfl ?_;refine W ?_;refine Z1 Z2 rfl ?_;rintro _ w1 ⟨bf,rfl,hbf,ef,hT⟩;refine SB (us:=[.I a,.I c]) (by intro u hu;simp at hu;rcases hu with rfl|rfl<;>rfl) ef ?_;rintro _ w2 ⟨hT2,ef'⟩;have nf7:=e7.lt;have nf4:=e4.lt;have nf5:=e5.lt;have nf6:=e6.lt;have hS:=hT.ow hT2;clear hT hT2 ef;replace e7:=e7.up hS;replace e4:=e4.up hS;replace e5:=e5.up hS;replace e6:=e6.up hS;refine W ?_;refine ZDr 8 ([b4,b5,b6]) [] [(0,1),(1,0),(2,1),(3,0),(4,1),(5,2),(6,2),(7,2)] (fun w1 hS1=>?_);replace e7:=e7.up hS1;replace e4:=e4.up hS1;replace e5:=e5.up hS1;replace e6:=e6.up hS1;replace ef':=ef'.up hS1;replace hS:=hS.trans hS1;clear hS1;have m7:b7∉[b4,b5,b6]:=by simp;exact ⟨n74,n75,n76⟩
 have mf:bf∉[b4,b5,b6]:=by simp;omega
 refine Z07 rfl trivial rfl rfl e7 m7 rfl rfl ?_;refine Z2O rfl trivial rfl rfl ?_;refine Z07 rfl trivial rfl rfl ef' mf rfl rfl ?_;refine Z2O rfl trivial rfl rfl ?_;refine Z07 rfl trivial rfl rfl ef' mf rfl rfl ?_;refine ZH rfl trivial (Z9 (us:=[z7]) rfl rfl hz rfl (by simpa using hz1) e4 rfl) (fun _ _ h=>h.1.mn) ?_;rintro _ w3 ⟨hT,e4'⟩;replace e5:=e5.ext hT (by simpa using n45.symm);replace e6:=e6.ext hT (by simpa using n46.symm);replace hS:=(hS.mono (S':=[b4,b5,b6]) (by simp)).trans hT.mn;clear hT;refine ZH rfl trivial (Z9 (us:=[.I a]) rfl rfl rfl rfl (by simp;rfl) e5 rfl) (fun _ _ h=>h.1.mn) ?_;rintro _ w4 ⟨hT,e5'⟩;replace e4':=e4'.ext hT (by simpa using n45);replace e6:=e6.ext hT (by simpa using n56.symm);replace hS:=hS.trans hT.mn;clear hT;refine ZH rfl trivial (Z9 (us:=[.I c]) rfl rfl rfl rfl (by simp;rfl) e6 rfl) (fun _ _ h=>h.1.mn) ?_;rintro _ w5 ⟨hT,e6'⟩;replace e4':=e4'.ext hT (by simpa using n46);replace e5':=e5'.ext hT (by simpa using n56);replace hS:=hS.trans hT.mn;refine Zd7 ?_;refine W ?_;first|refine Z9P rfl ?_|refine Z9Q rfl ?_
 exact ⟨⟨_,rfl⟩,rfl,e4',e5',e6',hS⟩
theorem Zel (b7 b4 b5 b6:Nat) (w) :
 CallsD Tryz.prog 158 #[pQ b7,pQ b4,pQ b5,pQ b6] .returning w
  (fun e u' w'=>∃ v,e=.returned v∧(u'=.returning∧Stp [] w w')):=by
 refine callsD_of_wpS Tryz.func158 rfl fun c₀ cs hu=>?_;have hc:c₀={ c₀ with mode:=.returning }:=by rw [← hu]
 apply wpS_seq;apply wpS_region;simp [wpOpsS,go_sem,recoverD,hu,Tryz.ntmps158,Exit.thenS];rw [hc];refine Z9E (n:=22) (e:=[(0,pQ b7),(1,pQ b4),(2,pQ b5),(3,pQ b6),(4,.nilIface)]) (Has.of rfl (by simp) (by
  intro p hp;simp only [Xb,Xj,or_false] at hp;rcases hp with rfl|rfl|rfl|rfl|rfl<;>kernel_rfl)) ?_
 refine W ?_;refine Z4 (Z4J rfl Zo9) rfl ?_;refine W ?_;refine Z1 Z2 rfl ?_;rintro _ w1 ⟨bf,rfl,hbf,ef,hT⟩;refine SB (us:=[.I 0,.I 0]) (by intro u hu;simp at hu;rcases hu with rfl|rfl<;>rfl) ef ?_;rintro _ w2 ⟨hT2,ef'⟩;have hS:=hT.ow hT2;refine W ?_;refine ZoG ⟨_,rfl⟩ rfl rfl ?_;refine W ?_;first|refine Z9P rfl ?_|refine Z9Q rfl ?_
 exact ⟨⟨_,rfl⟩,rfl,hS⟩
def PsV (X:List Nat) (w':World) (r:Value):Ps→Prop
 | .err a c=>r=.tuple #[.N,.I a,.I c]
 | .ok rs=>∃ rv,r=.tuple #[rv,.I 0,.I 0]∧SlV X w' rv (rs.map RuleM.rul)
theorem Z44 {w w':World} {b T:Nat} {cs:List Value} (hS:Stp [b] w w') (h:Blk w b T cs) (h':Blk w' b T cs):Stp [] w w':=
 ⟨hS.os, hS.tape, hS.output, hS.size, fun k hk _ => by
   by_cases hb:k=b;subst hb;rw [h,h'];exact hS.block k hk (by simpa using hb)⟩
theorem Zoa (p:Option Addr) (l c:Nat) (w):(Instr.build 186 #[(0,.slice p l c)]).run Tryz.prog w=.ok (.agg #[.slice p l c,.I 0,.I 0]) w:=by kernel_rfl
theorem Zh2 (X:List Nat) (s:Str) (er:Value) (m:Int) (w:World) (hX:∀ c∈X,c<w.heap.size) (hLG:Z0E w) (hm:w.cell? ⟨2,0,none⟩=some (.I m)) (hv4:w.cell? ⟨8,0,none⟩=some er) (hev:er=.nilIface∨∃ te pe,er=.iface te pe) (hl:s.length≤1000000) (hpl:∀ l,Z0x s=.ok l→∀ t∈l,t.text∉Z8F) :
 CC 89 #[str s,.func (.func 90) #[] #[]] w fun r w'=>PsV X w' r (Z31 s)∧Stp [] w w':=by
 have h1w:2<w.heap.size:=by have:=block_lt_of_cell hm;simpa using this
 refine Z8P (n:=43) Tryz.func89 rfl rfl rfl ?_;refine W ?_;refine Z1 Z2 rfl ?_;rintro _ w1 ⟨b4,rfl,hb4,e4,hS⟩;refine W ?_;refine Z1 Z2 rfl ?_;rintro _ w2 ⟨b5,rfl,hb5,e5,hT⟩;have n45:b4≠b5:=by have:=e4.lt;omega
 have g5:w.heap.size≤b5:=Xg hS.size hb5;replace e4:=e4.up hT;replace hS:=hS.trans hT;refine W ?_;refine Z1 Z2 rfl ?_;rintro _ w3 ⟨b6,rfl,hb6,e6,hT⟩;have n46:b4≠b6:=by have:=e4.lt;omega
 have n56:b5≠b6:=by have:=e5.lt;omega
 have g6:w.heap.size≤b6:=Xg hS.size hb6;replace e4:=e4.up hT;replace e5:=e5.up hT;replace hS:=hS.trans hT;refine W ?_;refine Z1 Z2 rfl ?_;rintro _ w4 ⟨b7,rfl,hb7,e7,hT⟩;have n74:b7≠b4:=by have:=e4.lt;omega
 have n75:b7≠b5:=by have:=e5.lt;omega
 have n76:b7≠b6:=by have:=e6.lt;omega
 replace e4:=e4.up hT;replace e5:=e5.up hT;replace e6:=e6.up hT;replace hS:=hS.trans hT;clear hT;have g4:w.heap.size≤b4:=hb4;have hlt4:∀ c∈[b4,b5,b6,b7],c<w4.heap.size:=fun c hc=>by
  simp only [Xb,Xj,or_false] at hc;rcases hc with rfl|rfl|rfl|rfl
  exact e4.lt;exact e5.lt;exact e6.lt;exact e7.lt
 refine W ?_;refine CM (ZX rfl) (Zej s er _ (hLG.up hS) (hS.cell (by simp) hv4) hev hl) ?_;rintro r w5 ⟨hr,hT⟩;replace e4:=e4.up hT;replace e5:=e5.up hT;replace e6:=e6.up hT;replace e7:=e7.up hT;have hSo:=hS;replace hS:=hS.trans hT;clear hT;have own3:∀ {S:List Nat},(∀ c∈S,c=b4∨c=b5∨c=b6)→∀ c∈S,c∈([]:List Nat)∨w.heap.size≤c:=fun h c hc=>by
  rcases h c hc with rfl|rfl|rfl
  exact .inr g4;exact .inr g5;exact .inr g6
 cases hK:Z0x s with
 | err a c=>
   rw [hK] at hr;have hr':r=.tuple #[.N,.I a,.I c]:=hr;subst hr';have hc0:=ZcY hK;refine W ?_;refine SB (us:=[.I a]) (by simp;rfl) e5 ?_;rintro _ w6 ⟨hT,e5'⟩;replace e4:=e4.ext hT (by simpa using n45);replace e6:=e6.ext hT (by simpa using n56.symm);replace e7:=e7.ext hT (by simpa using n75);replace hS:=hS.own hT (own3 (by simp));refine W ?_;refine SB (us:=[.I c]) (by simp;rfl) e6 ?_;rintro _ w7 ⟨hT2,e6'⟩;replace e4:=e4.ext hT2 (by simpa using n46);replace e5':=e5'.ext hT2 (by simpa using n56);replace e7:=e7.ext hT2 (by simpa using n76);replace hS:=hS.own hT2 (own3 (by simp));clear hT hT2 e5 e6;refine QO ?_;refine ZDr 6 ([b4]) [] [(0,1),(1,1),(2,1),(3,2),(4,2),(5,2)] (fun w8 hS1=>?_);replace e7:=e7.up hS1;replace e4:=e4.up hS1;replace e5':=e5'.up hS1;replace e6':=e6'.up hS1;replace hS:=hS.trans hS1;clear hS1;refine Z07 rfl trivial rfl rfl e7 (by simpa using n74) rfl rfl ?_;refine Z07 rfl trivial rfl rfl e5' (by simpa using n45.symm) rfl rfl ?_;refine Z07 rfl trivial rfl rfl e6' (by simpa using n46.symm) rfl rfl ?_;refine ZH rfl trivial (Z9 (us:=[.N]) rfl rfl rfl rfl (by simp;rfl) e4 rfl) (fun _ _ h=>h.1) ?_;rintro _ w9 ⟨hT,e4'⟩;replace e5':=e5'.ext hT (by simpa using n45.symm);replace e6':=e6'.ext hT (by simpa using n46.symm);replace hS:=hS.own hT (own3 (by simp));clear hT e4 e7;refine ZH (G:=fun _ w'=>Stp [] w9 w') rfl trivial ((Z9 (us:=[.I a]) rfl rfl rfl rfl (by simp;rfl) e5' rfl).mono (fun _ _ h=>Z44 h.1 e5' h.2)) (fun _ _ h=>h.mn) ?_;intro _ w10 hT;replace e4':=e4'.up hT;replace e5':=e5'.up hT;replace e6':=e6'.up hT;replace hS:=hS.trans hT;clear hT;refine ZH (G:=fun _ w'=>Stp [] w10 w') rfl trivial ((Z9 (us:=[.I c]) rfl rfl rfl rfl (by simp;rfl) e6' rfl).mono (fun _ _ h=>Z44 h.1 e6' h.2)) (fun _ _ h=>h.mn) ?_;intro _ w11 hT;replace e4':=e4'.up hT;replace e5':=e5'.up hT;replace e6':=e6'.up hT;replace hS:=hS.trans hT;clear hT;refine Zd7 ?_;refine W ?_;refine ⟨fun act ha=>?_⟩;show Leaves _ _ act.tmps _ act.defers .returning _;rw [ha.defers];refine ⟨_,Z6t rfl rfl rfl rfl (ha.vals 4 _ rfl) (ha.vals 5 _ rfl) (ha.vals 6 _ rfl) e4' e5' e6',?_⟩;refine .mk ⟨?_,hS⟩;unfold Z31;rw [hK];rfl
 | ok l=>
   rw [hK] at hr;obtain ⟨tv,rfl,hrow⟩:∃ tv,r=.tuple #[tv,.I 0,.I 0]∧ZI 183 w4 w5 tv l:=hr;obtain ⟨hL,-⟩:=Zb6 hK (hpl _ hK);have hts:SlV (α:=Tkn) [b4,b5,b6,b7] w5 tv l:=hrow.slv hlt4;have hlp:=hL.pos;have hll:l.length≤1000000:=by have:=hL.len;omega
   refine W ?_;refine SB (us:=[.I 0]) (by simp;rfl) e5 ?_;rintro _ w6 ⟨hT,e5'⟩;replace e4:=e4.ext hT (by simpa using n45);replace e6:=e6.ext hT (by simpa using n56.symm);replace e7:=e7.ext hT (by simpa using n75);replace hts:=hts.ext (X':=[b4,b5,b6,b7]) hT (by simp) (fun _ h=>.inl h);replace hS:=hS.own hT (own3 (by simp));refine W ?_;refine SB (us:=[.I 0]) (by simp;rfl) e6 ?_;rintro _ w7 ⟨hT2,e6'⟩;replace e4:=e4.ext hT2 (by simpa using n46);replace e5':=e5'.ext hT2 (by simpa using n56);replace e7:=e7.ext hT2 (by simpa using n76);replace hts:=hts.ext (X':=[b4,b5,b6,b7]) hT2 (by simp) (fun _ h=>.inl h);replace hS:=hS.own hT2 (own3 (by simp));clear hT hT2 e5 e6;refine QO ?_;refine Z4 (Zb0 rfl rfl rfl rfl) rfl ?_;refine ZkH rfl ?_;refine Z4o (Z53 ?_);refine W ?_;obtain ⟨tp,tc,htv⟩:=hts.len;refine Z4 (Z0H (vs:=[(0,tv)]) rfl (by rw [htv];exact fun w=>Zoa _ _ _ w)) rfl ?_;refine Z1 (Zq rfl) rfl ?_;rintro _ w8 ⟨bp,rfl,hbp,ep,hT⟩;have l4:=e4.lt;have l5:=e5'.lt;have l6:=e6'.lt;have l7:=e7.lt;have hXp:∀ c∈bp :: b4 :: b5 :: b6 :: b7 :: X,c<w8.heap.size:=fun c hc=>by
    have h8:=hT.size;have hp:=ep.lt;have h0:=hS.size;simp only [Xb] at hc;rcases hc with rfl|rfl|rfl|rfl|rfl|hc
    exact hp;omega;omega;omega;omega;have:=hX c hc;omega
   have hpd:Pd w8 bp tv l 0 0:=⟨by rw [htv];exact ep,hts.ext hT (by simp) (fun c hc=>by simp at hc;subst hc;exact .inr hbp),hlp,hll,by omega⟩
   replace hts:=hts.ext (X':=[bp,b4,b5,b6,b7]) hT (by simp) (fun c hc=>by
    rcases Xb.1 hc with rfl|hc
    exact .inr hbp;exact .inl hc)
   replace e4:=e4.up hT;replace e5':=e5'.up hT;replace e6':=e6'.up hT;replace e7:=e7.up hT;replace hS:=hS.trans hT;have gp:w.heap.size≤bp:=by have:=hS.size;omega
   have np4:b4≠bp:=by omega
   have np5:b5≠bp:=by omega
   have np6:b6≠bp:=by omega
   have np7:b7≠bp:=by omega
   clear hT;refine Z4 (Z5P rfl) rfl ?_;refine Z2K ?_;refine Z6j (Z22 ?_);refine Z4o (Z53 ?_);refine Z4 (ZY rfl) rfl ?_;refine Z4 (ZY rfl) rfl ?_;have hP:=Zea (bp :: b4 :: b5 :: b6 :: b7 :: X) bp tv l hL m 0 0 (l.length+1) w8 (by omega) (by simp) hXp (hS.cell (by simp) hm) hpd (by omega);cases hR:Z2s l (l.length+1) [] 0 0 with
   | err a c=>
     rw [hR] at hP;refine ZgP rfl (ZX rfl) hP rfl ?_;intro w9 hT;replace e4:=e4.ext hT (by simpa using np4);replace e5':=e5'.ext hT (by simpa using np5);replace e6':=e6'.ext hT (by simpa using np6);replace e7:=e7.ext hT (by simpa using np7);replace hS:=hS.ow hT;refine Z6j (Z86 ?_);refine ⟨fun act ha=>?_⟩;show Leaves _ _ act.tmps _ (act.defers++_) (.panicking _) _;rw [ha.defers];refine Z8r (f:=158) (by simp) (Zek a c b7 b4 b5 b6 _ _ _ _ w9 e7 e4 e5' e6' rfl rfl n74 n75 n76 n45 n46 n56) ?_;rintro v u' w10 ⟨rfl,e4',e5'',e6'',hT⟩;refine ⟨rfl,_,Z6t rfl rfl rfl rfl (ha.vals 4 _ rfl) (ha.vals 5 _ rfl) (ha.vals 6 _ rfl) e4' e5'' e6'',?_⟩;refine .mk ⟨?_,hS.own hT (own3 (by simp))⟩;unfold Z31;rw [hK];simp only [hR];rfl
   | ok rs i' o'=>
     rw [hR] at hP;refine CL hP ?_;rintro rv w9 ⟨hrv,hpd',hT⟩;replace e4:=e4.ext hT (by simpa using np4);replace e5':=e5'.ext hT (by simpa using np5);replace e6':=e6'.ext hT (by simpa using np6);replace e7:=e7.ext hT (by simpa using np7);replace hts:=hts.ext (X':=[bp,b4,b5,b6,b7]) hT (by simp) (fun _ h=>.inl h);replace hS:=hS.ow hT;obtain ⟨ep',-,hil,-,-⟩:=hpd';have hk0:=Z8x _ _ _ _ _ _ _ hR (by omega) hil;refine Z5 (Z9 (us:=[rv]) rfl rfl hrv.cells rfl (by simpa using hrv.one) e4 rfl) ?_;rintro _ w10 ⟨hT,e4'⟩;replace ep':=ep'.ext hT (by simpa using np4.symm);replace e5':=e5'.ext hT (by simpa using n45.symm);replace e6':=e6'.ext hT (by simpa using n46.symm);replace hts:=hts.ext (X':=[bp,b4,b5,b6,b7]) hT (by simp) (fun _ h=>.inl h);replace hrv:=hrv.ext (X':=bp :: b4 :: b5 :: b6 :: b7 :: X) hT (by simp) (fun _ h=>.inl h);replace hS:=hS.own hT (own3 (by simp));clear hT;refine Z2K ?_;refine Z6j (Z22 ?_);refine Z4o (Z4o ?_);refine Z9q 12 [] [] [(0,0),(1,0),(2,0),(3,1),(4,0),(5,0),(6,0),(7,1),(8,0),(9,0),(10,1),(11,0)] rfl mixed (by kernel_rfl) (by kernel_rfl) (by kernel_rfl) (fun w1 hS1=>?_);replace e4':=e4'.up hS1;replace e5':=e5'.up hS1;replace e6':=e6'.up hS1;replace ep':=ep'.up hS1;replace hts:=hts.up hS1;replace hrv:=hrv.up hS1;replace hS:=hS.trans hS1;clear hS1;refine D ?_;refine W ?_;refine Z6j (Z22 ?_);rw [Z68 hil] at hk0;refine Z87 (by simp [ev,hk0];rfl) (Zk0 (Z22 (Z4o ?_)));refine Z53 ?_;refine Z4 (JN rfl rfl e4' rfl) rfl ?_;refine Z5 (G:=fun _ w'=>Stp [] w1 w') ((Z9 (us:=[rv]) rfl rfl hrv.cells rfl (by simpa using hrv.one) e4' rfl).mono (fun _ _ h=>Z44 h.1 e4' h.2)) ?_;intro _ w12 hT;replace e4':=e4'.up hT;replace e5':=e5'.up hT;replace e6':=e6'.up hT;replace hrv:=hrv.up hT;replace hS:=hS.trans hT;clear hT;refine Z5 (G:=fun _ w'=>Stp [] w12 w') ((Z9 (us:=[.I 0]) rfl rfl rfl rfl (by simp;rfl) e5' rfl).mono (fun _ _ h=>Z44 h.1 e5' h.2)) ?_;intro _ w13 hT;replace e4':=e4'.up hT;replace e5':=e5'.up hT;replace e6':=e6'.up hT;replace hrv:=hrv.up hT;replace hS:=hS.trans hT;clear hT;refine Z5 (G:=fun _ w'=>Stp [] w13 w') ((Z9 (us:=[.I 0]) rfl rfl rfl rfl (by simp;rfl) e6' rfl).mono (fun _ _ h=>Z44 h.1 e6' h.2)) ?_;intro _ w14 hT;replace e4':=e4'.up hT;replace e5':=e5'.up hT;replace e6':=e6'.up hT;replace hrv:=hrv.up hT;replace hS:=hS.trans hT;clear hT;refine Z2K ?_;refine Z6j (Z22 (ZeS ?_));refine ⟨fun act ha=>?_⟩;show Leaves _ _ act.tmps _ (act.defers++_) .returning _;rw [ha.defers];refine Z8r (f:=158) (by simp) (Zel b7 b4 b5 b6 w14) ?_;rintro v u' w15 ⟨rfl,hT⟩;refine ⟨rfl,_,Z6t rfl rfl rfl rfl (ha.vals 4 _ rfl) (ha.vals 5 _ rfl) (ha.vals 6 _ rfl) (e4'.up hT) (e5'.up hT) (e6'.up hT),?_⟩;have hM:Z31 s=.ok rs:=by
      unfold Z31;rw [hK];simp only [hR]
     rw [hM];exact .mk ⟨⟨rv,rfl,(hrv.up hT).ext (Stp.refl [] _) (by simp) (fun c hc=>.inl (by simp [hc]))⟩,hS.trans hT⟩
theorem Zh3 (X:List Nat) (s:Str) (er:Value) (m:Int) (w:World) (hX:∀ c∈X,c<w.heap.size) (hLG:Z0E w) (hm:w.cell? ⟨2,0,none⟩=some (.I m)) (hv4:w.cell? ⟨8,0,none⟩=some er) (hev:er=.nilIface∨∃ te pe,er=.iface te pe) (hl:s.length≤1000000) (hpl:∀ l,Z0x s=.ok l→∀ t∈l,t.text∉Z8F) :
 CC 58 #[str s] w fun r w'=>PsV X w' r (Z31 s)∧Stp [] w w':=by
 refine cW1 10 Tryz.func58 ?_;refine W ?_;refine CL (Zh2 X s er m w hX hLG hm hv4 hev hl hpl) ?_;rintro r w1 ⟨hr,hS⟩;cases hK:Z31 s with
 | err a c=>
   rw [hK] at hr;have hr':r=.tuple #[.N,.I a,.I c]:=hr;subst hr';refine RT ?_;exact ⟨rfl,hS⟩
 | ok rs=>
   rw [hK] at hr;obtain ⟨rv,rfl,hrv⟩:=hr;refine RT ?_;exact ⟨⟨rv,rfl,hrv⟩,hS⟩
end Go.Proofs.YtipfkbkkndacjaaGreatDoor
