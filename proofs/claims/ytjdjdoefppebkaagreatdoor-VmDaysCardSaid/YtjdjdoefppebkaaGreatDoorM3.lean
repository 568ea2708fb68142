/-
Merged by program out of own texts: Cty2, Eng23, Eng24, Psr0, PsrP, Eng25, LexM, Lex1, Rt7, Dtr1, Dat1, Vmm, Vme, Vev0, Pln1, Pln2, Psr1, Psr2, Psr3, Psr4.
-/
import Derived.Test.YtjdjdoefppebkaaGreatDoorM2
import Derived.Laws.RangeString
import Derived.Laws.RangeAny
set_option linter.unusedVariables false
set_option linter.unusedSimpArgs false
namespace Go.Proofs.YtjdjdoefppebkaaGreatDoor
open Go Go.Eng Go.RowKit
theorem Z8D (z:Ins):∀ (l:List Nd) (p:Nat) (P:Nd→Prop),(∀ y∈l,∀ p,z∈Zj y p↔P y)→(z∈Jh (l.map Zj) p↔∃ y∈l,P y)
 | [],p,P,_=>by simp [Jh]
 | y :: l, p, P, h => by
   simp only [Xl,Jh,Xn]
   rw [h y (by simp),Z8D z l _ P (fun y hy=>h y (by simp [hy]))]
   simp
theorem Zfp (s:Str):∀ o∈opF s,o≠4:=by
 intro o ho
 unfold opF at ho
 cases h:Z5z.find? (fun p=>decide (p.1=s)) with
 | none=>rw [h] at ho;cases ho
 | some p=>
   rw [h] at ho
   have hall:∀ q∈Z5z,∀ o∈q.2,o≠4:=by decide +kernel
   exact hall p (List.mem_of_find?_eq_some h) o ho
theorem Z9X (k z:Int) (s:Str):(⟨4,z⟩:Ins)∉Z2o k s:=by
 unfold Z2o Z5A
 simp only [Xn,XP,not_or]
 refine ⟨?_,?_⟩
 split<;>simp
 rintro ⟨o,ho,he⟩
 exact Zfp s o ho (by simpa using congrArg Ins.op he)
theorem Z7y (z:Ins) (c y n:Cf) (p:Nat) (h1:z.op≠13) (h2:z.op≠14) (A B D:Prop) (hc:∀ p,z∈c p↔A) (hy:∀ p,z∈y p↔B) (hn:∀ p,z∈n p↔D):z∈chC c y n p↔A∨B∨D:=by
 unfold chC
 simp only [Xn,Xf,Xk,or_false,hc,hy,hn]
 constructor
 rintro ((((h|h)|h)|h)|h)
 exact .inl h
 exact absurd (by rw [h]) h2
 exact .inr (.inl h)
 exact absurd (by rw [h]) h1
 exact .inr (.inr h)
 rintro (h|h|h)
 exact .inl (.inl (.inl (.inl h)))
 exact .inl (.inl (.inr h))
 exact .inr h
theorem ZbE (i:Nat) (hi:i<7) (x:Nd):Z9 x≠0→∀ p,((⟨4,(i:Int)⟩:Ins)∈Zj x p↔Z2I (Z8.getD i []) x=true):=by
 induction x using Nd.ind with
 | h k n s l ih=>
 intro ht p
 have hk:∀ y∈l,Z9 y≠0:=fun y hy=>Z1b (x:=.mk k n s l) ht hy
 have ih':∀ y∈l,∀ p,((⟨4,(i:Int)⟩:Ins)∈Zj y p↔Z2I (Z8.getD i []) y=true):=fun y hy=>ih y hy (hk y hy)
 have hteq:Z9 (.mk k n s l)=ZX k n s (l.map Z9):=Jr _
 rw [hteq] at ht
 rw [Zj,Z3S]
 have hany:((l.map (Z2I (Z8.getD i []))).any id=true)↔∃ y∈l,Z2I (Z8.getD i []) y=true:=by simp
 rw [XU,hany,Xg,decide_eq_true_eq,decide_eq_true_eq]
 rcases Z2T ht with ⟨he,hc⟩|⟨h0,h3,hn0,hc⟩
 have hl:l=[]:=by simpa using he
 subst hl
 unfold Z0a
 rw [if_pos (show (List.map Zj ([]:List Nd)).length=0 from rfl)]
 rw [hc] at ht
 simp only [Xf,Xk,or_false,false_and,exists_false]
 unfold Z05 at ht
 by_cases k4:k=4
 · subst k4
   rw [if_pos rfl] at ht
   have hf:(ZB s).2.2=true:=by
    cases hb:(ZB s).2.2 with
    | true=>rfl
    | false=>rw [Z4p hb] at ht;simp at ht
   unfold Z1j
   rw [if_neg (by decide),if_neg (by decide),if_neg (by decide)]
   simp only [Ins.mk.injEq,true_and]
   constructor
   intro h
   obtain ⟨j,hj,hs,hij⟩:=(Z1n s (i:Int)).1 ⟨hf,h⟩
   have:i=j:=by omega
   subst this
   exact hs
   intro h
   exact ((Z1n s (i:Int)).2 ⟨i,hi,h,rfl⟩).2
 have:¬ (k=4∧s=Z8.getD i []):=fun h=>k4 h.1
 simp only [this,iff_false]
 unfold Z1j
 rw [if_neg k4] at ht
 intro h
 have hop:=congrArg Ins.op h
 by_cases k1:k=1
 rw [if_pos k1] at hop;simp at hop
 rw [if_neg k1] at hop
 by_cases k2:k=2
 rw [if_pos k2] at hop;simp at hop
 rw [if_neg k2] at hop
 by_cases k3:k=3
 rw [if_pos k3] at hop;simp at hop
 rw [if_neg k1,if_neg k2,if_neg k3] at ht
 split at ht<;>exact ht rfl
 have hl:l≠[]:=fun h=>hn0 (by rw [h];rfl)
 have hlen0:¬ (l.map Zj).length=0:=by simpa using hl
 unfold Z0a
 rw [if_neg hlen0]
 have hplain:k≠4→((⟨4,(i:Int)⟩:Ins)∈Z07 k s (l.map Zj) p↔(k=4∧s=Z8.getD i [])∨∃ y∈l,Z2I (Z8.getD i []) y=true):=fun k4=>by
  rw [Z0C,Xn,Z8D _ l p _ ih']
  have h1:=Z9X k (i:Int) s
  have h2:¬ (k=4∧s=Z8.getD i []):=fun h=>k4 h.1
  simp only [h1,h2,or_false,false_or]
 rcases hc with ⟨h9,hts⟩|⟨h6,hg2,hbt⟩|hsg
 rw [if_pos h9]
 have hl3:l.length=3:=by have:=congrArg List.length hts;simpa using this
 obtain ⟨a,b,c,rfl⟩:=Z7x hl3
 simp only [Xl,Xs,Xq,Xy]
 rw [Z7y _ _ _ _ _ (by simp) (by simp) _ _ _ (ih' a (by simp)) (ih' b (by simp)) (ih' c (by simp))]
 have h2:¬ (k=4∧s=Z8.getD i []):=by rintro ⟨h,_⟩;omega
 simp only [h2,false_or]
 simp
 have k4:k≠4:=by omega
 rw [if_neg (by omega)]
 rcases Z8A h0 h3 hn0 hg2 with ⟨hb0,hts⟩|⟨hb0,hts⟩
 exfalso
 apply ht
 rw [hbt,hb0]
 have ha0:(l.map Z9).getD 0 0≠0:=fun h=>h0 (by rw [hts,h];simp)
 unfold Z0P
 split
 rw [if_neg (by omega)]
 split
 rw [if_neg (by omega)]
 split
 rw [if_neg (by omega)]
 rfl
 have hl2:l.length=2:=by have:=congrArg List.length hts;simpa using this
 obtain ⟨a,b,rfl⟩:=Z5g hl2
 have h2:¬ (k=4∧s=Z8.getD i []):=fun h=>k4 h.1
 split
 simp only [Xl,Xs,Xq,Xy]
 rw [Z7y _ _ _ _ _ (by simp) (by simp) _ _ False (ih' a (by simp)) (ih' b (by simp)) (by simp)]
 simp only [h2,false_or]
 simp
 split
 simp only [Xl,Xs,Xq,Xy]
 rw [Z7y _ _ _ _ _ (by simp) (by simp) _ False _ (ih' a (by simp)) (by simp) (ih' b (by simp))]
 simp only [h2,false_or]
 simp
 split
 rw [Xn,hplain k4]
 simp
 exact hplain k4
 obtain ⟨e,he,hxe,hev⟩:=Z4t (by rw [← hsg];exact ht)
 have hok:=Xv.1 ZaP e he
 unfold Zdt at hok
 rw [hev] at hok
 simp only [Xg,decide_eq_true_eq] at hok
 obtain ⟨⟨⟨k9,k6⟩,hc0⟩,hokl⟩:=hok
 have k4:e.1.kind≠4:=(show ∀ e∈Z2K,e.1.kind≠4 by decide +kernel) e he
 rw [← hxe] at k9 k6 k4
 simp only at k9 k6 k4
 rw [if_neg k9,if_neg (by intro h;exact k6 h.1),if_neg (by intro h;exact k6 h.1),if_neg (by intro h;exact k6 h.1)]
 exact hplain k4
theorem ZbF (i:Nat) (hi:i<7) (x:Nd):(i:Int)∈Z3T x↔Z2I (Z8.getD i []) x=true:=by
 unfold Z3T
 simp only [XP,YaP,Yat]
 constructor
 rintro ⟨j,⟨hj,hu⟩,he⟩
 have:j=i:=by omega
 subst this
 exact hu
 intro h
 exact ⟨i,⟨hi,h⟩,rfl⟩
theorem ZbG (i:Nat) (hi:i<7) (x:Nd) (ht:Z9 x≠0):(⟨4,(i:Int)⟩:Ins)∈J4 x↔(i:Int)∈Z3T x:=by
 unfold J4
 rw [Xn,ZbE i hi x ht,ZbF i hi]
 simp
end Go.Proofs.YtjdjdoefppebkaaGreatDoor
namespace Go.Eng
open Go Go.RowKit Go.Proofs
def PQ (n:Nat) (Q:Exit→Act→World→Prop):Exit→Act→World→Prop
 | .panic ch,a,w=>Has n [] a∧∀ a',Has n [] a'→Q (.panic ch) a' w
 | _,_,_=>False
theorem Has.put_back {n:Nat} {a:Act} {d:Option Nat} {v:Value} (h:Has n [] (a.put d v)):Has n [] a:=by
 cases d with
 | none=>exact h
 | some d=>exact ⟨h.defers,by simpa [Act.put] using h.size,fun t v hv=>by simp [look] at hv⟩
theorem Z9Y {n:Nat} {Q:Exit→Act→World→Prop} (a:Act) (w:World):¬ PQ n Q .outgrown a w:=fun h=>h
theorem Zdv {n:Nat} {Q:Exit→Act→World→Prop} (ch:List PanicEntry) (a:Act) (d:Option Nat) (v:Value) (w:World) (h:PQ n Q (.panic ch) (a.put d v) w):PQ n Q (.panic ch) a w:=⟨h.1.put_back,h.2⟩
theorem Zju {n:Nat} {Q:Exit→Act→World→Prop} (ex:Exit) (a:Act) (w:World) (h:PQ n Q ex a w):Q ex a w:=by
 cases ex<;>first|exact h.2 a h.1|exact h.elim
theorem Zjv {P:Program} {o:Oper} {a:Act} {w:World} {K:Act→World→Prop} {X Q:Exit→Act→World→Prop} (hX0:∀ a w,¬ X .outgrown a w) (hX:∀ ex a w,X ex a w→Q ex a w) (h:o.wp P a w K X):o.wp P a w K Q:=by
 unfold Oper.wp at *
 generalize (execOp a.eval o).run P w=r at *
 cases r with
 | ok n w'=>
   cases n<;>simp only [Oper.upon] at h ⊢
   case enter f args=>
    refine Calls.mono h (fun e w'' he=>?_)
    cases e with
    | returned v=>exact he
    | panicked c=>exact hX _ _ _ he
    | outgrown=>obtain ⟨_,_,hf⟩:=he;exact (hX0 _ _ hf).elim
   all_goals exact h
 | halt x w'=>cases x<;>simp only [Oper.upon] at h ⊢;exact hX _ _ _ h
theorem Zdw {P:Program} {ops:Array Oper} {i:Nat} {K:Act→World→Prop} {X Q:Exit→Act→World→Prop} (hX0:∀ a w,¬ X .outgrown a w) (hX:∀ ex a w,X ex a w→Q ex a w) {a:Act} {w:World} (h:wpOp P ops X i K a w):wpOp P ops Q i K a w:=by
 unfold wpOp at *
 cases ho:ops[i]? with
 | none=>simp only [ho] at h ⊢;exact h
 | some o=>
   simp only [ho] at h ⊢
   split
   rename_i hw
   simp only [hw,if_true] at h
   rcases h with h|⟨_,_,_,hf⟩
   exact .inl (Zjv hX0 hX h)
   exact (hX0 _ _ hf).elim
   rename_i hw;simp only [hw] at h;exact h
def Z0L (P:Program) (X:Exit→Act→World→Prop) (md:Region.Mode) (ops:Array Oper) (S:List Nat) (Lt:Nat→Bool) (Z:Act→World→Prop):Nat→Array Bool→Act→World→Prop
 | 0,listed,a,w=>Region.ready md ops listed=[]∧Z a w
 | fuel + 1, listed, a, w=>
   (Region.ready md ops listed=[]→Z a w)∧
   ∀ i∈Region.ready md ops listed,wpOp P ops X i (fun a' w'=>(Stp S w w'∨Lt i=true)∧Z0L P X md ops S Lt Z fuel (listed.setIfInBounds i true) a' w') a w
theorem Z4W {P:Program} {ops:Array Oper} {md:Region.Mode} {S:List Nat} {Lt:Nat→Bool} {X Q:Exit→Act→World→Prop} (hX0:∀ a w,¬ X .outgrown a w) (hX:∀ ex a w,X ex a w→Q ex a w) {Z:Act→World→Prop} (hZ:∀ a w,Z a w→Q .normal a w):∀ (fuel:Nat) (listed:Array Bool) (a:Act) (w:World),
 Z0L P X md ops S Lt Z fuel listed a w→wpAny P md ops Q fuel listed a w
 | 0,_,_,_,h=>⟨h.1,hZ _ _ h.2⟩
 | fuel+1,_,_,_,h=>⟨fun h0=>hZ _ _ (h.1 h0),fun i hi=>wpOp_mono (fun a' w' hk=>Z4W hX0 hX hZ fuel _ a' w' hk.2) (Zdw hX0 hX (h.2 i hi))⟩
section any
variable {P:Program} {ops:Array Oper} {md:Region.Mode} {S:List Nat} {Lt:Nat→Bool}
theorem Z8E {X:Exit→Act→World→Prop} (hX0:∀ a w,¬ X .outgrown a w) (hXp:∀ ch a d v w,X (.panic ch) (Act.put a d v) w→X (.panic ch) a w) {Z:Act→World→Prop} {R:World→World→Prop} (hR0:∀ w,R w w) (hRt:∀ a b c,R a b→R b c→R a c) {i:Nat} {oi:Oper} {v:Value} (hi:ops[i]?=some oi)
 (hRs:∀ j oj,ops[j]?=some oj→(∀ e∈oj.after,Region.binds md e=true→e.on≠i)→j≠i→∀ w w',(Stp S w w'∨Lt j=true)→R w w')
 (hsel:∀ (j:Nat) (o:Oper) cs b,ops[j]?=some o→o.op≠.select cs b) :
 ∀ (fuel : Nat) (listed : Array Bool) (a : Act) (w : World),
   (∀ j oj,ops[j]?=some oj→j≠i→listed.getD j true=false→(∀ e∈oj.after,Region.binds md e=true→e.on≠i)→oi.apart ops oj=true)→
   (Stp S w w∨Lt i=true→True)→i∈Region.ready md ops listed→YE P ops R oi v a w→
   Z0L P X md ops S Lt Z fuel (listed.setIfInBounds i true) (a.put oi.dst v) w→Z0L P X md ops S Lt Z (fuel+1) listed a w:=by
 have now:∀ (fuel:Nat) (listed:Array Bool) (a:Act) (w:World),YE P ops R oi v a w→Z0L P X md ops S Lt Z fuel (listed.setIfInBounds i true) (a.put oi.dst v) w→
  wpOp P ops X i (fun a' w'=>(Stp S w w'∨Lt i=true)∧Z0L P X md ops S Lt Z fuel (listed.setIfInBounds i true) a' w') a w:=by
  intro fuel listed a w hy H
  unfold wpOp
  simp only [hi]
  rcases hy with ⟨hw,hv⟩|⟨hw,rfl⟩
  simp only [hw,if_true,Oper.wp,hv w (hR0 w),Oper.upon];exact .inl ⟨.inl (Stp.refl _ _),H⟩
  simp only [hw,XE,if_false];exact ⟨.inl (Stp.refl _ _),H⟩
 intro fuel
 induction fuel with
 | zero=>
   intro listed a w _ _ hr hy H
   refine ⟨fun h=>(by rw [h] at hr;cases hr),fun j hj=>?_⟩
   by_cases hji:j=i
   subst hji;exact now _ _ _ _ hy H
   have:=ready_mono hj hji
   rw [H.1] at this
   cases this
 | succ fuel ih=>
   intro listed a w hfree hx hr hy H
   refine ⟨fun h=>(by rw [h] at hr;cases hr),fun j hj=>?_⟩
   by_cases hji:j=i
   subst hji;exact now _ _ _ _ hy H
   have h1:=H.2 j (ready_mono hj hji)
   obtain ⟨hjun,oj,hoj,hall⟩:=mem_ready.1 hj
   have hnot:∀ e∈oj.after,Region.binds md e=true→e.on≠i:=fun e he hb heq=>by
    have h1:=hall e he hb
    have h0:=(mem_ready.1 hr).1
    rw [heq] at h1
    rcases X8 i listed.size with h'|h'
    simp [h'] at h0 h1;rw [h0] at h1;cases h1
    simp [Array.getElem?_eq_none h'] at h1
   have hap:=hfree j oj hoj hji hjun hnot
   obtain ⟨p1,p2,p3⟩:=Oper.apart_spec hap
   have keep:∀ (a:Act),YE P ops R oi v a w→∀ u,YE P ops R oi v (a.put oj.dst u) w:=fun a hy u=>
    hy.same (execOp_put oi (fun cs b=>hsel i oi cs b hi) a oj.dst u p3) (wanted_put oi a oj.dst u p3)
   have keepD:∀ (a:Act) d,YE P ops R oi v a w→YE P ops R oi v { a with defers:=d :: a.defers } w:=fun a d hy=>hy.same rfl rfl
   have later:∀ (a:Act) w',(Stp S w w'∨Lt j=true)→YE P ops R oi v a w→YE P ops R oi v a w':=fun a w' hs hy=>by
    rcases hy with ⟨hw,hv⟩|hw
    exact .inl ⟨hw,fun w'' h''=>hv w'' (hRt _ _ _ (hRs j oj hoj hnot hji w w' hs) h'')⟩
    exact .inr hw
   have hfree':∀ k ok,ops[k]?=some ok→k≠i→(listed.setIfInBounds j true).getD k true=false→
    (∀ e∈ok.after,Region.binds md e=true→e.on≠i)→oi.apart ops ok=true:=fun k ok hk hki hun hno=>by
    refine hfree k ok hk hki ?_ hno
    by_cases hjk:j=k
    subst hjk;exact hjun
    rw [getD_set_ne true hjk] at hun;exact hun
   have fin:∀ a' w',YE P ops R oi v a' w→(Stp S w w'∨Lt j=true)∧Z0L P X md ops S Lt Z fuel ((listed.setIfInBounds i true).setIfInBounds j true) (a'.put oi.dst v) w'→
    (Stp S w w'∨Lt j=true)∧Z0L P X md ops S Lt Z (fuel+1) (listed.setIfInBounds j true) a' w':=by
    rintro a' w' hy' ⟨hs,hk⟩
    refine ⟨hs,ih _ a' w' hfree' (fun _=>trivial) (ready_mono hr (Ne.symm hji)) (later a' w' hs hy') ?_⟩
    rw [Yam _ _ hji]
    exact hk
   have hsj:∀ cs b,oj.op≠.select cs b:=fun cs b=>hsel j oj cs b hoj
   unfold wpOp at *
   simp only [hoj] at *
   rw [wanted_put oj a oi.dst v p1] at h1
   split
   · rename_i hw
     simp only [hw,if_true] at h1
     rcases h1 with h1|⟨_,_,_,hf⟩
     case inr=>exact (hX0 _ _ hf).elim
     refine .inl ?_
     unfold Oper.wp at *
     rw [execOp_put oj hsj a oi.dst v p1] at h1
     generalize (execOp a.eval oj).run P w=r at *
     cases r with
     | ok n w'=>
       cases n<;>simp only [Oper.upon] at h1 ⊢
       case value u=>exact fin _ _ (keep a hy u) (by rw [← Act.put_comm a v u p2];exact h1)
       case skip=>exact fin _ _ (keep a hy _) (by rw [← Act.put_comm a v undef p2];exact h1)
       case defer d=>
        refine fin _ _ (keep _ (keepD a d hy) _) ?_
        rw [← Act.put_comm _ v undef p2,← Act.put_defers]
        exact h1
       case enter f args=>
        refine Calls.mono h1 fun e w'' he=>?_
        cases e with
        | returned u=>exact fin _ _ (keep a hy u) (by rw [← Act.put_comm a v u p2];exact he)
        | panicked c=>exact hXp _ _ _ _ _ he
        | outgrown=>obtain ⟨_,_,hf⟩:=he;exact (hX0 _ _ hf).elim
       case row row args=>exact Rows.mono h1 fun u w'' he=>fin _ _ (keep a hy u) (by rw [← Act.put_comm a v u p2];exact he)
     | halt x w'=>
       cases x<;>simp only [Oper.upon] at h1 ⊢
       exact hXp _ _ _ _ _ h1
   rename_i hw
   simp only [hw] at h1
   exact fin _ _ (keep a hy _) (by rw [← Act.put_comm a v undef p2];exact h1)
end any
structure WDq (P:Program) (n:Nat) (ops:Array Oper) (S:List Nat) (Lt:List Nat) (Q:Exit→Act→World→Prop) (ord:List (Nat×Nat)) (e:Env) (w:World):Prop where
 h:∀ listed:Array Bool,Region.noSelect ops=true→checkD ops Lt ord listed=true→∀ a,Has n e a→Z0L P (PQ n Q) .any ops S (fun j=>Lt.contains j) (fun a w=>Q .normal a w) (wt ord) listed a w
section rules
variable {P:Program} {n:Nat} {Q:Exit→Act→World→Prop} {e:Env} {w:World} {ops:Array Oper} {S:List Nat} {Lt:List Nat} {rest:List (Nat×Nat)}
theorem Z39 {id:Nat} {l:List Oper} (m:Nat) (S:List Nat) (Lt:List Nat) (ord:List (Nat×Nat)) (hlm:l.length=m) (hm:P.follows .mixedOrders=true) (hs:Region.noSelect l.toArray=true) (hl:Nat.beq (wt ord) l.length=true)
 (hB:checkD l.toArray Lt ord (Array.replicate m false)=true)
 (h:∀ w',Stp [] w w'→WDq P n l.toArray S Lt Q ord e w'):WC P n (.region id l.toArray true) Q e w:=by
 subst hlm
 refine ⟨fun a ha=>wp_region_any hm ?_⟩
 have h1:=(h { w with drawn:=w.drawn+1 } (Stp.drew [] w)).h _ hs hB a ha
 have h2:=Z4W (X:=PQ n Q) (Q:=Q) Z9Y Zju (fun a w hz=>hz) _ _ _ _ h1
 rw [XY hl] at h2
 simpa using h2
theorem ZbH {i d:Nat} {o:Oper} {v:Value} (hi:ops[i]?=some o) (hd:o.dst=some d) (hY:∀ a,Has n e a→YE P ops (fun _ _=>True) o v a w) (hdn:Nat.blt d n=true)
 (k:WDq P n ops S Lt Q rest ((d,v) :: e) w):WDq P n ops S Lt Q ((i,0) :: rest) e w:=by
 refine ⟨fun listed hs hB a ha=>?_⟩
 simp only [checkD,checkS,Xg] at hB
 obtain ⟨⟨h1,h2⟩,h3⟩:=hB
 have hk:=k.h _ hs h3 _ (ha.put (v:=v) hdn)
 rw [← hd] at hk
 rw [wt_small (by decide)]
 exact Z8E Z9Y Zdv (R:=fun _ _=>True) (fun _=>trivial) (fun _ _ _ _ _=>trivial) hi (fun _ _ _ _ _ _ _ _=>trivial) (Region.noSelect_spec hs) _ _ _ _ (Region.free_spec hi h2) (fun _=>trivial) (by simpa using h1) (hY a ha) hk
theorem ZbI {i d:Nat} {o:Oper} {v:Value} (hi:ops[i]?=some o) (hd:o.dst=some d) (hY:∀ a,Has n e a→YE P ops (Stp S) o v a w) (hdn:Nat.blt d n=true)
 (k:WDq P n ops S Lt Q rest ((d,v) :: e) w):WDq P n ops S Lt Q ((i,1) :: rest) e w:=by
 refine ⟨fun listed hs hB a ha=>?_⟩
 simp only [checkD,checkS,Xg] at hB
 obtain ⟨⟨⟨h1,h2⟩,hb⟩,h3⟩:=hB
 have hk:=k.h _ hs h3 _ (ha.put (v:=v) hdn)
 rw [← hd] at hk
 rw [wt_small (by decide)]
 refine Z8E Z9Y Zdv (R:=Stp S) (fun w=>Stp.refl _ w) (fun _ _ _ h k=>h.trans k) hi (fun j oj hj hn hji w w' hs=>?_) (Region.noSelect_spec hs) _ _ _ _ (Region.free_spec hi h2) (fun _=>trivial) (by simpa using h1) (hY a ha) hk
 rcases hs with hs|hs
 exact hs
 rw [bound_spec hb hj hn hji] at hs;cases hs
variable {i d:Nat} {op:Op} {ty:TypeId} {pos:String} {af:Array Edge} {gd:Option (Nat×Bool)} {v:Value}
theorem J8 (hi:ops[i]?=some ⟨some d,op,ty,pos,af,gd⟩) (hg:gdOk ops e gd) (hp:∀ w',PR P n ⟨some d,op,ty,pos,af,gd⟩ e w' v) (hdn:Nat.blt d n=true)
 (k:WDq P n ops S Lt Q rest ((d,v) :: e) w):WDq P n ops S Lt Q ((i,0) :: rest) e w:=
 ZbH hi rfl (fun a ha=>.inl ⟨wanted_ok ha hg,fun w' _=>(hp w').h a ha⟩) hdn k
theorem Z24 (hi:ops[i]?=some ⟨some d,op,ty,pos,af,gd⟩) (hg:gdOk ops e gd) (hp:∀ w',Stp S w w'→PR P n ⟨some d,op,ty,pos,af,gd⟩ e w' v) (hdn:Nat.blt d n=true)
 (k:WDq P n ops S Lt Q rest ((d,v) :: e) w):WDq P n ops S Lt Q ((i,1) :: rest) e w:=
 ZbI hi rfl (fun a ha=>.inl ⟨wanted_ok ha hg,fun w' hw=>(hp w' hw).h a ha⟩) hdn k
structure Zo5 (P:Program) (n:Nat) (ops:Array Oper) (S:List Nat) (Lt:List Nat) (Q:Exit→Act→World→Prop) (i:Nat) (ord:List (Nat×Nat)) (e:Env) (w:World):Prop where
 h : ∀ listed : Array Bool, Region.noSelect ops = true → checkD ops Lt ord (listed.setIfInBounds i true) = true → ∀ a, Has n e a→
   wpOp P ops (PQ n Q) i (fun a' w'=>(Stp S w w'∨Lt.contains i=true)∧Z0L P (PQ n Q) .any ops S (fun j=>Lt.contains j) (fun a w=>Q .normal a w) (wt ord) (listed.setIfInBounds i true) a' w') a w
theorem ZaQ (h:Zo5 P n ops S Lt Q i rest e w):WDq P n ops S Lt Q ((i,2) :: rest) e w:=by
 refine ⟨fun listed hs hB a ha=>?_⟩
 simp only [checkD,checkS] at hB
 rw [if_neg (by simp)] at hB
 simp only [Xg,beq_iff_eq] at hB
 obtain ⟨h1,h3⟩:=hB
 rw [wt_small (by decide)]
 refine ⟨fun h0=>absurd (h1 ▸ h0) (by simp),fun j hj=>?_⟩
 rw [h1] at hj
 obtain rfl:j=i:=by simpa using hj
 exact h.h _ hs h3 a ha
end rules
structure OEP (P:Program) (n:Nat) (o:Oper) (e:Env) (w:World) (G:Value→World→Prop) (F:List PanicEntry→World→Prop):Prop where
 h:∀ a,Has n e a→∀ Q:Exit→Act→World→Prop,(∀ ch w',F ch w'→Q (.panic ch) a w')→o.wp P a w (fun a' w'=>∃ v,a'=a.put o.dst v∧G v w') Q
inductive Zjw (G:Value→World→Prop) (F:List PanicEntry→World→Prop):Ending→World→Prop
 | ret {v:Value} {w:World}:G v w→Zjw G F (.returned v) w
 | pan {ch:List PanicEntry} {w:World}:F ch w→Zjw G F (.panicked ch) w
section
variable {P:Program} {n:Nat} {Q:Exit→Act→World→Prop} {e:Env} {w:World} {ops:Array Oper} {S:List Nat} {Lt:List Nat} {rest:List (Nat×Nat)}
theorem Zdx {i d:Nat} {op:Op} {ty:TypeId} {pos:String} {af:Array Edge} {gd:Option (Nat×Bool)} {G:Value→World→Prop} {F:List PanicEntry→World→Prop} (hi:ops[i]?=some ⟨some d,op,ty,pos,af,gd⟩) (hg:gdOk ops e gd)
 (hp:OEP P n ⟨some d,op,ty,pos,af,gd⟩ e w G F) (hG:∀ v w',G v w'→Stp S w w') (hdn:Nat.blt d n=true) (hF:∀ ch w',F ch w'→WQ n Q (.panic ch) [] w')
 (k:∀ v w',G v w'→WDq P n ops S Lt Q rest ((d,v) :: e) w'):WDq P n ops S Lt Q ((i,2) :: rest) e w:=by
 refine ZaQ ⟨fun listed hs h3 a ha=>?_⟩
 unfold wpOp
 simp only [hi]
 rw [if_pos (wanted_ok (o:=⟨some d,op,ty,pos,af,gd⟩) ha hg)]
 have h0:Has n [] a:=⟨ha.defers,ha.size,fun t v hv=>by simp [look] at hv⟩
 refine .inl (Oper.wp_mono ?_ (hp.h a ha (PQ n Q) (fun ch w' h=>⟨h0,fun a' ha'=>(hF ch w' h).h a' ha'⟩)))
 rintro a' w' ⟨v,rfl,hG'⟩
 exact ⟨.inl (hG v w' hG'),(k v w' hG').h _ hs h3 _ (ha.put hdn)⟩
end
section
variable {P:Program} {n:Nat} {Q:Exit→Act→World→Prop} {e:Env} {w:World} {ops:Array Oper} {rest:List Oper} {d:Option Nat} {ty:TypeId} {pos:String} {af:Array Edge} {g:Option (Nat×Bool)}
theorem Z5C {f:Nat} {fn:Func} {xs:Array Operand} {ts:Array TypeId} {vs:Array Value} {G:Value→World→Prop} {F:List PanicEntry→World→Prop} {c:Operand} [hf:Fun P f fn] (hc:ev e c=some (.func (.func f) #[] #[]))
 (hv:∀ a,Has n e a→xs.map a.eval=vs) (h:Calls P f vs w (Zjw G F)) :
 OEP P n ⟨d,.call { callee:=.value c,args:=xs,argTypes:=ts },ty,pos,af,g⟩ e w G F:=
 ⟨fun a ha Q hQ => by
   have he:(execOp a.eval ⟨d,.call { callee:=.value c,args:=xs,argTypes:=ts },ty,pos,af,g⟩).run P w=.ok (.enter f vs) w:=by
    simp only [execOp,resolve,ha.ev hc,Deferred.ofValue,hv a ha]
    simp [invoke]
    exact hf.enters vs w
   unfold Oper.wp
   rw [he]
   simp only [Oper.upon]
   refine h.mono ?_
   intro r w' hr
   cases hr with
   | ret hg=>exact ⟨_,rfl,hg⟩
   | pan hp=>exact hQ _ _ hp⟩
theorem ZaR {d:Nat} {op:Op} {G:Value→World→Prop} {F:List PanicEntry→World→Prop} (hp:OEP P n ⟨some d,op,ty,pos,af,none⟩ e w G F) (hd:Nat.blt d n=true) (hF:∀ ch w',F ch w'→WQ n Q (.panic ch) e w')
 (k:∀ v w',G v w'→WL P n ops Q rest ((d,v) :: e) w'):WL P n ops Q (⟨some d,op,ty,pos,af,none⟩ :: rest) e w:=by
 refine ⟨fun a ha=>?_⟩
 refine wpList_plain rfl (fun K hK=>?_)
 refine Oper.wp_mono ?_ (hp.h a ha Q (fun ch w' h=>(hF ch w' h).h a ha))
 rintro a' w' ⟨v,rfl,hg⟩
 exact hK _ _ ((k v w' hg).h _ (ha.put hd))
theorem Zl {N:Act→World→Prop} {ch:List PanicEntry} (h:WQ n Q (.panic ch) e w):WQ n (Exit.then N Q) (.panic ch) e w:=⟨fun a ha=>h.h a ha⟩
theorem Zi {i:Nat} {ch:List PanicEntry} (h:WQ n Q (.panic ch) e w):WQ n (Exit.inBlock i Q) (.panic ch) e w:=⟨fun a ha=>h.h a ha⟩
theorem ZbJ {x:Exit} (h:WQ n Q x [] w):WQ n Q x e w:=⟨fun a ha=>h.h a ⟨ha.defers,ha.size,fun t v hv=>by simp [look] at hv⟩⟩
theorem ZA {fn:Func} {R:Ending→World→Prop} {ch:List PanicEntry} (h:R (.panicked ch) w):WQ n (bodyPost P fn R) (.panic ch) e w:=⟨fun a ha=>⟨ha.defers,h⟩⟩
end
theorem Z4u {P:Program} {n:Nat} {e:Env} {w:World} {d:Option Nat} {ty:TypeId} {pos:String} {af:Array Edge} {g:Option (Nat×Bool)} {t:TypeId} {x:Operand} {v:Value} {fs:Array Field} [hu:Und P t (.struct fs)] (hx:ev e x=some v):PR P n ⟨d,.makeInterface t x,ty,pos,af,g⟩ e w (.iface t v):=
 ⟨fun a ha=>by simp [execOp,ha.ev hx,Instr.makeInterface,run_underlying hu.h]⟩
theorem ZbK {P:Program} {n:Nat} {e:Env} {w:World} {d:Option Nat} {ty:TypeId} {pos:String} {af:Array Edge} {g:Option (Nat×Bool)} {x:Operand} {t:TypeId} {v:Value} (hx:ev e x=some (.iface t v)):∀ a,Has n e a→(execOp a.eval ⟨d,.panic x,ty,pos,af,g⟩).run P w=.halt (.panic (.iface t v)) w:=
 fun a ha=>by simp [execOp,ha.ev hx,Instr.panic]
theorem ZbL {P:Program} {n:Nat} {Q:Exit→Act→World→Prop} {e:Env} {w:World} {ops:Array Oper} {S:List Nat} {Lt:List Nat} {rest:List (Nat×Nat)} {i:Nat} {o:Oper} {v:Value} (hi:ops[i]?=some o) (hg:gdOk ops e o.guard)
 (hp:∀ a,Has n e a→(execOp a.eval o).run P w=.halt (.panic v) w) (h:WQ n Q (.panic [{ v,recovered:=false }]) [] w):WDq P n ops S Lt Q ((i,2) :: rest) e w:=by
 refine ZaQ ⟨fun listed hs h3 a ha=>?_⟩
 unfold wpOp
 simp only [hi]
 rw [if_pos (wanted_ok ha hg)]
 refine .inl ?_
 unfold Oper.wp
 rw [hp a ha]
 have h0:Has n [] a:=⟨ha.defers,ha.size,fun t v hv=>by simp [look] at hv⟩
 exact ⟨h0,fun a' ha'=>h.h a' ha'⟩
structure Tkn where
 kind:Int
 pos:Int
 text:Str
 num:Int
 deriving DecidableEq
instance:Inhabited Tkn:=⟨⟨0,0,[],0⟩⟩
instance:Za Tkn where
 k:=4
 enc:=fun t=>[.int .i64 t.kind,.int .i64 t.pos,str t.text,.int .i64 t.num]
 len:=fun _=>rfl
 one:=by intro x u hu;simp at hu;rcases hu with rfl|rfl|rfl|rfl<;>rfl
def cur (l:List Tkn) (i:Nat):Tkn:=l.getD i default
inductive Out (α:Type) where
 | err (a c:Int)
 | ok (x:α) (i o:Nat)
def Out.bind {α β:Type}:Out α→(α→Nat→Nat→Out β)→Out β
 | .err a c,_=>.err a c
 | .ok x i o,k=>k x i o
def Z25 {α:Type} (l:List Tkn) (i:Nat) (c:Int):Out α:=.err (cur l i).pos c
def Z11 (l:List Tkn) (s:Str) (i o:Nat):Out Unit:=if (cur l i).text=s then .ok () (i+1) o else Z25 l i 20
def Z3t (l:List Tkn) (k:Int) (i o:Nat):Out Tkn:=if (cur l i).kind=k then .ok (cur l i) (i+1) o else Z25 l i 20
def Z08 (l:List Tkn) (s:Str) (i o:Nat):Out Unit:=if (cur l i).text=s then (if o=12 then Z25 l i 2 else .ok () (i+1) (o+1)) else Z25 l i 20
def Z0g (l:List Tkn) (s:Str) (i o:Nat):Out Unit:=(Z11 l s i o).bind fun _ i o=>.ok () i (o - 1)
def Z5D:List Str:=[[100,97,121],[115,101,114,118,101,100],[101,120,116,114,97],[98,121],[116,111],[99,111,117,114,116],[97,109,111,117,110,116]]
def Z6H:List Str:=[[100,97,121,115],[119,101,101,107,115],[109,111,110,116,104,115],[99,111,117,114,116,100,97,121,115]]
def Z6I:List Str:=[[110,101,120,116],[112,114,101,118],[108,97,116,101,114],[101,97,114,108,105,101,114],[98,101,116,119,101,101,110]]
def Z4v (s:Str):Nat:=
 if s=[111,114] then 1 else if s=[97,110,100] then 2 else if s=[60]∨s=[60,61]∨s=[61]∨s=[33,61]∨s=[62]∨s=[62,61] then 4
 else if s=[43]∨s=[45] then 5 else if s=[42] then 6 else 0
def Z0y (s:Str):Nat:=if s=[110,101,120,116]∨s=[112,114,101,118] then 1 else 2
def Z06 (m:Nat→Nat→Option (Out Nd)) (sep:Nat→Nat→Nat→Out Unit):Nat→Nat→List Nd→Nat→Nat→Option (Out (List Nd))
 | 0,_,ks,i,o=>some (.ok ks i o)
 | n + 1, k, ks, i, o=>
   match sep k i o with
   | .err a c=>some (.err a c)
   | .ok _ i o=>
     match m i o with
     | none=>none
     | some (.err a c)=>some (.err a c)
     | some (.ok x i o)=>Z06 m sep n (k+1) (ks++[x]) i o
def Z10 (l:List Tkn) (k i o:Nat):Out Unit:=if 0<k then Z11 l [44] i o else .ok () i o
def Z5E (l:List Tkn) (k i o:Nat):Out Unit:=Z11 l (if k=0 then [116,104,101,110] else [101,108,115,101]) i o
inductive Call where
 | expr (level:Nat)
 | loop (level:Nat) (x:Nd)
 | prim
def ZG (l:List Tkn):Nat→Call→Nat→Nat→Option (Out Nd)
 | 0,_,_,_=>none
 | f + 1, .expr k, i, o=>
   if (k=3∧(cur l i).text=[110,111,116])∨(k=7∧(cur l i).text=[45]) then
    match Z08 l (cur l i).text i o with
    | .err a c=>some (.err a c)
    | .ok _ i' o'=>
      match ZG l f (.expr k) i' o' with
      | none=>none
      | some (.err a c)=>some (.err a c)
      | some (.ok x i'' o'')=>some (.ok (.mk 5 0 (cur l i).text [x]) i'' (o'' - 1))
   else if k=8 then ZG l f .prim i o
   else
    match ZG l f (.expr (k+1)) i o with
    | none=>none
    | some (.err a c)=>some (.err a c)
    | some (.ok x i' o')=>ZG l f (.loop k x) i' o'
 | f + 1, .loop k x, i, o=>
   if Z4v (cur l i).text=k then
    match ZG l f (.expr (k+1)) (i+1) o with
    | none=>none
    | some (.err a c)=>some (.err a c)
    | some (.ok y i' o')=>
      if k=5∧(cur l i').text∈Z6H then ZG l f (.loop k (.mk (if (cur l i).text=[45] then 8 else 7) 0 (cur l i').text [x,y])) (i'+1) o'
      else if k=4 then some (.ok (.mk 6 0 (cur l i).text [x,y]) i' o')
      else ZG l f (.loop k (.mk 6 0 (cur l i).text [x,y])) i' o'
   else some (.ok x i o)
 | f + 1, .prim, i, o=>
   let t:=cur l i
   if t.kind=2 then some (.ok (.mk 1 t.num [] []) (i+1) o)
   else if t.kind=3 then some (.ok (.mk 3 t.num [] []) (i+1) o)
   else if t.text=[116,114,117,101] then some (.ok (.mk 2 1 [] []) (i+1) o)
   else if t.text=[102,97,108,115,101] then some (.ok (.mk 2 0 [] []) (i+1) o)
   else if t.text=[40] then
    match Z08 l [40] i o with
    | .err a c=>some (.err a c)
    | .ok _ i' o'=>
      match ZG l f (.expr 1) i' o' with
      | none=>none
      | some (.err a c)=>some (.err a c)
      | some (.ok x i'' o'')=>
        match Z0g l [41] i'' o'' with
        | .err a c=>some (.err a c)
        | .ok _ i3 o3=>some (.ok x i3 o3)
   else if t.text=[105,102] then
    match Z08 l [105,102] i o with
    | .err a c=>some (.err a c)
    | .ok _ i' o'=>
      match ZG l f (.expr 1) i' o' with
      | none=>none
      | some (.err a c)=>some (.err a c)
      | some (.ok x i'' o'')=>
        match Z06 (ZG l f (.expr 1)) (Z5E l) 2 0 [x] i'' o'' with
        | none=>none
        | some (.err a c)=>some (.err a c)
        | some (.ok ks i3 o3)=>
          match Z0g l [101,110,100] i3 o3 with
          | .err a c=>some (.err a c)
          | .ok _ i4 o4=>some (.ok (.mk 9 0 [] ks) i4 o4)
   else if t.text∈Z6I then
    match Z3t l 1 i o with
    | .err a c=>some (.err a c)
    | .ok _ i1 o1=>
      match Z08 l [40] i1 o1 with
      | .err a c=>some (.err a c)
      | .ok _ i' o'=>
        match Z06 (ZG l f (.expr 1)) (Z10 l) (Z0y t.text) 0 [] i' o' with
        | none=>none
        | some (.err a c)=>some (.err a c)
        | some (.ok ks i3 o3)=>
          match Z0g l [41] i3 o3 with
          | .err a c=>some (.err a c)
          | .ok _ i4 o4=>some (.ok (.mk 10 0 t.text ks) i4 o4)
   else if t.text∈Z5D then some (.ok (.mk 4 0 t.text []) (i+1) o)
   else some (Z25 l i 20)
def Z8F (l:List Tkn) (i:Nat):Nat:=20 * (l.length - i)+20
def Z4w (l:List Tkn) (i o:Nat):Out Nd:=(ZG l (Z8F l i) (.expr 1) i o).getD (.err 0 0)
structure Z2U (l:List Tkn):Prop where
 pos:0<l.length
 last:(cur l (l.length - 1)).kind=0∧(cur l (l.length - 1)).text=[]
 body:∀ i,i+1<l.length→(cur l i).kind≠0∧(cur l i).text≠[]
 len:l.length≤4001
 sp:∀ i,∀ c∈(cur l i).text,c≠32
 tl:∀ i,(cur l i).text.length≤4000
theorem Z2U.end_of {l:List Tkn} (h:Z2U l) {i:Nat} (hi:i<l.length) (ht:(cur l i).text≠[]):i+1<l.length:=by
 by_cases hl:i+1<l.length
 exact hl
 exfalso
 obtain rfl:i=l.length - 1:=by omega
 exact ht h.last.2
theorem Z2U.end_of_kind {l:List Tkn} (h:Z2U l) {i:Nat} (hi:i<l.length) (ht:(cur l i).kind≠0):i+1<l.length:=by
 by_cases hl:i+1<l.length
 exact hl
 exfalso
 obtain rfl:i=l.length - 1:=by omega
 exact ht h.last.1
theorem Z1p {l:List Tkn} {s:Str} {i o:Nat} {u:Unit} {i' o':Nat} (h:Z11 l s i o=.ok u i' o'):o'=o:=by
 unfold Z11 Z25 at h;split at h<;>simp at h;omega
theorem Z7z {l:List Tkn} {s:Str} {i o:Nat} {u:Unit} {i' o':Nat} (h:Z11 l s i o=.ok u i' o'):i'=i+1∧(cur l i).text=s:=by
 unfold Z11 Z25 at h;split at h<;>simp at h;exact ⟨by omega,by assumption⟩
theorem Z1H {l:List Tkn} {k:Int} {i o:Nat} {t:Tkn} {i' o':Nat} (h:Z3t l k i o=.ok t i' o'):o'=o∧i'=i+1∧t=cur l i∧t.kind=k:=by
 unfold Z3t Z25 at h;split at h<;>simp at h
 obtain ⟨rfl,rfl,rfl⟩:=h
 exact ⟨rfl,rfl,rfl,by assumption⟩
theorem ZI {l:List Tkn} {s:Str} {i o:Nat} {u:Unit} {i' o':Nat} (h:Z08 l s i o=.ok u i' o'):o'=o+1∧i'=i+1∧(cur l i).text=s:=by
 unfold Z08 Z25 at h;split at h
 split at h<;>simp at h
 exact ⟨by omega,by omega,by assumption⟩
 simp at h
theorem Z01 {l:List Tkn} {s:Str} {i o:Nat} {u:Unit} {i' o':Nat} (h:Z0g l s i o=.ok u i' o'):o'=o - 1∧i'=i+1∧(cur l i).text=s:=by
 unfold Z0g at h
 cases hm:Z11 l s i o with
 | err a c=>rw [hm] at h;simp [Out.bind] at h
 | ok x j p=>
   rw [hm] at h
   simp [Out.bind] at h
   have:=Z1p hm
   have:=Z7z hm
   exact ⟨by omega,by omega,this.2⟩
theorem Z3u {m:Nat→Nat→Option (Out Nd)} {sep:Nat→Nat→Nat→Out Unit} (hm:∀ i o x i' o',m i o=some (.ok x i' o')→o'=o) (hs:∀ k i o u i' o',sep k i o=.ok u i' o'→o'=o) :
 ∀ (n k:Nat) (ks:List Nd) (i o:Nat) (ks':List Nd) (i' o':Nat),Z06 m sep n k ks i o=some (.ok ks' i' o')→o'=o
 | 0,k,ks,i,o,ks',i',o',h=>by simp [Z06] at h;omega
 | n + 1, k, ks, i, o, ks', i', o', h => by
   simp only [Z06] at h
   cases h1:sep k i o with
   | err a c=>rw [h1] at h;simp at h
   | ok u i1 o1=>
     rw [h1] at h
     simp only at h
     cases h2:m i1 o1 with
     | none=>rw [h2] at h;simp at h
     | some r=>
       rw [h2] at h
       cases r with
       | err a c=>simp at h
       | ok x i2 o2=>
         simp only at h
         have:=Z3u hm hs n _ _ _ _ _ _ _ h
         have:=hm _ _ _ _ _ h2
         have:=hs _ _ _ _ _ _ h1
         omega
theorem Z8G {l:List Tkn} {k i o:Nat} {u:Unit} {i' o':Nat} (h:Z10 l k i o=.ok u i' o'):o'=o:=by
 unfold Z10 at h
 split at h
 exact Z1p h
 simp at h;omega
theorem Z9Z {l:List Tkn} {k i o:Nat} {u:Unit} {i' o':Nat} (h:Z5E l k i o=.ok u i' o'):o'=o:=Z1p h
theorem JC (l:List Tkn):∀ (f:Nat) (c:Call) (i o:Nat) (x:Nd) (i' o':Nat),ZG l f c i o=some (.ok x i' o')→o'=o
 | 0,c,i,o,x,i',o',h=>by simp [ZG] at h
 | f + 1, .expr k, i, o, x, i', o', h => by
   have ih:=JC l f
   rw [ZG] at h
   split at h
   split at h
   simp at h
   rename_i h1
   have:=ZI h1
   split at h
   simp at h
   simp at h
   rename_i h2
   have:=ih _ _ _ _ _ _ h2
   simp at h
   omega
   split at h
   exact ih _ _ _ _ _ _ h
   split at h
   simp at h
   simp at h
   rename_i h2
   have:=ih _ _ _ _ _ _ h2
   have:=ih _ _ _ _ _ _ h
   omega
 | f + 1, .loop k y, i, o, x, i', o', h => by
   have ih:=JC l f
   rw [ZG] at h
   split at h
   split at h
   simp at h
   simp at h
   rename_i h2
   have h3:=ih _ _ _ _ _ _ h2
   split at h
   have:=ih _ _ _ _ _ _ h
   omega
   split at h
   simp at h;omega
   have:=ih _ _ _ _ _ _ h
   omega
   simp at h;omega
 | f + 1, .prim, i, o, x, i', o', h => by
   have ih:=JC l f
   rw [ZG] at h
   repeat' split at h
   all_goals try (simp at h;done)
   all_goals try (simp at h;omega)
   rename_i h1 _ _ _ _ h2 _ _ _ _ h3
   have:=ZI h1;have:=ih _ _ _ _ _ _ h2;have:=Z01 h3
   simp at h;omega
   rename_i h1 _ _ _ _ h2 _ _ _ _ h3 _ _ _ _ h4
   have:=ZI h1;have:=ih _ _ _ _ _ _ h2;have:=Z3u (fun _ _ _ _ _ h=>ih _ _ _ _ _ _ h) (fun _ _ _ _ _ _ h=>Z9Z h) _ _ _ _ _ _ _ _ h3;have:=Z01 h4
   simp at h;omega
   rename_i h1 _ _ _ _ h2 _ _ _ _ h3 _ _ _ _ h4
   have:=Z1H h1;have:=ZI h2;have:=Z3u (fun _ _ _ _ _ h=>ih _ _ _ _ _ _ h) (fun _ _ _ _ _ _ h=>Z8G h) _ _ _ _ _ _ _ _ h3;have:=Z01 h4
   simp at h;omega
   all_goals (simp [Z25] at h)
theorem Z5F {m:Nat→Nat→Option (Out Nd)} {sep:Nat→Nat→Nat→Out Unit} (hm:∀ i o x i' o',m i o=some (.ok x i' o')→i≤i') (hs:∀ k i o u i' o',sep k i o=.ok u i' o'→i≤i') :
 ∀ (n k:Nat) (ks:List Nd) (i o:Nat) (ks':List Nd) (i' o':Nat),Z06 m sep n k ks i o=some (.ok ks' i' o')→i≤i'
 | 0,k,ks,i,o,ks',i',o',h=>by simp [Z06] at h;omega
 | n + 1, k, ks, i, o, ks', i', o', h => by
   simp only [Z06] at h
   cases h1:sep k i o with
   | err a c=>rw [h1] at h;simp at h
   | ok u i1 o1=>
     rw [h1] at h
     simp only at h
     cases h2:m i1 o1 with
     | none=>rw [h2] at h;simp at h
     | some r=>
       rw [h2] at h
       cases r with
       | err a c=>simp at h
       | ok x i2 o2=>
         simp only at h
         have:=Z5F hm hs n _ _ _ _ _ _ _ h
         have:=hm _ _ _ _ _ h2
         have:=hs _ _ _ _ _ _ h1
         omega
theorem Z6J {l:List Tkn} {k i o:Nat} {u:Unit} {i' o':Nat} (h:Z10 l k i o=.ok u i' o'):i≤i':=by
 unfold Z10 at h
 split at h
 have:=(Z7z h).1;omega
 simp at h;omega
theorem Z8H {l:List Tkn} {k i o:Nat} {u:Unit} {i' o':Nat} (h:Z5E l k i o=.ok u i' o'):i≤i':=by have:=(Z7z h).1;omega
def Call.lo:Call→Nat→Nat
 | .expr _,i=>i+1
 | .prim,i=>i+1
 | .loop _ _,i=>i
theorem Z26 (l:List Tkn):∀ (f:Nat) (c:Call) (i o:Nat) (x:Nd) (i' o':Nat),ZG l f c i o=some (.ok x i' o')→c.lo i≤i'
 | 0,c,i,o,x,i',o',h=>by simp [ZG] at h
 | f + 1, .expr k, i, o, x, i', o', h => by
   have ih:=Z26 l f
   rw [ZG] at h
   simp only [Call.lo]
   split at h
   split at h
   simp at h
   rename_i h1
   have:=ZI h1
   split at h
   simp at h
   simp at h
   rename_i h2
   have:=ih _ _ _ _ _ _ h2
   simp only [Call.lo] at this
   simp at h
   omega
   split at h
   exact ih _ _ _ _ _ _ h
   split at h
   simp at h
   simp at h
   rename_i h2
   have h3:=ih _ _ _ _ _ _ h2
   have:=ih _ _ _ _ _ _ h
   simp only [Call.lo] at this h3
   omega
 | f + 1, .loop k y, i, o, x, i', o', h => by
   have ih:=Z26 l f
   rw [ZG] at h
   simp only [Call.lo]
   split at h
   split at h
   simp at h
   simp at h
   rename_i h2
   have h3:=ih _ _ _ _ _ _ h2
   simp only [Call.lo] at h3
   split at h
   have:=ih _ _ _ _ _ _ h
   simp only [Call.lo] at this
   omega
   split at h
   simp at h;omega
   have:=ih _ _ _ _ _ _ h
   simp only [Call.lo] at this
   omega
   simp at h;omega
 | f + 1, .prim, i, o, x, i', o', h => by
   have ih:=Z26 l f
   rw [ZG] at h
   simp only [Call.lo]
   repeat' split at h
   all_goals try (simp at h;done)
   all_goals try (simp at h;omega)
   rename_i h1 _ _ _ _ h2 _ _ _ _ h3
   have:=ZI h1;have h2:=ih _ _ _ _ _ _ h2;have:=Z01 h3
   simp only [Call.lo] at h2
   simp at h;omega
   rename_i h1 _ _ _ _ h2 _ _ _ _ h3 _ _ _ _ h4
   have:=ZI h1;have h2:=ih _ _ _ _ _ _ h2;have:=Z5F (fun _ _ _ _ _ h=>by have:=ih _ _ _ _ _ _ h;simp only [Call.lo] at this;omega) (fun _ _ _ _ _ _ h=>Z8H h) _ _ _ _ _ _ _ _ h3;have:=Z01 h4
   simp only [Call.lo] at h2
   simp at h;omega
   rename_i h1 _ _ _ _ h2 _ _ _ _ h3 _ _ _ _ h4
   have:=Z1H h1;have:=ZI h2;have:=Z5F (fun _ _ _ _ _ h=>by have:=ih _ _ _ _ _ _ h;simp only [Call.lo] at this;omega) (fun _ _ _ _ _ _ h=>Z6J h) _ _ _ _ _ _ _ _ h3;have:=Z01 h4
   simp at h;omega
   all_goals (simp [Z25] at h)
theorem Z3v {m:Nat→Nat→Option (Out Nd)} {sep:Nat→Nat→Nat→Out Unit} (i0:Nat) (ht:∀ i o,i0≤i→m i o≠none) (hm:∀ i o x i' o',m i o=some (.ok x i' o')→i≤i') (hs:∀ k i o u i' o',sep k i o=.ok u i' o'→i≤i') :
 ∀ (n k:Nat) (ks:List Nd) (i o:Nat),i0≤i→Z06 m sep n k ks i o≠none
 | 0,k,ks,i,o,h0=>by simp [Z06]
 | n + 1, k, ks, i, o, h0 => by
   simp only [Z06]
   cases h1:sep k i o with
   | err a c=>simp
   | ok u i1 o1=>
     have:=hs _ _ _ _ _ _ h1
     simp only
     cases h2:m i1 o1 with
     | none=>exact absurd h2 (ht _ _ (by omega))
     | some r=>
       cases r with
       | err a c=>simp
       | ok x i2 o2=>
         have:=hm _ _ _ _ _ h2
         exact Z3v i0 ht hm hs n _ _ _ _ (by omega)
theorem Zfq {l:List Tkn} {i:Nat} (h:l.length≤i):cur l i=default:=by simp [cur,List.getD,h]
theorem Z3w {l:List Tkn} {i:Nat} (h:(cur l i).text≠[]):i<l.length:=by
 by_cases hl:i<l.length
 exact hl
 rw [Zfq (by omega)] at h;exact absurd rfl h
def Call.need (n:Nat):Call→Nat→Nat
 | .expr k,i=>10 * (n - i)+(10 - k)
 | .prim,i=>10 * (n - i)+1
 | .loop _ _,i=>10 * (n - i)+1
def Call.fine:Call→Prop
 | .expr k=>1≤k∧k≤8
 | .prim=>True
 | .loop k _=>1≤k∧k≤7
theorem Z5G {s:Str} {k:Nat} (h:Z4v s=k) (hk:1≤k):s≠[]:=by
 rintro rfl
 have:Z4v []=0:=by decide
 omega
theorem Z2p (l:List Tkn):∀ (f:Nat) (c:Call) (i o:Nat),c.fine→c.need l.length i≤f→ZG l f c i o≠none
 | 0, c, i, o, hc, h => by
   cases c<;>simp only [Call.need,Call.fine] at h hc<;>omega
 | f + 1, .expr k, i, o, hc, h => by
   have ih:=Z2p l f
   simp only [Call.need,Call.fine] at h hc
   rw [ZG]
   split
   rename_i hsp
   have hi:i<l.length:=Z3w (by rcases hsp with ⟨_,h⟩|⟨_,h⟩<;>rw [h]<;>decide)
   split
   simp
   rename_i h1
   have:=ZI h1
   split
   rename_i h2;exact absurd h2 (ih _ _ _ hc (by simp only [Call.need];omega))
   simp
   simp
   split
   exact ih _ _ _ trivial (by simp only [Call.need];omega)
   split
   rename_i h2;exact absurd h2 (ih _ _ _ (by simp only [Call.fine];omega) (by simp only [Call.need];omega))
   simp
   rename_i h2
   have h3:=Z26 l _ _ _ _ _ _ _ h2
   simp only [Call.lo] at h3
   exact ih _ _ _ (by simp only [Call.fine];omega) (by simp only [Call.need];omega)
 | f + 1, .loop k y, i, o, hc, h => by
   have ih:=Z2p l f
   simp only [Call.need,Call.fine] at h hc
   rw [ZG]
   split
   rename_i hlv
   have hi:i<l.length:=Z3w (Z5G hlv hc.1)
   split
   rename_i h2;exact absurd h2 (ih _ _ _ (by simp only [Call.fine];omega) (by simp only [Call.need];omega))
   simp
   rename_i h2
   have h3:=Z26 l _ _ _ _ _ _ _ h2
   simp only [Call.lo] at h3
   split
   exact ih _ _ _ hc (by simp only [Call.need];omega)
   split
   simp
   exact ih _ _ _ hc (by simp only [Call.need];omega)
   simp
 | f + 1, .prim, i, o, hc, h => by
   have ih:=Z2p l f
   have hle:∀ i o x i' o',ZG l f (.expr 1) i o=some (.ok x i' o')→i≤i':=fun _ _ _ _ _ h=>by have:=Z26 l _ _ _ _ _ _ _ h;simp only [Call.lo] at this;omega
   simp only [Call.need,Call.fine] at h hc
   have hrec:∀ j o,i<l.length→i+1≤j→ZG l f (.expr 1) j o≠none:=fun j o hi hj=>ih _ _ _ (by simp [Call.fine]) (by simp only [Call.need];omega)
   rw [ZG]
   have hpar:=fun h=>Z3w (l:=l) (i:=i) h
   split
   simp
   split
   simp
   split
   simp
   split
   simp
   split
   rename_i ht
   have hi:=hpar (by rw [ht];decide)
   split
   simp
   rename_i h1
   have:=ZI h1
   split
   rename_i h2;exact absurd h2 (hrec _ _ hi (by omega))
   simp
   split<;>simp
   split
   rename_i ht
   have hi:=hpar (by rw [ht];decide)
   split
   simp
   rename_i h1
   have:=ZI h1
   split
   rename_i h2;exact absurd h2 (hrec _ _ hi (by omega))
   simp
   rename_i h2
   have:=hle _ _ _ _ _ h2
   split
   rename_i h3;exact absurd h3 (Z3v (i+1) (fun j o hj=>hrec j o hi hj) hle (fun _ _ _ _ _ _ h=>Z8H h) _ _ _ _ _ (by omega))
   simp
   split<;>simp
   split
   rename_i ht
   have hi:=hpar (fun h0=>by rw [h0] at ht;revert ht;decide)
   split
   simp
   rename_i h1
   have:=Z1H h1
   split
   simp
   rename_i h2
   have:=ZI h2
   split
   rename_i h3;exact absurd h3 (Z3v (i+1) (fun j o hj=>hrec j o hi hj) hle (fun _ _ _ _ _ _ h=>Z6J h) _ _ _ _ _ (by omega))
   simp
   split<;>simp
   split<;>simp
theorem ZbM (l:List Tkn) (i o:Nat):ZG l (Z8F l i) (.expr 1) i o=some (Z4w l i o):=by
 have:=Z2p l (Z8F l i) (.expr 1) i o (by simp [Call.fine]) (by simp only [Call.need,Z8F];omega)
 unfold Z4w
 cases h:ZG l (Z8F l i) (.expr 1) i o with
 | none=>exact absurd h this
 | some r=>rfl
abbrev bts (s:Str):ByteArray:=⟨s.toArray⟩
def Itr (w:World) (b:Nat) (s:Str) (p:Nat):Prop:=w.heap[b]?=some (.stringIter (bts s) p)
theorem Itr.lt {w:World} {b p:Nat} {s:Str} (h:Itr w b s p):b<w.heap.size:=(Array.getElem?_eq_some_iff.1 h).1
def dec (s:Str) (p:Nat):Nat×Nat:=Utf8.decode (bts s) p
theorem Z3W (s:Str):(bts s).size=s.length:=by simp [ByteArray.size]
theorem Z3a {s:Str} {p:Nat} (h:p<s.length) (ha:(s[p]).toNat<128):dec s p=((s[p]).toNat,1):=by
 have h1:p<(bts s).size:=by rw [Z3W];exact h
 have e:(bts s)[p]'h1=s[p]:=by simp [bts,ByteArray.getElem_eq_getElem_data]
 have:=decode_ascii (bts s) p h1 (by rw [e];exact ha)
 rw [e] at this
 exact this
theorem Z8I {s:Str} {p:Nat} (h:p<s.length) (ha:128≤(s[p]).toNat):128≤(dec s p).1∧1≤(dec s p).2:=by
 have h1:p<(bts s).size:=by rw [Z3W];exact h
 have e:(bts s)[p]'h1=s[p]:=by simp [bts,ByteArray.getElem_eq_getElem_data]
 exact decode_high (bts s) p h1 (by rw [e];exact ha)
theorem Zfr {s:Str} {p:Nat} (h:p<s.length):1≤(dec s p).2:=by
 by_cases ha:(s[p]).toNat<128
 rw [Z3a h ha];exact Xm _
 exact (Z8I h (by omega)).2
section
variable {P:Program} {n:Nat} {e:Env} {w:World} {d:Option Nat} {ty:TypeId} {pos:String} {af:Array Edge} {g:Option (Nat×Bool)}
theorem Z8J {x:Operand} {t:TypeId} {s:Str} [hu:Und P t .string] (hx:ev e x=some (str s)):OE P n ⟨d,.range t x,ty,pos,af,g⟩ e w (fun v w'=>∃ b,v=.pointer (some ⟨b,0,none⟩)∧w.heap.size≤b∧Itr w' b s 0∧Stp [] w w'):=
 JH (v:=.pointer (some ⟨w.heap.size,0,none⟩)) (w':=w.iter (bts s) 0) (fun a ha=>by
  have:=run_range_string (P:=P) w t (bts s) hu.h
  simp [execOp,ha.ev hx,this]) ⟨w.heap.size,rfl,Xm _,World.iter_heap _ _ _,Stp.alloc _ _ _⟩
theorem ZaS {x:Operand} {s:Str} {b p:Nat} (hx:ev e x=some (.pointer (some ⟨b,0,none⟩))) (hI:Itr w b s p) (hp:p<s.length) :
 OE P n ⟨d,.next x true,ty,pos,af,g⟩ e w (fun v w'=>v=.tuple #[.bool true,.int .i64 p,.int .i32 ((dec s p).1:Int)]∧Itr w' b s (p+(dec s p).2)∧Stp [b] w w'):=by
 have hlt:=hI.lt
 have hp':p<(bts s).size:=by rw [Z3W];exact hp
 unfold Itr at hI
 refine JH (v:=.tuple #[.bool true,.int .i64 p,.int .i32 ((dec s p).1:Int)]) (w':={ w with heap:=w.heap.setIfInBounds b (.stringIter (bts s) (p+(dec s p).2)) }) (fun a ha=>?_) ⟨rfl,?_,⟨rfl,rfl,rfl,by simp,fun k hk hn=>?_⟩⟩
 · simp [execOp,ha.ev hx,Instr.next,getObj,setObj,Sem.run,hI,hp',goInt,dec]
 show (w.heap.setIfInBounds b _)[b]?=_
 simp [hlt]
 show (w.heap.setIfInBounds b _)[k]?=_
 exact Array.getElem?_setIfInBounds_ne (by simpa using fun h=>hn (by simp [h]))
theorem Z5H {x:Operand} {s:Str} {b p:Nat} (hx:ev e x=some (.pointer (some ⟨b,0,none⟩))) (hI:Itr w b s p) (hp:¬ p<s.length) :
 OE P n ⟨d,.next x true,ty,pos,af,g⟩ e w (fun v w'=>v=.tuple #[.bool false]∧w'=w):=by
 have hp':¬ p<(bts s).size:=by rw [Z3W];exact hp
 unfold Itr at hI
 refine JH (v:=.tuple #[.bool false]) (w':=w) (fun a ha=>?_) ⟨rfl,rfl⟩
 simp [execOp,ha.ev hx,Instr.next,getObj,Sem.run,hI,hp']
theorem Zdy {x:Operand} {t:TypeId} {i:Nat} {u v:Value} (hx:ev e x=some u) (hb:∀ w,(Instr.field t u i).run P w=.ok v w):PR P n ⟨d,.field t x i,ty,pos,af,g⟩ e w v:=
 ⟨fun a ha=>by simp [execOp,ha.ev hx,hb]⟩
end
def ZbN (c:UInt8):Bool:=decide (97≤c.toNat) && decide (c.toNat≤122)
def J0 (c:UInt8):Bool:=decide (48≤c.toNat) && decide (c.toNat≤57)
def ldB (c:UInt8):Bool:=ZbN c || J0 c
def Z18 (s:Str):Nat:=s.foldl (fun n c=>10 * n+(c.toNat - 48)) 0
def Z0l (y:Int):Bool:=decide (y % 4=0) && (decide (¬ y % 100=0) || decide (y % 400=0))
def ZE (y m:Int):Int:=
 if m<1∨12<m then 0 else if m=2 then (if Z0l y then 29 else 28) else if m=4∨m=6∨m=9∨m=11 then 30 else 31
def Jw (y m d:Int):Int:=
 let (y,m):=if m - 3<0 then (y - 1,m+9) else (y,m - 3)
 365 * y+y / 4 - y / 100+y / 400+(153 * m+2) / 5+d - 307
def Z12 (s:Str):Int×Int:=
 if s.length=10∧s.getD 4 0=45∧s.getD 7 0=45∧((s.take 4).all J0∧((s.drop 5).take 2).all J0∧(s.drop 8).all J0) then
  let y:Int:=Z18 (s.take 4)
  let m:Int:=Z18 ((s.drop 5).take 2)
  let d:Int:=Z18 (s.drop 8)
  if y<1∨9999<y∨m<1∨12<m∨d<1∨ZE y m<d then (0,5) else (Jw y m d,0)
 else (0,7)
inductive Lx where
 | err (c:Int)
 | ok (t:Tkn)
def Z3X (s:Str):Lx:=let n:=(s.takeWhile ldB).length;if 12<n then .err 2 else .ok ⟨1,0,s.take n,0⟩
def Z3b (s:Str):Lx:=
 let t:=s.takeWhile J0
 if 1<t.length∧t.getD 0 0=48 then .err 20 else if 2147483647<Z18 t then .err 5 else .ok ⟨2,0,t,Z18 t⟩
def Ja:Str:=[64,100,100,100,100,45,100,100,45,100,100]
def Z3Y (c x:UInt8):Bool:=if c=100 then J0 x else decide (x=c)
def Z7A (s:Str):Lx:=
 if s.length<11 then .err 20 else if ((Ja.zip s).all fun p=>Z3Y p.1 p.2) then
  (let d:=Z12 ((s.take 11).drop 1);if d.2=0 then .ok ⟨3,0,s.take 11,d.1⟩ else .err 5)
 else .err 20
def Z8K:Str:=[123,125,40,41,59,44,43,45,42,60,61,62]
def JD (s:Str):Lx:=
 if s.take 2=[60,61]∨s.take 2=[33,61]∨s.take 2=[62,61] then .ok ⟨4,0,s.take 2,0⟩
 else if s.getD 0 0∈Z8K then .ok ⟨4,0,s.take 1,0⟩ else .err 20
def Z0v (s:Str):Lx:=
 let c:=s.getD 0 0
 if ZbN c then Z3X s else if J0 c then Z3b s else if c=64 then Z7A s else JD s
def Z4x (c:UInt8):Bool:=c=9 || c=10 || c=13 || c=32
inductive Tks where
 | err (a c:Int)
 | ok (l:List Tkn)
def Z02 (nl:Str→Nat) (s:Str):Nat→Nat→List Tkn→Tks
 | 0,at_,l=>.ok (l++[⟨0,at_,[],0⟩])
 | f + 1, at_, l=>
   if at_<s.length then
    let rest:=s.drop at_
    let c:=rest.getD 0 0
    if Z4x c then Z02 nl s f (at_+1) l
    else if c=35 then Z02 nl s f (at_+nl rest) l
    else match Z0v rest with
     | .err e=>.err at_ e
     | .ok t=>Z02 nl s f (at_+t.text.length) (l++[{ t with pos:=at_ }])
   else .ok (l++[⟨0,at_,[],0⟩])
structure Zdz (t:Tkn):Prop where
 kind:t.kind≠0
 kinds:1≤t.kind∧t.kind≤4
 text:t.text≠[]
 sp:∀ c∈t.text,c≠32
 word:t.kind=1→t.text.length≤12∧(∀ c∈t.text,ldB c=true)∧ZbN (t.text.getD 0 0)=true
 num:t.kind=2→0≤t.num∧t.num≤2147483647
 day:t.kind=3→0≤t.num∧t.num≤3652058
theorem Z0b {p:UInt8→Bool}:∀ {l:Str} {c:UInt8},c∈l.takeWhile p→p c=true
 | [],c,h=>by simp at h
 | a :: r, c, h => by
   simp only [YaD] at h
   split at h
   rename_i ha
   rcases Xf.1 h with rfl|h
   exact ha
   exact Z0b h
   simp at h
theorem Js {p:UInt8→Bool}:∀ (l:Str),l.take (l.takeWhile p).length=l.takeWhile p
 | []=>by simp
 | a :: r => by
   simp only [YaD]
   split
   simp [Js r]
   simp
theorem ZlX {c:UInt8} (h:ldB c=true):c≠32:=by rintro rfl;revert h;decide
theorem ZdA {c:UInt8} (h:J0 c=true):c≠32:=by rintro rfl;revert h;decide
theorem Zjx {c x:UInt8} (h:Z3Y c x=true) (hc:c≠32):x≠32:=by
 unfold Z3Y at h
 split at h
 exact ZdA h
 simp at h;rw [h];exact hc
theorem ZaT {p:UInt8→UInt8→Bool}:∀ {a s:Str},a.length≤s.length→((a.zip s).all fun q=>p q.1 q.2)=true→∀ x∈s.take a.length,∃ c∈a,p c x=true
 | [],s,hl,h,x,hx=>by simp at hx
 | c :: a,[],hl,h,x,hx=>by simp at hl
 | c :: a, y :: s, hl, h, x, hx => by
   simp only [List.zip_cons_cons,Yan,Xg] at h
   simp only [Xc,Yal,Xf] at hx
   rcases hx with rfl|hx
   exact ⟨c,by simp,h.1⟩
   obtain ⟨d,hd,h'⟩:=ZaT (by simpa using hl) h.2 x hx
   exact ⟨d,by simp [hd],h'⟩
theorem Z2q (y m:Int):ZE y m≤31:=by
 unfold ZE
 repeat' split
 all_goals omega
theorem dayM_range {y m d:Int} (hy:1≤y) (hy2:y≤9999) (hm:1≤m) (hm2:m≤12) (hd:1≤d) (hd2:d≤ZE y m):0≤Jw y m d∧Jw y m d≤3652058:=by
 have h31:=Z2q y m
 have hm':m=1∨m=2∨m=3∨m=4∨m=5∨m=6∨m=7∨m=8∨m=9∨m=10∨m=11∨m=12:=by omega
 unfold Jw
 rcases hm' with rfl|rfl|rfl|rfl|rfl|rfl|rfl|rfl|rfl|rfl|rfl|rfl<;>simp<;>omega
theorem Z8L (s:Str):0≤(Z12 s).1∧(Z12 s).1≤3652058:=by
 unfold Z12
 split
 simp only
 split
 simp
 rename_i h
 simp only [not_or,Int.not_lt] at h
 exact dayM_range h.1 h.2.1 h.2.2.1 h.2.2.2.1 h.2.2.2.2.1 h.2.2.2.2.2
 simp
theorem Z2V {s:Str} {t:Tkn} (hs:s≠[]) (hsp:s.getD 0 0≠32) (h:Z0v s=.ok t):Zdz t∧t.text.length≤s.length∧t.text=s.take t.text.length:=by
 obtain ⟨a,r,rfl⟩:∃ a r,s=a :: r:=by cases s with|nil=>exact absurd rfl hs|cons a r=>exact ⟨a,r,rfl⟩
 simp only [Xq] at hsp
 unfold Z0v at h
 simp only [Xq] at h
 split at h
 rename_i hl
 unfold Z3X at h
 simp only at h
 split at h
 simp at h
 rename_i hn
 simp only [Lx.ok.injEq] at h
 subst h
 have hld:ldB a=true:=by simp [ldB,hl]
 have hne:(a :: r).takeWhile ldB=a :: r.takeWhile ldB:=by simp [hld]
 have ht:=Js (p:=ldB) (a :: r)
 refine ⟨⟨by simp,by simp,?_,?_,fun _=>⟨?_,?_,?_⟩,by simp,by simp⟩,by simp;omega,by simp⟩
 simp only;rw [ht,hne];simp
 simp only;rw [ht];exact fun c hc=>ZlX (Z0b hc)
 simp only;rw [ht];omega
 simp only;rw [ht];exact fun c hc=>Z0b hc
 simp only;rw [ht,hne];simpa using hl
 split at h
 rename_i hl
 unfold Z3b at h
 simp only at h
 split at h
 simp at h
 split at h
 simp at h
 rename_i hn
 simp only [Lx.ok.injEq] at h
 subst h
 have hne:(a :: r).takeWhile J0=a :: r.takeWhile J0:=by simp [hl]
 have ht:=Js (p:=J0) (a :: r)
 have hlen:=congrArg List.length ht
 simp only [Xw] at hlen
 refine ⟨⟨by simp,by simp,?_,?_,by simp,fun _=>⟨?_,?_⟩,by simp⟩,?_,?_⟩
 simp only;rw [hne];simp
 exact fun c hc=>ZdA (Z0b hc)
 simp only;omega
 simp only;omega
 simp only;omega
 exact ht.symm
 split at h
 rename_i h64
 unfold Z7A at h
 split at h
 simp at h
 rename_i h11
 split at h
 rename_i hf
 simp only at h
 split at h
 simp only [Lx.ok.injEq] at h
 subst h
 have hd:=Z8L (((a :: r).take 11).drop 1)
 refine ⟨⟨by simp,by simp,by simp,?_,by simp,by simp,fun _=>hd⟩,by simp;omega,by simp⟩
 intro c hc
 obtain ⟨x,hx,h'⟩:=ZaT (a:=Ja) (s:=a :: r) (by simp only [Ja,Xc,Xe] at h11 ⊢;omega) hf c hc
 exact Zjx h' (by revert hx;simp only [Ja];intro hx h0;subst h0;simp at hx)
 simp at h
 simp at h
 unfold JD at h
 split at h
 rename_i h2
 simp only [Lx.ok.injEq] at h
 subst h
 refine ⟨⟨by simp,by simp,by simp,?_,by simp,by simp,by simp⟩,by simp;omega,by simp⟩
 simp only
 intro c hc
 rcases h2 with h2|h2|h2<;>rw [h2] at hc<;>(rintro rfl;simp at hc)
 split at h
 simp only [Lx.ok.injEq] at h
 subst h
 refine ⟨⟨by simp,by simp,by simp,?_,by simp,by simp,by simp⟩,by simp,by simp⟩
 simp only [Yal,List.take_zero,Xp]
 rintro c rfl
 exact hsp
 simp at h
theorem Z2r {nl:Str→Nat} {s:Str} (hsl:s.length≤4000):∀ (f at_:Nat) (l l':List Tkn),(∀ t∈l,Zdz t)→(∀ t∈l,t.text.length≤4000)→l.length≤at_→l.length≤s.length→Z02 nl s f at_ l=.ok l'→
 ∃ l1 p,l'=l1++[⟨0,p,[],0⟩]∧(∀ t∈l1,Zdz t)∧(∀ t∈l1,t.text.length≤4000)∧l1.length≤s.length
 | 0, at_, l, l', h1, h2, h3, h4, h => by
   simp only [Z02,Tks.ok.injEq] at h
   exact ⟨l,_,h.symm,h1,h2,h4⟩
 | f + 1, at_, l, l', h1, h2, h3, h4, h => by
   simp only [Z02] at h
   split at h
   rename_i hlt
   split at h
   exact Z2r hsl f _ _ _ h1 h2 (by omega) h4 h
   split at h
   exact Z2r hsl f _ _ _ h1 h2 (by omega) h4 h
   · rename_i hnsp _
     cases hr:Z0v (s.drop at_) with
     | err e=>rw [hr] at h;simp at h
     | ok t=>
       rw [hr] at h
       simp only at h
       obtain ⟨g1,g2,g3⟩:=Z2V (s:=s.drop at_) (by simp;omega) (by rintro h32;rw [h32] at hnsp;exact hnsp (by decide)) hr
       have hpos:1≤t.text.length:=by
        have:=g1.text
        cases ht:t.text with
        | nil=>exact absurd ht this
        | cons a r=>simp
       have hlen:t.text.length≤s.length - at_:=by simpa using g2
       refine Z2r hsl f _ _ _ ?_ ?_ ?_ ?_ h
       intro u hu
       rcases Xn.1 hu with hu|hu
       exact h1 u hu
       simp only [Xp] at hu
       subst hu
       exact ⟨g1.kind,g1.kinds,g1.text,g1.sp,g1.word,g1.num,g1.day⟩
       intro u hu
       rcases Xn.1 hu with hu|hu
       exact h2 u hu
       simp only [Xp] at hu
       subst hu
       simp only
       omega
       simp;omega
       simp;omega
   simp only [Tks.ok.injEq] at h
   exact ⟨l,_,h.symm,h1,h2,h4⟩
theorem Zfs {l1:List Tkn} {p:Int} (h1:∀ t∈l1,Zdz t) (h2:∀ t∈l1,t.text.length≤4000) (h3:l1.length≤4000):Z2U (l1++([⟨0,p,[],0⟩]:List Tkn)):=by
 have hc:∀ i,cur (l1++([⟨0,p,[],0⟩]:List Tkn)) i=⟨0,p,[],0⟩∨cur (l1++([⟨0,p,[],0⟩]:List Tkn)) i=default∨cur (l1++([⟨0,p,[],0⟩]:List Tkn)) i∈l1:=by
  intro i
  unfold cur
  rw [List.getD_eq_getElem?_getD,List.getElem?_append]
  split
  rename_i h
  right;right
  simp [h]
  · cases hk:i - l1.length with
    | zero=>left;simp
    | succ j=>right;left;simp
 refine ⟨by simp,?_,?_,by simp;omega,?_,?_⟩
 have:cur (l1++([⟨0,p,[],0⟩]:List Tkn)) ((l1++([⟨0,p,[],0⟩]:List Tkn)).length - 1)=⟨0,p,[],0⟩:=by
  unfold cur
  simp
 rw [this]
 exact ⟨rfl,rfl⟩
 intro i hi
 have hi2:i<l1.length:=by simpa using hi
 have:cur (l1++([⟨0,p,[],0⟩]:List Tkn)) i=l1[i]:=by
  unfold cur
  rw [List.getD_eq_getElem?_getD,List.getElem?_append_left hi2]
  simp [hi2]
 rw [this]
 have:=h1 _ (Xh hi2)
 exact ⟨this.kind,this.text⟩
 intro i c hcm
 rcases hc i with h|h|h
 rw [h] at hcm;simp at hcm
 rw [h] at hcm;simp [default] at hcm
 exact (h1 _ h).sp c hcm
 intro i
 rcases hc i with h|h|h
 rw [h];simp
 rw [h];simp [default]
 exact h2 _ h
def Jn (s:Str) (p:Nat→Bool):Nat→Nat→Nat
 | 0,_=>s.length
 | f+1,i=>if i<s.length then (if p (dec s i).1 then Jn s p f (i+(dec s i).2) else i) else s.length
theorem Z6K (s:Str) (p:Nat→Bool):∀ (f i:Nat),Jn s p f i≤s.length
 | 0,i=>Xm _
 | f + 1, i => by
   unfold Jn
   split
   split
   exact Z6K s p f _
   omega
   exact Xm _
theorem Z6L (s:Str) (p:Nat→Bool):∀ (f i:Nat),i≤s.length→i≤Jn s p f i
 | 0,i,h=>h
 | f + 1, i, h => by
   unfold Jn
   split
   split
   by_cases hw:i+(dec s i).2≤s.length
   exact Xi (Nat.le_add_right _ _) (Z6L s p f _ hw)
   · have:∀ f j,s.length<j→Jn s p f j=s.length:=fun f j hj=>by
      cases f with
      | zero=>rfl
      | succ f=>unfold Jn;rw [if_neg (by omega)]
     rw [this _ _ (by omega)]
     omega
   exact Xm _
   exact h
theorem Z2s (p:Nat→Bool) (q:UInt8→Bool) (hq:∀ c:UInt8,c.toNat<128→p c.toNat=q c) (hp:∀ n,128≤n→p n=false) (hq2:∀ c:UInt8,128≤c.toNat→q c=false) (s:Str) :
 ∀ (f i:Nat),i≤s.length→s.length≤i+f→Jn s p f i=i+((s.drop i).takeWhile q).length
 | 0, i, h1, h2 => by
   have:i=s.length:=by omega
   subst this
   simp [Jn]
 | f + 1, i, h1, h2 => by
   unfold Jn
   by_cases hlt:i<s.length
   rw [if_pos hlt]
   have hd:s.drop i=s[i] :: s.drop (i+1):=X3 hlt
   rw [hd,YaD]
   by_cases ha:(s[i]).toNat<128
   rw [Z3a hlt ha]
   simp only [hq _ ha]
   split
   rw [Z2s p q hq hp hq2 s f (i+1) (by omega) (by omega),Xc];omega
   simp
   have h3:=(Z8I hlt (by omega)).1
   rw [hp _ h3,hq2 _ (by omega)]
   simp
   rw [if_neg hlt]
   rw [Yar (by omega)]
   simp;omega
def Z7B (n:Nat):Bool:=decide (97≤n) && decide (n≤122)
def Z4y (n:Nat):Bool:=decide (48≤n) && decide (n≤57)
def Z5I (n:Nat):Bool:=decide (¬ n=10)
def nlM (s:Str):Nat:=Jn s Z5I s.length 0
def Z1I (s:Str):Tks:=if 4000<s.length then .err 4000 2 else Z02 nlM s (s.length+1) 0 []
theorem ZbO (s:Str):Jn s Z4y s.length 0=(s.takeWhile J0).length:=by
 rw [Z2s Z4y J0 (fun c h=>rfl) (fun n h=>by unfold Z4y;simp;omega) (fun c h=>by unfold J0;simp;omega) s s.length 0 (by omega) (by omega)]
 simp
theorem ZdB (s:Str):Jn s (fun n=>Z7B n || Z4y n) s.length 0=(s.takeWhile ldB).length:=by
 rw [Z2s (fun n=>Z7B n || Z4y n) ldB (fun c h=>rfl) (fun n h=>by unfold Z7B Z4y;simp;omega) (fun c h=>by unfold ldB ZbN J0;simp;omega) s s.length 0 (by omega) (by omega)]
 simp
end Go.Eng
namespace Go.Proofs.YtjdjdoefppebkaaGreatDoor
open Go Go.Eng Go.RowKit Go.Proofs
theorem Z5J (c:Nat) (w:World):CC 207 #[.int .i32 (c:Int)] w fun r w'=>r=.bool (Z7B c)∧w'=w:=by
 unfold Z7B
 refine cW1 9 Tryz.func207 ?_
 repeat'(first|refine W1 ?_|omega|refine VG ?_ ?_<;>intro hg|refine VC ?_ ?_<;>intro hc)
 all_goals refine WR ?_
 all_goals refine .mk ⟨?_,rfl⟩
 all_goals congr 1
 all_goals (first|done|(rw [XV];simp;omega)|(simp [*]))
theorem Z3c (c:Nat) (w:World):CC 209 #[.int .i32 (c:Int)] w fun r w'=>r=.bool (Z4y c)∧w'=w:=by
 unfold Z4y
 refine cW1 9 Tryz.func209 ?_
 repeat'(first|refine W1 ?_|omega|refine VG ?_ ?_<;>intro hg|refine VC ?_ ?_<;>intro hc)
 all_goals refine WR ?_
 all_goals refine .mk ⟨?_,rfl⟩
 all_goals congr 1
 all_goals (first|done|(rw [XV];simp;omega)|(simp [*]))
theorem Zjy (c:Nat) (w:World):CC 206 #[.int .i32 (c:Int)] w fun r w'=>r=.bool (Z5I c)∧w'=w:=by
 unfold Z5I
 refine cW1 5 Tryz.func206 ?_
 repeat'(first|refine W1 ?_|omega|refine VG ?_ ?_<;>intro hg|refine VC ?_ ?_<;>intro hc)
 all_goals refine WR ?_
 all_goals refine .mk ⟨?_,rfl⟩
 all_goals congr 1
 all_goals (first|done|(rw [XV];simp;omega)|(simp [*]))
theorem Zjz (c:Nat) (w:World):CC 270 #[.int .i32 (c:Int)] w fun r w'=>r=.bool (Z7B c || Z4y c)∧w'=w:=by
 refine cW1 9 Tryz.func270 ?_
 refine W ?_
 refine CL rfl (Zr rfl) rfl (Z5J c _) ?_
 rintro _ _ ⟨rfl,rfl⟩
 cases Z7B c
 refine W ?_
 refine CL rfl (Zr rfl) rfl (Z3c c _) ?_
 rintro _ _ ⟨rfl,rfl⟩
 refine W ?_
 refine WR ?_
 exact .mk ⟨rfl,rfl⟩
 refine W ?_
 refine WR ?_
 exact .mk ⟨rfl,rfl⟩
theorem Z4z {g:Nat} {fn:Func} [hf:Fun Tryz.prog g fn] (p:Nat→Bool) (hg:∀ (c:Nat) (w:World),CC g #[.int .i32 (c:Int)] w fun r w'=>r=.bool (p c)∧w'=w) (s:Str) (w:World) (hl:s.length≤1000000) :
 CC 205 #[str s,.func (.func g) #[] #[]] w fun r w'=>r=.int .i64 (Jn s p s.length 0:Int)∧Stp [] w w':=by
 refine cW2 20 Tryz.func205 ?_
 refine W ?_
 refine Z3 (Z8J rfl) rfl ?_
 rintro _ w1 ⟨b,rfl,hb,hI,hS⟩
 refine W ?_
 refine Zv (σ:=Nat×Nat) (fun q=>[(0,str s),(1,.func (.func g) #[] #[]),(8,.pointer (some ⟨b,0,none⟩))]) (fun q w'=>Itr w' b s q.2∧Stp [] w w'∧Jn s p q.1 q.2=Jn s p s.length 0∧s.length≤q.2+q.1) (fun q=>q.1+1 - (if q.2<s.length then 0 else 1)) (s.length,0) ⟨rfl,rfl,rfl,trivial⟩ ⟨hI,hS,rfl,by omega⟩ ?_
 rintro ⟨f,i⟩ w2 ⟨hI,hS,he,hfl⟩
 dsimp only at hI hS he hfl ⊢
 generalize Jn s p s.length 0=R at he ⊢
 by_cases hlt:i<s.length
 obtain ⟨f,rfl⟩:∃ f',f=f'+1:=⟨f - 1,by omega⟩
 have hd:=Zfr hlt
 unfold Jn at he
 rw [if_pos hlt] at he
 refine W ?_
 refine Z3 (ZaS rfl hI hlt) rfl ?_
 rintro _ w3 ⟨rfl,hI3,hT⟩
 replace hS:=hS.own hT (fun c hc=>.inr (by simp at hc;omega))
 refine W ?_
 refine CL rfl (Zr rfl) rfl (hg _ _) ?_
 rintro _ _ ⟨rfl,rfl⟩
 cases hpc:p (dec s i).1
 rw [hpc] at he
 refine W ?_
 refine WR ?_
 simp only [XE,if_false] at he
 exact .mk ⟨by rw [← he];rfl,hS⟩
 · rw [hpc] at he
   refine W ?_
   refine Zp (f,i+(dec s i).2) ⟨rfl,rfl,rfl,trivial⟩ ⟨hI3,hS,he,by dsimp only;omega⟩ ?_
   dsimp only
   repeat' split
   all_goals omega
 · refine W ?_
   refine Z3 (Z5H rfl hI hlt) rfl ?_
   rintro _ _ ⟨rfl,rfl⟩
   refine W ?_
   refine WR ?_
   refine .mk ⟨?_,hS⟩
   rw [← he]
   cases f with
   | zero=>rfl
   | succ f=>unfold Jn;rw [if_neg hlt]
end Go.Proofs.YtjdjdoefppebkaaGreatDoor
namespace Go.Eng
open Go Go.RowKit Go.Proofs
def Z3Z (d:Nat):Nat:=(d - d / 1460+d / 36524 - d / 146096) / 365
def Z4A (y:Nat):Nat:=365 * y+y / 4 - y / 100
def ZdC (y:Nat):Bool:=Nat.beq (y % 4) 0 && (!(Nat.beq (y % 100) 0) || Nat.beq (y % 400) 0)
def ZjA (d:Nat):Bool:=Nat.ble 146097 d || (Nat.ble (Z4A (Z3Z d)) d && (Nat.blt d (Z4A (Z3Z d)+365) || (Nat.beq d (Z4A (Z3Z d)+365) && ZdC (Z3Z d+1))))
def ZdD:Nat→Nat→Bool
 | 0,lo=>ZjA lo
 | k+1,lo=>ZdD k lo && ZdD k (lo+2 ^ k)
theorem Z4B:∀ (k lo d:Nat),ZdD k lo=true→lo≤d→d<lo+2 ^ k→ZjA d=true
 | 0, lo, d, h, h1, h2 => by
   have:d=lo:=by simp at h2;omega
   subst this
   exact h
 | k + 1, lo, d, h, h1, h2 => by
   simp only [ZdD,Xg] at h
   rw [Nat.pow_succ] at h2
   rcases X8 d (lo+2 ^ k) with h3|h3
   exact Z4B k lo d h.1 h1 h3
   exact Z4B k (lo+2 ^ k) d h.2 h3 (by omega)
theorem ZdE:ZdD 18 0=true:=by kernel_rfl
theorem ZdF (y:Nat):ZdC y=Z0l (y:Int):=by
 unfold ZdC Z0l
 have h:∀ a b:Nat,Nat.beq (a % b) 0=decide ((a:Int) % (b:Int)=0):=fun a b=>by
  rw [XV]
  simp only [decide_eq_true_eq]
  rw [Nat.beq_eq]
  omega
 rw [show Nat.beq (y % 4) 0=decide ((y:Int) % 4=0) from h y 4,show Nat.beq (y % 100) 0=decide ((y:Int) % 100=0) from h y 100,show Nat.beq (y % 400) 0=decide ((y:Int) % 400=0) from h y 400]
 simp
structure Dat where
 y:Int
 m:Int
 d:Int
def ofM (day:Int):Dat:=
 let z:=day+306
 let era:=z / 146097
 let doe:=z % 146097
 let yoe:=(doe - doe / 1460+doe / 36524 - doe / 146096) / 365
 let doy:=doe - (365 * yoe+yoe / 4 - yoe / 100)
 let m:=(5 * doy+2) / 153
 if m≥10 then ⟨yoe+400 * era+1,m - 9,doy - (153 * m+2) / 5+1⟩ else ⟨yoe+400 * era,m+3,doy - (153 * m+2) / 5+1⟩
theorem ZdG:∀ q:Nat,q<366→(5 * q+2) / 153≤11∧(153 * ((5 * q+2) / 153)+2) / 5≤q∧
 q - (153 * ((5 * q+2) / 153)+2) / 5+1≤(if (5 * q+2) / 153=11 then (if q=365 then 29 else 28) else if (5 * q+2) / 153=1∨(5 * q+2) / 153=3∨(5 * q+2) / 153=6∨(5 * q+2) / 153=8 then 30 else 31):=by decide +kernel
theorem ZdH (doe:Int) (h0:0≤doe) (h1:doe<146097):∃ yoe doy:Nat,(doe - doe / 1460+doe / 36524 - doe / 146096) / 365=(yoe:Int)∧doe - (365 * (yoe:Int)+(yoe:Int) / 4 - (yoe:Int) / 100)=(doy:Int)∧yoe≤399∧doy≤365∧(doy=365→Z0l ((yoe:Int)+1)=true):=by
 obtain ⟨d,rfl⟩:∃ d:Nat,doe=(d:Int):=⟨doe.toNat,by omega⟩
 have hd:d<146097:=by omega
 have h:=Z4B 18 0 d ZdE (by omega) (by omega)
 unfold ZjA at h
 rw [show Nat.ble 146097 d=false by rw [Bool.eq_false_iff];simp;omega] at h
 simp only [YaI,Xg,XU,Nat.ble_eq,Nat.beq_eq] at h
 obtain ⟨h2,h3⟩:=h
 have hy:((d:Int) - (d:Int) / 1460+(d:Int) / 36524 - (d:Int) / 146096) / 365=((Z3Z d:Nat):Int):=by unfold Z3Z;omega
 have hyle:Z3Z d≤399:=by unfold Z3Z;omega
 have hst:(Z4A (Z3Z d):Int)=365 * (Z3Z d:Int)+(Z3Z d:Int) / 4 - (Z3Z d:Int) / 100:=by unfold Z4A;omega
 refine ⟨Z3Z d,d - Z4A (Z3Z d),hy,by omega,hyle,?_,fun h4=>?_⟩
 rcases h3 with h3|h3
 have:=XD h3;omega
 have:=h3.1;omega
 rcases h3 with h3|h3
 have:=XD h3;omega
 have:=h3.2;rw [ZdF] at this;exact this
theorem ZbP (y e:Int):Z0l (y+400 * e)=Z0l y:=by
 unfold Z0l
 have h4:(y+400 * e) % 4=y % 4:=by omega
 have h100:(y+400 * e) % 100=y % 100:=by omega
 have h400:(y+400 * e) % 400=y % 400:=by omega
 rw [h4,h100,h400]
theorem Z5K {n:Int} (h0:0≤n) (h1:n≤3652058):1≤(ofM n).y∧(ofM n).y≤9999∧1≤(ofM n).m∧(ofM n).m≤12∧1≤(ofM n).d∧(ofM n).d≤ZE (ofM n).y (ofM n).m∧Jw (ofM n).y (ofM n).m (ofM n).d=n:=by
 obtain ⟨yoe,doy,e1,e2,hy,hd,hl⟩:=ZdH ((n+306) % 146097) (by omega) (by omega)
 obtain ⟨m1,m2,m3⟩:=ZdG doy (by omega)
 have hera:(n+306) / 146097 * 146097+(n+306) % 146097=n+306:=by omega
 unfold ofM
 simp only
 rw [e1,e2]
 have em:(5 * (doy:Int)+2) / 153=(((5 * doy+2) / 153:Nat):Int):=by omega
 rw [em]
 have ek:(153 * (((5 * doy+2) / 153:Nat):Int)+2) / 5=(((153 * ((5 * doy+2) / 153)+2) / 5:Nat):Int):=by omega
 rw [ek]
 generalize (n+306) / 146097=era at *
 generalize (n+306) % 146097=doe at *
 have hk5:∀ m:Nat,m≤11→(153 * (m:Int)+2) / 5=(((153 * m+2) / 5:Nat):Int):=fun m _=>by omega
 generalize hm:(5 * doy+2) / 153=m at *
 have q4:((yoe:Int)+400 * era) / 4=(yoe:Int) / 4+100 * era:=by omega
 have q100:((yoe:Int)+400 * era) / 100=(yoe:Int) / 100+4 * era:=by omega
 have q400:((yoe:Int)+400 * era) / 400=era:=by omega
 by_cases h10:((m:Nat):Int)≥10
 rw [if_pos h10]
 simp only
 have hday:Jw ((yoe:Int)+400 * era+1) ((m:Int) - 9) ((doy:Int) - (((153 * m+2) / 5:Nat):Int)+1)=n:=by
  unfold Jw
  rw [if_pos (by omega)]
  simp only
  rw [show (yoe:Int)+400 * era+1 - 1=(yoe:Int)+400 * era by omega,show (m:Int) - 9+9=(m:Int) by omega,hk5 m m1,q4,q100,q400]
  omega
 refine ⟨?_,?_,by omega,by omega,by omega,?_,hday⟩
 omega
 omega
 have hm':m=10∨m=11:=by omega
 rcases hm' with rfl|rfl
 unfold ZE
 rw [if_neg (by omega),if_neg (by omega),if_neg (by omega)]
 rw [if_neg (by omega),if_neg (by omega)] at m3
 omega
 unfold ZE
 rw [if_neg (by omega),if_pos (by omega)]
 rw [if_pos rfl] at m3
 by_cases h365:doy=365
 rw [if_pos h365] at m3
 have hlp:Z0l ((yoe:Int)+400 * era+1)=true:=by
  rw [show (yoe:Int)+400 * era+1=((yoe:Int)+1)+400 * era by omega,ZbP]
  exact hl h365
 rw [hlp]
 simp only [if_true]
 omega
 rw [if_neg h365] at m3
 split<;>omega
 rw [if_neg h10]
 simp only
 have hday:Jw ((yoe:Int)+400 * era) ((m:Int)+3) ((doy:Int) - (((153 * m+2) / 5:Nat):Int)+1)=n:=by
  unfold Jw
  rw [if_neg (by omega)]
  simp only
  rw [show (m:Int)+3 - 3=(m:Int) by omega,hk5 m m1,q4,q100,q400]
  omega
 refine ⟨?_,?_,by omega,by omega,by omega,?_,hday⟩
 omega
 omega
 unfold ZE
 rw [if_neg (by omega),if_neg (by omega)]
 rw [if_neg (by omega)] at m3
 split at m3
 rw [if_pos (by omega)];omega
 rw [if_neg (by omega)];omega
def Jt (y:Int):Int:=365 * (y - 1)+(y - 1) / 4 - (y - 1) / 100+(y - 1) / 400
def Z0T (y:Int):Nat→Int
 | 0=>0
 | k+1=>Z0T y k+ZE y ((k:Int)+1)
theorem Z6M (y:Int):Z0l y=true↔(y % 4=0∧(¬ y % 100=0∨y % 400=0)):=by
 unfold Z0l
 simp
theorem Z2W (y:Int):Jt (y+1)=Jt y+(if Z0l y=true then 366 else 365):=by
 unfold Jt
 have h:=Z6M y
 by_cases hl:Z0l y=true
 rw [if_pos hl]
 have:=h.1 hl
 omega
 rw [if_neg hl]
 have:¬ (y % 4=0∧(¬ y % 100=0∨y % 400=0)):=fun h'=>hl (h.2 h')
 omega
theorem Z0U {a b:Int} (h:a≤b):Jt a≤Jt b:=by
 unfold Jt;omega
theorem Z1J {y:Int} {k:Nat} (hk:k<12):28≤ZE y ((k:Int)+1):=by
 unfold ZE
 rw [if_neg (by omega)]
 repeat' split
 all_goals omega
theorem Zft (y:Int):∀ k:Nat,k≤11→Z0T y k=(if k<2 then 31 * (k:Int) else (if Z0l y=true then 1 else 0)+(153 * ((k:Int) - 2)+2) / 5+59):=by
 intro k hk
 have:k=0∨k=1∨k=2∨k=3∨k=4∨k=5∨k=6∨k=7∨k=8∨k=9∨k=10∨k=11:=by omega
 rcases this with rfl|rfl|rfl|rfl|rfl|rfl|rfl|rfl|rfl|rfl|rfl|rfl<;>simp [Z0T,ZE]<;>cases Z0l y<;>simp
theorem Zgn (y:Int):Z0T y 12=if Z0l y=true then 366 else 365:=by
 simp [Z0T,ZE]
 cases Z0l y<;>simp
theorem Z1q (y d:Int) (k:Nat) (hk:k≤11):Jw y ((k:Int)+1) d=Jt y+Z0T y k+d - 1:=by
 rw [Zft y k hk]
 unfold Jw
 by_cases h2:k<2
 rw [if_pos h2,if_pos (by omega)]
 simp only
 unfold Jt
 omega
 rw [if_neg h2,if_neg (by omega)]
 simp only
 have h:=Z2W y
 have hl:=Z6M y
 have e:(153 * ((k:Int)+1 - 3)+2) / 5=(153 * ((k:Int) - 2)+2) / 5:=by congr 2;omega
 rw [e]
 generalize (153 * ((k:Int) - 2)+2) / 5=z
 have e2:Jt (y+1)=365 * y+y / 4 - y / 100+y / 400:=by unfold Jt;omega
 rw [e2] at h
 by_cases hl':Z0l y=true
 rw [if_pos hl'] at h ⊢;omega
 rw [if_neg hl'] at h ⊢;omega
theorem Z1c {y:Int}:∀ {a b:Nat},a≤b→b≤12→Z0T y a≤Z0T y b
 | a, 0, h, _ => by obtain rfl : a = 0 := by omega
                    exact XN _
 | a, b + 1, h, h2 => by
   by_cases e:a=b+1
   subst e;exact XN _
   have:=Z1c (y:=y) (a:=a) (b:=b) (by omega) (by omega)
   have:=Z1J (y:=y) (k:=b) (by omega)
   simp only [Z0T];omega
theorem Z6N {n:Int} (h0:0≤n) (h1:n≤3652058):∃ k:Nat,k≤11∧(ofM n).m=(k:Int)+1∧1≤(ofM n).y∧(ofM n).y≤9999∧n=Jt (ofM n).y+Z0T (ofM n).y k+(ofM n).d - 1∧1≤(ofM n).d∧(ofM n).d≤ZE (ofM n).y ((k:Int)+1)∧Jt (ofM n).y≤n∧n<Jt ((ofM n).y+1):=by
 obtain ⟨g1,g2,g3,g4,g5,g6,g7⟩:=Z5K h0 h1
 obtain ⟨k,hk⟩:∃ k:Nat,(ofM n).m=(k:Int)+1:=⟨((ofM n).m - 1).toNat,by omega⟩
 have hk11:k≤11:=by omega
 rw [hk] at g6 g7
 rw [Z1q _ _ k hk11] at g7
 have c0:=Z1c (y:=(ofM n).y) (a:=0) (b:=k) (by omega) (by omega)
 have c1:=Z1c (y:=(ofM n).y) (a:=k+1) (b:=12) (by omega) (by omega)
 have c2:=Zgn (ofM n).y
 have c3:=Z2W (ofM n).y
 rw [c2,show Z0T (ofM n).y (k+1)=Z0T (ofM n).y k+ZE (ofM n).y ((k:Int)+1) from rfl] at c1
 rw [show Z0T (ofM n).y 0=0 from rfl] at c0
 exact ⟨k,hk11,hk,g1,g2,g7.symm,g5,g6,by omega,by omega⟩
end Go.Eng
namespace Go.Proofs.YtjdjdoefppebkaaGreatDoor
open Go Go.Eng Go.RowKit Go.Proofs
def Z40:List Int:=[0,31,28,31,30,31,30,31,31,30,31,30,31]
def JY (w:World):Prop:=∀ i u,Z40[i]?=some u→w.cell? ⟨1,i,none⟩=some (.int .i64 u)
theorem JY.ext {S:List Nat} {w w':World} (h:JY w) (hS:Stp S w w') (hb:1∉S):JY w':=fun i u hu=>hS.cell hb (h i u hu)
theorem JY.up {w w':World} (h:JY w) (hS:Stp [] w w'):JY w':=h.ext hS (by simp)
theorem ZdI (y:Int) (w:World) (h0:0≤y) (h1:y≤100000):CC 310 #[.int .i64 y] w fun r w'=>r=.bool (Z0l y)∧w'=w:=by
 unfold Z0l
 refine cW1 16 Tryz.func310 ?_
 repeat'(first|refine W1 ?_|omega|refine VG ?_ ?_<;>intro hg|refine VC ?_ ?_<;>intro hc)
 all_goals refine WR ?_
 all_goals refine .mk ⟨?_,rfl⟩
 all_goals congr 1
 all_goals (first|done|(rw [XV];simp;omega)|(simp [*]))
theorem Z2t (y m:Int) (w:World) (hL:JY w) (h0:0≤y) (h1:y≤100000):CC 282 #[.int .i64 y,.int .i64 m] w fun r w'=>r=.int .i64 (ZE y m)∧w'=w:=by
 unfold ZE
 refine cW2 22 Tryz.func282 ?_
 by_cases hm:m<1∨12<m
 · rw [if_pos hm]
   repeat'(first|refine W1 ?_|omega|refine VG ?_ ?_<;>intro hg|refine VC ?_ ?_<;>intro hc)
   all_goals refine WR ?_
   all_goals exact .mk ⟨rfl,rfl⟩
 rw [if_neg hm]
 obtain ⟨k,rfl⟩:∃ k:Nat,m=(k:Int):=⟨m.toNat,by omega⟩
 have hk:k<13:=by omega
 have hcell:w.cell? ⟨1,0+k * 1,none⟩=some (.int .i64 (Z40.getD k 0)):=hL _ _ (by
  have:k<Z40.length:=hk
  simp [List.getD,this])
 by_cases h2:(k:Int)=2
 rw [if_pos h2]
 focus repeat'(first|refine W1 ?_|omega|refine VG ?_ ?_<;>intro hg|refine VC ?_ ?_<;>intro hc)
 refine CL rfl (Zr rfl) rfl (ZdI y _ h0 h1) ?_
 rintro _ _ ⟨rfl,rfl⟩
 cases hl:Z0l y
 refine W ?_
 refine Ze (Z1f rfl rfl hcell) rfl ?_
 refine W ?_
 refine WR ?_
 obtain rfl:k=2:=by omega
 exact .mk ⟨rfl,rfl⟩
 refine W ?_
 refine WR ?_
 exact .mk ⟨rfl,rfl⟩
 rw [if_neg h2]
 focus repeat'(first|refine W1 ?_|omega|refine VG ?_ ?_<;>intro hg|refine VC ?_ ?_<;>intro hc)
 refine Ze (Z1f rfl rfl hcell) rfl ?_
 refine W ?_
 refine WR ?_
 refine .mk ⟨?_,rfl⟩
 congr 1
 have:k=1∨k=3∨k=4∨k=5∨k=6∨k=7∨k=8∨k=9∨k=10∨k=11∨k=12:=by omega
 rcases this with rfl|rfl|rfl|rfl|rfl|rfl|rfl|rfl|rfl|rfl|rfl<;>rfl
abbrev ZdJ (y m d:Int):Value:=.agg #[.int .i64 y,.int .i64 m,.int .i64 d]
def Z1r (y m d:Int):Prop:=y<1∨9999<y∨m<1∨12<m∨d<1∨ZE y m<d
instance (y m d:Int):Decidable (Z1r y m d):=by unfold Z1r;infer_instance
theorem Za0 (y m d:Int) (w:World) (hL:JY w):CC 325 #[ZdJ y m d] w fun r w'=>r=.int .i64 (if Z1r y m d then 5 else 0)∧Stp [] w w':=by
 refine cW1 36 Tryz.func325 ?_
 refine W ?_
 refine Z3 (Zq rfl) rfl ?_
 rintro _ w1 ⟨b,rfl,hb,hblk,hS⟩
 replace hblk:Blk w1 b 291 [.int .i64 y,.int .i64 m,.int .i64 d]:=hblk
 replace hL:=hL.up hS
 refine W ?_
 refine ZDr 33 [] [] [(0,0),(1,1),(2,0),(3,0),(4,0),(5,1),(6,0),(7,0),(8,0),(9,0),(10,1),(11,0),(12,0),(13,0),(14,0),(15,1),(16,0),(17,0),(18,0),(19,0),(20,1),(21,0),(22,0),(23,0),(24,0),(25,1),(26,0),(27,1),(28,0),(29,1),(30,2),(31,0),(32,0)] (fun w1 hS1=>?_)
 replace hblk:=hblk.up hS1
 replace hL:=hL.up hS1
 replace hS:=hS.trans hS1
 clear hS1
 by_cases hg:y<1∨9999<y∨m<1∨12<m∨d<1
 · have hbad:Z1r y m d:=by unfold Z1r;omega
   rw [if_pos hbad]
   repeat'(first|refine D1 ?_|omega|refine Z1X rfl rfl rfl rfl (fun hg=>?_) (fun hg=>?_)|(refine Z1g rfl rfl rfl rfl (fun hg=>?_) (fun hg=>?_)<;>refine D1 ?_)|fail)
   all_goals repeat'(first|refine W1 ?_|omega|refine VG ?_ ?_<;>intro hg|refine VC ?_ ?_<;>intro hc)
   all_goals refine WR ?_
   all_goals exact .mk ⟨rfl,hS⟩
 · repeat'(first|refine D1 ?_|omega|refine Z1X rfl rfl rfl rfl (fun hg=>?_) (fun hg=>?_)|(refine Z1g rfl rfl rfl rfl (fun hg=>?_) (fun hg=>?_)<;>refine D1 ?_)|fail)
   refine WD_eff rfl rfl (Z5 rfl (Zb rfl rfl) (Z2t y m _ hL (by omega) (by omega))) (fun _ _ h=>by rw [h.2];exact Stp.refl _ _) rfl ?_
   rintro _ w3 ⟨rfl,rfl⟩
   repeat'(first|refine D1 ?_|omega|refine Z1X rfl rfl rfl rfl (fun hg=>?_) (fun hg=>?_)|(refine Z1g rfl rfl rfl rfl (fun hg=>?_) (fun hg=>?_)<;>refine D1 ?_)|fail)
   all_goals repeat'(first|refine W1 ?_|omega|refine VG ?_ ?_<;>intro hg|refine VC ?_ ?_<;>intro hc)
   refine WR ?_
   exact .mk ⟨by rw [if_pos (by unfold Z1r;omega)],hS⟩
   refine WR ?_
   exact .mk ⟨by rw [if_neg (by unfold Z1r;omega)],hS⟩
theorem Z3x (y m d:Int) (w:World) (hy:0≤y) (hy2:y≤100000) (hm:1≤m) (hm2:m≤12) (hd:0≤d) (hd2:d≤100000) (h1:m - 3<0→1≤y):CC 283 #[ZdJ y m d] w fun r w'=>r=.int .i64 (Jw y m d)∧Stp [] w w':=by
 refine cW1 36 Tryz.func283 ?_
 refine W ?_
 refine Z3 (Zq rfl) rfl ?_
 rintro _ w1 ⟨b,rfl,hb,hblk,hS⟩
 replace hblk:Blk w1 b 291 [.int .i64 y,.int .i64 m,.int .i64 d]:=hblk
 refine W ?_
 refine ZDr 7 [] [] [(0,0),(1,1),(2,0),(3,1),(4,0),(5,0),(6,0)] (fun w1 hS1=>?_)
 replace hblk:=hblk.up hS1
 replace hS:=hS.trans hS1
 clear hS1
 refine D ?_
 repeat'(first|refine W1 ?_|omega|refine VG ?_ ?_<;>intro hg|refine VC ?_ ?_<;>intro hc)
 all_goals refine WR ?_
 all_goals refine .mk ⟨?_,hS⟩
 all_goals unfold Jw
 rw [if_pos (by assumption)]
 congr 1
 dsimp only
 omega
 rw [if_neg (by assumption)]
theorem Z5L (y m d:Int) (w:World) (hL:JY w):CC 306 #[ZdJ y m d] w fun r w'=>r=.tuple #[.int .i64 (if Z1r y m d then 0 else Jw y m d),.int .i64 (if Z1r y m d then 5 else 0)]∧Stp [] w w':=by
 refine cW1 12 Tryz.func306 ?_
 refine W ?_
 refine Z3 (Zq rfl) rfl ?_
 rintro _ w1 ⟨b,rfl,hb,hblk,hS⟩
 replace hblk:Blk w1 b 291 [.int .i64 y,.int .i64 m,.int .i64 d]:=hblk
 replace hL:=hL.up hS
 refine W ?_
 refine CL rfl (Zr rfl) rfl (Za0 y m d _ hL) ?_
 rintro _ w2 ⟨rfl,hT⟩
 replace hblk:=hblk.up hT
 replace hS:=hS.trans hT
 clear hT
 by_cases hbad:Z1r y m d
 rw [if_pos hbad,if_pos hbad]
 refine W ?_
 refine WR ?_
 exact .mk ⟨rfl,hS⟩
 rw [if_neg hbad,if_neg hbad]
 refine W ?_
 have h31:=Z2q y m
 unfold Z1r at hbad
 refine CL rfl (Zr rfl) rfl (Z3x y m d _ (by omega) (by omega) (by omega) (by omega) (by omega) (by omega) (by omega)) ?_
 rintro _ w3 ⟨rfl,hT⟩
 refine W ?_
 refine WR ?_
 exact .mk ⟨rfl,hS.trans hT⟩
structure Hol where
 kind:Int
 month:Int
 day:Int
 wd:Int
 nth:Int
 off:Int
 move:Int
 first:Int
 last:Int
structure Clo where
 lo:Int
 hi:Int
 known:Int
structure Cal where
 week:List Bool
 hols:List Hol
 clos:List Clo
def ZD (d:Int):Bool:=decide (0≤d∧d≤3652058)
def Z2J (y:Int):Int:=
 let a:=y % 19
 let b:=y / 100
 let c:=y % 100
 let g:=(b - (b+8) / 25+1) / 3
 let h:=(19 * a+b - b / 4 - g+15) % 30
 let l:=(32+2 * (b % 4)+2 * (c / 4) - h - c % 4) % 7
 h+l - 7 * ((a+11 * h+22 * l) / 451)+114
def Z41 (y:Int):Int:=Jw y (Z2J y / 31) (Z2J y % 31+1)
def Z2X (y m wd:Int):Int:=Jw y m 1+(wd - Jw y m 1 % 7+7) % 7
def Zfu (h:Hol) (y:Int):Option Int:=
 if y<h.first∨h.last<y then none
 else if h.kind=1 then (if Z1r y h.month h.day then none else some (Jw y h.month h.day))
 else if h.kind=2 then (if Z2X y h.month h.wd+7 * (h.nth - 1)<Jw y h.month 1+ZE y h.month then some (Z2X y h.month h.wd+7 * (h.nth - 1)) else none)
 else if h.kind=3 then some (Z2X y h.month h.wd+(Jw y h.month 1+ZE y h.month - 1 - Z2X y h.month h.wd) / 7 * 7)
 else if y<1583∨9999<y then none else some (Z41 y+h.off)
def Z2Y (m d:Int):Int:=if m=1∧d % 7=5 then d+2 else if m=2∧d % 7=5 then d - 1 else if (m=1∨m=2)∧d % 7=6 then d+1 else d
def Z13 (h:Hol) (y:Int):Option Int:=(Zfu h y).bind fun d=>if ZD (Z2Y h.move d) then some (Z2Y h.move d) else none
structure Z1s (h:Hol):Prop where
 k1:1≤h.kind
 k2:h.kind≤4
 m1:0≤h.move
 m2:h.move≤2
 f1:1≤h.first
 l1:h.last≤9999
 month:h.kind≠4→1≤h.month∧h.month≤12
 day:h.kind=1→1≤h.day∧h.day≤31
 wd:h.kind=2∨h.kind=3→0≤h.wd∧h.wd≤6
 nth:h.kind=2→1≤h.nth∧h.nth≤5
 off:h.kind=4→-100≤h.off∧h.off≤100
def Z3y (l:List Hol) (d:Int):Bool:=
 ZD d && [(ofM d).y - 1,(ofM d).y,(ofM d).y+1].any fun y=>l.any fun h=>decide (Z13 h y=some d)
def Z6p (l:List Clo) (known d:Int):Bool:=l.any fun x=>decide (x.known≤known∧x.lo≤d∧d≤x.hi)
def Z5M (c:Cal) (known d:Int):Bool:=c.week.getD (d % 7).toNat false || Z6p c.clos known d || Z3y c.hols d
def Zg (c:Cal) (known d:Int):Bool:=ZD d && !Z5M c known d
structure ZaU (c:Cal):Prop where
 week:c.week.length=7
 hols:∀ h∈c.hols,Z1s h
 few:c.hols.length≤6
def JZ (opn:Int→Bool) (step:Int):Nat→Int→Int×Int
 | 0,_=>(0,31)
 | k+1,d=>if ZD d=true then (if opn d=true then (d,0) else JZ opn step k (d+step)) else (0,31)
def ZF (opn:Int→Bool) (step d:Int):Int×Int:=if ZD d=true then JZ opn step 1001 d else (0,5)
def Z1B (opn:Int→Bool) (step:Int):Nat→Int→Int×Int
 | 0,d=>(d,0)
 | k+1,d=>if (ZF opn step (d+step)).2=0 then Z1B opn step k (ZF opn step (d+step)).1 else (0,31)
def Z0V (opn:Int→Bool) (d n:Int):Int×Int:=
 if ZD d=true then (if n < -1000∨1000<n then (0,2) else Z1B opn (if n<0 then -1 else 1) n.natAbs d) else (0,5)
def Z8M (d n:Int):Int×Int:=
 if n < -200000∨200000<n then (0,2) else if ZD d=true then
  (let m:=12 * (ofM d).y+(ofM d).m - 1+n
   if m<12∨120000≤m then (0,5) else (Jw (m / 12) (m % 12+1) (min (ofM d).d (ZE (m / 12) (m % 12+1))),0))
 else (0,5)
def Jd (b:Bool):Int:=if b=true then 1 else 0
def Z2u (n:Int):Int×Int:=if n < -2147483647∨2147483647<n then (0,5) else (n,0)
def Z8N (n:Int):Int×Int:=if n<0∨3652058<n then (0,5) else (n,0)
def Z2v (ev:List Int) (n:Int):Int×Int:=if n=1∧ev.getD 1 0=-1 then (0,32) else (ev.getD n.toNat 0,0)
def Z1Q (opn:Int→Bool) (op b:Int):Int×Int:=
 if op=8 then (-b,0) else if op=19 then ZF opn 1 b else if op=20 then ZF opn (-1) b else (1 - b,0)
def ZY (opn:Int→Bool) (op a b:Int):Int×Int:=
 if op=5 then Z2u (a+b) else if op=6 then Z2u (a - b) else if op=7 then Z2u (a * b)
 else if op=9 then (Jd (decide (a<b)),0) else if op=10 then (Jd (decide (a≤b)),0) else if op=11 then (Jd (decide (a=b)),0)
 else if op=15 then Z8N (a+b) else if op=16 then Z8N (a+7 * b) else if op=17 then Z8M a b else if op=18 then Z0V opn a b
 else if op=21 then (max a b,0) else if op=22 then (min a b,0) else (b - a,0)
def arM (op:Int):Nat:=if op=1∨op=2∨op=3∨op=4 then 0 else if op=8∨op=12∨op=19∨op=20 then 1 else 2
def ZH (opn:Int→Bool) (ev:List Int) (x:Ins) (a b:Int):Int×Int:=
 if x.op=4 then Z2v ev x.n else if arM x.op=0 then (x.n,0) else if arM x.op=1 then Z1Q opn x.op b else ZY opn x.op a b
abbrev Spn:=Int×Int
def ZT (op a b r:Int):List Spn:=
 if op=19 then [(b,r)] else if op=20 then [(r,b)] else if op=18 then (if 0<b then [(a+1,r)] else if b<0 then [(r,a - 1)] else []) else []
def J6 (st:List Int) (k:Nat):Int:=if k<st.length then st.getD (st.length - 1 - k) 0 else 0
def Z0c (opn:Int→Bool) (ev:List Int) (C:List Ins):Nat→Nat→List Int→List Spn→Int×List Spn×Int
 | 0,_,_,_=>(0,[],22)
 | f + 1, i, st, sp=>
   let x:=C.getD i ⟨0,0⟩
   let b:=J6 st 0
   let a:=J6 st 1
   if x.op=24 then (b,sp,0)
   else if x.op=13 then Z0c opn ev C f x.n.toNat st sp
   else if x.op=14 then Z0c opn ev C f (if b=0 then x.n.toNat else i+1) st.dropLast sp
   else if (ZH opn ev x a b).2=0 then Z0c opn ev C f (i+1) (st.take (st.length - arM x.op)++[(ZH opn ev x a b).1]) (sp++ZT x.op a b (ZH opn ev x a b).1)
   else (0,[],(ZH opn ev x a b).2)
def J1 (opn:Int→Bool) (ev:List Int) (C:List Ins):Int×List Spn×Int:=Z0c opn ev C C.length 0 [] []
def Zgo (s:Str):Int:=if s=[100,97,121,115] then 15 else if s=[119,101,101,107,115] then 16 else if s=[109,111,110,116,104,115] then 17 else 18
def ZlY (s:Str):Int:=if s=[110,101,120,116] then 19 else if s=[112,114,101,118] then 20 else if s=[108,97,116,101,114] then 21 else if s=[101,97,114,108,105,101,114] then 22 else 23
def ZlZ (s:Str) (a b:Int):Int×Int:=
 if s=[43] then Z2u (a+b) else if s=[45] then Z2u (a - b) else if s=[42] then Z2u (a * b)
 else if s=[60] then (Jd (decide (a<b)),0) else if s=[60,61] then (Jd (decide (a≤b)),0) else if s=[61] then (Jd (decide (a=b)),0)
 else if s=[33,61] then (Jd (decide (¬ a=b)),0) else if s=[62] then (Jd (decide (b<a)),0) else if s=[62,61] then (Jd (decide (b≤a)),0) else (b,0)
def Zm (opn:Int→Bool) (ev:List Int) (k n:Int) (s:Str) (rs:List (Int×Int)):Int×Int:=
 if k=1∨k=2∨k=3 then (n,0) else if k=4 then Z2v ev (ZB s).1
 else if ¬ (rs.getD 0 (0,0)).2=0 then (0,(rs.getD 0 (0,0)).2)
 else if k=5 then (if s=[110,111,116] then (1 - (rs.getD 0 (0,0)).1,0) else (-(rs.getD 0 (0,0)).1,0))
 else if k=9 then rs.getD (2 - (rs.getD 0 (0,0)).1).toNat (0,0)
 else if rs.length=1 then Z1Q opn (ZlY s) (rs.getD 0 (0,0)).1
 else if k=6∧(s=[97,110,100]∧(rs.getD 0 (0,0)).1=0∨s=[111,114]∧(rs.getD 0 (0,0)).1=1) then ((rs.getD 0 (0,0)).1,0)
 else if ¬ (rs.getD 1 (0,0)).2=0 then (0,(rs.getD 1 (0,0)).2)
 else if k=7 then ZY opn (Zgo s) (rs.getD 0 (0,0)).1 (rs.getD 1 (0,0)).1
 else if k=8 then ZY opn (Zgo s) (rs.getD 0 (0,0)).1 (-(rs.getD 1 (0,0)).1)
 else if k=10 then ZY opn (ZlY s) (rs.getD 0 (0,0)).1 (rs.getD 1 (0,0)).1
 else ZlZ s (rs.getD 0 (0,0)).1 (rs.getD 1 (0,0)).1
def Z4 (opn:Int→Bool) (ev:List Int):Nd→Int×Int
 | .mk k n s l=>Zm opn ev k n s (l.map (Z4 opn ev))
theorem Z1t (opn:Int→Bool) (ev:List Int) (x:Nd):Z4 opn ev x=Zm opn ev x.kind x.num x.word (x.kids.map (Z4 opn ev)):=by
 cases x
 rw [Z4]
 rfl
def vOk (t v:Int):Prop:=(t=1∧-2147483647≤v∧v≤2147483647)∨(t=2∧(v=0∨v=1))∨(t=3∧0≤v∧v≤3652058)
structure Z1C (ev:List Int):Prop where
 len:ev.length=7
 day:0≤ev.getD 0 0∧ev.getD 0 0≤3652058
 served:-1≤ev.getD 1 0∧ev.getD 1 0≤3652058
 rest:∀ i,2≤i→i<7→-2147483647≤ev.getD i 0∧ev.getD i 0≤2147483647
def Ji (s:Shp) (st:List Int):Prop:=s.length=st.length∧∀ i (h:i<s.length) (h':i<st.length),vOk s[i] st[i]
theorem Zx {d:Int}:ZD d=true↔0≤d∧d≤3652058:=by unfold ZD;simp
theorem Z8O (opn:Int→Bool) (step:Int):∀ (k:Nat) (d:Int),(JZ opn step k d).2=0→ZD (JZ opn step k d).1=true∧opn (JZ opn step k d).1=true
 | 0,d,h=>by simp [JZ] at h
 | k + 1, d, h => by
   unfold JZ at h ⊢
   split at h
   rename_i h1
   rw [if_pos h1]
   split at h
   rename_i h2
   rw [if_pos h2]
   exact ⟨h1,h2⟩
   rename_i h2
   rw [if_neg h2]
   exact Z8O opn step k _ h
   simp at h
theorem Z0W {opn:Int→Bool} {step d:Int} (h:(ZF opn step d).2=0):ZD (ZF opn step d).1=true∧ZD d=true:=by
 unfold ZF at h ⊢
 split at h
 rename_i h1
 rw [if_pos h1]
 exact ⟨(Z8O _ _ _ _ h).1,h1⟩
 simp at h
theorem ZaV (opn:Int→Bool) (step:Int):∀ (k:Nat) (d:Int),ZD d=true→(Z1B opn step k d).2=0→ZD (Z1B opn step k d).1=true
 | 0,d,hd,h=>hd
 | k + 1, d, hd, h => by
   unfold Z1B at h ⊢
   split at h
   rename_i h1
   rw [if_pos h1]
   exact ZaV opn step k _ (Z0W h1).1 h
   simp at h
theorem Z42 {opn:Int→Bool} {d n:Int} (h:(Z0V opn d n).2=0):ZD (Z0V opn d n).1=true:=by
 unfold Z0V at h ⊢
 split at h
 rename_i h1
 rw [if_pos h1]
 split at h
 simp at h
 rename_i h2
 rw [if_neg h2]
 exact ZaV _ _ _ _ h1 h
 simp at h
theorem dayM_range {y m d:Int} (hy:1≤y) (hy2:y≤9999) (hm:1≤m) (hm2:m≤12) (hd:1≤d) (hd2:d≤ZE y m):0≤Jw y m d∧Jw y m d≤3652058:=by
 obtain ⟨k,hk⟩:∃ k:Nat,m=(k:Int)+1:=⟨(m - 1).toNat,by omega⟩
 subst hk
 have hk:k≤11:=by omega
 rw [Z1q y d k hk]
 have h0:Jt 1=0:=by decide
 have h1:=Z0U hy
 have h2:=Z0U (show y+1≤10000 by omega)
 have h3:Jt 10000=3652059:=by decide
 have hc0:0≤Z0T y k:=by
  have:=Z1c (y:=y) (Xu k) (by omega)
  simpa [Z0T] using this
 have hc:Z0T y (k+1)=Z0T y k+ZE y ((k:Int)+1):=by simp [Z0T]
 have hc12:=Z1c (y:=y) (show k+1≤12 by omega) (Xm _)
 have hs:=Z2W y
 have h12:=Zgn y
 omega
theorem Z7C {d n:Int} (h:(Z8M d n).2=0):ZD (Z8M d n).1=true:=by
 unfold Z8M at h ⊢
 split at h
 simp at h
 rename_i h0
 rw [if_neg h0]
 split at h
 rename_i h1
 rw [if_pos h1]
 dsimp only at h ⊢
 split at h
 simp at h
 rename_i h2
 rw [if_neg h2]
 rw [Zx] at h1 ⊢
 obtain ⟨a1,a2,a3,a4,a5,a6,a7⟩:=Z5K h1.1 h1.2
 generalize 12 * (ofM d).y+(ofM d).m - 1+n=m at h2
 have hk:(m % 12).toNat<12:=by omega
 have hl:=Z1J (y:=m / 12) hk
 rw [show (((m % 12).toNat:Int))=m % 12 by omega] at hl
 dsimp only
 exact dayM_range (by omega) (by omega) (by omega) (by omega) (by omega) (by omega)
 simp at h
theorem Ji.nil:Ji [] []:=⟨rfl,fun i h=>absurd h (XB _)⟩
theorem Ji.one {t v:Int} (h:vOk t v):Ji [t] [v]:=⟨rfl,fun i hi _=>by
 have:i=0:=by simpa using hi
 subst this;exact h⟩
theorem Ji.app {s1 s2:Shp} {l1 l2:List Int} (h1:Ji s1 l1) (h2:Ji s2 l2):Ji (s1++s2) (l1++l2):=by
 refine ⟨by simp [h1.1,h2.1],fun i h h'=>?_⟩
 by_cases hi:i<s1.length
 rw [XI hi,XI (by rw [← h1.1];exact hi)]
 exact h1.2 i hi _
 have e:=h1.1
 rw [XH (by omega),XH (by omega)]
 have:=h2.2 (i - s1.length) (by simp at h;omega) (by simp at h';omega)
 simpa [e] using this
theorem Ji.take {s:Shp} {l:List Int} (h:Ji s l) (k:Nat):Ji (s.take k) (l.take k):=
 ⟨by simp [h.1],fun i hi hi'=>by simp at hi hi' ⊢;exact h.2 i _ _⟩
theorem Ji.drop {s:Shp} {l:List Int} (h:Ji s l) (k:Nat):Ji (s.drop k) (l.drop k):=
 ⟨by simp [h.1],fun i hi hi'=>by simp at hi hi' ⊢;exact h.2 _ _ _⟩
theorem Ji.one_inv {t:Int} {l:List Int} (h:Ji [t] l):∃ v,l=[v]∧vOk t v:=by
 match l,h with
 | [v],h=>exact ⟨v,rfl,h.2 0 (by simp) (by simp)⟩
 | [],h=>exact absurd h.1 (by simp)
 | _ :: _ :: _,h=>exact absurd h.1 (by simp)
theorem Ji.two_inv {t u:Int} {l:List Int} (h:Ji [t,u] l):∃ a b,l=[a,b]∧vOk t a∧vOk u b:=by
 match l,h with
 | [a,b],h=>exact ⟨a,b,rfl,h.2 0 (by simp) (by simp),h.2 1 (by simp) (by simp)⟩
 | [],h=>exact absurd h.1 (by simp)
 | [_],h=>exact absurd h.1 (by simp)
 | _ :: _ :: _ :: _,h=>exact absurd h.1 (by simp)
theorem Z0D (l:List Int) (v:Int):J6 (l++[v]) 0=v:=by
 unfold J6
 simp
theorem ZN (l:List Int) (a b:Int):J6 (l++[a,b]) 0=b∧J6 (l++[a,b]) 1=a:=by
 unfold J6
 constructor<;>simp [List.getD_eq_getElem?_getD,List.getElem?_append_right]
theorem Z5h {n:Int} (h:(Z2u n).2=0):vOk 1 (Z2u n).1:=by
 unfold Z2u at h ⊢
 split at h
 simp at h
 rename_i h1;rw [if_neg h1];left;refine ⟨rfl,?_,?_⟩<;>dsimp only<;>omega
theorem Z43 {n:Int} (h:(Z8N n).2=0):vOk 3 (Z8N n).1:=by
 unfold Z8N at h ⊢
 split at h
 simp at h
 rename_i h1;rw [if_neg h1];right;right;refine ⟨rfl,?_,?_⟩<;>dsimp only<;>omega
theorem Z0E (b:Bool):vOk 2 (Jd b):=by
 right;left;refine ⟨rfl,?_⟩;unfold Jd;cases b<;>simp
theorem vOk.days {v:Int} (h:ZD v=true):vOk 3 v:=.inr (.inr ⟨rfl,Zx.1 h⟩)
theorem vOk.n {v:Int} (h:vOk 1 v):-2147483647≤v∧v≤2147483647:=by unfold vOk at h;omega
theorem vOk.b {v:Int} (h:vOk 2 v):v=0∨v=1:=by unfold vOk at h;omega
theorem vOk.d {v:Int} (h:vOk 3 v):0≤v∧v≤3652058:=by unfold vOk at h;omega
theorem Z5N {x:Ins} (h:(ZS x).2.2.2=true):1≤x.op∧x.op≤24:=by
 by_cases h1:1≤x.op∧x.op≤24
 exact h1
 · exfalso
   have:ZS x=([],[],[],false):=by
    unfold ZS
    repeat rw [if_neg (by omega)]
   rw [this] at h
   simp at h
theorem ZjB {opn:Int→Bool} {ev:List Int} (hev:Z1C ev) {x:Ins} {ts vs:List Int} (hx:(ZS x).2.2.2=true) (h24:x.op≠24) (h13:x.op≠13) (h14:x.op≠14)
 (ht:ts=(ZS x).1∨(ZS x).2.1≠[]∧ts=(ZS x).2.1) (hs:Ji ts vs) :
 ts.length=arM x.op∧(ZS x).1.length=arM x.op∧∀ st,((ZH opn ev x (J6 (st++vs) 1) (J6 (st++vs) 0)).2=0→Ji (ZS x).2.2.1 [(ZH opn ev x (J6 (st++vs) 1) (J6 (st++vs) 0)).1]):=by
 have hr:=Z5N hx
 obtain ⟨op,n⟩:=x
 dsimp only at *
 have hop:op=1∨op=2∨op=3∨op=4∨op=5∨op=6∨op=7∨op=8∨op=9∨op=10∨op=11∨op=12∨op=15∨op=16∨op=17∨op=18∨op=19∨op=20∨op=21∨op=22∨op=23:=by omega
 rcases hop with rfl|rfl|rfl|rfl|rfl|rfl|rfl|rfl|rfl|rfl|rfl|rfl|rfl|rfl|rfl|rfl|rfl|rfl|rfl|rfl|rfl
 case inl|inr.inl|inr.inr.inl=>
  simp [ZS] at hx ht ⊢
  subst ht
  refine ⟨rfl,rfl,fun st _=>Ji.one ?_⟩
  simp [ZH,arM,vOk]
  omega
 case inr.inr.inr.inl=>
  simp [ZS] at hx ht ⊢
  subst ht
  refine ⟨rfl,rfl,fun st h=>Ji.one ?_⟩
  simp only [ZH,if_true] at h ⊢
  unfold Z2v at h ⊢
  split at h
  simp at h
  rename_i h1
  rw [if_neg h1]
  dsimp only
  have h0:=hev.day
  have hs1:=hev.served
  by_cases h01:n=0∨n=1
  rw [if_pos h01]
  right;right
  rcases h01 with rfl|rfl
  exact ⟨rfl,h0.1,h0.2⟩
  refine ⟨rfl,?_,hs1.2⟩
  have:¬ ev.getD 1 0=-1:=fun h=>h1 ⟨rfl,h⟩
  show 0≤ev.getD 1 0
  omega
  rw [if_neg h01]
  left
  exact ⟨rfl,hev.rest n.toNat (by omega) (by omega)⟩
 all_goals
  simp [ZS] at hx ht ⊢
  try subst hx
 all_goals
  first
  | (subst ht
     obtain ⟨b,rfl,hb⟩:=hs.one_inv
     refine ⟨rfl,rfl,fun st h=>Ji.one ?_⟩
     simp only [Z0D] at h ⊢
     simp [ZH,arM,Z1Q,ZY] at h ⊢
     first
     | exact .days (Z0W h).1
     | (have:=hb.n;unfold vOk;omega)
     | (have:=hb.b;unfold vOk;omega))
  | (rcases ht with rfl | rfl <;>
     (obtain ⟨a,b,rfl,ha,hb⟩:=hs.two_inv
      refine ⟨rfl,rfl,fun st h=>Ji.one ?_⟩
      simp only [ZN] at h ⊢
      simp [ZH,arM,Z1Q,ZY] at h ⊢
      exact Z0E _))
  | (subst ht
     obtain ⟨a,b,rfl,ha,hb⟩:=hs.two_inv
     refine ⟨rfl,rfl,fun st h=>Ji.one ?_⟩
     simp only [ZN] at h ⊢
     simp [ZH,arM,Z1Q,ZY] at h ⊢
     first
     | exact Z5h h
     | exact Z43 h
     | exact .days (Z7C h)
     | exact .days (Z42 h)
     | (have:=ha.d;have:=hb.d;unfold vOk;omega))
theorem Z8P {opn:Int→Bool} {ev:List Int} (hev:Z1C ev) {x:Ins} {s nx:Shp} {st:List Int} (hn:J5 x s=some nx) (h24:x.op≠24) (h13:x.op≠13) (h14:x.op≠14) (hs:Ji s st)
 (he:(ZH opn ev x (J6 st 1) (J6 st 0)).2=0):Ji nx (st.take (st.length - arM x.op)++[(ZH opn ev x (J6 st 1) (J6 st 0)).1]):=by
 unfold J5 at hn
 dsimp only at hn
 split at hn
 rename_i hc
 obtain ⟨c1,c2,c3,c4⟩:=hc
 simp only [Xj] at hn
 subst hn
 have hsp:st=st.take (s.length - (ZS x).1.length)++st.drop (s.length - (ZS x).1.length):=(XS _ _).symm
 obtain ⟨v1,v2,v3⟩:=ZjB (opn:=opn) hev c1 h24 h13 h14 c3 (hs.drop _)
 have v4:=v3 (st.take (s.length - (ZS x).1.length))
 rw [← hsp] at v4
 rw [← v2,← hs.1]
 exact (hs.take _).app (v4 he)
 cases hn
structure Z7D where
 k:Int
 s:Str
 ts:List Int
 t:Int
 L:List Int
deriving DecidableEq
def Z27:List Z7D:=[⟨5,[45],[1],1,[8]⟩,⟨5,[110,111,116],[2],2,[12]⟩,⟨10,[110,101,120,116],[3],3,[19]⟩,⟨10,[112,114,101,118],[3],3,[20]⟩,⟨10,[108,97,116,101,114],[3,3],3,[21]⟩,⟨10,[101,97,114,108,105,101,114],[3,3],3,[22]⟩,⟨10,[98,101,116,119,101,101,110],[3,3],1,[23]⟩,
 ⟨7,[100,97,121,115],[3,1],3,[15]⟩,⟨7,[119,101,101,107,115],[3,1],3,[16]⟩,⟨7,[109,111,110,116,104,115],[3,1],3,[17]⟩,⟨7,[99,111,117,114,116,100,97,121,115],[3,1],3,[18]⟩,
 ⟨8,[100,97,121,115],[3,1],3,[8,15]⟩,⟨8,[119,101,101,107,115],[3,1],3,[8,16]⟩,⟨8,[109,111,110,116,104,115],[3,1],3,[8,17]⟩,⟨8,[99,111,117,114,116,100,97,121,115],[3,1],3,[8,18]⟩,
 ⟨6,[43],[1,1],1,[5]⟩,⟨6,[45],[1,1],1,[6]⟩,⟨6,[42],[1,1],1,[7]⟩,
 ⟨6,[60],[1,1],2,[9]⟩,⟨6,[60,61],[1,1],2,[10]⟩,⟨6,[61],[1,1],2,[11]⟩,⟨6,[33,61],[1,1],2,[11,12]⟩,⟨6,[62],[1,1],2,[10,12]⟩,⟨6,[62,61],[1,1],2,[9,12]⟩,
 ⟨6,[60],[3,3],2,[9]⟩,⟨6,[60,61],[3,3],2,[10]⟩,⟨6,[61],[3,3],2,[11]⟩,⟨6,[33,61],[3,3],2,[11,12]⟩,⟨6,[62],[3,3],2,[10,12]⟩,⟨6,[62,61],[3,3],2,[9,12]⟩]
theorem Zfv:Z2K.all (fun e=>Z27.any (fun r=>decide (r.k=e.1.kind∧r.s=e.1.s∧r.ts=(if e.1.b=0 then [e.1.a] else [e.1.a,e.1.b])∧e.1.c=0) && (match e.2 with|.int .i64 t=>decide (t=r.t)|_=>false)))=true:=by decide +kernel
theorem Zm0:JO.all (fun s=>Z27.any (fun r=>decide (r.k=6∧r.s=s∧r.ts=[1,1]∧r.t=1)))=true:=by decide +kernel
theorem Zm1:Z1P.all (fun s=>Z27.any (fun r=>decide (r.k=6∧r.s=s∧r.ts=[1,1]∧r.t=2)) && Z27.any (fun r=>decide (r.k=6∧r.s=s∧r.ts=[3,3]∧r.t=2)))=true:=by decide +kernel
theorem ZdK:Z27.all (fun r=>decide (r.k≠9) && decide (r.k≠1∧r.k≠2∧r.k≠3∧r.k≠4) && decide (r.ts≠[]) && !(decide (r.k=6) && (decide (r.s=[97,110,100]) || decide (r.s=[111,114]))) && okL (r.L.map fun o=>⟨o,0⟩) r.ts r.t && decide (Z2o r.k r.s++(if r.k=6∧r.s=[45] then [⟨6,0⟩] else [])=r.L.map fun o=>(⟨o,0⟩:Ins)))=true:=by decide +kernel
def ZjC (k n:Int) (s:Str) (t:Int):Prop:=
 ((k=1∨k=2∨k=3)∧t=k∧vOk k n)∨(k=4∧∃ i:Nat,i<7∧s=Z8.getD i []∧(ZB s).1=(i:Int)∧t=if i≤1 then 3 else 1)
theorem ZbQ {k n:Int} {s:Str} (h:Z05 k n s≠0):ZjC k n s (Z05 k n s):=by
 unfold Z05 at h ⊢
 by_cases k4:k=4
 rw [if_pos k4] at h ⊢
 split at h
 · rename_i hn
   rw [if_pos hn]
   have h1:(ZB s).2.2=true:=by
    cases hb:(ZB s).2.2 with
    | true=>rfl
    | false=>exact absurd (Z4p hb) h
   obtain ⟨i,hi,hsn,hii⟩:=(Z1n s (ZB s).1).1 ⟨h1,rfl⟩
   refine .inr ⟨k4,i,hi,hsn,hii,?_⟩
   subst hsn
   match i,hi with
   | 0,_=>decide +kernel
   | 1,_=>decide +kernel
   | 2,_=>decide +kernel
   | 3,_=>decide +kernel
   | 4,_=>decide +kernel
   | 5,_=>decide +kernel
   | 6,_=>decide +kernel
 exact absurd rfl h
 rw [if_neg k4] at h ⊢
 split at h
 exact absurd rfl h
 rename_i hs0
 rw [if_neg hs0]
 left
 unfold vOk
 by_cases k1:k=1
 rw [if_pos k1] at h ⊢
 split at h
 rename_i h2;rw [if_pos h2];subst k1;exact ⟨.inl rfl,rfl,.inl ⟨rfl,by omega,by omega⟩⟩
 exact absurd rfl h
 rw [if_neg k1] at h ⊢
 by_cases k2:k=2
 rw [if_pos k2] at h ⊢
 split at h
 rename_i h2;rw [if_pos h2];subst k2;exact ⟨.inr (.inl rfl),rfl,.inr (.inl ⟨rfl,by omega⟩)⟩
 exact absurd rfl h
 rw [if_neg k2] at h ⊢
 by_cases k3:k=3
 rw [if_pos k3] at h ⊢
 split at h
 rename_i h2;rw [if_pos h2];subst k3;exact ⟨.inr (.inr rfl),rfl,.inr (.inr ⟨rfl,by omega,by omega⟩)⟩
 exact absurd rfl h
 rw [if_neg k3] at h;exact absurd rfl h
theorem Z3z {k n:Int} {s:Str} {l:List Nd} (ht:Z9 (.mk k n s l)≠0) :
 (l=[]∧ZjC k n s (Z9 (.mk k n s l)))∨(k=9∧∃ a b c,l=[a,b,c]∧Z9 a=2∧Z9 b=Z9 (.mk k n s l)∧Z9 c=Z9 (.mk k n s l))∨
 (k=6∧(s=[97,110,100]∨s=[111,114])∧∃ a b,l=[a,b]∧Z9 a=2∧Z9 b=2∧Z9 (.mk k n s l)=2)∨
 (∃ r∈Z27,r.k=k∧r.s=s∧l.map Z9=r.ts∧Z9 (.mk k n s l)=r.t):=by
 have hteq:Z9 (.mk k n s l)=ZX k n s (l.map Z9):=Jr _
 rw [hteq] at ht ⊢
 rcases Z2T ht with ⟨he,hc⟩|⟨h0,h3,hn0,hc⟩
 left
 rw [hc] at ht ⊢
 exact ⟨by simpa using he,ZbQ ht⟩
 have hlen:l.length≤3:=by simpa using h3
 rcases hc with ⟨h9,hts⟩|⟨h6,hg2,hbt⟩|hsg
 right;left
 have hl3:l.length=3:=by have:=congrArg List.length hts;simpa using this
 obtain ⟨a,b,c,rfl⟩:=Z7x hl3
 simp only [Xl,Xs,Yao,and_true] at hts
 exact ⟨h9,a,b,c,rfl,hts.1,hts.2.1,hts.2.2⟩
 subst h6
 rcases Z8A h0 h3 hn0 hg2 with ⟨hb0,hts⟩|⟨hb0,hts⟩
 exfalso
 apply ht
 rw [hbt,hb0]
 have ha0:(l.map Z9).getD 0 0≠0:=fun h=>h0 (by rw [hts,h];simp)
 unfold Z0P
 split
 rw [if_neg (by omega)]
 split
 rw [if_neg (by omega)]
 split
 rw [if_neg (by omega)]
 rfl
 have hl2:l.length=2:=by have:=congrArg List.length hts;simpa using this
 obtain ⟨a,b,rfl⟩:=Z5g hl2
 have ra:=Z1G a
 rw [hbt] at ht ⊢
 simp only [Xl,Xs,Xq,Xy] at ht ⊢
 have a0:Z9 a≠0:=fun h=>h0 (by simp [h])
 unfold Z0P at ht ⊢
 by_cases hA:s∈JO
 rw [if_pos hA] at ht ⊢
 split at ht
 rename_i hab
 rw [if_pos hab]
 right;right;right
 have:=Xv.1 Zm0 s hA
 obtain ⟨r,hr,hp⟩:=XO.1 this
 obtain ⟨p1,p2,p3,p4⟩:=of_decide_eq_true hp
 exact ⟨r,hr,p1,p2,by rw [p3,← hab.1,hab.2],p4.symm⟩
 exact absurd rfl ht
 rw [if_neg hA] at ht ⊢
 by_cases hC:s∈Z1P
 rw [if_pos hC] at ht ⊢
 split at ht
 rename_i hab
 rw [if_pos hab]
 right;right;right
 have:=Xv.1 Zm1 s hC
 rw [Xg] at this
 have h13:Z9 a=1∨Z9 a=3:=by omega
 rcases h13 with h1|h1
 obtain ⟨r,hr,hp⟩:=XO.1 this.1
 obtain ⟨p1,p2,p3,p4⟩:=of_decide_eq_true hp
 exact ⟨r,hr,p1,p2,by rw [p3,← hab.1,h1],p4.symm⟩
 obtain ⟨r,hr,hp⟩:=XO.1 this.2
 obtain ⟨p1,p2,p3,p4⟩:=of_decide_eq_true hp
 exact ⟨r,hr,p1,p2,by rw [p3,← hab.1,h1],p4.symm⟩
 exact absurd rfl ht
 rw [if_neg hC] at ht ⊢
 split at ht
 rename_i hL
 rw [if_pos hL]
 split at ht
 rename_i hab
 rw [if_pos hab]
 right;right;left
 have hs:s=[97,110,100]∨s=[111,114]:=by simpa [JP] using hL
 exact ⟨trivial,hs,a,b,rfl,hab.2,by rw [← hab.1,hab.2],rfl⟩
 exact absurd rfl ht
 exact absurd rfl ht
 right;right;right
 rw [hsg] at ht ⊢
 obtain ⟨e,he,hx,hv⟩:=Z4t ht
 have:=Xv.1 Zfv e he
 obtain ⟨r,hr,hp⟩:=XO.1 this
 rw [Xg] at hp
 obtain ⟨p1,p2,p3,p4⟩:=of_decide_eq_true hp.1
 have p5:=hp.2
 rw [hv] at p5
 have p6:=of_decide_eq_true p5
 rw [← hx] at p1 p2 p3 p4
 dsimp only at p1 p2 p3 p4
 refine ⟨r,hr,p1,p2,?_,p6⟩
 rw [p3]
 rcases Z8A h0 h3 hn0 p4 with ⟨hb0,hts⟩|⟨hb0,hts⟩
 rw [if_pos hb0];exact hts
 rw [if_neg hb0];exact hts
def Z2w (opn:Int→Bool) (ev:List Int):List Int→List Int→Int×List Int
 | [],st=>(0,st)
 | o :: L,st=>if (ZH opn ev ⟨o,0⟩ (J6 st 1) (J6 st 0)).2=0 then Z2w opn ev L (st.take (st.length - arM o)++[(ZH opn ev ⟨o,0⟩ (J6 st 1) (J6 st 0)).1]) else ((ZH opn ev ⟨o,0⟩ (J6 st 1) (J6 st 0)).2,st)
abbrev okv (vs:List Int):List (Int×Int):=vs.map fun v=>(v,0)
def Z28 (opn:Int→Bool) (ev:List Int) (L st0 vs:List Int) (v:Int×Int):Prop:=(Z2w opn ev L (st0++vs)).1=v.2∧(v.2=0→(Z2w opn ev L (st0++vs)).2=st0++[v.1])
theorem Zm2 (l:List Int) (a b:Int):(l++[a,b]).take ((l++[a,b]).length - 2)=l:=by rw [Xd];simp
theorem Zo6 (l:List Int) (a:Int):(l++[a]).take ((l++[a]).length - 1)=l:=by rw [Xd];simp
theorem Zo7 (l:List Int) (a b:Int):(l++[a,b]).take ((l++[a,b]).length - 1)=l++[a]:=by rw [Xd];simp [Yac,Xx]
theorem Zgp {opn:Int→Bool} {ev:List Int} {o a b:Int} {st0:List Int} (h:arM o=2):Z28 opn ev [o] st0 [a,b] (ZH opn ev ⟨o,0⟩ a b):=by
 unfold Z28 Z2w
 rw [(ZN st0 a b).1,(ZN st0 a b).2,h,Zm2]
 by_cases he:(ZH opn ev ⟨o,0⟩ a b).2=0
 rw [if_pos he]
 exact ⟨by rw [he];rfl,fun _=>rfl⟩
 rw [if_neg he]
 exact ⟨rfl,fun h=>absurd h he⟩
theorem Z8Q {opn:Int→Bool} {ev:List Int} {o b:Int} {st0:List Int} (h:arM o=1):Z28 opn ev [o] st0 [b] (Z1Q opn o b):=by
 have hv:∀ a,ZH opn ev ⟨o,0⟩ a b=Z1Q opn o b:=by
  intro a
  unfold ZH
  have h4:o≠4:=by intro h4;subst h4;simp [arM] at h
  dsimp only
  rw [if_neg h4,if_neg (by omega),if_pos h]
 unfold Z28 Z2w
 rw [Z0D,hv,h,Zo6]
 by_cases he:(Z1Q opn o b).2=0
 rw [if_pos he]
 exact ⟨by rw [he];rfl,fun _=>rfl⟩
 rw [if_neg he]
 exact ⟨rfl,fun h=>absurd h he⟩
theorem Zm3 {opn:Int→Bool} {ev:List Int} {o a b:Int} {st0:List Int} (h:arM o=2):Z28 opn ev [8,o] st0 [a,b] (ZH opn ev ⟨o,0⟩ a (-b)):=by
 have hl:=Zgp (opn:=opn) (ev:=ev) (a:=a) (b:=-b) (st0:=st0) h
 unfold Z28 at hl ⊢
 have e:Z2w opn ev [8,o] (st0++[a,b])=Z2w opn ev [o] (st0++[a,-b]):=by
  rw [Z2w,(ZN st0 a b).1,(ZN st0 a b).2]
  have e1:ZH opn ev ⟨8,0⟩ a b=(-b,0):=rfl
  rw [e1,if_pos rfl]
  have e2:arM 8=1:=rfl
  rw [e2,Zo7,Xt]
  rfl
 rw [e]
 exact hl
theorem Zm4 {opn:Int→Bool} {ev:List Int} {o:Int} (h:arM o=2) (a b:Int):ZH opn ev ⟨o,0⟩ a b=ZY opn o a b:=by
 unfold ZH
 have h4:o≠4:=by intro h4;subst h4;simp [arM] at h
 dsimp only
 rw [if_neg h4,if_neg (by omega),if_neg (by omega)]
theorem Z09 {opn:Int→Bool} {ev:List Int} {o a b:Int} {st0:List Int} (h:arM o=2):Z28 opn ev [o] st0 [a,b] (ZY opn o a b):=Zm4 (opn:=opn) (ev:=ev) h a b ▸ Zgp h
theorem Z7E {opn:Int→Bool} {ev:List Int} {o a b:Int} {st0:List Int} (h:arM o=2):Z28 opn ev [8,o] st0 [a,b] (ZY opn o a (-b)):=Zm4 (opn:=opn) (ev:=ev) h a (-b) ▸ Zm3 h
theorem Z4C {opn:Int→Bool} {ev:List Int} {o a b v:Int} {st0:List Int} (h:arM o=2) (hv:ZH opn ev ⟨o,0⟩ a b=(v,0)):Z28 opn ev [o,12] st0 [a,b] (1 - v,0):=by
 have e:Z2w opn ev [o,12] (st0++[a,b])=Z2w opn ev [12] (st0++[v]):=by
  rw [Z2w,(ZN st0 a b).1,(ZN st0 a b).2,hv,if_pos rfl,h,Zm2]
 have hl:=Z8Q (opn:=opn) (ev:=ev) (o:=12) (b:=v) (st0:=st0) rfl
 unfold Z28 at hl ⊢
 rw [e]
 exact hl
theorem Z3d (p q:Prop) [Decidable p] [Decidable q] (h:¬ p↔q):1 - Jd (decide p)=Jd (decide q):=by
 by_cases hp:p
 have hq:¬ q:=fun x=>(h.2 x) hp
 rw [decide_eq_true hp,decide_eq_false hq];rfl
 have hq:q:=h.1 hp
 rw [decide_eq_false hp,decide_eq_true hq];rfl
def PL (r:Z7D):Prop:=∀ (opn:Int→Bool) (ev:List Int) (n:Int) (st0 vs:List Int),Ji r.ts vs→Z28 opn ev r.L st0 vs (Zm opn ev r.k n r.s (okv vs))
theorem pl0:PL ⟨5,[45],[1],1,[8]⟩:=by
 intro opn ev n st0 vs hv
 dsimp only at hv ⊢
 obtain ⟨b,rfl,hb⟩:=hv.one_inv
 have e:Zm opn ev 5 n [45] (okv [b])=Z1Q opn 8 b:=by kernel_rfl
 rw [e]
 exact Z8Q rfl
theorem pl1:PL ⟨5,[110,111,116],[2],2,[12]⟩:=by
 intro opn ev n st0 vs hv
 dsimp only at hv ⊢
 obtain ⟨b,rfl,hb⟩:=hv.one_inv
 have e:Zm opn ev 5 n [110,111,116] (okv [b])=Z1Q opn 12 b:=by kernel_rfl
 rw [e]
 exact Z8Q rfl
theorem pl2:PL ⟨10,[110,101,120,116],[3],3,[19]⟩:=by
 intro opn ev n st0 vs hv
 dsimp only at hv ⊢
 obtain ⟨b,rfl,hb⟩:=hv.one_inv
 have e:Zm opn ev 10 n [110,101,120,116] (okv [b])=Z1Q opn 19 b:=by kernel_rfl
 rw [e]
 exact Z8Q rfl
theorem pl3:PL ⟨10,[112,114,101,118],[3],3,[20]⟩:=by
 intro opn ev n st0 vs hv
 dsimp only at hv ⊢
 obtain ⟨b,rfl,hb⟩:=hv.one_inv
 have e:Zm opn ev 10 n [112,114,101,118] (okv [b])=Z1Q opn 20 b:=by kernel_rfl
 rw [e]
 exact Z8Q rfl
theorem pl4:PL ⟨10,[108,97,116,101,114],[3,3],3,[21]⟩:=by
 intro opn ev n st0 vs hv
 dsimp only at hv ⊢
 obtain ⟨a,b,rfl,ha,hb⟩:=hv.two_inv
 have e:Zm opn ev 10 n [108,97,116,101,114] (okv [a,b])=ZY opn 21 a b:=by kernel_rfl
 rw [e]
 exact Z09 rfl
theorem pl5:PL ⟨10,[101,97,114,108,105,101,114],[3,3],3,[22]⟩:=by
 intro opn ev n st0 vs hv
 dsimp only at hv ⊢
 obtain ⟨a,b,rfl,ha,hb⟩:=hv.two_inv
 have e:Zm opn ev 10 n [101,97,114,108,105,101,114] (okv [a,b])=ZY opn 22 a b:=by kernel_rfl
 rw [e]
 exact Z09 rfl
theorem pl6:PL ⟨10,[98,101,116,119,101,101,110],[3,3],1,[23]⟩:=by
 intro opn ev n st0 vs hv
 dsimp only at hv ⊢
 obtain ⟨a,b,rfl,ha,hb⟩:=hv.two_inv
 have e:Zm opn ev 10 n [98,101,116,119,101,101,110] (okv [a,b])=ZY opn 23 a b:=by kernel_rfl
 rw [e]
 exact Z09 rfl
theorem pl7:PL ⟨7,[100,97,121,115],[3,1],3,[15]⟩:=by
 intro opn ev n st0 vs hv
 dsimp only at hv ⊢
 obtain ⟨a,b,rfl,ha,hb⟩:=hv.two_inv
 have e:Zm opn ev 7 n [100,97,121,115] (okv [a,b])=ZY opn 15 a b:=by kernel_rfl
 rw [e]
 exact Z09 rfl
theorem pl8:PL ⟨7,[119,101,101,107,115],[3,1],3,[16]⟩:=by
 intro opn ev n st0 vs hv
 dsimp only at hv ⊢
 obtain ⟨a,b,rfl,ha,hb⟩:=hv.two_inv
 have e:Zm opn ev 7 n [119,101,101,107,115] (okv [a,b])=ZY opn 16 a b:=by kernel_rfl
 rw [e]
 exact Z09 rfl
theorem pl9:PL ⟨7,[109,111,110,116,104,115],[3,1],3,[17]⟩:=by
 intro opn ev n st0 vs hv
 dsimp only at hv ⊢
 obtain ⟨a,b,rfl,ha,hb⟩:=hv.two_inv
 have e:Zm opn ev 7 n [109,111,110,116,104,115] (okv [a,b])=ZY opn 17 a b:=by kernel_rfl
 rw [e]
 exact Z09 rfl
theorem Zo8:PL ⟨7,[99,111,117,114,116,100,97,121,115],[3,1],3,[18]⟩:=by
 intro opn ev n st0 vs hv
 dsimp only at hv ⊢
 obtain ⟨a,b,rfl,ha,hb⟩:=hv.two_inv
 have e:Zm opn ev 7 n [99,111,117,114,116,100,97,121,115] (okv [a,b])=ZY opn 18 a b:=by kernel_rfl
 rw [e]
 exact Z09 rfl
theorem Zo9:PL ⟨8,[100,97,121,115],[3,1],3,[8,15]⟩:=by
 intro opn ev n st0 vs hv
 dsimp only at hv ⊢
 obtain ⟨a,b,rfl,ha,hb⟩:=hv.two_inv
 have e:Zm opn ev 8 n [100,97,121,115] (okv [a,b])=ZY opn 15 a (-b):=by kernel_rfl
 rw [e]
 exact Z7E rfl
theorem Zoa:PL ⟨8,[119,101,101,107,115],[3,1],3,[8,16]⟩:=by
 intro opn ev n st0 vs hv
 dsimp only at hv ⊢
 obtain ⟨a,b,rfl,ha,hb⟩:=hv.two_inv
 have e:Zm opn ev 8 n [119,101,101,107,115] (okv [a,b])=ZY opn 16 a (-b):=by kernel_rfl
 rw [e]
 exact Z7E rfl
theorem Zob:PL ⟨8,[109,111,110,116,104,115],[3,1],3,[8,17]⟩:=by
 intro opn ev n st0 vs hv
 dsimp only at hv ⊢
 obtain ⟨a,b,rfl,ha,hb⟩:=hv.two_inv
 have e:Zm opn ev 8 n [109,111,110,116,104,115] (okv [a,b])=ZY opn 17 a (-b):=by kernel_rfl
 rw [e]
 exact Z7E rfl
theorem Zoc:PL ⟨8,[99,111,117,114,116,100,97,121,115],[3,1],3,[8,18]⟩:=by
 intro opn ev n st0 vs hv
 dsimp only at hv ⊢
 obtain ⟨a,b,rfl,ha,hb⟩:=hv.two_inv
 have e:Zm opn ev 8 n [99,111,117,114,116,100,97,121,115] (okv [a,b])=ZY opn 18 a (-b):=by kernel_rfl
 rw [e]
 exact Z7E rfl
theorem Zod:PL ⟨6,[43],[1,1],1,[5]⟩:=by
 intro opn ev n st0 vs hv
 dsimp only at hv ⊢
 obtain ⟨a,b,rfl,ha,hb⟩:=hv.two_inv
 have e:Zm opn ev 6 n [43] (okv [a,b])=ZY opn 5 a b:=by kernel_rfl
 rw [e]
 exact Z09 rfl
theorem Zoe:PL ⟨6,[45],[1,1],1,[6]⟩:=by
 intro opn ev n st0 vs hv
 dsimp only at hv ⊢
 obtain ⟨a,b,rfl,ha,hb⟩:=hv.two_inv
 have e:Zm opn ev 6 n [45] (okv [a,b])=ZY opn 6 a b:=by kernel_rfl
 rw [e]
 exact Z09 rfl
theorem Zof:PL ⟨6,[42],[1,1],1,[7]⟩:=by
 intro opn ev n st0 vs hv
 dsimp only at hv ⊢
 obtain ⟨a,b,rfl,ha,hb⟩:=hv.two_inv
 have e:Zm opn ev 6 n [42] (okv [a,b])=ZY opn 7 a b:=by kernel_rfl
 rw [e]
 exact Z09 rfl
theorem Zog:PL ⟨6,[60],[1,1],2,[9]⟩:=by
 intro opn ev n st0 vs hv
 dsimp only at hv ⊢
 obtain ⟨a,b,rfl,ha,hb⟩:=hv.two_inv
 have e:Zm opn ev 6 n [60] (okv [a,b])=ZY opn 9 a b:=by kernel_rfl
 rw [e]
 exact Z09 rfl
theorem Zoh:PL ⟨6,[60,61],[1,1],2,[10]⟩:=by
 intro opn ev n st0 vs hv
 dsimp only at hv ⊢
 obtain ⟨a,b,rfl,ha,hb⟩:=hv.two_inv
 have e:Zm opn ev 6 n [60,61] (okv [a,b])=ZY opn 10 a b:=by kernel_rfl
 rw [e]
 exact Z09 rfl
theorem Zoi:PL ⟨6,[61],[1,1],2,[11]⟩:=by
 intro opn ev n st0 vs hv
 dsimp only at hv ⊢
 obtain ⟨a,b,rfl,ha,hb⟩:=hv.two_inv
 have e:Zm opn ev 6 n [61] (okv [a,b])=ZY opn 11 a b:=by kernel_rfl
 rw [e]
 exact Z09 rfl
theorem Zoj:PL ⟨6,[33,61],[1,1],2,[11,12]⟩:=by
 intro opn ev n st0 vs hv
 dsimp only at hv ⊢
 obtain ⟨a,b,rfl,ha,hb⟩:=hv.two_inv
 have e:Zm opn ev 6 n [33,61] (okv [a,b])=(Jd (decide (¬ a=b)),0):=by kernel_rfl
 have hl:=Z4C (opn:=opn) (ev:=ev) (o:=11) (a:=a) (b:=b) (v:=Jd (decide (a=b))) (st0:=st0) rfl rfl
 rw [Z3d (a=b) (¬ a=b) Iff.rfl] at hl
 rw [e]
 exact hl
theorem Zok:PL ⟨6,[62],[1,1],2,[10,12]⟩:=by
 intro opn ev n st0 vs hv
 dsimp only at hv ⊢
 obtain ⟨a,b,rfl,ha,hb⟩:=hv.two_inv
 have e:Zm opn ev 6 n [62] (okv [a,b])=(Jd (decide (b<a)),0):=by kernel_rfl
 have hl:=Z4C (opn:=opn) (ev:=ev) (o:=10) (a:=a) (b:=b) (v:=Jd (decide (a≤b))) (st0:=st0) rfl rfl
 rw [Z3d (a≤b) (b<a) (by omega)] at hl
 rw [e]
 exact hl
theorem Zol:PL ⟨6,[62,61],[1,1],2,[9,12]⟩:=by
 intro opn ev n st0 vs hv
 dsimp only at hv ⊢
 obtain ⟨a,b,rfl,ha,hb⟩:=hv.two_inv
 have e:Zm opn ev 6 n [62,61] (okv [a,b])=(Jd (decide (b≤a)),0):=by kernel_rfl
 have hl:=Z4C (opn:=opn) (ev:=ev) (o:=9) (a:=a) (b:=b) (v:=Jd (decide (a<b))) (st0:=st0) rfl rfl
 rw [Z3d (a<b) (b≤a) (by omega)] at hl
 rw [e]
 exact hl
theorem Zom:PL ⟨6,[60],[3,3],2,[9]⟩:=by
 intro opn ev n st0 vs hv
 dsimp only at hv ⊢
 obtain ⟨a,b,rfl,ha,hb⟩:=hv.two_inv
 have e:Zm opn ev 6 n [60] (okv [a,b])=ZY opn 9 a b:=by kernel_rfl
 rw [e]
 exact Z09 rfl
theorem Zon:PL ⟨6,[60,61],[3,3],2,[10]⟩:=by
 intro opn ev n st0 vs hv
 dsimp only at hv ⊢
 obtain ⟨a,b,rfl,ha,hb⟩:=hv.two_inv
 have e:Zm opn ev 6 n [60,61] (okv [a,b])=ZY opn 10 a b:=by kernel_rfl
 rw [e]
 exact Z09 rfl
theorem Zoo:PL ⟨6,[61],[3,3],2,[11]⟩:=by
 intro opn ev n st0 vs hv
 dsimp only at hv ⊢
 obtain ⟨a,b,rfl,ha,hb⟩:=hv.two_inv
 have e:Zm opn ev 6 n [61] (okv [a,b])=ZY opn 11 a b:=by kernel_rfl
 rw [e]
 exact Z09 rfl
theorem Zop:PL ⟨6,[33,61],[3,3],2,[11,12]⟩:=by
 intro opn ev n st0 vs hv
 dsimp only at hv ⊢
 obtain ⟨a,b,rfl,ha,hb⟩:=hv.two_inv
 have e:Zm opn ev 6 n [33,61] (okv [a,b])=(Jd (decide (¬ a=b)),0):=by kernel_rfl
 have hl:=Z4C (opn:=opn) (ev:=ev) (o:=11) (a:=a) (b:=b) (v:=Jd (decide (a=b))) (st0:=st0) rfl rfl
 rw [Z3d (a=b) (¬ a=b) Iff.rfl] at hl
 rw [e]
 exact hl
theorem Zoq:PL ⟨6,[62],[3,3],2,[10,12]⟩:=by
 intro opn ev n st0 vs hv
 dsimp only at hv ⊢
 obtain ⟨a,b,rfl,ha,hb⟩:=hv.two_inv
 have e:Zm opn ev 6 n [62] (okv [a,b])=(Jd (decide (b<a)),0):=by kernel_rfl
 have hl:=Z4C (opn:=opn) (ev:=ev) (o:=10) (a:=a) (b:=b) (v:=Jd (decide (a≤b))) (st0:=st0) rfl rfl
 rw [Z3d (a≤b) (b<a) (by omega)] at hl
 rw [e]
 exact hl
theorem Zor:PL ⟨6,[62,61],[3,3],2,[9,12]⟩:=by
 intro opn ev n st0 vs hv
 dsimp only at hv ⊢
 obtain ⟨a,b,rfl,ha,hb⟩:=hv.two_inv
 have e:Zm opn ev 6 n [62,61] (okv [a,b])=(Jd (decide (b≤a)),0):=by kernel_rfl
 have hl:=Z4C (opn:=opn) (ev:=ev) (o:=9) (a:=a) (b:=b) (v:=Jd (decide (a<b))) (st0:=st0) rfl rfl
 rw [Z3d (a<b) (b≤a) (by omega)] at hl
 rw [e]
 exact hl
theorem ZjD:∀ r∈Z27,PL r:=by
 unfold Z27
 refine Xb.2 ⟨pl0,?_⟩
 refine Xb.2 ⟨pl1,?_⟩
 refine Xb.2 ⟨pl2,?_⟩
 refine Xb.2 ⟨pl3,?_⟩
 refine Xb.2 ⟨pl4,?_⟩
 refine Xb.2 ⟨pl5,?_⟩
 refine Xb.2 ⟨pl6,?_⟩
 refine Xb.2 ⟨pl7,?_⟩
 refine Xb.2 ⟨pl8,?_⟩
 refine Xb.2 ⟨pl9,?_⟩
 refine Xb.2 ⟨Zo8,?_⟩
 refine Xb.2 ⟨Zo9,?_⟩
 refine Xb.2 ⟨Zoa,?_⟩
 refine Xb.2 ⟨Zob,?_⟩
 refine Xb.2 ⟨Zoc,?_⟩
 refine Xb.2 ⟨Zod,?_⟩
 refine Xb.2 ⟨Zoe,?_⟩
 refine Xb.2 ⟨Zof,?_⟩
 refine Xb.2 ⟨Zog,?_⟩
 refine Xb.2 ⟨Zoh,?_⟩
 refine Xb.2 ⟨Zoi,?_⟩
 refine Xb.2 ⟨Zoj,?_⟩
 refine Xb.2 ⟨Zok,?_⟩
 refine Xb.2 ⟨Zol,?_⟩
 refine Xb.2 ⟨Zom,?_⟩
 refine Xb.2 ⟨Zon,?_⟩
 refine Xb.2 ⟨Zoo,?_⟩
 refine Xb.2 ⟨Zop,?_⟩
 refine Xb.2 ⟨Zoq,?_⟩
 refine Xb.2 ⟨Zor,?_⟩
 intro r h
 cases h
theorem Z5O (opn:Int→Bool) (ev:List Int) (n:Int) (st0 vs:List Int) (r:Z7D) (hr:r∈Z27) (hv:Ji r.ts vs):Z28 opn ev r.L st0 vs (Zm opn ev r.k n r.s (okv vs)):=ZjD r hr opn ev n st0 vs hv
def PO (r:Z7D):Prop:=∀ (opn:Int→Bool) (ev:List Int) (hev:Z1C ev) (n:Int) (vs:List Int),Ji r.ts vs→(Zm opn ev r.k n r.s (okv vs)).2=0→vOk r.t (Zm opn ev r.k n r.s (okv vs)).1
theorem po0:PO ⟨5,[45],[1],1,[8]⟩:=by
 intro opn ev hev n vs hv he
 dsimp only at hv he ⊢
 obtain ⟨b,rfl,hb⟩:=hv.one_inv
 have e:Zm opn ev 5 n [45] (okv [b])=Z1Q opn 8 b:=by kernel_rfl
 rw [e] at he ⊢
 have h1:=hb.n
 show vOk 1 (-b)
 unfold vOk
 omega
theorem po1:PO ⟨5,[110,111,116],[2],2,[12]⟩:=by
 intro opn ev hev n vs hv he
 dsimp only at hv he ⊢
 obtain ⟨b,rfl,hb⟩:=hv.one_inv
 have e:Zm opn ev 5 n [110,111,116] (okv [b])=Z1Q opn 12 b:=by kernel_rfl
 rw [e] at he ⊢
 have h1:=hb.b
 show vOk 2 (1 - b)
 unfold vOk
 omega
theorem po2:PO ⟨10,[110,101,120,116],[3],3,[19]⟩:=by
 intro opn ev hev n vs hv he
 dsimp only at hv he ⊢
 obtain ⟨b,rfl,hb⟩:=hv.one_inv
 have e:Zm opn ev 10 n [110,101,120,116] (okv [b])=Z1Q opn 19 b:=by kernel_rfl
 rw [e] at he ⊢
 exact .days (Z0W (opn:=opn) (step:=1) (d:=b) he).1
theorem po3:PO ⟨10,[112,114,101,118],[3],3,[20]⟩:=by
 intro opn ev hev n vs hv he
 dsimp only at hv he ⊢
 obtain ⟨b,rfl,hb⟩:=hv.one_inv
 have e:Zm opn ev 10 n [112,114,101,118] (okv [b])=Z1Q opn 20 b:=by kernel_rfl
 rw [e] at he ⊢
 exact .days (Z0W (opn:=opn) (step:=-1) (d:=b) he).1
theorem po4:PO ⟨10,[108,97,116,101,114],[3,3],3,[21]⟩:=by
 intro opn ev hev n vs hv he
 dsimp only at hv he ⊢
 obtain ⟨a,b,rfl,ha,hb⟩:=hv.two_inv
 have e:Zm opn ev 10 n [108,97,116,101,114] (okv [a,b])=ZY opn 21 a b:=by kernel_rfl
 rw [e] at he ⊢
 have h1:=ha.d
 have h2:=hb.d
 show vOk 3 (max a b)
 unfold vOk
 omega
theorem po5:PO ⟨10,[101,97,114,108,105,101,114],[3,3],3,[22]⟩:=by
 intro opn ev hev n vs hv he
 dsimp only at hv he ⊢
 obtain ⟨a,b,rfl,ha,hb⟩:=hv.two_inv
 have e:Zm opn ev 10 n [101,97,114,108,105,101,114] (okv [a,b])=ZY opn 22 a b:=by kernel_rfl
 rw [e] at he ⊢
 have h1:=ha.d
 have h2:=hb.d
 show vOk 3 (min a b)
 unfold vOk
 omega
theorem po6:PO ⟨10,[98,101,116,119,101,101,110],[3,3],1,[23]⟩:=by
 intro opn ev hev n vs hv he
 dsimp only at hv he ⊢
 obtain ⟨a,b,rfl,ha,hb⟩:=hv.two_inv
 have e:Zm opn ev 10 n [98,101,116,119,101,101,110] (okv [a,b])=ZY opn 23 a b:=by kernel_rfl
 rw [e] at he ⊢
 have h1:=ha.d
 have h2:=hb.d
 show vOk 1 (b - a)
 unfold vOk
 omega
theorem po7:PO ⟨7,[100,97,121,115],[3,1],3,[15]⟩:=by
 intro opn ev hev n vs hv he
 dsimp only at hv he ⊢
 obtain ⟨a,b,rfl,ha,hb⟩:=hv.two_inv
 have e:Zm opn ev 7 n [100,97,121,115] (okv [a,b])=ZY opn 15 a b:=by kernel_rfl
 rw [e] at he ⊢
 exact Z43 he
theorem po8:PO ⟨7,[119,101,101,107,115],[3,1],3,[16]⟩:=by
 intro opn ev hev n vs hv he
 dsimp only at hv he ⊢
 obtain ⟨a,b,rfl,ha,hb⟩:=hv.two_inv
 have e:Zm opn ev 7 n [119,101,101,107,115] (okv [a,b])=ZY opn 16 a b:=by kernel_rfl
 rw [e] at he ⊢
 exact Z43 he
theorem po9:PO ⟨7,[109,111,110,116,104,115],[3,1],3,[17]⟩:=by
 intro opn ev hev n vs hv he
 dsimp only at hv he ⊢
 obtain ⟨a,b,rfl,ha,hb⟩:=hv.two_inv
 have e:Zm opn ev 7 n [109,111,110,116,104,115] (okv [a,b])=ZY opn 17 a b:=by kernel_rfl
 rw [e] at he ⊢
 exact .days (Z7C he)
theorem Zos:PO ⟨7,[99,111,117,114,116,100,97,121,115],[3,1],3,[18]⟩:=by
 intro opn ev hev n vs hv he
 dsimp only at hv he ⊢
 obtain ⟨a,b,rfl,ha,hb⟩:=hv.two_inv
 have e:Zm opn ev 7 n [99,111,117,114,116,100,97,121,115] (okv [a,b])=ZY opn 18 a b:=by kernel_rfl
 rw [e] at he ⊢
 exact .days (Z42 he)
theorem Zot:PO ⟨8,[100,97,121,115],[3,1],3,[8,15]⟩:=by
 intro opn ev hev n vs hv he
 dsimp only at hv he ⊢
 obtain ⟨a,b,rfl,ha,hb⟩:=hv.two_inv
 have e:Zm opn ev 8 n [100,97,121,115] (okv [a,b])=ZY opn 15 a (-b):=by kernel_rfl
 rw [e] at he ⊢
 exact Z43 he
theorem Zou:PO ⟨8,[119,101,101,107,115],[3,1],3,[8,16]⟩:=by
 intro opn ev hev n vs hv he
 dsimp only at hv he ⊢
 obtain ⟨a,b,rfl,ha,hb⟩:=hv.two_inv
 have e:Zm opn ev 8 n [119,101,101,107,115] (okv [a,b])=ZY opn 16 a (-b):=by kernel_rfl
 rw [e] at he ⊢
 exact Z43 he
theorem Zov:PO ⟨8,[109,111,110,116,104,115],[3,1],3,[8,17]⟩:=by
 intro opn ev hev n vs hv he
 dsimp only at hv he ⊢
 obtain ⟨a,b,rfl,ha,hb⟩:=hv.two_inv
 have e:Zm opn ev 8 n [109,111,110,116,104,115] (okv [a,b])=ZY opn 17 a (-b):=by kernel_rfl
 rw [e] at he ⊢
 exact .days (Z7C he)
theorem Zow:PO ⟨8,[99,111,117,114,116,100,97,121,115],[3,1],3,[8,18]⟩:=by
 intro opn ev hev n vs hv he
 dsimp only at hv he ⊢
 obtain ⟨a,b,rfl,ha,hb⟩:=hv.two_inv
 have e:Zm opn ev 8 n [99,111,117,114,116,100,97,121,115] (okv [a,b])=ZY opn 18 a (-b):=by kernel_rfl
 rw [e] at he ⊢
 exact .days (Z42 he)
theorem Zox:PO ⟨6,[43],[1,1],1,[5]⟩:=by
 intro opn ev hev n vs hv he
 dsimp only at hv he ⊢
 obtain ⟨a,b,rfl,ha,hb⟩:=hv.two_inv
 have e:Zm opn ev 6 n [43] (okv [a,b])=ZY opn 5 a b:=by kernel_rfl
 rw [e] at he ⊢
 exact Z5h he
theorem Zoy:PO ⟨6,[45],[1,1],1,[6]⟩:=by
 intro opn ev hev n vs hv he
 dsimp only at hv he ⊢
 obtain ⟨a,b,rfl,ha,hb⟩:=hv.two_inv
 have e:Zm opn ev 6 n [45] (okv [a,b])=ZY opn 6 a b:=by kernel_rfl
 rw [e] at he ⊢
 exact Z5h he
theorem Zoz:PO ⟨6,[42],[1,1],1,[7]⟩:=by
 intro opn ev hev n vs hv he
 dsimp only at hv he ⊢
 obtain ⟨a,b,rfl,ha,hb⟩:=hv.two_inv
 have e:Zm opn ev 6 n [42] (okv [a,b])=ZY opn 7 a b:=by kernel_rfl
 rw [e] at he ⊢
 exact Z5h he
theorem ZoA:PO ⟨6,[60],[1,1],2,[9]⟩:=by
 intro opn ev hev n vs hv he
 dsimp only at hv he ⊢
 obtain ⟨a,b,rfl,ha,hb⟩:=hv.two_inv
 have e:Zm opn ev 6 n [60] (okv [a,b])=ZY opn 9 a b:=by kernel_rfl
 rw [e] at he ⊢
 exact Z0E _
theorem ZoB:PO ⟨6,[60,61],[1,1],2,[10]⟩:=by
 intro opn ev hev n vs hv he
 dsimp only at hv he ⊢
 obtain ⟨a,b,rfl,ha,hb⟩:=hv.two_inv
 have e:Zm opn ev 6 n [60,61] (okv [a,b])=ZY opn 10 a b:=by kernel_rfl
 rw [e] at he ⊢
 exact Z0E _
theorem ZoC:PO ⟨6,[61],[1,1],2,[11]⟩:=by
 intro opn ev hev n vs hv he
 dsimp only at hv he ⊢
 obtain ⟨a,b,rfl,ha,hb⟩:=hv.two_inv
 have e:Zm opn ev 6 n [61] (okv [a,b])=ZY opn 11 a b:=by kernel_rfl
 rw [e] at he ⊢
 exact Z0E _
theorem ZoD:PO ⟨6,[33,61],[1,1],2,[11,12]⟩:=by
 intro opn ev hev n vs hv he
 dsimp only at hv he ⊢
 obtain ⟨a,b,rfl,ha,hb⟩:=hv.two_inv
 have e:Zm opn ev 6 n [33,61] (okv [a,b])=(Jd (decide (¬ a=b)),0):=by kernel_rfl
 rw [e]
 exact Z0E _
theorem ZoE:PO ⟨6,[62],[1,1],2,[10,12]⟩:=by
 intro opn ev hev n vs hv he
 dsimp only at hv he ⊢
 obtain ⟨a,b,rfl,ha,hb⟩:=hv.two_inv
 have e:Zm opn ev 6 n [62] (okv [a,b])=(Jd (decide (b<a)),0):=by kernel_rfl
 rw [e]
 exact Z0E _
theorem ZoF:PO ⟨6,[62,61],[1,1],2,[9,12]⟩:=by
 intro opn ev hev n vs hv he
 dsimp only at hv he ⊢
 obtain ⟨a,b,rfl,ha,hb⟩:=hv.two_inv
 have e:Zm opn ev 6 n [62,61] (okv [a,b])=(Jd (decide (b≤a)),0):=by kernel_rfl
 rw [e]
 exact Z0E _
theorem ZoG:PO ⟨6,[60],[3,3],2,[9]⟩:=by
 intro opn ev hev n vs hv he
 dsimp only at hv he ⊢
 obtain ⟨a,b,rfl,ha,hb⟩:=hv.two_inv
 have e:Zm opn ev 6 n [60] (okv [a,b])=ZY opn 9 a b:=by kernel_rfl
 rw [e] at he ⊢
 exact Z0E _
theorem ZoH:PO ⟨6,[60,61],[3,3],2,[10]⟩:=by
 intro opn ev hev n vs hv he
 dsimp only at hv he ⊢
 obtain ⟨a,b,rfl,ha,hb⟩:=hv.two_inv
 have e:Zm opn ev 6 n [60,61] (okv [a,b])=ZY opn 10 a b:=by kernel_rfl
 rw [e] at he ⊢
 exact Z0E _
theorem ZoI:PO ⟨6,[61],[3,3],2,[11]⟩:=by
 intro opn ev hev n vs hv he
 dsimp only at hv he ⊢
 obtain ⟨a,b,rfl,ha,hb⟩:=hv.two_inv
 have e:Zm opn ev 6 n [61] (okv [a,b])=ZY opn 11 a b:=by kernel_rfl
 rw [e] at he ⊢
 exact Z0E _
theorem ZoJ:PO ⟨6,[33,61],[3,3],2,[11,12]⟩:=by
 intro opn ev hev n vs hv he
 dsimp only at hv he ⊢
 obtain ⟨a,b,rfl,ha,hb⟩:=hv.two_inv
 have e:Zm opn ev 6 n [33,61] (okv [a,b])=(Jd (decide (¬ a=b)),0):=by kernel_rfl
 rw [e]
 exact Z0E _
theorem ZoK:PO ⟨6,[62],[3,3],2,[10,12]⟩:=by
 intro opn ev hev n vs hv he
 dsimp only at hv he ⊢
 obtain ⟨a,b,rfl,ha,hb⟩:=hv.two_inv
 have e:Zm opn ev 6 n [62] (okv [a,b])=(Jd (decide (b<a)),0):=by kernel_rfl
 rw [e]
 exact Z0E _
theorem ZoL:PO ⟨6,[62,61],[3,3],2,[9,12]⟩:=by
 intro opn ev hev n vs hv he
 dsimp only at hv he ⊢
 obtain ⟨a,b,rfl,ha,hb⟩:=hv.two_inv
 have e:Zm opn ev 6 n [62,61] (okv [a,b])=(Jd (decide (b≤a)),0):=by kernel_rfl
 rw [e]
 exact Z0E _
theorem ZjE:∀ r∈Z27,PO r:=by
 unfold Z27
 refine Xb.2 ⟨po0,?_⟩
 refine Xb.2 ⟨po1,?_⟩
 refine Xb.2 ⟨po2,?_⟩
 refine Xb.2 ⟨po3,?_⟩
 refine Xb.2 ⟨po4,?_⟩
 refine Xb.2 ⟨po5,?_⟩
 refine Xb.2 ⟨po6,?_⟩
 refine Xb.2 ⟨po7,?_⟩
 refine Xb.2 ⟨po8,?_⟩
 refine Xb.2 ⟨po9,?_⟩
 refine Xb.2 ⟨Zos,?_⟩
 refine Xb.2 ⟨Zot,?_⟩
 refine Xb.2 ⟨Zou,?_⟩
 refine Xb.2 ⟨Zov,?_⟩
 refine Xb.2 ⟨Zow,?_⟩
 refine Xb.2 ⟨Zox,?_⟩
 refine Xb.2 ⟨Zoy,?_⟩
 refine Xb.2 ⟨Zoz,?_⟩
 refine Xb.2 ⟨ZoA,?_⟩
 refine Xb.2 ⟨ZoB,?_⟩
 refine Xb.2 ⟨ZoC,?_⟩
 refine Xb.2 ⟨ZoD,?_⟩
 refine Xb.2 ⟨ZoE,?_⟩
 refine Xb.2 ⟨ZoF,?_⟩
 refine Xb.2 ⟨ZoG,?_⟩
 refine Xb.2 ⟨ZoH,?_⟩
 refine Xb.2 ⟨ZoI,?_⟩
 refine Xb.2 ⟨ZoJ,?_⟩
 refine Xb.2 ⟨ZoK,?_⟩
 refine Xb.2 ⟨ZoL,?_⟩
 intro r h
 cases h
theorem ZdL (opn:Int→Bool) (ev:List Int) (hev:Z1C ev) (n:Int) (vs:List Int) (r:Z7D) (hr:r∈Z27) (hv:Ji r.ts vs) (he:(Zm opn ev r.k n r.s (okv vs)).2=0):vOk r.t (Zm opn ev r.k n r.s (okv vs)).1:=ZjE r hr opn ev hev n vs hv he
def J2:List (Int×Int)→Int
 | []=>0
 | r :: l=>if r.2=0 then J2 l else r.2
theorem ZdM:∀ r∈Z27,(¬ (r.k=1∨r.k=2∨r.k=3)∧¬ r.k=4∧¬ r.k=9)∧¬ (r.k=6∧(r.s=[97,110,100]∨r.s=[111,114]))∧(r.ts.length=1∨r.ts.length=2):=by decide +kernel
theorem Z4D (opn:Int→Bool) (ev:List Int) (n:Int) (rs:List (Int×Int)) (r:Z7D) (hr:r∈Z27) (hl:rs.length=r.ts.length) (he:J2 rs≠0):Zm opn ev r.k n r.s rs=(0,J2 rs):=by
 obtain ⟨⟨h1,h4,h9⟩,hao,hlen⟩:=ZdM r hr
 unfold Zm
 rw [if_neg h1,if_neg h4]
 rcases hlen with h|h
 rw [h] at hl
 obtain ⟨a,rfl⟩:=Yaw.1 hl
 have ha:¬ a.2=0:=fun h0=>he (by simp [J2,h0])
 have e1:([a]:List (Int×Int)).getD 0 (0,0)=a:=rfl
 rw [e1,if_pos ha]
 simp [J2,ha]
 rw [h] at hl
 obtain ⟨a,b,rfl⟩:=Z5g hl
 have e1:([a,b]:List (Int×Int)).getD 0 (0,0)=a:=rfl
 have e2:([a,b]:List (Int×Int)).getD 1 (0,0)=b:=rfl
 rw [e1,e2]
 by_cases ha:a.2=0
 have hb:¬ b.2=0:=fun h0=>he (by simp [J2,ha,h0])
 have h5:¬ r.k=5:=by
  have:∀ r∈Z27,r.k=5→r.ts.length=1:=by decide +kernel
  intro h5
  rw [this r hr h5] at h
  cases h
 rw [if_neg (fun h=>h ha),if_neg h5,if_neg h9,if_neg (by simp),if_neg (fun h=>hao ⟨h.1,h.2.elim (fun x=>.inl x.1) (fun x=>.inr x.1)⟩),if_pos hb]
 simp [J2,ha,hb]
 rw [if_pos ha]
 simp [J2,ha]
theorem Z0X (opn:Int→Bool) (ev:List Int) (hev:Z1C ev) (x:Nd):Z9 x≠0→(Z4 opn ev x).2=0→vOk (Z9 x) (Z4 opn ev x).1:=by
 induction x using Nd.ind with
 | h k n s l ih=>
 intro ht he
 have hkid:∀ y∈l,Z9 y≠0:=fun y hy=>Z1b (x:=.mk k n s l) ht hy
 have hev2:Z4 opn ev (.mk k n s l)=Zm opn ev k n s (l.map (Z4 opn ev)):=Z1t _ _ _
 rw [hev2] at he ⊢
 rcases Z3z ht with ⟨rfl,hlf⟩|⟨rfl,a,b,c,rfl,ta,tb,tc⟩|⟨rfl,hs,a,b,rfl,ta,tb,ht2⟩|⟨r,hr,rfl,rfl,hts,htt⟩
 rcases hlf with ⟨hk,ht2,hv⟩|⟨rfl,i,hi,rfl,hf,ht2⟩
 rw [ht2]
 unfold Zm
 rw [if_pos hk]
 exact hv
 have e:Zm opn ev 4 n (Z8.getD i []) (List.map (Z4 opn ev) [])=Z2v ev (i:Int):=by
  unfold Zm
  rw [if_neg (by decide),if_pos rfl,hf]
 rw [e] at he ⊢
 rw [ht2]
 unfold Z2v at he ⊢
 split at he
 simp at he
 rename_i h1
 rw [if_neg h1]
 have h0:=hev.day
 have hs1:=hev.served
 rw [Yau]
 by_cases h01:i≤1
 rw [if_pos h01]
 right;right
 have h01:i=0∨i=1:=by omega
 rcases h01 with rfl|rfl
 exact ⟨rfl,h0.1,h0.2⟩
 refine ⟨rfl,?_,hs1.2⟩
 have:¬ ev.getD 1 0=-1:=fun h=>h1 ⟨rfl,h⟩
 show 0≤ev.getD 1 0
 omega
 rw [if_neg h01]
 left
 exact ⟨rfl,hev.rest i (by omega) (by omega)⟩
 have em:[a,b,c].map (Z4 opn ev)=[Z4 opn ev a,Z4 opn ev b,Z4 opn ev c]:=rfl
 have e0:[Z4 opn ev a,Z4 opn ev b,Z4 opn ev c].getD 0 (0,0)=Z4 opn ev a:=rfl
 rw [em] at he ⊢
 unfold Zm at he ⊢
 rw [if_neg (by decide),if_neg (by decide),e0] at he ⊢
 by_cases ha:(Z4 opn ev a).2=0
 rw [if_neg (fun h=>h ha),if_neg (by decide),if_pos rfl] at he ⊢
 have hva:=(ih a (by simp) (hkid a (by simp)) ha)
 rw [ta] at hva
 rcases hva.b with h0|h1
 rw [h0] at he ⊢
 rw [← tc]
 exact ih c (by simp) (hkid c (by simp)) he
 rw [h1] at he ⊢
 rw [← tb]
 exact ih b (by simp) (hkid b (by simp)) he
 rw [if_pos ha] at he
 exact absurd he ha
 rw [ht2]
 have em:[a,b].map (Z4 opn ev)=[Z4 opn ev a,Z4 opn ev b]:=rfl
 have e0:[Z4 opn ev a,Z4 opn ev b].getD 0 (0,0)=Z4 opn ev a:=rfl
 have e1:[Z4 opn ev a,Z4 opn ev b].getD 1 (0,0)=Z4 opn ev b:=rfl
 rw [em] at he ⊢
 unfold Zm at he ⊢
 rw [if_neg (by decide),if_neg (by decide),e0,e1] at he ⊢
 by_cases ha:(Z4 opn ev a).2=0
 rw [if_neg (fun h=>h ha),if_neg (by decide),if_neg (by decide),if_neg (by simp)] at he ⊢
 have hva:=(ih a (by simp) (hkid a (by simp)) ha)
 rw [ta] at hva
 split at he
 rename_i hc
 rw [if_pos hc]
 exact hva
 rename_i hc
 rw [if_neg hc]
 by_cases hb:(Z4 opn ev b).2=0
 rw [if_neg (fun h=>h hb),if_neg (by decide),if_neg (by decide),if_neg (by decide)] at he ⊢
 have hvb:=(ih b (by simp) (hkid b (by simp)) hb)
 rw [tb] at hvb
 rcases hs with rfl|rfl
 exact hvb
 exact hvb
 rw [if_pos hb] at he
 exact absurd he hb
 rw [if_pos ha] at he
 exact absurd he ha
 rw [htt]
 by_cases hf:J2 (l.map (Z4 opn ev))=0
 · have hall:∀ y∈l,(Z4 opn ev y).2=0:=by
    have:∀ (rs:List (Int×Int)),J2 rs=0→∀ z∈rs,z.2=0:=by
     intro rs
     induction rs with
     | nil=>intro _ z hz;cases hz
     | cons q r ihr=>
       intro h z hz
       rw [J2] at h
       split at h
       rename_i h0
       rcases Xf.1 hz with rfl|hz
       exact h0
       exact ihr h z hz
       rename_i h0;exact absurd h h0
    intro y hy
    exact this _ hf _ (XW hy)
   have hmap:l.map (Z4 opn ev)=okv (l.map fun y=>(Z4 opn ev y).1):=by
    unfold okv
    rw [YaE]
    refine List.map_congr_left (fun y hy=>?_)
    have:=hall y hy
    exact Prod.ext rfl this
   have hst:Ji r.ts (l.map fun y=>(Z4 opn ev y).1):=by
    rw [← hts]
    refine ⟨by simp,fun i h h'=>?_⟩
    simp only [Yai]
    have hi:i<l.length:=by simpa using h
    exact ih l[i] (Xh hi) (hkid _ (Xh hi)) (hall _ (Xh hi))
   rw [hmap] at he ⊢
   exact ZdL opn ev hev n _ r hr hst he
 rw [Z4D opn ev n _ r hr (by rw [← hts];simp) hf] at he
 exact absurd he hf
theorem Z8R (opn:Int→Bool) (ev:List Int) (C:List Ins):∀ (L:List Int) (p f:Nat) (st:List Int) (sp:List Spn),(∀ i (h:i<L.length),C.getD (p+i) ⟨0,0⟩=⟨L[i],0⟩)→(∀ o∈L,o≠24∧o≠13∧o≠14)→L.length≤f→
 ((Z2w opn ev L st).1=0→∃ sp',Z0c opn ev C f p st sp=Z0c opn ev C (f - L.length) (p+L.length) (Z2w opn ev L st).2 sp')∧((Z2w opn ev L st).1≠0→Z0c opn ev C f p st sp=(0,[],(Z2w opn ev L st).1))
 | [],p,f,st,sp,_,_,_=>⟨fun _=>⟨sp,rfl⟩,fun h=>absurd rfl h⟩
 | o :: L, p, f, st, sp, hC, ho, hf => by
   obtain ⟨g,rfl⟩:∃ g,f=g+1:=⟨f - 1,by simp only [Xc] at hf;omega⟩
   have h0:C.getD p ⟨0,0⟩=⟨o,0⟩:=hC 0 (by simp)
   obtain ⟨n1,n2,n3⟩:=ho o (by simp)
   rw [Z0c,Z2w,h0]
   dsimp only
   rw [if_neg n1,if_neg n2,if_neg n3]
   by_cases he:(ZH opn ev ⟨o,0⟩ (J6 st 1) (J6 st 0)).2=0
   rw [if_pos he,if_pos he]
   have ih:=Z8R opn ev C L (p+1) g (st.take (st.length - arM o)++[(ZH opn ev ⟨o,0⟩ (J6 st 1) (J6 st 0)).1]) (sp++ZT o (J6 st 1) (J6 st 0) (ZH opn ev ⟨o,0⟩ (J6 st 1) (J6 st 0)).1) (fun i h=>by have:=hC (i+1) (by simp only [Xc];omega);rw [show p+(i+1)=p+1+i by omega] at this;simpa using this) (fun o h=>ho o (by simp [h])) (by simp only [Xc] at hf;omega)
   refine ⟨fun h=>?_,ih.2⟩
   obtain ⟨sp',e⟩:=ih.1 h
   exact ⟨sp',by rw [e];simp only [Xc];rw [show g+1 - (L.length+1)=g - L.length by omega,show p+(L.length+1)=p+1+L.length by omega]⟩
   rw [if_neg he,if_neg he]
   exact ⟨fun h=>absurd h he,fun _=>rfl⟩
def Z0Y (opn:Int→Bool) (ev:List Int) (C:List Ins) (p n:Nat) (v:Int×Int):Prop:=∀ (f:Nat) (st:List Int) (sp:List Spn),C.length≤f+p→
 (v.2=0→∃ f' sp',C.length≤f'+(p+n)∧Z0c opn ev C f p st sp=Z0c opn ev C f' (p+n) (st++[v.1]) sp')∧(v.2≠0→Z0c opn ev C f p st sp=(0,[],v.2))
def Z5P (opn:Int→Bool) (ev:List Int) (C:List Ins) (p n:Nat) (vs:List (Int×Int)):Prop:=∀ (f:Nat) (st:List Int) (sp:List Spn),C.length≤f+p→
 (J2 vs=0→∃ f' sp',C.length≤f'+(p+n)∧Z0c opn ev C f p st sp=Z0c opn ev C f' (p+n) (st++vs.map Prod.fst) sp')∧(J2 vs≠0→Z0c opn ev C f p st sp=(0,[],J2 vs))
theorem Z5P.nil (opn:Int→Bool) (ev:List Int) (C:List Ins) (p:Nat):Z5P opn ev C p 0 []:=fun f st sp hf=>⟨fun _=>⟨f,sp,by omega,by simp⟩,fun h=>absurd rfl h⟩
theorem Z5P.cons {opn:Int→Bool} {ev:List Int} {C:List Ins} {p n m:Nat} {v:Int×Int} {vs:List (Int×Int)} (h1:Z0Y opn ev C p n v) (h2:Z5P opn ev C (p+n) m vs):Z5P opn ev C p (n+m) (v :: vs):=by
 intro f st sp hf
 obtain ⟨a1,a2⟩:=h1 f st sp hf
 by_cases he:v.2=0
 obtain ⟨f1,sp1,hf1,e1⟩:=a1 he
 obtain ⟨b1,b2⟩:=h2 f1 (st++[v.1]) sp1 hf1
 have hfe:J2 (v :: vs)=J2 vs:=by simp [J2,he]
 rw [hfe,e1]
 refine ⟨fun h=>?_,b2⟩
 obtain ⟨f2,sp2,hf2,e2⟩:=b1 h
 exact ⟨f2,sp2,by omega,by rw [e2];simp [XZ]⟩
 have hfe:J2 (v :: vs)=v.2:=by simp [J2,he]
 rw [hfe]
 exact ⟨fun h=>absurd h he,fun _=>a2 he⟩
theorem Z5P.line {opn:Int→Bool} {ev:List Int} {C:List Ins} {p n:Nat} {vs:List (Int×Int)} {L:List Int} {v:Int×Int} (h:Z5P opn ev C p n vs) (hp:p+n+L.length≤C.length) (hC:∀ i (h:i<L.length),C.getD (p+n+i) ⟨0,0⟩=⟨L[i],0⟩) (ho:∀ o∈L,o≠24∧o≠13∧o≠14)
 (hl:J2 vs=0→∀ st0,Z28 opn ev L st0 (vs.map Prod.fst) v) (he:J2 vs≠0→v=(0,J2 vs)):Z0Y opn ev C p (n+L.length) v:=by
 intro f st sp hf
 obtain ⟨a1,a2⟩:=h f st sp hf
 by_cases h0:J2 vs=0
 obtain ⟨f1,sp1,hf1,e1⟩:=a1 h0
 obtain ⟨l1,l2⟩:=hl h0 st
 obtain ⟨r1,r2⟩:=Z8R opn ev C L (p+n) f1 (st++vs.map Prod.fst) sp1 hC ho (by omega)
 rw [e1]
 refine ⟨fun hv=>?_,fun hv=>?_⟩
 obtain ⟨sp2,e2⟩:=r1 (by rw [l1];exact hv)
 exact ⟨f1 - L.length,sp2,by omega,by rw [e2,l2 hv,XZ]⟩
 rw [r2 (by rw [l1];exact hv),l1]
 rw [he h0]
 exact ⟨fun h=>absurd h h0,fun _=>a2 h0⟩
theorem Z0Y.one {opn:Int→Bool} {ev:List Int} {C:List Ins} {p:Nat} {x:Ins} (hp:p<C.length) (hC:C.getD p ⟨0,0⟩=x) (h1:x.op≠24) (h2:x.op≠13) (h3:x.op≠14) (ha:arM x.op=0) {v:Int×Int} (hv:∀ a b,ZH opn ev x a b=v):Z0Y opn ev C p 1 v:=by
 intro f st sp hf
 obtain ⟨g,rfl⟩:∃ g,f=g+1:=⟨f - 1,by omega⟩
 rw [Z0c,hC]
 rw [if_neg h1,if_neg h2,if_neg h3,hv,ha]
 by_cases he:v.2=0
 rw [if_pos he]
 exact ⟨fun _=>⟨g,sp++ZT x.op (J6 st 1) (J6 st 0) v.1,by omega,by simp⟩,fun h=>absurd he h⟩
 rw [if_neg he]
 exact ⟨fun h=>absurd h he,fun _=>rfl⟩
theorem Z0Y.choice {opn:Int→Bool} {ev:List Int} {C:List Ins} {p nc ny nn:Nat} {b v:Int×Int} (hc:Z0Y opn ev C p nc b) (hp:p+nc+1+ny+1+nn≤C.length) (h14:C.getD (p+nc) ⟨0,0⟩=⟨14,((p+nc+1+ny+1:Nat):Int)⟩) (h13:C.getD (p+nc+1+ny) ⟨0,0⟩=⟨13,((p+nc+1+ny+1+nn:Nat):Int)⟩)
 (he:b.2≠0→v=(0,b.2)) (hy:b.2=0→b.1≠0→Z0Y opn ev C (p+nc+1) ny v) (hn:b.2=0→b.1=0→Z0Y opn ev C (p+nc+1+ny+1) nn v):Z0Y opn ev C p (nc+1+ny+1+nn) v:=by
 intro f st sp hf
 obtain ⟨a1,a2⟩:=hc f st sp hf
 by_cases h0:b.2=0
 obtain ⟨f1,sp1,hf1,e1⟩:=a1 h0
 obtain ⟨g,rfl⟩:∃ g,f1=g+1:=⟨f1 - 1,by omega⟩
 have hb:J6 (st++[b.1]) 0=b.1:=by simp [J6]
 rw [e1,Z0c,h14,hb]
 rw [if_neg (show ¬ (14:Int)=24 by decide),if_neg (show ¬ (14:Int)=13 by decide),if_pos rfl,List.dropLast_concat]
 by_cases hb0:b.1=0
 rw [if_pos hb0]
 obtain ⟨r1,r2⟩:=hn h0 hb0 g st sp1 (by omega)
 refine ⟨fun hv=>?_,r2⟩
 obtain ⟨f2,sp2,hf2,e2⟩:=r1 hv
 exact ⟨f2,sp2,by omega,by rw [show ((p+nc+1+ny+1:Nat):Int).toNat=p+nc+1+ny+1 by omega,e2];congr 1;omega⟩
 rw [if_neg hb0]
 obtain ⟨r1,r2⟩:=hy h0 hb0 g st sp1 (by omega)
 refine ⟨fun hv=>?_,r2⟩
 obtain ⟨f2,sp2,hf2,e2⟩:=r1 hv
 obtain ⟨k,rfl⟩:∃ k,f2=k+1:=⟨f2 - 1,by omega⟩
 refine ⟨k,sp2,by omega,?_⟩
 rw [e2,Z0c,h13]
 rw [if_neg (show ¬ (13:Int)=24 by decide),if_pos rfl]
 dsimp only
 congr 1
 omega
 rw [he h0]
 exact ⟨fun h=>absurd h h0,fun _=>a2 h0⟩
theorem Seg.get {C c:List Ins} {p:Nat} (h:Seg C p c) {i:Nat} (hi:i<c.length):C.getD (p+i) ⟨0,0⟩=c[i]:=by
 obtain ⟨A,B,rfl,rfl⟩:=h
 have h1:A.length+i<(A++c++B).length:=by simp only [Xd];omega
 rw [List.getD_eq_getElem?_getD,List.getElem?_eq_getElem h1]
 simp only [X4]
 rw [XI (by simp only [Xd];omega),XH (by omega)]
 congr 1
 omega
theorem Seg.len {C c:List Ins} {p:Nat} (h:Seg C p c):p+c.length≤C.length:=by
 obtain ⟨A,B,rfl,rfl⟩:=h
 simp only [Xd]
 omega
theorem Z0Y.congr {opn:Int→Bool} {ev:List Int} {C:List Ins} {p n:Nat} {v v':Int×Int} (h:Z0Y opn ev C p n v) (h2:v.2=v'.2) (h1:v.2=0→v.1=v'.1):Z0Y opn ev C p n v':=by
 intro f st sp hf
 obtain ⟨a,b⟩:=h f st sp hf
 refine ⟨fun he=>?_,fun he=>?_⟩
 rw [← h2] at he
 rw [← h1 he]
 exact a he
 rw [← h2] at he ⊢
 exact b he
theorem ZaW {opn:Int→Bool} {ev:List Int} {C:List Ins}:∀ (l:List Nd),(∀ y∈l,∀ p,Seg C p (Zj y p)→Z0Y opn ev C p (Zj y p).length (Z4 opn ev y))→∀ p,Seg C p (Jh (l.map Zj) p)→Z5P opn ev C p (Jh (l.map Zj) p).length (l.map (Z4 opn ev))
 | [],_,p,_=>Z5P.nil opn ev C p
 | y :: l, h, p, hs => by
   have e:Jh ((y :: l).map Zj) p=Zj y p++Jh (l.map Zj) (p+(Zj y p).length):=rfl
   rw [e] at hs ⊢
   rw [Xd]
   exact Z5P.cons (h y (by simp) p hs.left) (ZaW l (fun y hy=>h y (by simp [hy])) _ hs.right)
theorem Z8S (opn:Int→Bool) (ev:List Int) (hev:Z1C ev):∀ l:List Nd,(∀ y∈l,Z9 y≠0)→J2 (l.map (Z4 opn ev))=0→Ji (l.map Z9) ((l.map (Z4 opn ev)).map Prod.fst)∧okv ((l.map (Z4 opn ev)).map Prod.fst)=l.map (Z4 opn ev)
 | [],_,_=>⟨Ji.nil,rfl⟩
 | y :: l, h, he => by
   rw [Xl] at he ⊢
   have h1:(Z4 opn ev y).2=0:=by
    by_cases h1:(Z4 opn ev y).2=0
    exact h1
    rw [J2,if_neg h1] at he
    exact he
   rw [J2,if_pos h1] at he
   obtain ⟨a,b⟩:=Z8S opn ev hev l (fun y hy=>h y (by simp [hy])) he
   refine ⟨(Ji.one (Z0X opn ev hev y (h y (by simp)) h1)).app a,?_⟩
   show ((Z4 opn ev y).1,(0:Int)) :: okv ((l.map (Z4 opn ev)).map Prod.fst)=Z4 opn ev y :: l.map (Z4 opn ev)
   rw [b,← h1]
theorem ZdN (opn:Int→Bool) (ev:List Int) (hev:Z1C ev) (C:List Ins) (x:Nd):Z9 x≠0→∀ p,Seg C p (Zj x p)→Z0Y opn ev C p (Zj x p).length (Z4 opn ev x):=by
 induction x using Nd.ind with
 | h k n s l ih=>
 intro ht p hs
 have hkid:∀ y∈l,Z9 y≠0:=fun y hy=>Z1b (x:=.mk k n s l) ht hy
 have hr:∀ y∈l,∀ p,Seg C p (Zj y p)→Z0Y opn ev C p (Zj y p).length (Z4 opn ev y):=fun y hy=>ih y hy (hkid y hy)
 have hev2:Z4 opn ev (.mk k n s l)=Zm opn ev k n s (l.map (Z4 opn ev)):=Z1t _ _ _
 rw [hev2]
 rw [Zj] at hs ⊢
 rcases Z3z ht with ⟨rfl,hlf⟩|⟨rfl,a,b,c,rfl,ta,tb,tc⟩|⟨rfl,hs',a,b,rfl,ta,tb,ht2⟩|⟨r,hr',rfl,rfl,hts,htt⟩
 unfold Z0a at hs ⊢
 rw [if_pos (show (List.map Zj ([]:List Nd)).length=0 from rfl)] at hs ⊢
 have hlen:=hs.len
 simp only [Xc,Xe] at hlen ⊢
 have hat:=hs.at
 rcases hlf with ⟨hk,ht2,hv⟩|⟨rfl,i,hi,rfl,hf,ht2⟩
 have hc:Zm opn ev k n s (List.map (Z4 opn ev) [])=(n,0):=by unfold Zm;rw [if_pos hk]
 rw [hc]
 rcases hk with rfl|rfl|rfl
 exact Z0Y.one (by omega) (x:=⟨1,n⟩) hat (by simp) (by simp) (by simp) rfl (fun a b=>rfl)
 exact Z0Y.one (by omega) (x:=⟨2,n⟩) hat (by simp) (by simp) (by simp) rfl (fun a b=>rfl)
 exact Z0Y.one (by omega) (x:=⟨3,n⟩) hat (by simp) (by simp) (by simp) rfl (fun a b=>rfl)
 have e:Zm opn ev 4 n (Z8.getD i []) (List.map (Z4 opn ev) [])=Z2v ev (i:Int):=by
  unfold Zm
  rw [if_neg (by decide),if_pos rfl,hf]
 rw [e]
 have e2:Z1j 4 n (Z8.getD i [])=⟨4,(i:Int)⟩:=by
  unfold Z1j
  rw [if_neg (by decide),if_neg (by decide),if_neg (by decide),hf]
 rw [e2] at hat
 exact Z0Y.one (by omega) (x:=⟨4,(i:Int)⟩) hat (by simp) (by simp) (by simp) rfl (fun a b=>rfl)
 ·
   unfold Z0a at hs ⊢
   rw [if_neg (by simp),if_pos rfl] at hs ⊢
   simp only [Xl,Xs,Xq,Xy] at hs ⊢
   unfold chC at hs ⊢
   have hlen:=hs.len
   have s1:=hs.left.left.left.left
   have s2:=hs.left.left.left.right
   have s3:=hs.left.left.right
   have s4:=hs.left.right
   have s5:=hs.right
   simp only [Xd,Xc,Xe,XM,← XZ] at hlen s2 s3 s4 s5 ⊢
   have e0:[Z4 opn ev a,Z4 opn ev b,Z4 opn ev c].getD 0 (0,0)=Z4 opn ev a:=rfl
   refine Z0Y.choice (b:=Z4 opn ev a) (hr a (by simp) p s1) hlen s2.at s4.at ?_ ?_ ?_
   intro he
   unfold Zm
   rw [if_neg (by decide),if_neg (by decide),e0,if_pos he]
   intro he hb
   have hva:=Z0X opn ev hev a (hkid a (by simp)) he
   rw [ta] at hva
   have h1:(Z4 opn ev a).1=1:=by rcases hva.b with h|h<;>omega
   have e:Zm opn ev 9 n s [Z4 opn ev a,Z4 opn ev b,Z4 opn ev c]=Z4 opn ev b:=by
    unfold Zm
    rw [if_neg (by decide),if_neg (by decide),e0,if_neg (fun h=>h he),if_neg (by decide),if_pos rfl,h1]
    rfl
   rw [e]
   exact hr b (by simp) _ s3
   intro he hb
   have e:Zm opn ev 9 n s [Z4 opn ev a,Z4 opn ev b,Z4 opn ev c]=Z4 opn ev c:=by
    unfold Zm
    rw [if_neg (by decide),if_neg (by decide),e0,if_neg (fun h=>h he),if_neg (by decide),if_pos rfl,hb]
    rfl
   rw [e]
   exact hr c (by simp) _ s5
 ·
   have e0:[Z4 opn ev a,Z4 opn ev b].getD 0 (0,0)=Z4 opn ev a:=rfl
   have e1:[Z4 opn ev a,Z4 opn ev b].getD 1 (0,0)=Z4 opn ev b:=rfl
   have hva:(Z4 opn ev a).2=0→(Z4 opn ev a).1=0∨(Z4 opn ev a).1=1:=fun he=>by
    have hva:=Z0X opn ev hev a (hkid a (by simp)) he
    rw [ta] at hva
    exact hva.b
   have hbin:∀ s:Str,s=[97,110,100]∨s=[111,114]→∀ u v:Int,ZlZ s u v=(v,0):=by
    intro s h u v
    rcases h with rfl|rfl<;>rfl
   have hand:([97,110,100]:Str)≠[111,114]:=by decide
   have hsecond:∀ s:Str,(s=[97,110,100]∨s=[111,114])→¬ (s=[97,110,100]∧(Z4 opn ev a).1=0∨s=[111,114]∧(Z4 opn ev a).1=1)→(Z4 opn ev a).2=0→∀ q m,Z0Y opn ev C q m (Z4 opn ev b)→Z0Y opn ev C q m (Zm opn ev 6 n s [Z4 opn ev a,Z4 opn ev b]):=by
    intro s hs1 hn he q m h
    unfold Zm
    rw [if_neg (by decide),if_neg (by decide),e0,e1,if_neg (fun h=>h he),if_neg (by decide),if_neg (by decide),if_neg (by simp),if_neg (fun h=>hn h.2)]
    by_cases hb:(Z4 opn ev b).2=0
    rw [if_neg (fun h=>h hb),if_neg (by decide),if_neg (by decide),if_neg (by decide),hbin s hs1]
    exact h.congr hb (fun _=>rfl)
    rw [if_pos hb]
    exact h.congr rfl (fun h=>absurd h hb)
   have hfirst:∀ s:Str,(s=[97,110,100]∧(Z4 opn ev a).1=0∨s=[111,114]∧(Z4 opn ev a).1=1)→(Z4 opn ev a).2=0→Zm opn ev 6 n s [Z4 opn ev a,Z4 opn ev b]=((Z4 opn ev a).1,0):=by
    intro s hn he
    unfold Zm
    rw [if_neg (by decide),if_neg (by decide),e0,if_neg (fun h=>h he),if_neg (by decide),if_neg (by decide),if_neg (by simp),if_pos ⟨rfl,hn⟩]
   have herr:∀ s:Str,(Z4 opn ev a).2≠0→Zm opn ev 6 n s [Z4 opn ev a,Z4 opn ev b]=(0,(Z4 opn ev a).2):=by
    intro s he
    unfold Zm
    rw [if_neg (by decide),if_neg (by decide),e0,if_pos he]
   have hconst:∀ (z:Int) (q:Nat),Seg C q [⟨2,z⟩]→Z0Y opn ev C q 1 (z,0):=fun z q hq=>
    Z0Y.one (by have:=hq.len;simp only [Xc,Xe] at this;omega) (x:=⟨2,z⟩) hq.at (by simp) (by simp) (by simp) rfl (fun a b=>rfl)
   unfold Z0a at hs ⊢
   rw [if_neg (by simp),if_neg (by decide)] at hs ⊢
   rcases hs' with rfl|rfl
   rw [if_pos ⟨rfl,rfl⟩] at hs ⊢
   simp only [Xl,Xs,Xq,Xy] at hs ⊢
   unfold chC at hs ⊢
   have hlen:=hs.len
   have s1:=hs.left.left.left.left
   have s2:=hs.left.left.left.right
   have s3:=hs.left.left.right
   have s4:=hs.left.right
   have s5:=hs.right
   simp only [Xd,Xc,Xe,XM,← XZ] at hlen s2 s3 s4 s5 ⊢
   refine Z0Y.choice (b:=Z4 opn ev a) (nn:=1) (hr a (by simp) p s1) hlen s2.at s4.at (fun he=>herr _ he) ?_ ?_
   intro he hb
   exact hsecond _ (.inl rfl) (fun h=>h.elim (fun h=>hb h.2) (fun h=>hand h.1)) he _ _ (hr b (by simp) _ s3)
   intro he hb
   rw [hfirst _ (.inl ⟨rfl,hb⟩) he,hb]
   exact hconst 0 _ s5
   rw [if_neg (fun h=>hand h.2.symm),if_pos ⟨rfl,rfl⟩] at hs ⊢
   simp only [Xl,Xs,Xq,Xy] at hs ⊢
   unfold chC at hs ⊢
   have hlen:=hs.len
   have s1:=hs.left.left.left.left
   have s2:=hs.left.left.left.right
   have s3:=hs.left.left.right
   have s4:=hs.left.right
   have s5:=hs.right
   simp only [Xd,Xc,Xe,XM,← XZ] at hlen s2 s3 s4 s5 ⊢
   refine Z0Y.choice (b:=Z4 opn ev a) (ny:=1) (hr a (by simp) p s1) hlen s2.at s4.at (fun he=>herr _ he) ?_ ?_
   intro he hb
   have h1:(Z4 opn ev a).1=1:=by rcases hva he with h|h<;>omega
   rw [hfirst _ (.inr ⟨rfl,h1⟩) he,h1]
   exact hconst 1 _ s3
   intro he hb
   exact hsecond _ (.inr rfl) (fun h=>h.elim (fun h=>hand h.1.symm) (fun h=>by omega)) he _ _ (hr b (by simp) _ s5)
 ·
   obtain ⟨⟨h1,h4,h9⟩,hao,hl12⟩:=ZdM r hr'
   have hok:=Xv.1 ZdK r hr'
   simp only [Xg,decide_eq_true_eq] at hok
   obtain ⟨⟨_,okl⟩,hL⟩:=hok
   obtain ⟨_,o2,_⟩:=Z23 okl
   have hl0:l.length=r.ts.length:=by rw [← hts,XQ]
   have ecode:Z0a r.k n r.s (l.map Zj) p=Jh (l.map Zj) p++r.L.map fun o=>(⟨o,0⟩:Ins):=by
    unfold Z0a
    rw [if_neg (by rw [XQ];omega),if_neg h9,if_neg (fun h=>hao ⟨h.1,.inl h.2⟩),if_neg (fun h=>hao ⟨h.1,.inr h.2⟩),← hL]
    split
    rename_i hm
    rw [Z0C,Xt]
    rename_i hm
    rw [Z0C,XK]
   rw [ecode] at hs ⊢
   have hlen:=hs.len
   rw [Xd,XQ] at hlen ⊢
   have sr:=hs.right
   refine Z5P.line (L:=r.L) (ZaW l hr p hs.left) (by omega) (fun i hi=>?_) (fun o ho=>?_) (fun he st0=>?_) (fun he=>?_)
   have:=sr.get (i:=i) (by simpa using hi)
   rw [this]
   simp
   have:=o2 ⟨o,0⟩ (XP.2 ⟨o,ho,rfl⟩)
   exact this
   obtain ⟨k1,k2⟩:=Z8S opn ev hev l hkid he
   have:=Z5O opn ev n st0 ((l.map (Z4 opn ev)).map Prod.fst) r hr' (hts ▸ k1)
   rw [k2] at this
   exact this
   exact Z4D opn ev n (l.map (Z4 opn ev)) r hr' (by rw [XQ];exact hl0) he
theorem Z8T (opn:Int→Bool) (ev:List Int) (hev:Z1C ev) (x:Nd) (ht:Z9 x≠0) :
 ((Z4 opn ev x).2=0→∃ sp,J1 opn ev (J4 x)=((Z4 opn ev x).1,sp,0))∧((Z4 opn ev x).2≠0→J1 opn ev (J4 x)=(0,[],(Z4 opn ev x).2)):=by
 have hseg:Seg (J4 x) 0 (Zj x 0):=⟨[],[⟨24,0⟩],by simp [J4],rfl⟩
 have hlen:(J4 x).length=(Zj x 0).length+1:=by simp [J4]
 have h24:(J4 x).getD (Zj x 0).length ⟨0,0⟩=⟨24,0⟩:=by simp [J4,List.getD_eq_getElem?_getD]
 obtain ⟨a,b⟩:=ZdN opn ev hev (J4 x) x ht 0 hseg (J4 x).length [] [] (by omega)
 refine ⟨fun he=>?_,b⟩
 obtain ⟨f,sp,hf,e⟩:=a he
 obtain ⟨g,rfl⟩:∃ g,f=g+1:=⟨f - 1,by omega⟩
 refine ⟨sp,?_⟩
 unfold J1
 rw [e,Z0c,XM,h24,if_pos rfl]
 simp [J6]
theorem Z4E {l:List Tkn} {i:Nat} (h:i<l.length):cur l i=l[i]:=by simp [cur,List.getD,h]
def Pd (w:World) (b:Nat) (tv:Value) (l:List Tkn) (i o:Nat):Prop:=Blk w b 170 [tv,.int .i64 i,.int .i64 o]∧SlV [b] w tv l∧i<l.length∧l.length≤1000000∧o≤12
theorem Pd.up {w w':World} {b i o:Nat} {tv:Value} {l:List Tkn} (h:Pd w b tv l i o) (hS:Stp [] w w'):Pd w' b tv l i o:=by
 obtain ⟨h1,h2,h3⟩:=h
 exact ⟨h1.up hS,h2.up hS,h3⟩
theorem Pd.lt {w:World} {b i o:Nat} {tv:Value} {l:List Tkn} (h:Pd w b tv l i o):b<w.heap.size:=by
 obtain ⟨h1,_⟩:=h
 exact h1.lt
theorem Pd.i_lt {w:World} {b i o:Nat} {tv:Value} {l:List Tkn} (h:Pd w b tv l i o):i<l.length:=by
 obtain ⟨_,_,h1,_⟩:=h
 exact h1
def Z3k (a c:Int):Value:=.iface 210 (.agg #[.int .i64 a,.int .i64 c])
def PE {α:Type} (r:Out α) (G:α→Nat→Nat→Value→World→Prop) (F:World→Prop) (e:Ending) (w':World):Prop:=
 match r with
 | .err a c=>e=.panicked [⟨Z3k a c,false,false⟩]∧F w'
 | .ok x i o=>Ret (G x i o) e w'
theorem ZJ {P:Program} {n:Nat} {Q:Exit→Act→World→Prop} {e:Env} {w:World} {ops:Array Oper} {rest:List Oper} {d:Nat} {ty:TypeId} {pos:String} {af:Array Edge} {f:Nat} {fn:Func} {xs:Array Operand} {ts:Array TypeId} {vs:Array Value} {c:Operand} {ch:List PanicEntry} {F:World→Prop} [hf:Fun P f fn]
 (hc:ev e c=some (.func (.func f) #[] #[])) (hv:∀ a,Has n e a→xs.map a.eval=vs) (h:Calls P f vs w (fun e w'=>e=.panicked ch∧F w')) (hd:Nat.blt d n=true) (k:∀ w',F w'→WQ n Q (.panic ch) [] w') :
 WL P n ops Q (⟨some d,.call { callee:=.value c,args:=xs,argTypes:=ts },ty,pos,af,none⟩ :: rest) e w:=
 ZaR (G:=fun _ _=>False) (F:=fun ch' w'=>ch'=ch∧F w') (Z5C hc hv (h.mono fun e w' ⟨h1,h2⟩=>by rw [h1];exact .pan ⟨rfl,h2⟩)) hd (fun ch' w' ⟨h1,h2⟩=>by subst h1;exact ZbJ (k w' h2)) (fun _ _ h=>h.elim)
theorem ZjF (a c:Int) (w:World):(Instr.build 210 #[(0,.int .i64 a),(1,.int .i64 c)]).run Tryz.prog w=.ok (.agg #[.int .i64 a,.int .i64 c]) w:=by kernel_rfl
theorem JK (b:Nat) (tv:Value) (l:List Tkn) (i o:Nat) (w:World) (hp:Pd w b tv l i o) :
 CC 168 #[.pointer (some ⟨b,0,none⟩)] w fun r w'=>r=str (cur l i).text∧Stp [] w w':=by
 obtain ⟨hb,hs,hi,hl,ho⟩:=hp
 rw [Z4E hi]
 refine cW1 14 Tryz.func168 ?_
 refine W ?_
 refine ZDr 12 [] [] [(0,0),(1,0),(2,0),(3,1),(4,0),(5,0),(6,0),(7,1),(8,0),(9,0),(10,1),(11,0)] (fun w1 hS1=>?_)
 replace hb:=hb.up hS1
 replace hs:=hs.up hS1
 refine D ?_
 refine W ?_
 refine WR ?_
 exact .mk ⟨rfl,hS1⟩
theorem Z8U (b:Nat) (tv:Value) (l:List Tkn) (i o:Nat) (c:Int) (w:World) (hp:Pd w b tv l i o) :
 Calls Tryz.prog 119 #[.pointer (some ⟨b,0,none⟩),.int .i64 c] w (fun e w'=>e=.panicked [⟨Z3k (cur l i).pos c,false,false⟩]∧Stp [] w w'):=by
 obtain ⟨hb,hs,hi,hl,ho⟩:=hp
 rw [Z4E hi]
 refine cW2 18 Tryz.func119 ?_
 refine W ?_
 refine Z39 15 ([]) [] [(0,0),(1,0),(2,0),(3,1),(4,0),(5,0),(6,0),(7,1),(8,0),(9,0),(10,1),(11,0),(12,0),(13,0),(14,2)] rfl mixed (by kernel_rfl) (by kernel_rfl) (by kernel_rfl) (fun w1 hS1=>?_)
 replace hb:=hb.up hS1
 replace hs:=hs.up hS1
 refine J8 rfl trivial (fun _=>ZK rfl) rfl ?_
 refine J8 rfl trivial (fun _=>Z1F rfl) rfl ?_
 refine J8 rfl trivial (fun _=>ZL rfl) rfl ?_
 refine Z24 rfl trivial (fun w' hw=>Zy rfl rfl (hb.up hw) rfl) rfl ?_
 refine J8 rfl trivial (fun _=>ZK rfl) rfl ?_
 refine J8 rfl trivial (fun _=>Z1F rfl) rfl ?_
 refine J8 rfl trivial (fun _=>ZL rfl) rfl ?_
 refine Z24 rfl trivial (fun w' hw=>Zy rfl rfl (hb.up hw) rfl) rfl ?_
 refine J8 rfl trivial (fun _=>Z9x rfl hs rfl rfl hi) rfl ?_
 refine J8 rfl trivial (fun _=>Z2M rfl (SlV.isSome hs hi)) rfl ?_
 refine Z24 rfl trivial (fun w' hw=>Z3n (u:=.int .i64 l[i].pos) rfl rfl (hs.up hw) hi rfl rfl) rfl ?_
 refine J8 rfl trivial (fun _=>ZK rfl) rfl ?_
 refine J8 rfl trivial (fun _=>Jq (vs:=[(0,.int .i64 l[i].pos),(1,.int .i64 c)]) rfl (ZjF _ _)) rfl ?_
 refine J8 rfl trivial (fun _=>Z4u rfl) rfl ?_
 refine ZbL rfl trivial (ZbK rfl) ?_
 refine ZA ?_
 exact ⟨rfl,hS1⟩
theorem Z5Q (b:Nat) (tv:Value) (l:List Tkn) (s:Str) (i o:Nat) (w:World) (hp:Pd w b tv l i o) (hn:(cur l i).text=s→i+1<l.length) :
 CC 251 #[.pointer (some ⟨b,0,none⟩),str s] w fun r w'=>r=.bool (decide ((cur l i).text=s))∧Pd w' b tv l (if (cur l i).text=s then i+1 else i) o∧Stp [b] w w':=by
 refine cW2 16 Tryz.func251 ?_
 refine W ?_
 refine CL rfl (Zr rfl) rfl (JK b tv l i o _ hp) ?_
 rintro _ w1 ⟨rfl,hS1⟩
 replace hp:=hp.up hS1
 obtain ⟨hb,hs,hi,hl,ho⟩:=hp
 have hmax:=hs.max
 by_cases h:(cur l i).text=s
 have hi1:=hn h
 focus repeat'(first|refine W1 ?_|omega|refine VG ?_ ?_<;>intro hg|refine VC ?_ ?_<;>intro hc)
 exact absurd h (by assumption)
 refine Z1 (Zc (u:=.int .i64 ((i+1:Nat):Int)) rfl (by show some _=some _;simp) rfl rfl hb (by simp)) ?_
 rintro _ w2 ⟨hT,hb2⟩
 refine W ?_
 refine WR ?_
 rw [decide_eq_true h,if_pos h]
 exact .mk ⟨rfl,⟨hb2,hs.ext hT (fun c hc=>hc) (fun c hc=>.inl hc),hi1,hl,ho⟩,(hS1.mono (by simp)).trans hT⟩
 focus repeat'(first|refine W1 ?_|omega|refine VG ?_ ?_<;>intro hg|refine VC ?_ ?_<;>intro hc)
 refine WR ?_
 rw [decide_eq_false h,if_neg h]
 exact .mk ⟨rfl,⟨hb,hs,hi,hl,ho⟩,hS1.mono (by simp)⟩
 exact absurd h (by assumption)
def PC {α:Type} (b:Nat) (w:World) (tv:Value) (l:List Tkn) (r:Out α) (G:α→Value→World→Prop) (e:Ending) (w':World):Prop:=
 PE r (fun x i o v w'=>G x v w'∧Pd w' b tv l i o∧Stp [b] w w') (fun w'=>Stp [b] w w') e w'
theorem PC.ok {α:Type} {b:Nat} {w w':World} {tv:Value} {l:List Tkn} {x:α} {i o:Nat} {G:α→Value→World→Prop} {v:Value} (hG:G x v w') (hp:Pd w' b tv l i o) (hS:Stp [b] w w'):PC b w tv l (.ok x i o) G (.returned v) w':=⟨v,rfl,hG,hp,hS⟩
theorem PC.err {α:Type} {b:Nat} {w w':World} {tv:Value} {l:List Tkn} {a c:Int} {G:α→Value→World→Prop} (hS:Stp [b] w w'):PC b w tv l (.err a c) G (.panicked [⟨Z3k a c,false,false⟩]) w':=⟨rfl,hS⟩
theorem PC.fail {α:Type} {b:Nat} {w w':World} {tv:Value} {l:List Tkn} {i:Nat} {c:Int} {G:α→Value→World→Prop} (hS:Stp [b] w w'):PC b w tv l (Z25 l i c) G (.panicked [⟨Z3k (cur l i).pos c,false,false⟩]) w':=⟨rfl,hS⟩
theorem Z8V (b:Nat) (tv:Value) (l:List Tkn) (i o:Nat) (c:Int) (w w0:World) (hp:Pd w b tv l i o) (hS:Stp [b] w0 w) :
 Calls Tryz.prog 119 #[.pointer (some ⟨b,0,none⟩),.int .i64 c] w (fun e w'=>e=.panicked [⟨Z3k (cur l i).pos c,false,false⟩]∧Stp [b] w0 w'):=
 (Z8U b tv l i o c w hp).mono fun e w' ⟨h1,h2⟩=>⟨h1,hS.trans (h2.mono (by simp))⟩
theorem PC.goes {α:Type} {b f:Nat} {args:Array Value} {w:World} {tv:Value} {l:List Tkn} {x:α} {i o:Nat} {r:Out α} {G:α→Value→World→Prop} (h:Calls Tryz.prog f args w (PC b w tv l r G)) (hr:r=.ok x i o):CC f args w fun v w'=>G x v w'∧Pd w' b tv l i o∧Stp [b] w w':=by
 subst hr;exact h
theorem PC.falls {α:Type} {b f:Nat} {args:Array Value} {w w0:World} {tv:Value} {l:List Tkn} {a c:Int} {r:Out α} {G:α→Value→World→Prop} (h:Calls Tryz.prog f args w (PC b w tv l r G)) (hr:r=.err a c) (hS:Stp [b] w0 w):Calls Tryz.prog f args w (fun e w'=>e=.panicked [⟨Z3k a c,false,false⟩]∧Stp [b] w0 w'):=by
 subst hr;exact h.mono fun e w' ⟨h1,h2⟩=>⟨h1,hS.trans h2⟩
theorem Z1d (b:Nat) (tv:Value) (l:List Tkn) (hL:Z2U l) (s:Str) (hs0:s≠[]) (i o:Nat) (w:World) (hp:Pd w b tv l i o) :
 Calls Tryz.prog 165 #[.pointer (some ⟨b,0,none⟩),str s] w (PC b w tv l (Z11 l s i o) (fun _ v _=>v=.tuple #[])):=by
 have hn:(cur l i).text=s→i+1<l.length:=fun h=>hL.end_of hp.i_lt (by rw [h];exact hs0)
 unfold Z11
 refine cW2 10 Tryz.func165 ?_
 refine W ?_
 refine CL rfl (Zb rfl rfl) rfl (Z5Q b tv l s i o _ hp hn) ?_
 rintro _ w1 ⟨rfl,hp1,hS1⟩
 by_cases h:(cur l i).text=s
 rw [if_pos h] at hp1 ⊢
 rw [decide_eq_true h]
 refine W ?_
 refine WR ?_
 exact PC.ok rfl hp1 hS1
 rw [if_neg h] at hp1 ⊢
 rw [decide_eq_false h]
 refine W ?_
 refine ZJ rfl (Zb rfl rfl) (Z8V b tv l i o 20 _ w hp1 hS1) rfl ?_
 intro w2 hw2
 focus repeat'(first|refine Zl ?_|refine Zi ?_)
 refine ZA ?_
 exact PC.fail hw2
theorem Z4F (C:Str) (W:List Str) (h1:∀ i∈List.range (C.length+1),(C.drop i).head?=some 32→(C.drop (i+1)).takeWhile (fun c=>decide (c≠32))∈W∨(C.drop (i+1)).takeWhile (fun c=>decide (c≠32))=[])
 (h2:∀ t∈W,Lib.contains C (32 :: t++[32])=true) {t:Str} (h0:t≠[]) (hc:∀ c∈t,c≠32):Lib.contains C (32 :: t++[32])=decide (t∈W):=by
 by_cases ht:t∈W
 rw [h2 t ht,decide_eq_true ht]
 · rw [decide_eq_false ht]
   unfold Lib.contains
   rw [decide_eq_false_iff_not,Z6B]
   rintro ⟨i,hi,h⟩
   cases hd:C.drop i with
   | nil=>rw [hd] at h;simp at h
   | cons a l=>
     rw [hd] at h
     simp only [XR,List.isPrefixOf,Xg,beq_iff_eq] at h
     obtain ⟨rfl,h⟩:=h
     have hl:C.drop (i+1)=l:=by
      have:=congrArg List.tail hd
      simpa [List.tail_drop] using this
     have hw:=Z6C t l hc h
     have:=h1 i (Yat.2 (by omega)) (by rw [hd];rfl)
     rw [hl,hw] at this
     exact this.elim ht h0
def Z8W:Str:=[32,100,97,121,115,32,119,101,101,107,115,32,109,111,110,116,104,115,32,99,111,117,114,116,100,97,121,115,32]
def Z7F:Str:=[32,100,97,121,32,115,101,114,118,101,100,32,101,120,116,114,97,32,98,121,32,116,111,32,99,111,117,114,116,32,97,109,111,117,110,116,32]
def ZaX:Str:=[32,110,101,120,116,32,112,114,101,118,32,108,97,116,101,114,32,101,97,114,108,105,101,114,32,98,101,116,119,101,101,110,32]
theorem ZdO {t:Str} (h0:t≠[]) (hc:∀ c∈t,c≠32):Lib.contains Z8W (32 :: t++[32])=decide (t∈Z6H):=Z4F Z8W _ (by decide +kernel) (by decide +kernel) h0 hc
theorem ZbR {t:Str} (h0:t≠[]) (hc:∀ c∈t,c≠32):Lib.contains Z7F (32 :: t++[32])=decide (t∈Z5D):=Z4F Z7F _ (by decide +kernel) (by decide +kernel) h0 hc
theorem ZdP {t:Str} (h0:t≠[]) (hc:∀ c∈t,c≠32):Lib.contains ZaX (32 :: t++[32])=decide (t∈Z6I):=Z4F ZaX _ (by decide +kernel) (by decide +kernel) h0 hc
theorem Z3A (C:Str) (ws:List Str) (hW:[]∉ws) (t:Str) (m:Int) (w:World) (hm:w.cell? ⟨2,0,none⟩=some (.int .i64 m)) (hC:C.length≤1000000) (htl:t.length≤4000)
 (hiff:t≠[]→Lib.contains C (32 :: t++[32])=decide (t∈ws)) :
 CC 215 #[str C,str t] w fun r w'=>r=.bool (decide (t∈ws))∧Stp [] w w':=by
 refine cW2 14 Tryz.func215 ?_
 by_cases h:t=[]
 · subst h
   repeat'(first|refine W1 ?_|omega|refine VG ?_ ?_<;>intro hg|refine VC ?_ ?_<;>intro hc)
   all_goals
    refine WR ?_
    rw [decide_eq_false hW]
    exact .mk ⟨rfl,Stp.refl _ _⟩
 · have e1:Lib.contains C ([32]++t++[32])=decide (t∈ws):=hiff h
   repeat'(first|refine W1 ?_|omega|refine VG ?_ ?_<;>intro hg|refine VC ?_ ?_<;>intro hc)
   rotate_left
   exact absurd h (by assumption)
   refine Z7k rfl rfl (by simp;omega) rfl ?_
   repeat'(first|refine W1 ?_|omega|refine VG ?_ ?_<;>intro hg|refine VC ?_ ?_<;>intro hc)
   refine Z7k rfl rfl (by simp;omega) rfl ?_
   repeat'(first|refine W1 ?_|omega|refine VG ?_ ?_<;>intro hg|refine VC ?_ ?_<;>intro hc)
   refine CL rfl (Zb rfl rfl) rfl (Z7s C ([32]++t++[32]) m _ (by omega) hm) ?_
   rintro _ w1 ⟨rfl,hS1⟩
   rw [e1]
   refine W ?_
   refine WR ?_
   exact .mk ⟨rfl,hS1⟩
theorem Z6O (b:Nat) (tv:Value) (l:List Tkn) (hL:Z2U l) (k:Int) (hk:k≠0) (i o:Nat) (w:World) (hp:Pd w b tv l i o) :
 Calls Tryz.prog 167 #[.pointer (some ⟨b,0,none⟩),.int .i64 k] w (PC b w tv l (Z3t l k i o) (fun t v _=>v=.agg (Za.enc t).toArray)):=by
 obtain ⟨hb,hs,hi,hl,ho⟩:=id hp
 have hn:(cur l i).kind=k→i+1<l.length:=fun h=>hL.end_of_kind hi (by rw [h];exact hk)
 have hmax:=hs.max
 have hs0:=hs
 unfold Z3t
 rw [Z4E hi] at hn ⊢
 refine cW2 30 Tryz.func167 ?_
 refine W ?_
 refine Z3 Z6 rfl ?_
 rintro _ w0 ⟨b4,rfl,hb4,e4,hS0⟩
 have n4:b4≠b:=by have:=hb.lt;omega
 replace hb:=hb.up hS0
 replace hs:=hs.up hS0
 refine W ?_
 refine ZDr 12 [] [11] [(0,0),(1,0),(2,0),(3,1),(4,0),(5,0),(6,0),(7,1),(8,0),(9,1),(10,2),(11,2)] (fun w1 hS1=>?_)
 replace hb:=hb.up hS1
 replace hs:=hs.up hS1
 replace e4:=e4.up hS1
 replace hS0:=hS0.trans hS1
 clear hS1
 refine D ?_
 refine WD_eff rfl trivial Z6 (fun _ _ ⟨_,_,_,_,h⟩=>h) rfl ?_
 rintro _ w2 ⟨b5,rfl,hb5,e5,hS2⟩
 have n5:b5≠b:=by have:=hb.lt;omega
 have n54:b5≠b4:=by have:=e4.lt;omega
 refine WD_late0 rfl trivial (Z2 (us:=Za.enc l[i]) rfl rfl rfl rfl (Za.one _) e5 rfl) rfl ?_
 rintro _ w3 ⟨hT,e5⟩
 have hT0:=hS2.own hT (fun c hc=>.inr (by simp at hc;omega))
 clear hT hS2
 replace hb:=hb.up hT0
 replace hs:=hs.up hT0
 replace e4:=e4.up hT0
 replace hS0:=hS0.trans hT0
 clear hT0 hb5
 refine D ?_
 refine W ?_
 have hp3:Pd w3 b tv l i o:=⟨hb,hs,hi,hl,ho⟩
 by_cases h:l[i].kind=k
 rw [if_pos h]
 have hi1:=hn h
 focus repeat'(first|refine W1 ?_|omega|refine VG ?_ ?_<;>intro hg|refine VC ?_ ?_<;>intro hc)
 refine Z1 (Zc (u:=.int .i64 ((i+1:Nat):Int)) rfl (by show some _=some _;simp) rfl rfl hb (by simp)) ?_
 rintro _ w4 ⟨hT,hb2⟩
 replace e4:=e4.ext hT (by simpa using n4)
 replace e5:=e5.ext hT (by simpa using n5)
 replace hs:=hs.ext (X':=[b]) hT (fun c hc=>hc) (fun c hc=>.inl hc)
 refine W ?_
 refine Z1 (Z2 (us:=Za.enc l[i]) rfl rfl rfl rfl (Za.one _) e4 rfl) ?_
 rintro _ w5 ⟨hT5,e4⟩
 refine W ?_
 refine Zk (cs:=Za.enc l[i]) rfl rfl rfl e4 rfl ?_
 have hTT:=((hS0.mono (by simp)).trans hT).own hT5 (fun c hc=>.inr (by simp at hc;omega))
 exact PC.ok rfl ⟨hb2.ext hT5 (by simpa using n4.symm),hs0.ext hTT (fun c hc=>hc) (fun c hc=>.inl hc),hi1,hl,ho⟩ hTT
 rw [if_neg h]
 focus repeat'(first|refine W1 ?_|omega|refine VG ?_ ?_<;>intro hg|refine VC ?_ ?_<;>intro hc)
 refine ZJ rfl (Zb rfl rfl) (Z8V b tv l i o 20 _ w hp3 (hS0.mono (by simp))) rfl ?_
 intro w2 hw2
 focus repeat'(first|refine Zl ?_|refine Zi ?_)
 refine ZA ?_
 exact PC.fail hw2
theorem Jk {w w':World} {b:Nat} {m:Int} (hm:w.cell? ⟨2,0,none⟩=some (.int .i64 m)) (hb:b≠2) (hS:Stp [b] w w'):w'.cell? ⟨2,0,none⟩=some (.int .i64 m):=
 hS.cell (by simpa using fun h=>hb h.symm) hm
theorem Zfw (t:Tkn) (w:World):(Instr.field 167 (.agg (Za.enc t).toArray) 2).run Tryz.prog w=.ok (str t.text) w:=by kernel_rfl
theorem JM (b:Nat) (tv:Value) (l:List Tkn) (hL:Z2U l) (s:Str) (hs0:s≠[]) (i o:Nat) (w:World) (hp:Pd w b tv l i o) :
 Calls Tryz.prog 212 #[.pointer (some ⟨b,0,none⟩),str s] w (PC b w tv l (Z08 l s i o) (fun _ v _=>v=.tuple #[])):=by
 have hn:(cur l i).text=s→i+1<l.length:=fun h=>hL.end_of hp.i_lt (by rw [h];exact hs0)
 unfold Z08
 refine cW2 31 Tryz.func212 ?_
 refine W ?_
 refine CL rfl (Zr rfl) rfl (JK b tv l i o _ hp) ?_
 rintro _ w1 ⟨rfl,hS1⟩
 have hp1:=hp.up hS1
 have hS:=hS1.mono (S':=[b]) (by simp)
 by_cases h:(cur l i).text=s
 have hi1:=hn h
 rw [if_pos h]
 obtain ⟨hb,hs,hi,hl,ho⟩:=id hp1
 focus repeat'(first|refine W1 ?_|omega|refine VG ?_ ?_<;>intro hg|refine VC ?_ ?_<;>intro hc)
 exact absurd h (by assumption)
 refine ZJ rfl (Zb rfl rfl) (Z8V b tv l i o 2 _ w hp1 hS) rfl ?_
 intro w3 hw3
 focus repeat'(first|refine Zl ?_|refine Zi ?_)
 refine ZA ?_
 rw [if_pos (by omega)]
 exact PC.fail hw3
 refine Z1 (Zc (u:=.int .i64 ((i+1:Nat):Int)) rfl (by show some _=some _;simp) rfl rfl hb (by simp)) ?_
 rintro _ w2 ⟨hT,hb2⟩
 replace hs:=hs.ext (X':=[b]) hT (fun c hc=>hc) (fun c hc=>.inl hc)
 refine W ?_
 refine Z1 (Zc (u:=.int .i64 ((o+1:Nat):Int)) rfl (by show some _=some _;simp) rfl rfl hb2 (by simp)) ?_
 rintro _ w3 ⟨hT3,hb3⟩
 replace hs:=hs.ext (X':=[b]) hT3 (fun c hc=>hc) (fun c hc=>.inl hc)
 refine W ?_
 first|refine Z5c rfl ?_|refine Z5d rfl ?_
 rw [if_neg (by omega)]
 exact PC.ok rfl ⟨hb3,hs,hi1,hl,by omega⟩ ((hS.trans hT).trans hT3)
 · rw [if_neg h]
   repeat'(first|refine W1 ?_|omega|refine VG ?_ ?_<;>intro hg|refine VC ?_ ?_<;>intro hc)
   refine ZJ rfl (Zb rfl rfl) (Z8V b tv l i o 20 _ w hp1 hS) rfl ?_
   intro w3 hw3
   focus repeat'(first|refine Zl ?_|refine Zi ?_)
   refine ZA ?_
   exact PC.fail hw3
   all_goals exact absurd h (by assumption)
theorem Z0F (b:Nat) (tv:Value) (l:List Tkn) (hL:Z2U l) (s:Str) (hs0:s≠[]) (i o:Nat) (ho0:0<o) (w:World) (hp:Pd w b tv l i o) :
 Calls Tryz.prog 273 #[.pointer (some ⟨b,0,none⟩),str s] w (PC b w tv l (Z0g l s i o) (fun _ v _=>v=.tuple #[])):=by
 unfold Z0g
 refine cW2 14 Tryz.func273 ?_
 refine W ?_
 cases hr:Z11 l s i o with
 | err a c=>
   refine ZJ rfl (Zb rfl rfl) (PC.falls (Z1d b tv l hL s hs0 i o _ hp) hr (Stp.refl _ _)) rfl ?_
   intro w3 hw3
   repeat'(first|refine Zl ?_|refine Zi ?_)
   refine ZA ?_
   exact PC.err hw3
 | ok x i1 o1=>
   have ho1:o1=o:=by
    unfold Z11 Z25 at hr
    split at hr<;>simp at hr
    omega
   refine CL rfl (Zb rfl rfl) rfl (PC.goes (Z1d b tv l hL s hs0 i o _ hp) hr) ?_
   rintro _ w1 ⟨rfl,hp1,hS⟩
   obtain ⟨hb,hs,hi,hl,ho⟩:=id hp1
   refine W ?_
   refine Z1 (Zc (u:=.int .i64 ((o1 - 1:Nat):Int)) rfl (by show some _=some _;simp;omega) rfl rfl hb (by simp)) ?_
   rintro _ w3 ⟨hT3,hb3⟩
   replace hs:=hs.ext (X':=[b]) hT3 (fun c hc=>hc) (fun c hc=>.inl hc)
   refine W ?_
   refine WR ?_
   exact PC.ok rfl ⟨hb3,hs,hi,hl,by omega⟩ (hS.trans hT3)
theorem Z8X (s:Str) (w:World):CC 214 #[str s] w fun r w'=>r=.int .i64 (Z4v s:Int)∧w'=w:=by
 unfold Z4v
 refine cW1 20 Tryz.func214 ?_
 repeat'(first|refine W1 ?_|omega|refine VG ?_ ?_<;>intro hg|refine VC ?_ ?_<;>intro hc)
 all_goals refine WR ?_
 all_goals refine .mk ⟨?_,rfl⟩
 all_goals simp_all
theorem Z6q (s:Str) (w:World):CC 307 #[str s] w fun r w'=>r=.int .i64 (Z0y s:Int)∧w'=w:=by
 unfold Z0y
 refine cW1 9 Tryz.func307 ?_
 repeat'(first|refine W1 ?_|omega|refine VG ?_ ?_<;>intro hg|refine VC ?_ ?_<;>intro hc)
 all_goals refine WR ?_
 all_goals refine .mk ⟨?_,rfl⟩
 all_goals simp_all
end Go.Proofs.YtjdjdoefppebkaaGreatDoor
namespace Go.Eng
open Go Go.RowKit Go.Proofs
section
variable {P:Program} {n:Nat} {Q:Exit→Act→World→Prop} {e:Env} {w:World} {ops:Array Oper} {S:List Nat} {Lt:List Nat} {rest:List (Nat×Nat)}
theorem Z4G {i d:Nat} {ty:TypeId} {pos:String} {af:Array Edge} {gd:Option (Nat×Bool)} {f:Nat} {fn:Func} {xs:Array Operand} {ts:Array TypeId} {vs:Array Value} {c:Operand} {ch:List PanicEntry} {F:World→Prop} [hf:Fun P f fn]
 (hi:ops[i]?=some ⟨some d,.call { callee:=.value c,args:=xs,argTypes:=ts },ty,pos,af,gd⟩) (hg:gdOk ops e gd)
 (hc:ev e c=some (.func (.func f) #[] #[])) (hv:∀ a,Has n e a→xs.map a.eval=vs) (h:Calls P f vs w (fun e w'=>e=.panicked ch∧F w')) (hdn:Nat.blt d n=true) (k:∀ w',F w'→WQ n Q (.panic ch) [] w'):WDq P n ops S Lt Q ((i,2) :: rest) e w:=
 Zdx (G:=fun _ _=>False) (F:=fun ch' w'=>ch'=ch∧F w') hi hg (Z5C hc hv (h.mono fun e w' ⟨h1,h2⟩=>by rw [h1];exact .pan ⟨rfl,h2⟩)) (fun _ _ h=>h.elim) hdn (fun ch' w' ⟨h1,h2⟩=>by subst h1;exact k w' h2) (fun _ _ h=>h.elim)
end
end Go.Eng
namespace Go.Proofs.YtjdjdoefppebkaaGreatDoor
open Go Go.Eng Go.RowKit Go.Proofs
def Z6P (f:Nat):Prop:=∀ (l:List Tkn) (hL:Z2U l) (m:Int) (c:Eng.Call) (i o:Nat) (r:Out Nd),ZG l f c i o=some r→
 ∀ (X:List Nat) (b:Nat) (tv:Value) (w:World),b≠2→b∈X→(∀ c∈X,c<w.heap.size)→w.cell? ⟨2,0,none⟩=some (.int .i64 m)→Pd w b tv l i o→
 match c with
 | .expr k=>1≤k→k≤8→Calls Tryz.prog 120 #[.pointer (some ⟨b,0,none⟩),.int .i64 (k:Int)] w (PC b w tv l r (fun x v w'=>NdV X w' v x))
 | .prim=>Calls Tryz.prog 213 #[.pointer (some ⟨b,0,none⟩)] w (PC b w tv l r (fun x v w'=>NdV X w' v x))
 | .loop _ _=>True
theorem ZdQ (s:Str) (p:Option Addr) (l c:Nat) (w:World):(Instr.build 27 #[(0,.int .i64 5),(2,str s),(3,.slice p l c)]).run Tryz.prog w=.ok (.agg #[.int .i64 5,.int .i64 0,str s,.slice p l c]) w:=by kernel_rfl
theorem ZjG (s:Str) (p:Option Addr) (l c:Nat) (w:World):(Instr.build 27 #[(0,.int .i64 6),(2,str s),(3,.slice p l c)]).run Tryz.prog w=.ok (.agg #[.int .i64 6,.int .i64 0,str s,.slice p l c]) w:=by kernel_rfl
theorem Zm5 (f:Nat) (IH:Z6P f) (l:List Tkn) (hL:Z2U l) (m:Int) (k i o:Nat) (r:Out Nd) (hk:k≤8) (hsp:(k=3∧(cur l i).text=[110,111,116])∨(k=7∧(cur l i).text=[45]))
 (h : (match Z08 l (cur l i).text i o with
   | .err a c=>some (.err a c)
   | .ok _ i' o'=>
     match ZG l f (.expr k) i' o' with
     | none=>none
     | some (.err a c)=>some (.err a c)
     | some (.ok x i'' o'')=>some (.ok (.mk 5 0 (cur l i).text [x]) i'' (o'' - 1)))=some r) (X:List Nat) (b:Nat) (tv:Value) (w:World) (hb1:b≠2) (hbX:b∈X) (hX:∀ c∈X,c<w.heap.size) (hm:w.cell? ⟨2,0,none⟩=some (.int .i64 m)) (hp:Pd w b tv l i o) :
 Calls Tryz.prog 120 #[.pointer (some ⟨b,0,none⟩),.int .i64 (k:Int)] w (PC b w tv l r (fun x v w'=>NdV X w' v x)):=by
 have htn:(cur l i).text≠[]:=by rcases hsp with ⟨_,h⟩|⟨_,h⟩<;>rw [h]<;>decide
 have hs0:=hp.2.1
 refine cW2 98 Tryz.func120 ?_
 refine W ?_
 refine Z3 Z6 rfl ?_
 rintro _ w1 ⟨b4,rfl,hb4,e4,hS⟩
 have n4:b4≠b:=by have:=hp.lt;omega
 replace hm:=hS.cell (by simp) hm
 replace hp:=hp.up hS
 rcases hsp with ⟨rfl,ht⟩|⟨rfl,ht⟩
 · refine W ?_
   refine CL rfl (Zr rfl) rfl (JK b tv l i o _ hp) ?_
   rintro _ w2 ⟨rfl,hT⟩
   replace hp:=hp.up hT;replace e4:=e4.up hT
   replace hm:=hT.cell (by simp) hm
   replace hS:=hS.trans hT
   clear hT
   repeat'(first|refine W1 ?_|omega|refine VG ?_ ?_<;>intro hg|refine VC ?_ ?_<;>intro hc)
   all_goals try exact absurd ht (by assumption)
   refine CL rfl (Zr rfl) rfl (JK b tv l i o _ hp) ?_
   rintro _ w3 ⟨rfl,hT⟩
   replace hp:=hp.up hT;replace e4:=e4.up hT
   replace hm:=hT.cell (by simp) hm
   replace hS:=hS.trans hT
   clear hT
   refine W ?_
   cases hO:Z08 l (cur l i).text i o with
   | err a c=>
     rw [hO] at h
     simp only [Xj] at h
     subst h
     refine ZJ rfl (Zb rfl rfl) (PC.falls (JM b tv l hL _ htn i o _ hp) hO (hS.mono (by simp))) rfl ?_
     intro w4 hw4
     repeat'(first|refine Zl ?_|refine Zi ?_)
     refine ZA ?_
     exact PC.err hw4
   | ok u i1 o1=>
     have hoo:=ZI hO
     rw [hO] at h
     simp only at h
     refine CL rfl (Zb rfl rfl) rfl (PC.goes (JM b tv l hL _ htn i o _ hp) hO) ?_
     rintro _ w4 ⟨rfl,hp4,hT⟩
     replace e4:=e4.ext hT (by simpa using n4)
     replace hm:=Jk hm hb1 hT
     have hS4:=(hS.mono (S':=[b]) (by simp)).trans hT
     clear hT hS hp
     have l4:=e4.lt
     have hX4:∀ c∈b4 :: X,c<w4.heap.size:=fun c hc=>by
      rcases Xf.1 hc with rfl|h
      exact l4
      exact Xa (hX c h) hS4.size
     refine W ?_
     cases hE:ZG l f (.expr 3) i1 o1 with
     | none=>rw [hE] at h;simp at h
     | some r1=>
       rw [hE] at h
       have hsub:=IH l hL m (.expr 3) i1 o1 r1 hE (b4 :: X) b tv w4 hb1 (XA _ hbX) hX4 hm hp4 (by omega) (by omega)
       cases r1 with
       | err a c=>
         simp only [Xj] at h
         subst h
         refine ZJ rfl (Zb rfl rfl) (PC.falls hsub rfl hS4) rfl ?_
         intro w5 hw5
         repeat'(first|refine Zl ?_|refine Zi ?_)
         refine ZA ?_
         exact PC.err hw5
       | ok x i2 o2=>
         have hoe:=JC l _ _ _ _ _ _ _ hE
         simp only [Xj] at h
         subst h
         refine CL rfl (Zb rfl rfl) rfl (PC.goes hsub rfl) ?_
         rintro _ w5 ⟨⟨kx,rfl,hx⟩,hp5,hT⟩
         replace e4:=e4.ext hT (by simpa using n4)
         have hX5:∀ c∈b4 :: X,c<w5.heap.size:=fun c hc=>Xa (hX4 c hc) hT.size
         have hS5:=hS4.trans hT
         clear hT hS4 hp4 hX4 hsub
         obtain ⟨p0,c0,rfl,-⟩:=id hx
         refine W ?_
         refine Z3 (Z0 (vs:=[(0,.agg (ndC x (.slice p0 x.kids.length c0)).toArray)]) rfl (JW _ _ _ _ _ _)) rfl ?_
         intro bv w6 hN
         have hbv:SlV (b4 :: X) w6 bv [x]:=hN.slvG (css:=[ndC x _]) hX5 rfl rfl rfl (Z2R hx) (by simp [maxLen])
         obtain ⟨bn,rfl,hbn,-,hT⟩:=id hN
         replace e4:=e4.up hT;replace hp5:=hp5.up hT
         have hX6:∀ c∈b4 :: X,c<w6.heap.size:=fun c hc=>Xa (hX5 c hc) hT.size
         have hS6:=hS5.trans (hT.mono (by simp))
         clear hT hS5 hX5 hN hx
         apply Zf (vs:=[(0,.int .i64 5),(2,str (cur l i).text),(3,.slice (some ⟨bn,0,none⟩) 1 1)]) rfl (ZdQ _ _ _ _) rfl
         refine Z3 Z6 rfl ?_
         rintro _ w7 ⟨b6,rfl,hb6,e6,hT⟩
         have n64:b6≠b4:=by have:=e4.lt;omega
         have n6b:b6≠b:=by have:=hp5.lt;omega
         refine Z1 (Z2 (us:=ndC (.mk 5 0 (cur l i).text [x]) (.slice (some ⟨bn,0,none⟩) 1 1)) rfl rfl rfl rfl (Zh hbv) e6 rfl) ?_
         rintro _ w8 ⟨hT2,e6'⟩
         replace hT:=hT.own hT2 (fun c hc=>.inr (by simp at hc;omega))
         clear hT2 e6
         replace e4:=e4.up hT;replace hp5:=hp5.up hT
         have hS8:=hS6.trans (hT.mono (by simp))
         replace hbv:SlV (b6 :: b4 :: X) w8 (.slice (some ⟨bn,0,none⟩) 1 1) [x]:=hbv.ext hT (by simp) (fun c hc=>by
          rcases Xf.1 hc with rfl|h
          exact .inr hb6
          exact .inl h)
         have hb4w:w.heap.size≤b4:=hb4
         clear hT hS6 hX6
         obtain ⟨hpb,hps,hpi,hpl,hpo⟩:=id hp5
         refine W ?_
         refine Z1 (Zc (u:=.int .i64 ((o2 - 1:Nat):Int)) rfl (by show some _=some _;simp;omega) rfl rfl hpb (by simp)) ?_
         rintro _ w9 ⟨hT,hpb9⟩
         replace hps:=hps.ext (X':=[b]) hT (fun c hc=>hc) (fun c hc=>.inl hc)
         replace e4:=e4.ext hT (by simpa using n4)
         replace e6':=e6'.ext hT (by simpa using n6b)
         replace hbv:=hbv.ext (X':=b6 :: b4 :: X) hT (fun c hc=>by simp at hc;subst hc;simp [hbX]) (fun c hc=>.inl hc)
         have hS9:=hS8.trans hT
         clear hT hS8 hpb hp5
         refine W ?_
         refine Z1 (Z2 (us:=ndC (.mk 5 0 (cur l i).text [x]) (.slice (some ⟨bn,0,none⟩) 1 1)) rfl rfl rfl rfl (Zh hbv) e4 rfl) ?_
         rintro _ w10 ⟨hT,e4'⟩
         refine W ?_
         refine Zk rfl rfl rfl e4' rfl ?_
         have hl4:=hpb9.lt
         have hSx:=hS9.own hT (fun c hc=>by simp at hc;subst hc;exact .inr hb4w)
         refine PC.ok ⟨_,rfl,?_⟩ ⟨hpb9.ext hT (by simpa using n4.symm),hs0.ext hSx (fun c hc=>hc) (fun c hc=>.inl hc),hpi,hpl,by omega⟩ hSx
         exact (hbv.ext (X':=b6 :: b4 :: X) hT (fun c hc=>by simp at hc;simp [hc]) (fun c hc=>.inl hc)).wk (fun c hc=>by simp [hc])
 · refine W ?_
   refine CL rfl (Zr rfl) rfl (JK b tv l i o _ hp) ?_
   rintro _ w2 ⟨rfl,hT⟩
   replace hp:=hp.up hT;replace e4:=e4.up hT
   replace hm:=hT.cell (by simp) hm
   replace hS:=hS.trans hT
   clear hT
   repeat'(first|refine W1 ?_|omega|refine VG ?_ ?_<;>intro hg|refine VC ?_ ?_<;>intro hc)
   all_goals try exact absurd ht (by assumption)
   refine CL rfl (Zr rfl) rfl (JK b tv l i o _ hp) ?_
   rintro _ w3 ⟨rfl,hT⟩
   replace hp:=hp.up hT;replace e4:=e4.up hT
   replace hm:=hT.cell (by simp) hm
   replace hS:=hS.trans hT
   clear hT
   refine W ?_
   cases hO:Z08 l (cur l i).text i o with
   | err a c=>
     rw [hO] at h
     simp only [Xj] at h
     subst h
     refine ZJ rfl (Zb rfl rfl) (PC.falls (JM b tv l hL _ htn i o _ hp) hO (hS.mono (by simp))) rfl ?_
     intro w4 hw4
     repeat'(first|refine Zl ?_|refine Zi ?_)
     refine ZA ?_
     exact PC.err hw4
   | ok u i1 o1=>
     have hoo:=ZI hO
     rw [hO] at h
     simp only at h
     refine CL rfl (Zb rfl rfl) rfl (PC.goes (JM b tv l hL _ htn i o _ hp) hO) ?_
     rintro _ w4 ⟨rfl,hp4,hT⟩
     replace e4:=e4.ext hT (by simpa using n4)
     replace hm:=Jk hm hb1 hT
     have hS4:=(hS.mono (S':=[b]) (by simp)).trans hT
     clear hT hS hp
     have l4:=e4.lt
     have hX4:∀ c∈b4 :: X,c<w4.heap.size:=fun c hc=>by
      rcases Xf.1 hc with rfl|h
      exact l4
      exact Xa (hX c h) hS4.size
     refine W ?_
     cases hE:ZG l f (.expr 7) i1 o1 with
     | none=>rw [hE] at h;simp at h
     | some r1=>
       rw [hE] at h
       have hsub:=IH l hL m (.expr 7) i1 o1 r1 hE (b4 :: X) b tv w4 hb1 (XA _ hbX) hX4 hm hp4 (by omega) (by omega)
       cases r1 with
       | err a c=>
         simp only [Xj] at h
         subst h
         refine ZJ rfl (Zb rfl rfl) (PC.falls hsub rfl hS4) rfl ?_
         intro w5 hw5
         repeat'(first|refine Zl ?_|refine Zi ?_)
         refine ZA ?_
         exact PC.err hw5
       | ok x i2 o2=>
         have hoe:=JC l _ _ _ _ _ _ _ hE
         simp only [Xj] at h
         subst h
         refine CL rfl (Zb rfl rfl) rfl (PC.goes hsub rfl) ?_
         rintro _ w5 ⟨⟨kx,rfl,hx⟩,hp5,hT⟩
         replace e4:=e4.ext hT (by simpa using n4)
         have hX5:∀ c∈b4 :: X,c<w5.heap.size:=fun c hc=>Xa (hX4 c hc) hT.size
         have hS5:=hS4.trans hT
         clear hT hS4 hp4 hX4 hsub
         obtain ⟨p0,c0,rfl,-⟩:=id hx
         refine W ?_
         refine Z3 (Z0 (vs:=[(0,.agg (ndC x (.slice p0 x.kids.length c0)).toArray)]) rfl (JW _ _ _ _ _ _)) rfl ?_
         intro bv w6 hN
         have hbv:SlV (b4 :: X) w6 bv [x]:=hN.slvG (css:=[ndC x _]) hX5 rfl rfl rfl (Z2R hx) (by simp [maxLen])
         obtain ⟨bn,rfl,hbn,-,hT⟩:=id hN
         replace e4:=e4.up hT;replace hp5:=hp5.up hT
         have hX6:∀ c∈b4 :: X,c<w6.heap.size:=fun c hc=>Xa (hX5 c hc) hT.size
         have hS6:=hS5.trans (hT.mono (by simp))
         clear hT hS5 hX5 hN hx
         apply Zf (vs:=[(0,.int .i64 5),(2,str (cur l i).text),(3,.slice (some ⟨bn,0,none⟩) 1 1)]) rfl (ZdQ _ _ _ _) rfl
         refine Z3 Z6 rfl ?_
         rintro _ w7 ⟨b6,rfl,hb6,e6,hT⟩
         have n64:b6≠b4:=by have:=e4.lt;omega
         have n6b:b6≠b:=by have:=hp5.lt;omega
         refine Z1 (Z2 (us:=ndC (.mk 5 0 (cur l i).text [x]) (.slice (some ⟨bn,0,none⟩) 1 1)) rfl rfl rfl rfl (Zh hbv) e6 rfl) ?_
         rintro _ w8 ⟨hT2,e6'⟩
         replace hT:=hT.own hT2 (fun c hc=>.inr (by simp at hc;omega))
         clear hT2 e6
         replace e4:=e4.up hT;replace hp5:=hp5.up hT
         have hS8:=hS6.trans (hT.mono (by simp))
         replace hbv:SlV (b6 :: b4 :: X) w8 (.slice (some ⟨bn,0,none⟩) 1 1) [x]:=hbv.ext hT (by simp) (fun c hc=>by
          rcases Xf.1 hc with rfl|h
          exact .inr hb6
          exact .inl h)
         have hb4w:w.heap.size≤b4:=hb4
         clear hT hS6 hX6
         obtain ⟨hpb,hps,hpi,hpl,hpo⟩:=id hp5
         refine W ?_
         refine Z1 (Zc (u:=.int .i64 ((o2 - 1:Nat):Int)) rfl (by show some _=some _;simp;omega) rfl rfl hpb (by simp)) ?_
         rintro _ w9 ⟨hT,hpb9⟩
         replace hps:=hps.ext (X':=[b]) hT (fun c hc=>hc) (fun c hc=>.inl hc)
         replace e4:=e4.ext hT (by simpa using n4)
         replace e6':=e6'.ext hT (by simpa using n6b)
         replace hbv:=hbv.ext (X':=b6 :: b4 :: X) hT (fun c hc=>by simp at hc;subst hc;simp [hbX]) (fun c hc=>.inl hc)
         have hS9:=hS8.trans hT
         clear hT hS8 hpb hp5
         refine W ?_
         refine Z1 (Z2 (us:=ndC (.mk 5 0 (cur l i).text [x]) (.slice (some ⟨bn,0,none⟩) 1 1)) rfl rfl rfl rfl (Zh hbv) e4 rfl) ?_
         rintro _ w10 ⟨hT,e4'⟩
         refine W ?_
         refine Zk rfl rfl rfl e4' rfl ?_
         have hl4:=hpb9.lt
         have hSx:=hS9.own hT (fun c hc=>by simp at hc;subst hc;exact .inr hb4w)
         refine PC.ok ⟨_,rfl,?_⟩ ⟨hpb9.ext hT (by simpa using n4.symm),hs0.ext hSx (fun c hc=>hc) (fun c hc=>.inl hc),hpi,hpl,by omega⟩ hSx
         exact (hbv.ext (X':=b6 :: b4 :: X) hT (fun c hc=>by simp at hc;simp [hc]) (fun c hc=>.inl hc)).wk (fun c hc=>by simp [hc])
theorem Z6Q:([]:Str)∉Z6H:=by decide
theorem ZbS:Z8W.length≤1000000:=by decide
theorem Z8Y (t:Str) (m:Int) (w:World) (hm:w.cell? ⟨2,0,none⟩=some (.int .i64 m)) (htl:t.length≤4000) (hsp:∀ c∈t,c≠32) :
 CC 215 #[str Z8W,str t] w fun r w'=>r=.bool (decide (t∈Z6H))∧Stp [] w w':=
 Z3A Z8W Z6H Z6Q t m w hm ZbS htl (fun h=>ZdO h hsp)
set_option maxHeartbeats 2000000 in
theorem Zm6 (f:Nat) (IH:∀ f'≤f,Z6P f') (l:List Tkn) (hL:Z2U l) (m:Int) (k i o:Nat) (r:Out Nd) (hk1:1≤k) (hk:k≤7) (hsp:¬ ((k=3∧(cur l i).text=[110,111,116])∨(k=7∧(cur l i).text=[45])))
 (h : (match ZG l f (.expr (k + 1)) i o with
   | none=>none
   | some (.err a c)=>some (.err a c)
   | some (.ok x i' o')=>ZG l f (.loop k x) i' o')=some r) (X:List Nat) (b:Nat) (tv:Value) (w:World) (hb1:b≠2) (hbX:b∈X) (hX:∀ c∈X,c<w.heap.size) (hm:w.cell? ⟨2,0,none⟩=some (.int .i64 m)) (hp:Pd w b tv l i o) :
 Calls Tryz.prog 120 #[.pointer (some ⟨b,0,none⟩),.int .i64 (k:Int)] w (PC b w tv l r (fun x v w'=>NdV X w' v x)):=by
 have hs0:=hp.2.1
 refine cW2 98 Tryz.func120 ?_
 refine W ?_
 refine Z3 Z6 rfl ?_
 rintro _ w1 ⟨b4,rfl,hb4,e4,hS⟩
 have n4:b4≠b:=by have:=hp.lt;omega
 replace hm:=hS.cell (by simp) hm
 replace hp:=hp.up hS
 have hX1:∀ c∈X,c<w1.heap.size:=fun c hc=>Xa (hX c hc) hS.size
 refine Z2g ?_
 refine Z37 ?_
 refine ZcC (σ:=Unit) (fun _=>[(0,.pointer (some ⟨b,0,none⟩)),(1,.int .i64 (k:Int)),(4,.pointer (some ⟨b4,0,none⟩))])
  (fun _ w'=>Pd w' b tv l i o∧(∃ cs:List Value,cs.length=4∧Blk w' b4 27 cs)∧w'.cell? ⟨2,0,none⟩=some (.int .i64 m)∧Stp [] w w') ?_ ?_
 by_cases k3:k=3
 · subst k3
   have ht:¬ (cur l i).text=[110,111,116]:=fun e=>hsp (.inl ⟨rfl,e⟩)
   refine W ?_
   refine CL rfl (Zr rfl) rfl (JK b tv l i o _ hp) ?_
   rintro _ w2 ⟨rfl,hT⟩
   replace hp:=hp.up hT;replace e4:=e4.up hT
   replace hm:=hT.cell (by simp) hm
   replace hS:=hS.trans hT
   repeat'(first|refine W1 ?_|omega|refine VG ?_ ?_<;>intro hg|refine VC ?_ ?_<;>intro hc)
   all_goals try exact absurd (by assumption) ht
   exact ZC () ⟨rfl,rfl,rfl,trivial⟩ ⟨hp,⟨_,rfl,e4⟩,hm,hS⟩
 by_cases k7:k=7
 · subst k7
   have ht:¬ (cur l i).text=[45]:=fun e=>hsp (.inr ⟨rfl,e⟩)
   refine W ?_
   refine CL rfl (Zr rfl) rfl (JK b tv l i o _ hp) ?_
   rintro _ w2 ⟨rfl,hT⟩
   replace hp:=hp.up hT;replace e4:=e4.up hT
   replace hm:=hT.cell (by simp) hm
   replace hS:=hS.trans hT
   repeat'(first|refine W1 ?_|omega|refine VG ?_ ?_<;>intro hg|refine VC ?_ ?_<;>intro hc)
   all_goals try exact absurd (by assumption) ht
   exact ZC () ⟨rfl,rfl,rfl,trivial⟩ ⟨hp,⟨_,rfl,e4⟩,hm,hS⟩
 focus repeat'(first|refine W1 ?_|omega|refine VG ?_ ?_<;>intro hg|refine VC ?_ ?_<;>intro hc)
 exact ZC () ⟨rfl,rfl,rfl,trivial⟩ ⟨hp,⟨_,rfl,e4⟩,hm,hS⟩
 clear hp e4 hm hS
 rintro _ w2 ⟨hp,⟨cs4,hc4,e4⟩,hm,hS⟩
 have l4:=e4.lt
 have hX2:∀ c∈b4 :: X,c<w2.heap.size:=fun c hc=>by
  rcases Xf.1 hc with rfl|h
  exact l4
  exact Xa (hX c h) hS.size
 refine W ?_
 cases hE:ZG l f (.expr (k+1)) i o with
 | none=>rw [hE] at h;simp at h
 | some r1=>
   rw [hE] at h
   have hsub:=IH f (Xm _) l hL m (.expr (k+1)) i o r1 hE (b4 :: X) b tv w2 hb1 (XA _ hbX) hX2 hm hp (by omega) (by omega)
   cases r1 with
   | err a c=>
     simp only [Xj] at h
     subst h
     refine ZJ rfl (Zb rfl rfl) (PC.falls hsub rfl (hS.mono (by simp))) rfl ?_
     intro w3 hw3
     repeat'(first|refine Zl ?_|refine Zi ?_)
     refine ZA ?_
     exact PC.err hw3
   | ok x i1 o1=>
     simp only at h
     refine CL rfl (Zb rfl rfl) rfl (PC.goes hsub rfl) ?_
     rintro _ w3 ⟨⟨kx,rfl,hx⟩,hp3,hT⟩
     replace e4:=e4.ext hT (by simpa using n4)
     replace hm:=Jk hm hb1 hT
     have hX3:∀ c∈b4 :: X,c<w3.heap.size:=fun c hc=>Xa (hX2 c hc) hT.size
     have hS3:=(hS.mono (S':=[b]) (by simp)).trans hT
     clear hT hS hp hX2 hsub
     refine Z3 Z6 rfl ?_
     rintro _ w4 ⟨b7,rfl,hb7,e7,hT⟩
     have n74:b7≠b4:=by have:=e4.lt;omega
     have n7b:b7≠b:=by have:=hp3.lt;omega
     have n71:b7≠2:=by have:=block_lt_of_cell hm;simp at this;omega
     refine Z1 (Z2 (us:=ndC x kx) rfl rfl rfl rfl (Zh hx) e7 rfl) ?_
     rintro _ w5 ⟨hT2,e7'⟩
     replace hT:=hT.own hT2 (fun c hc=>.inr (by simp at hc;omega))
     clear hT2 e7
     have hb7w:w.heap.size≤b7:=Xi hS3.size hb7
     have hb4w:w.heap.size≤b4:=hb4
     replace e4:=e4.up hT;replace hp3:=hp3.up hT
     replace hm:=hT.cell (by simp) hm
     replace hx:SlV (b7 :: b4 :: X) w5 kx x.kids:=hx.ext hT (by simp) (fun c hc=>by
      rcases Xf.1 hc with rfl|h
      exact .inr hb7
      exact .inl h)
     have hS5:=hS3.trans (hT.mono (by simp))
     clear hT hS3
     have l7:=e7'.lt
     have hX5:∀ c∈b7 :: b4 :: X,c<w5.heap.size:=fun c hc=>by
      rcases Xf.1 hc with rfl|h
      exact l7
      have:=hX3 c h;omega
     refine W ?_
     clear hX3 hE
     refine Zv (σ:=Nat×Nd×Value×Nat×Nat) (fun q=>[(0,.pointer (some ⟨b,0,none⟩)),(1,.int .i64 (k:Int)),(4,.pointer (some ⟨b4,0,none⟩)),(7,.pointer (some ⟨b7,0,none⟩))])
      (fun q w'=>ZG l q.1 (.loop k q.2.1) q.2.2.2.1 q.2.2.2.2=some r∧q.1≤f∧Pd w' b tv l q.2.2.2.1 q.2.2.2.2∧Blk w' b7 27 (ndC q.2.1 q.2.2.1)∧SlV (b7 :: b4 :: X) w' q.2.2.1 q.2.1.kids∧(∃ cs:List Value,cs.length=4∧Blk w' b4 27 cs)∧w'.cell? ⟨2,0,none⟩=some (.int .i64 m)∧Stp [b] w w'∧w5.heap.size≤w'.heap.size)
      (fun q=>q.1) (f,x,kx,i1,o1) ⟨rfl,rfl,rfl,rfl,trivial⟩ ⟨h,Xm _,hp3,e7',hx,⟨cs4,hc4,e4⟩,hm,hS5,Xm _⟩ ?_
     clear h hp3 e7' hx e4 hm hS5 l4 l7 hc4 cs4
     rintro ⟨f1,y,ky,i2,o2⟩ w6 ⟨h,hf1,hp,e7,hy,⟨cs4,hc4,e4⟩,hm,hS,h56⟩
     dsimp only at h hf1 hp e7 hy ⊢
     match cs4,hc4 with
     | [q0,q1,q2,q3],_=>
     cases f1 with
     | zero=>simp [ZG] at h
     | succ f1=>
     rw [ZG] at h
     refine W ?_
     refine CL rfl (Zr rfl) rfl (JK b tv l i2 o2 _ hp) ?_
     rintro _ w7 ⟨rfl,hT⟩
     replace hp:=hp.up hT;replace e4:=e4.up hT;replace e7:=e7.up hT;replace hy:=hy.up hT
     replace hm:=hT.cell (by simp) hm
     replace hS:=hS.trans (hT.mono (by simp))
     replace h56:=Xi h56 hT.size
     clear hT
     refine W ?_
     refine CL rfl (Zr rfl) rfl (Z8X _ _) ?_
     rintro _ _ ⟨rfl,rfl⟩
     by_cases hlv:Z4v (cur l i2).text=k
     · rw [if_pos hlv] at h
       have hi1:=hL.end_of hp.i_lt (Z5G hlv hk1)
       repeat'(first|refine W1 ?_|omega|refine VG ?_ ?_<;>intro hg|refine VC ?_ ?_<;>intro hc)
       refine CL rfl (Zr rfl) rfl (JK b tv l i2 o2 _ hp) ?_
       rintro _ w8 ⟨rfl,hT⟩
       replace hp:=hp.up hT;replace e4:=e4.up hT;replace e7:=e7.up hT;replace hy:=hy.up hT
       replace hm:=hT.cell (by simp) hm
       replace hS:=hS.trans (hT.mono (by simp))
       replace h56:=Xi h56 hT.size
       clear hT
       obtain ⟨hpb,hps,hpi,hpl,hpo⟩:=id hp
       refine W ?_
       refine Z1 (Zc (u:=.int .i64 ((i2+1:Nat):Int)) rfl (by show some _=some _;simp) rfl rfl hpb (by simp)) ?_
       rintro _ w9 ⟨hT,hpb9⟩
       replace hps:=hps.ext (X':=[b]) hT (fun c hc=>hc) (fun c hc=>.inl hc)
       replace e4:=e4.ext hT (by simpa using n4)
       replace e7:=e7.ext hT (by simpa using n7b)
       replace hy:=hy.ext (X':=b7 :: b4 :: X) hT (fun c hc=>by simp at hc;subst hc;simp [hbX]) (fun c hc=>.inl hc)
       replace hm:=Jk hm hb1 hT
       replace hS:=hS.trans hT
       replace h56:=Xi h56 hT.size
       replace hp:Pd w9 b tv l (i2+1) o2:=⟨hpb9,hps,hi1,hpl,hpo⟩
       clear hT hpb9 hps hpi hpl hpo hpb
       refine W ?_
       have hX9:∀ c∈b7 :: b4 :: X,c<w9.heap.size:=fun c hc=>Xa (hX5 c hc) h56
       cases hE:ZG l f1 (.expr (k+1)) (i2+1) o2 with
       | none=>rw [hE] at h;simp at h
       | some r2=>
         rw [hE] at h
         cases r2 with
         | err a c=>
           simp only [Xj] at h
           subst h
           refine Z39 9 ([b]) [8] [(0,0),(1,1),(2,0),(3,0),(4,0),(5,2),(6,2),(7,0),(8,2)] rfl mixed (by kernel_rfl) (by kernel_rfl) (by kernel_rfl) (fun w1 hS1=>?_)
           replace hp:=hp.up hS1;replace e7:=e7.up hS1
           replace hm:=hS1.cell (by simp) hm
           replace hS:=hS.trans (hS1.mono (by simp))
           have hsub:=IH f1 (by omega) l hL m (.expr (k+1)) (i2+1) o2 _ hE (b7 :: b4 :: X) b tv w1 hb1 (by simp [hbX]) (fun c hc=>Xa (hX9 c hc) hS1.size) hm hp (by omega) (by omega)
           refine J8 rfl trivial (fun _=>ZK rfl) rfl ?_
           refine Z24 rfl trivial (fun w' hw=>ZU rfl rfl (e7.ext hw (by simpa using n7b)) rfl) rfl ?_
           refine J8 rfl trivial (fun _=>ZK rfl) rfl ?_
           refine J8 rfl trivial (fun _=>ZK rfl) rfl ?_
           refine J8 rfl trivial (fun _=>Z78 rfl rfl (by unfold I64;omega)) rfl ?_
           refine Z4G rfl trivial rfl (Zb rfl rfl) (PC.falls hsub rfl hS) rfl ?_
           intro wz hwz
           repeat'(first|refine Zl ?_|refine Zi ?_)
           refine ZA ?_
           exact PC.err hwz
         | ok z i3 o3=>
           simp only at h
           refine ZDr 9 ([b]) [8] [(0,0),(1,1),(2,0),(3,0),(4,0),(5,2),(6,2),(7,0),(8,2)] (fun w1 hS1=>?_)
           replace hp:=hp.up hS1;replace e7:=e7.up hS1;replace hy:=hy.up hS1;replace e4:=e4.up hS1
           replace hm:=hS1.cell (by simp) hm
           replace hS:=hS.trans (hS1.mono (by simp))
           have h5x:=Xi h56 hS1.size
           have hX1:∀ c∈b7 :: b4 :: X,c<w1.heap.size:=fun c hc=>Xa (hX9 c hc) hS1.size
           have hsub:=IH f1 (by omega) l hL m (.expr (k+1)) (i2+1) o2 _ hE (b7 :: b4 :: X) b tv w1 hb1 (by simp [hbX]) hX1 hm hp (by omega) (by omega)
           clear hS1 hX9 h56
           refine D ?_
           refine WD_eff rfl trivial (Z5 rfl (Zb rfl rfl) (PC.goes hsub rfl)) (fun _ _ h=>h.2.2) rfl ?_
           rintro _ w10 ⟨⟨kz,rfl,hz⟩,hp10,hT⟩
           replace e4:=e4.ext hT (by simpa using n4)
           replace e7:=e7.ext hT (by simpa using n7b)
           replace hy:=hy.ext (X':=b7 :: b4 :: X) hT (fun c hc=>by simp at hc;subst hc;simp [hbX]) (fun c hc=>.inl hc)
           replace hm:=Jk hm hb1 hT
           replace hS:=hS.trans hT
           have h510:=Xi h5x hT.size
           have hX10:∀ c∈b7 :: b4 :: X,c<w10.heap.size:=fun c hc=>Xa (hX1 c hc) hT.size
           clear hT hp hX1 h5x hsub
           obtain ⟨py,cy,rfl,-⟩:=id hy
           obtain ⟨pz,cz,rfl,-⟩:=id hz
           refine WD_eff rfl trivial (Z0 (vs:=[(0,.agg (ndC y (.slice py y.kids.length cy)).toArray),(1,.agg (ndC z (.slice pz z.kids.length cz)).toArray)]) rfl (Jf _ _ _ _ _ _ _ _ _ _ _ _)) (fun _ _ h=>(Z7.stp h).mono (by simp)) rfl ?_
           intro bv w11 hN
           have hbv:SlV (b7 :: b4 :: X) w11 bv [y,z]:=hN.slvG (css:=[ndC y _,ndC z _]) hX10 rfl rfl rfl (Z0R hy hz) (by simp [maxLen])
           obtain ⟨bn,rfl,hbn,-,hT⟩:=id hN
           replace hp10:=hp10.up hT;replace e4:=e4.up hT;replace e7:=e7.up hT
           replace hm:=hT.cell (by simp) hm
           replace hS:=hS.trans (hT.mono (by simp))
           have h511:=Xi h510 hT.size
           clear hT hN hX10 h510 hy hz
           refine Z5r rfl trivial (vs:=[(0,.int .i64 6),(2,str (cur l i2).text),(3,.slice (some ⟨bn,0,none⟩) 2 2)]) rfl (ZjG _ _ _ _) rfl ?_
           refine WD_late0 rfl trivial (Z2 (us:=ndC (.mk 6 0 (cur l i2).text [y,z]) (.slice (some ⟨bn,0,none⟩) 2 2)) rfl rfl rfl rfl (Zh hbv) e7 rfl) rfl ?_
           rintro _ w12 ⟨hT,e7'⟩
           have hb7x:∀ S:List Nat,S=[b7]→∀ c∈S,w.heap.size≤c:=fun S hS c hc=>by subst hS;simp at hc;subst hc;exact hb7w
           replace e4:=e4.ext hT (by simpa using n74.symm)
           replace hp10:Pd w12 b tv l i3 o3:=by
            obtain ⟨g1,g2,g3,g4,g5⟩:=hp10
            have hSx:=hS.own hT (fun c hc=>.inr (hb7x _ rfl c hc))
            exact ⟨g1.ext hT (by simpa using n7b.symm),hs0.ext hSx (fun c hc=>hc) (fun c hc=>.inl hc),g3,g4,g5⟩
           replace hbv:=hbv.ext (X':=b7 :: b4 :: X) hT (fun c hc=>by simp at hc;simp [hc]) (fun c hc=>.inl hc)
           replace hm:=hT.cell (by simpa using n71.symm) hm
           replace hS:=hS.own hT (fun c hc=>.inr (hb7x _ rfl c hc))
           have h512:=Xi h511 hT.size
           clear hT h511
           refine D ?_
           by_cases k5:k=5
           subst k5
           refine W ?_
           refine CL rfl (Zr rfl) rfl (JK b tv l i3 o3 _ hp10) ?_
           rintro _ w13 ⟨rfl,hT⟩
           replace hp10:=hp10.up hT;replace e4:=e4.up hT;replace e7':=e7'.up hT;replace hbv:=hbv.up hT
           replace hm:=hT.cell (by simp) hm
           replace hS:=hS.trans (hT.mono (by simp))
           replace h512:=Xi h512 hT.size
           clear hT
           refine W ?_
           refine CL rfl (Zb rfl rfl) rfl (Z8Y (cur l i3).text m _ hm (hL.tl i3) (hL.sp i3)) ?_
           rintro _ w14 ⟨rfl,hT⟩
           replace hp10:=hp10.up hT;replace e4:=e4.up hT;replace e7':=e7'.up hT;replace hbv:=hbv.up hT
           replace hm:=hT.cell (by simp) hm
           replace hS:=hS.trans (hT.mono (by simp))
           replace h512:=Xi h512 hT.size
           clear hT
           by_cases hu:(cur l i3).text∈Z6H
           rw [if_pos ⟨rfl,hu⟩] at h
           rw [decide_eq_true hu]
           have hi3:=hL.end_of hp10.i_lt (fun e=>Z6Q (e ▸ hu))
           refine W ?_
           refine CL rfl (Zr rfl) rfl (JK b tv l i3 o3 _ hp10) ?_
           rintro _ w15 ⟨rfl,hT⟩
           replace hp10:=hp10.up hT;replace e4:=e4.up hT;replace e7':=e7'.up hT;replace hbv:=hbv.up hT
           replace hm:=hT.cell (by simp) hm
           replace hS:=hS.trans (hT.mono (by simp))
           replace h512:=Xi h512 hT.size
           clear hT
           refine W ?_
           refine Z1 (Zc (u:=.int .i64 7) rfl rfl rfl rfl e7' (by simp)) ?_
           rintro _ w16 ⟨hT,e7''⟩
           refine W ?_
           refine Z1 (Zc (u:=str (cur l i3).text) rfl rfl rfl rfl e7'' (by simp)) ?_
           rintro _ w17 ⟨hT',e7q⟩
           replace hT:=hT.trans hT'
           replace e7q:Blk w17 b7 27 (ndC (.mk 7 0 (cur l i3).text [y,z]) (.slice (some ⟨bn,0,none⟩) 2 2)):=e7q
           clear hT' e7' e7''
           replace e4:=e4.ext hT (by simpa using n74.symm)
           replace hp10:Pd w17 b tv l i3 o3:=by
            obtain ⟨g1,g2,g3,g4,g5⟩:=hp10
            have hSx:=hS.own hT (fun c hc=>.inr (hb7x _ rfl c hc))
            exact ⟨g1.ext hT (by simpa using n7b.symm),hs0.ext hSx (fun c hc=>hc) (fun c hc=>.inl hc),g3,g4,g5⟩
           replace hbv:=hbv.ext (X':=b7 :: b4 :: X) hT (fun c hc=>by simp at hc;simp [hc]) (fun c hc=>.inl hc)
           replace hm:=hT.cell (by simpa using n71.symm) hm
           replace hS:=hS.own hT (fun c hc=>.inr (hb7x _ rfl c hc))
           replace h512:=Xi h512 hT.size
           clear hT
           refine W ?_
           refine Z1E (σ:=Unit) (fun _=>[(0,.pointer (some ⟨b,0,none⟩)),(1,.int .i64 (5:Int)),(4,.pointer (some ⟨b4,0,none⟩)),(7,.pointer (some ⟨b7,0,none⟩))])
            (fun _ w'=>Blk w' b7 27 (ndC (.mk (if (cur l i2).text=[45] then 8 else 7) 0 (cur l i3).text [y,z]) (.slice (some ⟨bn,0,none⟩) 2 2))∧Stp [b7] w17 w') ?_ ?_
           by_cases hm8:(cur l i2).text=[45]
           rw [if_pos hm8]
           focus repeat'(first|refine W1 ?_|omega|refine VG ?_ ?_<;>intro hg|refine VC ?_ ?_<;>intro hc)
           refine Z1 (Zc (u:=.int .i64 8) rfl rfl rfl rfl e7q (by simp)) ?_
           rintro _ w18 ⟨hT,e8⟩
           refine W ?_
           exact ZC () ⟨rfl,rfl,rfl,rfl,trivial⟩ ⟨e8,hT⟩
           exact absurd hm8 (by assumption)
           rw [if_neg hm8]
           focus repeat'(first|refine W1 ?_|omega|refine VG ?_ ?_<;>intro hg|refine VC ?_ ?_<;>intro hc)
           exact absurd (by assumption) hm8
           exact ZC () ⟨rfl,rfl,rfl,rfl,trivial⟩ ⟨e7q,Stp.refl _ _⟩
           rintro _ w18 ⟨e8,hT⟩
           replace e4:=e4.ext hT (by simpa using n74.symm)
           replace hp10:Pd w18 b tv l i3 o3:=by
            obtain ⟨g1,g2,g3,g4,g5⟩:=hp10
            have hSx:=hS.own hT (fun c hc=>.inr (hb7x _ rfl c hc))
            exact ⟨g1.ext hT (by simpa using n7b.symm),hs0.ext hSx (fun c hc=>hc) (fun c hc=>.inl hc),g3,g4,g5⟩
           replace hbv:=hbv.ext (X':=b7 :: b4 :: X) hT (fun c hc=>by simp at hc;simp [hc]) (fun c hc=>.inl hc)
           replace hm:=hT.cell (by simpa using n71.symm) hm
           replace hS:=hS.own hT (fun c hc=>.inr (hb7x _ rfl c hc))
           replace h512:=Xi h512 hT.size
           clear hT e7q
           obtain ⟨hpb,hps,hpi,hpl,hpo⟩:=id hp10
           refine W ?_
           refine Z1 (Zc (u:=.int .i64 ((i3+1:Nat):Int)) rfl (by show some _=some _;simp) rfl rfl hpb (by simp)) ?_
           rintro _ w19 ⟨hT,hpb9⟩
           replace hps:=hps.ext (X':=[b]) hT (fun c hc=>hc) (fun c hc=>.inl hc)
           replace e4:=e4.ext hT (by simpa using n4)
           replace e8:=e8.ext hT (by simpa using n7b)
           replace hbv:=hbv.ext (X':=b7 :: b4 :: X) hT (fun c hc=>by simp at hc;subst hc;simp [hbX]) (fun c hc=>.inl hc)
           replace hm:=Jk hm hb1 hT
           replace hS:=hS.trans hT
           replace h512:=Xi h512 hT.size
           refine W ?_
           exact Zp (f1,.mk (if (cur l i2).text=[45] then 8 else 7) 0 (cur l i3).text [y,z],.slice (some ⟨bn,0,none⟩) 2 2,i3+1,o3) ⟨rfl,rfl,rfl,rfl,trivial⟩ ⟨h,by omega,⟨hpb9,hps,hi3,hpl,hpo⟩,e8,hbv,⟨_,rfl,e4⟩,hm,hS,h512⟩ (by omega)
           rw [if_neg (fun h=>hu h.2),if_neg (by omega)] at h
           rw [decide_eq_false hu]
           refine W ?_
           exact Zp (f1,.mk 6 0 (cur l i2).text [y,z],.slice (some ⟨bn,0,none⟩) 2 2,i3,o3) ⟨rfl,rfl,rfl,rfl,trivial⟩ ⟨h,by omega,hp10,e7',hbv,⟨_,rfl,e4⟩,hm,hS,h512⟩ (by omega)
           rw [if_neg (fun h=>k5 h.1)] at h
           by_cases k4:k=4
           rw [if_pos k4] at h
           subst k4
           simp only [Xj] at h
           subst h
           have e7:=e7'
           replace hp:=hp10
           skip
           refine W ?_
           refine Z1 (Z2 (us:=ndC (.mk 6 0 (cur l i2).text [y,z]) (.slice (some ⟨bn,0,none⟩) 2 2)) rfl rfl rfl rfl (Zh hbv) e4 rfl) ?_
           rintro _ wz ⟨hT,e4'⟩
           refine W ?_
           refine Zk rfl rfl rfl e4' rfl ?_
           obtain ⟨hpb,hps,hpi,hpl,hpo⟩:=id hp
           have hSx:=hS.own hT (fun c hc=>by simp at hc;subst hc;exact .inr hb4w)
           refine PC.ok ⟨_,rfl,?_⟩ ⟨hpb.ext hT (by simpa using n4.symm),hs0.ext hSx (fun c hc=>hc) (fun c hc=>.inl hc),hpi,hpl,hpo⟩ hSx
           exact (hbv.ext (X':=b7 :: b4 :: X) hT (fun c hc=>by simp at hc;simp [hc]) (fun c hc=>.inl hc)).wk (fun c hc=>by simp [hc])
           rw [if_neg k4] at h
           focus repeat'(first|refine W1 ?_|omega|refine VG ?_ ?_<;>intro hg|refine VC ?_ ?_<;>intro hc)
           exact Zp (f1,.mk 6 0 (cur l i2).text [y,z],.slice (some ⟨bn,0,none⟩) 2 2,i3,o3) ⟨rfl,rfl,rfl,rfl,trivial⟩ ⟨h,by omega,hp10,e7',hbv,⟨_,rfl,e4⟩,hm,hS,h512⟩ (by omega)
     rw [if_neg hlv] at h
     simp only [Xj] at h
     subst h
     focus repeat'(first|refine W1 ?_|omega|refine VG ?_ ?_<;>intro hg|refine VC ?_ ?_<;>intro hc)
     skip
     refine W ?_
     refine Z1 (Z2 (us:=ndC y ky) rfl rfl rfl rfl (Zh hy) e4 rfl) ?_
     rintro _ wz ⟨hT,e4'⟩
     refine W ?_
     refine Zk rfl rfl rfl e4' rfl ?_
     obtain ⟨hpb,hps,hpi,hpl,hpo⟩:=id hp
     have hSx:=hS.own hT (fun c hc=>by simp at hc;subst hc;exact .inr hb4w)
     refine PC.ok ⟨_,rfl,?_⟩ ⟨hpb.ext hT (by simpa using n4.symm),hs0.ext hSx (fun c hc=>hc) (fun c hc=>.inl hc),hpi,hpl,hpo⟩ hSx
     exact (hy.ext (X':=b7 :: b4 :: X) hT (fun c hc=>by simp at hc;simp [hc]) (fun c hc=>.inl hc)).wk (fun c hc=>by simp [hc])
end Go.Proofs.YtjdjdoefppebkaaGreatDoor
