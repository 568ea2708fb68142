/-
Merged by program out of own texts: Eng23, Eng24, Psr0, PsrP, Eng25, LexM, Lex1, Rt7, Dtr1, Dat1, Vmm, Vme, Vev0, Psr1, Psr2, Psr3, Psr4, Psr5.
-/
import Derived.Test.YtjdjdoefppebkaaGreatDoorM2
import Derived.Laws.RangeString
import Derived.Laws.RangeAny
set_option linter.unusedVariables false
set_option linter.unusedSimpArgs false
namespace Go.Eng
open Go Go.RowKit Go.Proofs
def PQ (n:Nat) (Q:Exit→Act→World→Prop):Exit→Act→World→Prop
 | .panic ch,a,w=>Has n [] a∧∀ a',Has n [] a'→Q (.panic ch) a' w
 | _,_,_=>False
theorem Has.put_back {n:Nat} {a:Act} {d:Option Nat} {v:Value} (h:Has n [] (a.put d v)):Has n [] a:=by
 cases d with
 | none=>exact h
 | some d=>exact ⟨h.defers,by simpa [Act.put] using h.size,fun t v hv=>by simp [look] at hv⟩
theorem PQ_out {n:Nat} {Q:Exit→Act→World→Prop} (a:Act) (w:World):¬ PQ n Q .outgrown a w:=fun h=>h
theorem PQ_put {n:Nat} {Q:Exit→Act→World→Prop} (ch:List PanicEntry) (a:Act) (d:Option Nat) (v:Value) (w:World) (h:PQ n Q (.panic ch) (a.put d v) w):PQ n Q (.panic ch) a w:=⟨h.1.put_back,h.2⟩
theorem PQ_imp {n:Nat} {Q:Exit→Act→World→Prop} (ex:Exit) (a:Act) (w:World) (h:PQ n Q ex a w):Q ex a w:=by
 cases ex<;>first|exact h.2 a h.1|exact h.elim
theorem wp_imp {P:Program} {o:Oper} {a:Act} {w:World} {K:Act→World→Prop} {X Q:Exit→Act→World→Prop} (hX0:∀ a w,¬ X .outgrown a w) (hX:∀ ex a w,X ex a w→Q ex a w) (h:o.wp P a w K X):o.wp P a w K Q:=by
 unfold Oper.wp at *
 generalize (execOp a.eval o).run P w=r at *
 cases r with
 | ok n w'=>
   cases n<;>simp only [Oper.upon] at h ⊢
   case enter f args=>
    refine Calls.mono h (fun e w'' he=>?_)
    cases e with
    | returned v=>exact he
    | panicked c=>exact hX _ _ _ he
    | outgrown=>obtain ⟨_,_,hf⟩:=he;exact (hX0 _ _ hf).elim
   all_goals exact h
 | halt x w'=>cases x<;>simp only [Oper.upon] at h ⊢;exact hX _ _ _ h
theorem wpOp_imp {P:Program} {ops:Array Oper} {i:Nat} {K:Act→World→Prop} {X Q:Exit→Act→World→Prop} (hX0:∀ a w,¬ X .outgrown a w) (hX:∀ ex a w,X ex a w→Q ex a w) {a:Act} {w:World} (h:wpOp P ops X i K a w):wpOp P ops Q i K a w:=by
 unfold wpOp at *
 cases ho:ops[i]? with
 | none=>simp only [ho] at h ⊢;exact h
 | some o=>
   simp only [ho] at h ⊢
   split
   rename_i hw
   simp only [hw,if_true] at h
   rcases h with h|⟨_,_,_,hf⟩
   exact .inl (wp_imp hX0 hX h)
   exact (hX0 _ _ hf).elim
   rename_i hw;simp only [hw] at h;exact h
def wpAnyEq (P:Program) (X:Exit→Act→World→Prop) (md:Region.Mode) (ops:Array Oper) (S:List Nat) (Lt:Nat→Bool) (Z:Act→World→Prop):Nat→Array Bool→Act→World→Prop
 | 0,listed,a,w=>Region.ready md ops listed=[]∧Z a w
 | fuel + 1, listed, a, w=>
   (Region.ready md ops listed=[]→Z a w)∧
   ∀ i∈Region.ready md ops listed,wpOp P ops X i (fun a' w'=>(Stp S w w'∨Lt i=true)∧wpAnyEq P X md ops S Lt Z fuel (listed.setIfInBounds i true) a' w') a w
theorem wpAny_of_Eq {P:Program} {ops:Array Oper} {md:Region.Mode} {S:List Nat} {Lt:Nat→Bool} {X Q:Exit→Act→World→Prop} (hX0:∀ a w,¬ X .outgrown a w) (hX:∀ ex a w,X ex a w→Q ex a w) {Z:Act→World→Prop} (hZ:∀ a w,Z a w→Q .normal a w):∀ (fuel:Nat) (listed:Array Bool) (a:Act) (w:World),
 wpAnyEq P X md ops S Lt Z fuel listed a w→wpAny P md ops Q fuel listed a w
 | 0,_,_,_,h=>⟨h.1,hZ _ _ h.2⟩
 | fuel+1,_,_,_,h=>⟨fun h0=>hZ _ _ (h.1 h0),fun i hi=>wpOp_mono (fun a' w' hk=>wpAny_of_Eq hX0 hX hZ fuel _ a' w' hk.2) (wpOp_imp hX0 hX (h.2 i hi))⟩
section any
variable {P:Program} {ops:Array Oper} {md:Region.Mode} {S:List Nat} {Lt:Nat→Bool}
theorem first_Eq {X:Exit→Act→World→Prop} (hX0:∀ a w,¬ X .outgrown a w) (hXp:∀ ch a d v w,X (.panic ch) (Act.put a d v) w→X (.panic ch) a w) {Z:Act→World→Prop} {R:World→World→Prop} (hR0:∀ w,R w w) (hRt:∀ a b c,R a b→R b c→R a c) {i:Nat} {oi:Oper} {v:Value} (hi:ops[i]?=some oi)
 (hRs:∀ j oj,ops[j]?=some oj→(∀ e∈oj.after,Region.binds md e=true→e.on≠i)→j≠i→∀ w w',(Stp S w w'∨Lt j=true)→R w w')
 (hsel:∀ (j:Nat) (o:Oper) cs b,ops[j]?=some o→o.op≠.select cs b) :
 ∀ (fuel : Nat) (listed : Array Bool) (a : Act) (w : World),
   (∀ j oj,ops[j]?=some oj→j≠i→listed.getD j true=false→(∀ e∈oj.after,Region.binds md e=true→e.on≠i)→oi.apart ops oj=true)→
   (Stp S w w∨Lt i=true→True)→i∈Region.ready md ops listed→YE P ops R oi v a w→
   wpAnyEq P X md ops S Lt Z fuel (listed.setIfInBounds i true) (a.put oi.dst v) w→wpAnyEq P X md ops S Lt Z (fuel+1) listed a w:=by
 have now:∀ (fuel:Nat) (listed:Array Bool) (a:Act) (w:World),YE P ops R oi v a w→wpAnyEq P X md ops S Lt Z fuel (listed.setIfInBounds i true) (a.put oi.dst v) w→
  wpOp P ops X i (fun a' w'=>(Stp S w w'∨Lt i=true)∧wpAnyEq P X md ops S Lt Z fuel (listed.setIfInBounds i true) a' w') a w:=by
  intro fuel listed a w hy H
  unfold wpOp
  simp only [hi]
  rcases hy with ⟨hw,hv⟩|⟨hw,rfl⟩
  simp only [hw,if_true,Oper.wp,hv w (hR0 w),Oper.upon];exact .inl ⟨.inl (Stp.refl _ _),H⟩
  simp only [hw,Bool.false_eq_true,if_false];exact ⟨.inl (Stp.refl _ _),H⟩
 intro fuel
 induction fuel with
 | zero=>
   intro listed a w _ _ hr hy H
   refine ⟨fun h=>(by rw [h] at hr;cases hr),fun j hj=>?_⟩
   by_cases hji:j=i
   subst hji;exact now _ _ _ _ hy H
   have:=ready_mono hj hji
   rw [H.1] at this
   cases this
 | succ fuel ih=>
   intro listed a w hfree hx hr hy H
   refine ⟨fun h=>(by rw [h] at hr;cases hr),fun j hj=>?_⟩
   by_cases hji:j=i
   subst hji;exact now _ _ _ _ hy H
   have h1:=H.2 j (ready_mono hj hji)
   obtain ⟨hjun,oj,hoj,hall⟩:=mem_ready.1 hj
   have hnot:∀ e∈oj.after,Region.binds md e=true→e.on≠i:=fun e he hb heq=>by
    have h1:=hall e he hb
    have h0:=(mem_ready.1 hr).1
    rw [heq] at h1
    rcases Nat.lt_or_ge i listed.size with h'|h'
    simp [h'] at h0 h1;rw [h0] at h1;cases h1
    simp [Array.getElem?_eq_none h'] at h1
   have hap:=hfree j oj hoj hji hjun hnot
   obtain ⟨p1,p2,p3⟩:=Oper.apart_spec hap
   have keep:∀ (a:Act),YE P ops R oi v a w→∀ u,YE P ops R oi v (a.put oj.dst u) w:=fun a hy u=>
    hy.same (execOp_put oi (fun cs b=>hsel i oi cs b hi) a oj.dst u p3) (wanted_put oi a oj.dst u p3)
   have keepD:∀ (a:Act) d,YE P ops R oi v a w→YE P ops R oi v { a with defers:=d :: a.defers } w:=fun a d hy=>hy.same rfl rfl
   have later:∀ (a:Act) w',(Stp S w w'∨Lt j=true)→YE P ops R oi v a w→YE P ops R oi v a w':=fun a w' hs hy=>by
    rcases hy with ⟨hw,hv⟩|hw
    exact .inl ⟨hw,fun w'' h''=>hv w'' (hRt _ _ _ (hRs j oj hoj hnot hji w w' hs) h'')⟩
    exact .inr hw
   have hfree':∀ k ok,ops[k]?=some ok→k≠i→(listed.setIfInBounds j true).getD k true=false→
    (∀ e∈ok.after,Region.binds md e=true→e.on≠i)→oi.apart ops ok=true:=fun k ok hk hki hun hno=>by
    refine hfree k ok hk hki ?_ hno
    by_cases hjk:j=k
    subst hjk;exact hjun
    rw [getD_set_ne true hjk] at hun;exact hun
   have fin:∀ a' w',YE P ops R oi v a' w→(Stp S w w'∨Lt j=true)∧wpAnyEq P X md ops S Lt Z fuel ((listed.setIfInBounds i true).setIfInBounds j true) (a'.put oi.dst v) w'→
    (Stp S w w'∨Lt j=true)∧wpAnyEq P X md ops S Lt Z (fuel+1) (listed.setIfInBounds j true) a' w':=by
    rintro a' w' hy' ⟨hs,hk⟩
    refine ⟨hs,ih _ a' w' hfree' (fun _=>trivial) (ready_mono hr (Ne.symm hji)) (later a' w' hs hy') ?_⟩
    rw [Array.setIfInBounds_comm _ _ hji]
    exact hk
   have hsj:∀ cs b,oj.op≠.select cs b:=fun cs b=>hsel j oj cs b hoj
   unfold wpOp at *
   simp only [hoj] at *
   rw [wanted_put oj a oi.dst v p1] at h1
   split
   · rename_i hw
     simp only [hw,if_true] at h1
     rcases h1 with h1|⟨_,_,_,hf⟩
     case inr=>exact (hX0 _ _ hf).elim
     refine .inl ?_
     unfold Oper.wp at *
     rw [execOp_put oj hsj a oi.dst v p1] at h1
     generalize (execOp a.eval oj).run P w=r at *
     cases r with
     | ok n w'=>
       cases n<;>simp only [Oper.upon] at h1 ⊢
       case value u=>exact fin _ _ (keep a hy u) (by rw [← Act.put_comm a v u p2];exact h1)
       case skip=>exact fin _ _ (keep a hy _) (by rw [← Act.put_comm a v undef p2];exact h1)
       case defer d=>
        refine fin _ _ (keep _ (keepD a d hy) _) ?_
        rw [← Act.put_comm _ v undef p2,← Act.put_defers]
        exact h1
       case enter f args=>
        refine Calls.mono h1 fun e w'' he=>?_
        cases e with
        | returned u=>exact fin _ _ (keep a hy u) (by rw [← Act.put_comm a v u p2];exact he)
        | panicked c=>exact hXp _ _ _ _ _ he
        | outgrown=>obtain ⟨_,_,hf⟩:=he;exact (hX0 _ _ hf).elim
       case row row args=>exact Rows.mono h1 fun u w'' he=>fin _ _ (keep a hy u) (by rw [← Act.put_comm a v u p2];exact he)
     | halt x w'=>
       cases x<;>simp only [Oper.upon] at h1 ⊢
       exact hXp _ _ _ _ _ h1
   rename_i hw
   simp only [hw] at h1
   exact fin _ _ (keep a hy _) (by rw [← Act.put_comm a v undef p2];exact h1)
end any
structure WDq (P:Program) (n:Nat) (ops:Array Oper) (S:List Nat) (Lt:List Nat) (Q:Exit→Act→World→Prop) (ord:List (Nat×Nat)) (e:Env) (w:World):Prop where
 h:∀ listed:Array Bool,Region.noSelect ops=true→checkD ops Lt ord listed=true→∀ a,Has n e a→wpAnyEq P (PQ n Q) .any ops S (fun j=>Lt.contains j) (fun a w=>Q .normal a w) (wt ord) listed a w
section rules
variable {P:Program} {n:Nat} {Q:Exit→Act→World→Prop} {e:Env} {w:World} {ops:Array Oper} {S:List Nat} {Lt:List Nat} {rest:List (Nat×Nat)}
theorem WC_drawnq {id:Nat} {l:List Oper} (m:Nat) (S:List Nat) (Lt:List Nat) (ord:List (Nat×Nat)) (hlm:l.length=m) (hm:P.follows .mixedOrders=true) (hs:Region.noSelect l.toArray=true) (hl:Nat.beq (wt ord) l.length=true)
 (hB:checkD l.toArray Lt ord (Array.replicate m false)=true)
 (h:∀ w',Stp [] w w'→WDq P n l.toArray S Lt Q ord e w'):WC P n (.region id l.toArray true) Q e w:=by
 subst hlm
 refine ⟨fun a ha=>wp_region_any hm ?_⟩
 have h1:=(h { w with drawn:=w.drawn+1 } (Stp.drew [] w)).h _ hs hB a ha
 have h2:=wpAny_of_Eq (X:=PQ n Q) (Q:=Q) PQ_out PQ_imp (fun a w hz=>hz) _ _ _ _ h1
 rw [Nat.eq_of_beq_eq_true hl] at h2
 simpa using h2
theorem WDq_step0 {i d:Nat} {o:Oper} {v:Value} (hi:ops[i]?=some o) (hd:o.dst=some d) (hY:∀ a,Has n e a→YE P ops (fun _ _=>True) o v a w) (hdn:Nat.blt d n=true)
 (k:WDq P n ops S Lt Q rest ((d,v) :: e) w):WDq P n ops S Lt Q ((i,0) :: rest) e w:=by
 refine ⟨fun listed hs hB a ha=>?_⟩
 simp only [checkD,checkS,Bool.and_eq_true] at hB
 obtain ⟨⟨h1,h2⟩,h3⟩:=hB
 have hk:=k.h _ hs h3 _ (ha.put (v:=v) hdn)
 rw [← hd] at hk
 rw [wt_small (by decide)]
 exact first_Eq PQ_out PQ_put (R:=fun _ _=>True) (fun _=>trivial) (fun _ _ _ _ _=>trivial) hi (fun _ _ _ _ _ _ _ _=>trivial) (Region.noSelect_spec hs) _ _ _ _ (Region.free_spec hi h2) (fun _=>trivial) (by simpa using h1) (hY a ha) hk
theorem WDq_step1 {i d:Nat} {o:Oper} {v:Value} (hi:ops[i]?=some o) (hd:o.dst=some d) (hY:∀ a,Has n e a→YE P ops (Stp S) o v a w) (hdn:Nat.blt d n=true)
 (k:WDq P n ops S Lt Q rest ((d,v) :: e) w):WDq P n ops S Lt Q ((i,1) :: rest) e w:=by
 refine ⟨fun listed hs hB a ha=>?_⟩
 simp only [checkD,checkS,Bool.and_eq_true] at hB
 obtain ⟨⟨⟨h1,h2⟩,hb⟩,h3⟩:=hB
 have hk:=k.h _ hs h3 _ (ha.put (v:=v) hdn)
 rw [← hd] at hk
 rw [wt_small (by decide)]
 refine first_Eq PQ_out PQ_put (R:=Stp S) (fun w=>Stp.refl _ w) (fun _ _ _ h k=>h.trans k) hi (fun j oj hj hn hji w w' hs=>?_) (Region.noSelect_spec hs) _ _ _ _ (Region.free_spec hi h2) (fun _=>trivial) (by simpa using h1) (hY a ha) hk
 rcases hs with hs|hs
 exact hs
 rw [bound_spec hb hj hn hji] at hs;cases hs
variable {i d:Nat} {op:Op} {ty:TypeId} {pos:String} {af:Array Edge} {gd:Option (Nat×Bool)} {v:Value}
theorem WDq_free (hi:ops[i]?=some ⟨some d,op,ty,pos,af,gd⟩) (hg:gdOk ops e gd) (hp:∀ w',PR P n ⟨some d,op,ty,pos,af,gd⟩ e w' v) (hdn:Nat.blt d n=true)
 (k:WDq P n ops S Lt Q rest ((d,v) :: e) w):WDq P n ops S Lt Q ((i,0) :: rest) e w:=
 WDq_step0 hi rfl (fun a ha=>.inl ⟨wanted_ok ha hg,fun w' _=>(hp w').h a ha⟩) hdn k
theorem WDq_read (hi:ops[i]?=some ⟨some d,op,ty,pos,af,gd⟩) (hg:gdOk ops e gd) (hp:∀ w',Stp S w w'→PR P n ⟨some d,op,ty,pos,af,gd⟩ e w' v) (hdn:Nat.blt d n=true)
 (k:WDq P n ops S Lt Q rest ((d,v) :: e) w):WDq P n ops S Lt Q ((i,1) :: rest) e w:=
 WDq_step1 hi rfl (fun a ha=>.inl ⟨wanted_ok ha hg,fun w' hw=>(hp w' hw).h a ha⟩) hdn k
structure WDq1 (P:Program) (n:Nat) (ops:Array Oper) (S:List Nat) (Lt:List Nat) (Q:Exit→Act→World→Prop) (i:Nat) (ord:List (Nat×Nat)) (e:Env) (w:World):Prop where
 h : ∀ listed : Array Bool, Region.noSelect ops = true → checkD ops Lt ord (listed.setIfInBounds i true) = true → ∀ a, Has n e a→
   wpOp P ops (PQ n Q) i (fun a' w'=>(Stp S w w'∨Lt.contains i=true)∧wpAnyEq P (PQ n Q) .any ops S (fun j=>Lt.contains j) (fun a w=>Q .normal a w) (wt ord) (listed.setIfInBounds i true) a' w') a w
theorem WDq_one (h:WDq1 P n ops S Lt Q i rest e w):WDq P n ops S Lt Q ((i,2) :: rest) e w:=by
 refine ⟨fun listed hs hB a ha=>?_⟩
 simp only [checkD,checkS] at hB
 rw [if_neg (by simp)] at hB
 simp only [Bool.and_eq_true,beq_iff_eq] at hB
 obtain ⟨h1,h3⟩:=hB
 rw [wt_small (by decide)]
 refine ⟨fun h0=>absurd (h1 ▸ h0) (by simp),fun j hj=>?_⟩
 rw [h1] at hj
 obtain rfl:j=i:=by simpa using hj
 exact h.h _ hs h3 a ha
end rules
structure OEP (P:Program) (n:Nat) (o:Oper) (e:Env) (w:World) (G:Value→World→Prop) (F:List PanicEntry→World→Prop):Prop where
 h:∀ a,Has n e a→∀ Q:Exit→Act→World→Prop,(∀ ch w',F ch w'→Q (.panic ch) a w')→o.wp P a w (fun a' w'=>∃ v,a'=a.put o.dst v∧G v w') Q
inductive PRet (G:Value→World→Prop) (F:List PanicEntry→World→Prop):Ending→World→Prop
 | ret {v:Value} {w:World}:G v w→PRet G F (.returned v) w
 | pan {ch:List PanicEntry} {w:World}:F ch w→PRet G F (.panicked ch) w
section
variable {P:Program} {n:Nat} {Q:Exit→Act→World→Prop} {e:Env} {w:World} {ops:Array Oper} {S:List Nat} {Lt:List Nat} {rest:List (Nat×Nat)}
theorem WDq_effP {i d:Nat} {op:Op} {ty:TypeId} {pos:String} {af:Array Edge} {gd:Option (Nat×Bool)} {G:Value→World→Prop} {F:List PanicEntry→World→Prop} (hi:ops[i]?=some ⟨some d,op,ty,pos,af,gd⟩) (hg:gdOk ops e gd)
 (hp:OEP P n ⟨some d,op,ty,pos,af,gd⟩ e w G F) (hG:∀ v w',G v w'→Stp S w w') (hdn:Nat.blt d n=true) (hF:∀ ch w',F ch w'→WQ n Q (.panic ch) [] w')
 (k:∀ v w',G v w'→WDq P n ops S Lt Q rest ((d,v) :: e) w'):WDq P n ops S Lt Q ((i,2) :: rest) e w:=by
 refine WDq_one ⟨fun listed hs h3 a ha=>?_⟩
 unfold wpOp
 simp only [hi]
 rw [if_pos (wanted_ok (o:=⟨some d,op,ty,pos,af,gd⟩) ha hg)]
 have h0:Has n [] a:=⟨ha.defers,ha.size,fun t v hv=>by simp [look] at hv⟩
 refine .inl (Oper.wp_mono ?_ (hp.h a ha (PQ n Q) (fun ch w' h=>⟨h0,fun a' ha'=>(hF ch w' h).h a' ha'⟩)))
 rintro a' w' ⟨v,rfl,hG'⟩
 exact ⟨.inl (hG v w' hG'),(k v w' hG').h _ hs h3 _ (ha.put hdn)⟩
end
section
variable {P:Program} {n:Nat} {Q:Exit→Act→World→Prop} {e:Env} {w:World} {ops:Array Oper} {rest:List Oper} {d:Option Nat} {ty:TypeId} {pos:String} {af:Array Edge} {g:Option (Nat×Bool)}
theorem OEP_call {f:Nat} {fn:Func} {xs:Array Operand} {ts:Array TypeId} {vs:Array Value} {G:Value→World→Prop} {F:List PanicEntry→World→Prop} {c:Operand} [hf:Fun P f fn] (hc:ev e c=some (.func (.func f) #[] #[]))
 (hv:∀ a,Has n e a→xs.map a.eval=vs) (h:Calls P f vs w (PRet G F)) :
 OEP P n ⟨d,.call { callee:=.value c,args:=xs,argTypes:=ts },ty,pos,af,g⟩ e w G F:=
 ⟨fun a ha Q hQ => by
   have he:(execOp a.eval ⟨d,.call { callee:=.value c,args:=xs,argTypes:=ts },ty,pos,af,g⟩).run P w=.ok (.enter f vs) w:=by
    simp only [execOp,resolve,ha.ev hc,Deferred.ofValue,hv a ha]
    simp [invoke]
    exact hf.enters vs w
   unfold Oper.wp
   rw [he]
   simp only [Oper.upon]
   refine h.mono ?_
   intro r w' hr
   cases hr with
   | ret hg=>exact ⟨_,rfl,hg⟩
   | pan hp=>exact hQ _ _ hp⟩
theorem WL_effP {d:Nat} {op:Op} {G:Value→World→Prop} {F:List PanicEntry→World→Prop} (hp:OEP P n ⟨some d,op,ty,pos,af,none⟩ e w G F) (hd:Nat.blt d n=true) (hF:∀ ch w',F ch w'→WQ n Q (.panic ch) e w')
 (k:∀ v w',G v w'→WL P n ops Q rest ((d,v) :: e) w'):WL P n ops Q (⟨some d,op,ty,pos,af,none⟩ :: rest) e w:=by
 refine ⟨fun a ha=>?_⟩
 refine wpList_plain rfl (fun K hK=>?_)
 refine Oper.wp_mono ?_ (hp.h a ha Q (fun ch w' h=>(hF ch w' h).h a ha))
 rintro a' w' ⟨v,rfl,hg⟩
 exact hK _ _ ((k v w' hg).h _ (ha.put hd))
theorem WQ_then_panic {N:Act→World→Prop} {ch:List PanicEntry} (h:WQ n Q (.panic ch) e w):WQ n (Exit.then N Q) (.panic ch) e w:=⟨fun a ha=>h.h a ha⟩
theorem WQ_block_panic {i:Nat} {ch:List PanicEntry} (h:WQ n Q (.panic ch) e w):WQ n (Exit.inBlock i Q) (.panic ch) e w:=⟨fun a ha=>h.h a ha⟩
theorem WQ_forget {x:Exit} (h:WQ n Q x [] w):WQ n Q x e w:=⟨fun a ha=>h.h a ⟨ha.defers,ha.size,fun t v hv=>by simp [look] at hv⟩⟩
theorem WQ_panic {fn:Func} {R:Ending→World→Prop} {ch:List PanicEntry} (h:R (.panicked ch) w):WQ n (bodyPost P fn R) (.panic ch) e w:=⟨fun a ha=>⟨ha.defers,h⟩⟩
end
theorem PR_makeInterface {P:Program} {n:Nat} {e:Env} {w:World} {d:Option Nat} {ty:TypeId} {pos:String} {af:Array Edge} {g:Option (Nat×Bool)} {t:TypeId} {x:Operand} {v:Value} {fs:Array Field} [hu:Und P t (.struct fs)] (hx:ev e x=some v):PR P n ⟨d,.makeInterface t x,ty,pos,af,g⟩ e w (.iface t v):=
 ⟨fun a ha=>by simp [execOp,ha.ev hx,Instr.makeInterface,run_underlying hu.h]⟩
theorem panic_run {P:Program} {n:Nat} {e:Env} {w:World} {d:Option Nat} {ty:TypeId} {pos:String} {af:Array Edge} {g:Option (Nat×Bool)} {x:Operand} {t:TypeId} {v:Value} (hx:ev e x=some (.iface t v)):∀ a,Has n e a→(execOp a.eval ⟨d,.panic x,ty,pos,af,g⟩).run P w=.halt (.panic (.iface t v)) w:=
 fun a ha=>by simp [execOp,ha.ev hx,Instr.panic]
theorem WDq_panic {P:Program} {n:Nat} {Q:Exit→Act→World→Prop} {e:Env} {w:World} {ops:Array Oper} {S:List Nat} {Lt:List Nat} {rest:List (Nat×Nat)} {i:Nat} {o:Oper} {v:Value} (hi:ops[i]?=some o) (hg:gdOk ops e o.guard)
 (hp:∀ a,Has n e a→(execOp a.eval o).run P w=.halt (.panic v) w) (h:WQ n Q (.panic [{ v,recovered:=false }]) [] w):WDq P n ops S Lt Q ((i,2) :: rest) e w:=by
 refine WDq_one ⟨fun listed hs h3 a ha=>?_⟩
 unfold wpOp
 simp only [hi]
 rw [if_pos (wanted_ok ha hg)]
 refine .inl ?_
 unfold Oper.wp
 rw [hp a ha]
 have h0:Has n [] a:=⟨ha.defers,ha.size,fun t v hv=>by simp [look] at hv⟩
 exact ⟨h0,fun a' ha'=>h.h a' ha'⟩
structure Tkn where
 kind:Int
 pos:Int
 text:Str
 num:Int
 deriving DecidableEq
instance:Inhabited Tkn:=⟨⟨0,0,[],0⟩⟩
instance:Flat Tkn where
 k:=4
 enc:=fun t=>[.int .i64 t.kind,.int .i64 t.pos,str t.text,.int .i64 t.num]
 len:=fun _=>rfl
 one:=by intro x u hu;simp at hu;rcases hu with rfl|rfl|rfl|rfl<;>rfl
def cur (l:List Tkn) (i:Nat):Tkn:=l.getD i default
inductive Out (α:Type) where
 | err (a c:Int)
 | ok (x:α) (i o:Nat)
def Out.bind {α β:Type}:Out α→(α→Nat→Nat→Out β)→Out β
 | .err a c,_=>.err a c
 | .ok x i o,k=>k x i o
def failO {α:Type} (l:List Tkn) (i:Nat) (c:Int):Out α:=.err (cur l i).pos c
def mustO (l:List Tkn) (s:Str) (i o:Nat):Out Unit:=if (cur l i).text=s then .ok () (i+1) o else failO l i 20
def tokenO (l:List Tkn) (k:Int) (i o:Nat):Out Tkn:=if (cur l i).kind=k then .ok (cur l i) (i+1) o else failO l i 20
def opensO (l:List Tkn) (s:Str) (i o:Nat):Out Unit:=if (cur l i).text=s then (if o=12 then failO l i 2 else .ok () (i+1) (o+1)) else failO l i 20
def closesO (l:List Tkn) (s:Str) (i o:Nat):Out Unit:=(mustO l s i o).bind fun _ i o=>.ok () i (o - 1)
def fieldW:List Str:=[[100,97,121],[115,101,114,118,101,100],[101,120,116,114,97],[98,121],[116,111],[99,111,117,114,116],[97,109,111,117,110,116]]
def unitW:List Str:=[[100,97,121,115],[119,101,101,107,115],[109,111,110,116,104,115],[99,111,117,114,116,100,97,121,115]]
def funcW:List Str:=[[110,101,120,116],[112,114,101,118],[108,97,116,101,114],[101,97,114,108,105,101,114],[98,101,116,119,101,101,110]]
def levelO (s:Str):Nat:=
 if s=[111,114] then 1 else if s=[97,110,100] then 2 else if s=[60]∨s=[60,61]∨s=[61]∨s=[33,61]∨s=[62]∨s=[62,61] then 4
 else if s=[43]∨s=[45] then 5 else if s=[42] then 6 else 0
def argsO (s:Str):Nat:=if s=[110,101,120,116]∨s=[112,114,101,118] then 1 else 2
def manyO (m:Nat→Nat→Option (Out Nd)) (sep:Nat→Nat→Nat→Out Unit):Nat→Nat→List Nd→Nat→Nat→Option (Out (List Nd))
 | 0,_,ks,i,o=>some (.ok ks i o)
 | n + 1, k, ks, i, o=>
   match sep k i o with
   | .err a c=>some (.err a c)
   | .ok _ i o=>
     match m i o with
     | none=>none
     | some (.err a c)=>some (.err a c)
     | some (.ok x i o)=>manyO m sep n (k+1) (ks++[x]) i o
def commaO (l:List Tkn) (k i o:Nat):Out Unit:=if 0<k then mustO l [44] i o else .ok () i o
def thenO (l:List Tkn) (k i o:Nat):Out Unit:=mustO l (if k=0 then [116,104,101,110] else [101,108,115,101]) i o
inductive Call where
 | expr (level:Nat)
 | loop (level:Nat) (x:Nd)
 | prim
def exprO (l:List Tkn):Nat→Call→Nat→Nat→Option (Out Nd)
 | 0,_,_,_=>none
 | f + 1, .expr k, i, o=>
   if (k=3∧(cur l i).text=[110,111,116])∨(k=7∧(cur l i).text=[45]) then
    match opensO l (cur l i).text i o with
    | .err a c=>some (.err a c)
    | .ok _ i' o'=>
      match exprO l f (.expr k) i' o' with
      | none=>none
      | some (.err a c)=>some (.err a c)
      | some (.ok x i'' o'')=>some (.ok (.mk 5 0 (cur l i).text [x]) i'' (o'' - 1))
   else if k=8 then exprO l f .prim i o
   else
    match exprO l f (.expr (k+1)) i o with
    | none=>none
    | some (.err a c)=>some (.err a c)
    | some (.ok x i' o')=>exprO l f (.loop k x) i' o'
 | f + 1, .loop k x, i, o=>
   if levelO (cur l i).text=k then
    match exprO l f (.expr (k+1)) (i+1) o with
    | none=>none
    | some (.err a c)=>some (.err a c)
    | some (.ok y i' o')=>
      if k=5∧(cur l i').text∈unitW then exprO l f (.loop k (.mk (if (cur l i).text=[45] then 8 else 7) 0 (cur l i').text [x,y])) (i'+1) o'
      else if k=4 then some (.ok (.mk 6 0 (cur l i).text [x,y]) i' o')
      else exprO l f (.loop k (.mk 6 0 (cur l i).text [x,y])) i' o'
   else some (.ok x i o)
 | f + 1, .prim, i, o=>
   let t:=cur l i
   if t.kind=2 then some (.ok (.mk 1 t.num [] []) (i+1) o)
   else if t.kind=3 then some (.ok (.mk 3 t.num [] []) (i+1) o)
   else if t.text=[116,114,117,101] then some (.ok (.mk 2 1 [] []) (i+1) o)
   else if t.text=[102,97,108,115,101] then some (.ok (.mk 2 0 [] []) (i+1) o)
   else if t.text=[40] then
    match opensO l [40] i o with
    | .err a c=>some (.err a c)
    | .ok _ i' o'=>
      match exprO l f (.expr 1) i' o' with
      | none=>none
      | some (.err a c)=>some (.err a c)
      | some (.ok x i'' o'')=>
        match closesO l [41] i'' o'' with
        | .err a c=>some (.err a c)
        | .ok _ i3 o3=>some (.ok x i3 o3)
   else if t.text=[105,102] then
    match opensO l [105,102] i o with
    | .err a c=>some (.err a c)
    | .ok _ i' o'=>
      match exprO l f (.expr 1) i' o' with
      | none=>none
      | some (.err a c)=>some (.err a c)
      | some (.ok x i'' o'')=>
        match manyO (exprO l f (.expr 1)) (thenO l) 2 0 [x] i'' o'' with
        | none=>none
        | some (.err a c)=>some (.err a c)
        | some (.ok ks i3 o3)=>
          match closesO l [101,110,100] i3 o3 with
          | .err a c=>some (.err a c)
          | .ok _ i4 o4=>some (.ok (.mk 9 0 [] ks) i4 o4)
   else if t.text∈funcW then
    match tokenO l 1 i o with
    | .err a c=>some (.err a c)
    | .ok _ i1 o1=>
      match opensO l [40] i1 o1 with
      | .err a c=>some (.err a c)
      | .ok _ i' o'=>
        match manyO (exprO l f (.expr 1)) (commaO l) (argsO t.text) 0 [] i' o' with
        | none=>none
        | some (.err a c)=>some (.err a c)
        | some (.ok ks i3 o3)=>
          match closesO l [41] i3 o3 with
          | .err a c=>some (.err a c)
          | .ok _ i4 o4=>some (.ok (.mk 10 0 t.text ks) i4 o4)
   else if t.text∈fieldW then some (.ok (.mk 4 0 t.text []) (i+1) o)
   else some (failO l i 20)
def fuelO (l:List Tkn) (i:Nat):Nat:=20 * (l.length - i)+20
def wholeO (l:List Tkn) (i o:Nat):Out Nd:=(exprO l (fuelO l i) (.expr 1) i o).getD (.err 0 0)
structure Toks (l:List Tkn):Prop where
 pos:0<l.length
 last:(cur l (l.length - 1)).kind=0∧(cur l (l.length - 1)).text=[]
 body:∀ i,i+1<l.length→(cur l i).kind≠0∧(cur l i).text≠[]
 len:l.length≤4001
 sp:∀ i,∀ c∈(cur l i).text,c≠32
 tl:∀ i,(cur l i).text.length≤4000
theorem Toks.end_of {l:List Tkn} (h:Toks l) {i:Nat} (hi:i<l.length) (ht:(cur l i).text≠[]):i+1<l.length:=by
 by_cases hl:i+1<l.length
 exact hl
 exfalso
 obtain rfl:i=l.length - 1:=by omega
 exact ht h.last.2
theorem Toks.end_of_kind {l:List Tkn} (h:Toks l) {i:Nat} (hi:i<l.length) (ht:(cur l i).kind≠0):i+1<l.length:=by
 by_cases hl:i+1<l.length
 exact hl
 exfalso
 obtain rfl:i=l.length - 1:=by omega
 exact ht h.last.1
theorem mustO_open {l:List Tkn} {s:Str} {i o:Nat} {u:Unit} {i' o':Nat} (h:mustO l s i o=.ok u i' o'):o'=o:=by
 unfold mustO failO at h;split at h<;>simp at h;omega
theorem mustO_i {l:List Tkn} {s:Str} {i o:Nat} {u:Unit} {i' o':Nat} (h:mustO l s i o=.ok u i' o'):i'=i+1∧(cur l i).text=s:=by
 unfold mustO failO at h;split at h<;>simp at h;exact ⟨by omega,by assumption⟩
theorem tokenO_open {l:List Tkn} {k:Int} {i o:Nat} {t:Tkn} {i' o':Nat} (h:tokenO l k i o=.ok t i' o'):o'=o∧i'=i+1∧t=cur l i∧t.kind=k:=by
 unfold tokenO failO at h;split at h<;>simp at h
 obtain ⟨rfl,rfl,rfl⟩:=h
 exact ⟨rfl,rfl,rfl,by assumption⟩
theorem opensO_open {l:List Tkn} {s:Str} {i o:Nat} {u:Unit} {i' o':Nat} (h:opensO l s i o=.ok u i' o'):o'=o+1∧i'=i+1∧(cur l i).text=s:=by
 unfold opensO failO at h;split at h
 split at h<;>simp at h
 exact ⟨by omega,by omega,by assumption⟩
 simp at h
theorem closesO_open {l:List Tkn} {s:Str} {i o:Nat} {u:Unit} {i' o':Nat} (h:closesO l s i o=.ok u i' o'):o'=o - 1∧i'=i+1∧(cur l i).text=s:=by
 unfold closesO at h
 cases hm:mustO l s i o with
 | err a c=>rw [hm] at h;simp [Out.bind] at h
 | ok x j p=>
   rw [hm] at h
   simp [Out.bind] at h
   have:=mustO_open hm
   have:=mustO_i hm
   exact ⟨by omega,by omega,this.2⟩
theorem manyO_open {m:Nat→Nat→Option (Out Nd)} {sep:Nat→Nat→Nat→Out Unit} (hm:∀ i o x i' o',m i o=some (.ok x i' o')→o'=o) (hs:∀ k i o u i' o',sep k i o=.ok u i' o'→o'=o) :
 ∀ (n k:Nat) (ks:List Nd) (i o:Nat) (ks':List Nd) (i' o':Nat),manyO m sep n k ks i o=some (.ok ks' i' o')→o'=o
 | 0,k,ks,i,o,ks',i',o',h=>by simp [manyO] at h;omega
 | n + 1, k, ks, i, o, ks', i', o', h => by
   simp only [manyO] at h
   cases h1:sep k i o with
   | err a c=>rw [h1] at h;simp at h
   | ok u i1 o1=>
     rw [h1] at h
     simp only at h
     cases h2:m i1 o1 with
     | none=>rw [h2] at h;simp at h
     | some r=>
       rw [h2] at h
       cases r with
       | err a c=>simp at h
       | ok x i2 o2=>
         simp only at h
         have:=manyO_open hm hs n _ _ _ _ _ _ _ h
         have:=hm _ _ _ _ _ h2
         have:=hs _ _ _ _ _ _ h1
         omega
theorem commaO_open {l:List Tkn} {k i o:Nat} {u:Unit} {i' o':Nat} (h:commaO l k i o=.ok u i' o'):o'=o:=by
 unfold commaO at h
 split at h
 exact mustO_open h
 simp at h;omega
theorem thenO_open {l:List Tkn} {k i o:Nat} {u:Unit} {i' o':Nat} (h:thenO l k i o=.ok u i' o'):o'=o:=mustO_open h
theorem exprO_open (l:List Tkn):∀ (f:Nat) (c:Call) (i o:Nat) (x:Nd) (i' o':Nat),exprO l f c i o=some (.ok x i' o')→o'=o
 | 0,c,i,o,x,i',o',h=>by simp [exprO] at h
 | f + 1, .expr k, i, o, x, i', o', h => by
   have ih:=exprO_open l f
   rw [exprO] at h
   split at h
   split at h
   simp at h
   rename_i h1
   have:=opensO_open h1
   split at h
   simp at h
   simp at h
   rename_i h2
   have:=ih _ _ _ _ _ _ h2
   simp at h
   omega
   split at h
   exact ih _ _ _ _ _ _ h
   split at h
   simp at h
   simp at h
   rename_i h2
   have:=ih _ _ _ _ _ _ h2
   have:=ih _ _ _ _ _ _ h
   omega
 | f + 1, .loop k y, i, o, x, i', o', h => by
   have ih:=exprO_open l f
   rw [exprO] at h
   split at h
   split at h
   simp at h
   simp at h
   rename_i h2
   have h3:=ih _ _ _ _ _ _ h2
   split at h
   have:=ih _ _ _ _ _ _ h
   omega
   split at h
   simp at h;omega
   have:=ih _ _ _ _ _ _ h
   omega
   simp at h;omega
 | f + 1, .prim, i, o, x, i', o', h => by
   have ih:=exprO_open l f
   rw [exprO] at h
   repeat' split at h
   all_goals try (simp at h;done)
   all_goals try (simp at h;omega)
   rename_i h1 _ _ _ _ h2 _ _ _ _ h3
   have:=opensO_open h1;have:=ih _ _ _ _ _ _ h2;have:=closesO_open h3
   simp at h;omega
   rename_i h1 _ _ _ _ h2 _ _ _ _ h3 _ _ _ _ h4
   have:=opensO_open h1;have:=ih _ _ _ _ _ _ h2;have:=manyO_open (fun _ _ _ _ _ h=>ih _ _ _ _ _ _ h) (fun _ _ _ _ _ _ h=>thenO_open h) _ _ _ _ _ _ _ _ h3;have:=closesO_open h4
   simp at h;omega
   rename_i h1 _ _ _ _ h2 _ _ _ _ h3 _ _ _ _ h4
   have:=tokenO_open h1;have:=opensO_open h2;have:=manyO_open (fun _ _ _ _ _ h=>ih _ _ _ _ _ _ h) (fun _ _ _ _ _ _ h=>commaO_open h) _ _ _ _ _ _ _ _ h3;have:=closesO_open h4
   simp at h;omega
   all_goals (simp [failO] at h)
theorem manyO_le {m:Nat→Nat→Option (Out Nd)} {sep:Nat→Nat→Nat→Out Unit} (hm:∀ i o x i' o',m i o=some (.ok x i' o')→i≤i') (hs:∀ k i o u i' o',sep k i o=.ok u i' o'→i≤i') :
 ∀ (n k:Nat) (ks:List Nd) (i o:Nat) (ks':List Nd) (i' o':Nat),manyO m sep n k ks i o=some (.ok ks' i' o')→i≤i'
 | 0,k,ks,i,o,ks',i',o',h=>by simp [manyO] at h;omega
 | n + 1, k, ks, i, o, ks', i', o', h => by
   simp only [manyO] at h
   cases h1:sep k i o with
   | err a c=>rw [h1] at h;simp at h
   | ok u i1 o1=>
     rw [h1] at h
     simp only at h
     cases h2:m i1 o1 with
     | none=>rw [h2] at h;simp at h
     | some r=>
       rw [h2] at h
       cases r with
       | err a c=>simp at h
       | ok x i2 o2=>
         simp only at h
         have:=manyO_le hm hs n _ _ _ _ _ _ _ h
         have:=hm _ _ _ _ _ h2
         have:=hs _ _ _ _ _ _ h1
         omega
theorem commaO_le {l:List Tkn} {k i o:Nat} {u:Unit} {i' o':Nat} (h:commaO l k i o=.ok u i' o'):i≤i':=by
 unfold commaO at h
 split at h
 have:=(mustO_i h).1;omega
 simp at h;omega
theorem thenO_le {l:List Tkn} {k i o:Nat} {u:Unit} {i' o':Nat} (h:thenO l k i o=.ok u i' o'):i≤i':=by have:=(mustO_i h).1;omega
def Call.lo:Call→Nat→Nat
 | .expr _,i=>i+1
 | .prim,i=>i+1
 | .loop _ _,i=>i
theorem exprO_le (l:List Tkn):∀ (f:Nat) (c:Call) (i o:Nat) (x:Nd) (i' o':Nat),exprO l f c i o=some (.ok x i' o')→c.lo i≤i'
 | 0,c,i,o,x,i',o',h=>by simp [exprO] at h
 | f + 1, .expr k, i, o, x, i', o', h => by
   have ih:=exprO_le l f
   rw [exprO] at h
   simp only [Call.lo]
   split at h
   split at h
   simp at h
   rename_i h1
   have:=opensO_open h1
   split at h
   simp at h
   simp at h
   rename_i h2
   have:=ih _ _ _ _ _ _ h2
   simp only [Call.lo] at this
   simp at h
   omega
   split at h
   exact ih _ _ _ _ _ _ h
   split at h
   simp at h
   simp at h
   rename_i h2
   have h3:=ih _ _ _ _ _ _ h2
   have:=ih _ _ _ _ _ _ h
   simp only [Call.lo] at this h3
   omega
 | f + 1, .loop k y, i, o, x, i', o', h => by
   have ih:=exprO_le l f
   rw [exprO] at h
   simp only [Call.lo]
   split at h
   split at h
   simp at h
   simp at h
   rename_i h2
   have h3:=ih _ _ _ _ _ _ h2
   simp only [Call.lo] at h3
   split at h
   have:=ih _ _ _ _ _ _ h
   simp only [Call.lo] at this
   omega
   split at h
   simp at h;omega
   have:=ih _ _ _ _ _ _ h
   simp only [Call.lo] at this
   omega
   simp at h;omega
 | f + 1, .prim, i, o, x, i', o', h => by
   have ih:=exprO_le l f
   rw [exprO] at h
   simp only [Call.lo]
   repeat' split at h
   all_goals try (simp at h;done)
   all_goals try (simp at h;omega)
   rename_i h1 _ _ _ _ h2 _ _ _ _ h3
   have:=opensO_open h1;have h2:=ih _ _ _ _ _ _ h2;have:=closesO_open h3
   simp only [Call.lo] at h2
   simp at h;omega
   rename_i h1 _ _ _ _ h2 _ _ _ _ h3 _ _ _ _ h4
   have:=opensO_open h1;have h2:=ih _ _ _ _ _ _ h2;have:=manyO_le (fun _ _ _ _ _ h=>by have:=ih _ _ _ _ _ _ h;simp only [Call.lo] at this;omega) (fun _ _ _ _ _ _ h=>thenO_le h) _ _ _ _ _ _ _ _ h3;have:=closesO_open h4
   simp only [Call.lo] at h2
   simp at h;omega
   rename_i h1 _ _ _ _ h2 _ _ _ _ h3 _ _ _ _ h4
   have:=tokenO_open h1;have:=opensO_open h2;have:=manyO_le (fun _ _ _ _ _ h=>by have:=ih _ _ _ _ _ _ h;simp only [Call.lo] at this;omega) (fun _ _ _ _ _ _ h=>commaO_le h) _ _ _ _ _ _ _ _ h3;have:=closesO_open h4
   simp at h;omega
   all_goals (simp [failO] at h)
theorem manyO_some {m:Nat→Nat→Option (Out Nd)} {sep:Nat→Nat→Nat→Out Unit} (i0:Nat) (ht:∀ i o,i0≤i→m i o≠none) (hm:∀ i o x i' o',m i o=some (.ok x i' o')→i≤i') (hs:∀ k i o u i' o',sep k i o=.ok u i' o'→i≤i') :
 ∀ (n k:Nat) (ks:List Nd) (i o:Nat),i0≤i→manyO m sep n k ks i o≠none
 | 0,k,ks,i,o,h0=>by simp [manyO]
 | n + 1, k, ks, i, o, h0 => by
   simp only [manyO]
   cases h1:sep k i o with
   | err a c=>simp
   | ok u i1 o1=>
     have:=hs _ _ _ _ _ _ h1
     simp only
     cases h2:m i1 o1 with
     | none=>exact absurd h2 (ht _ _ (by omega))
     | some r=>
       cases r with
       | err a c=>simp
       | ok x i2 o2=>
         have:=hm _ _ _ _ _ h2
         exact manyO_some i0 ht hm hs n _ _ _ _ (by omega)
theorem cur_out {l:List Tkn} {i:Nat} (h:l.length≤i):cur l i=default:=by simp [cur,List.getD,h]
theorem in_of_text {l:List Tkn} {i:Nat} (h:(cur l i).text≠[]):i<l.length:=by
 by_cases hl:i<l.length
 exact hl
 rw [cur_out (by omega)] at h;exact absurd rfl h
def Call.need (n:Nat):Call→Nat→Nat
 | .expr k,i=>10 * (n - i)+(10 - k)
 | .prim,i=>10 * (n - i)+1
 | .loop _ _,i=>10 * (n - i)+1
def Call.fine:Call→Prop
 | .expr k=>1≤k∧k≤8
 | .prim=>True
 | .loop k _=>1≤k∧k≤7
theorem levelO_nil {s:Str} {k:Nat} (h:levelO s=k) (hk:1≤k):s≠[]:=by
 rintro rfl
 have:levelO []=0:=by decide
 omega
theorem exprO_some (l:List Tkn):∀ (f:Nat) (c:Call) (i o:Nat),c.fine→c.need l.length i≤f→exprO l f c i o≠none
 | 0, c, i, o, hc, h => by
   cases c<;>simp only [Call.need,Call.fine] at h hc<;>omega
 | f + 1, .expr k, i, o, hc, h => by
   have ih:=exprO_some l f
   simp only [Call.need,Call.fine] at h hc
   rw [exprO]
   split
   rename_i hsp
   have hi:i<l.length:=in_of_text (by rcases hsp with ⟨_,h⟩|⟨_,h⟩<;>rw [h]<;>decide)
   split
   simp
   rename_i h1
   have:=opensO_open h1
   split
   rename_i h2;exact absurd h2 (ih _ _ _ hc (by simp only [Call.need];omega))
   simp
   simp
   split
   exact ih _ _ _ trivial (by simp only [Call.need];omega)
   split
   rename_i h2;exact absurd h2 (ih _ _ _ (by simp only [Call.fine];omega) (by simp only [Call.need];omega))
   simp
   rename_i h2
   have h3:=exprO_le l _ _ _ _ _ _ _ h2
   simp only [Call.lo] at h3
   exact ih _ _ _ (by simp only [Call.fine];omega) (by simp only [Call.need];omega)
 | f + 1, .loop k y, i, o, hc, h => by
   have ih:=exprO_some l f
   simp only [Call.need,Call.fine] at h hc
   rw [exprO]
   split
   rename_i hlv
   have hi:i<l.length:=in_of_text (levelO_nil hlv hc.1)
   split
   rename_i h2;exact absurd h2 (ih _ _ _ (by simp only [Call.fine];omega) (by simp only [Call.need];omega))
   simp
   rename_i h2
   have h3:=exprO_le l _ _ _ _ _ _ _ h2
   simp only [Call.lo] at h3
   split
   exact ih _ _ _ hc (by simp only [Call.need];omega)
   split
   simp
   exact ih _ _ _ hc (by simp only [Call.need];omega)
   simp
 | f + 1, .prim, i, o, hc, h => by
   have ih:=exprO_some l f
   have hle:∀ i o x i' o',exprO l f (.expr 1) i o=some (.ok x i' o')→i≤i':=fun _ _ _ _ _ h=>by have:=exprO_le l _ _ _ _ _ _ _ h;simp only [Call.lo] at this;omega
   simp only [Call.need,Call.fine] at h hc
   have hrec:∀ j o,i<l.length→i+1≤j→exprO l f (.expr 1) j o≠none:=fun j o hi hj=>ih _ _ _ (by simp [Call.fine]) (by simp only [Call.need];omega)
   rw [exprO]
   have hpar:=fun h=>in_of_text (l:=l) (i:=i) h
   split
   simp
   split
   simp
   split
   simp
   split
   simp
   split
   rename_i ht
   have hi:=hpar (by rw [ht];decide)
   split
   simp
   rename_i h1
   have:=opensO_open h1
   split
   rename_i h2;exact absurd h2 (hrec _ _ hi (by omega))
   simp
   split<;>simp
   split
   rename_i ht
   have hi:=hpar (by rw [ht];decide)
   split
   simp
   rename_i h1
   have:=opensO_open h1
   split
   rename_i h2;exact absurd h2 (hrec _ _ hi (by omega))
   simp
   rename_i h2
   have:=hle _ _ _ _ _ h2
   split
   rename_i h3;exact absurd h3 (manyO_some (i+1) (fun j o hj=>hrec j o hi hj) hle (fun _ _ _ _ _ _ h=>thenO_le h) _ _ _ _ _ (by omega))
   simp
   split<;>simp
   split
   rename_i ht
   have hi:=hpar (fun h0=>by rw [h0] at ht;revert ht;decide)
   split
   simp
   rename_i h1
   have:=tokenO_open h1
   split
   simp
   rename_i h2
   have:=opensO_open h2
   split
   rename_i h3;exact absurd h3 (manyO_some (i+1) (fun j o hj=>hrec j o hi hj) hle (fun _ _ _ _ _ _ h=>commaO_le h) _ _ _ _ _ (by omega))
   simp
   split<;>simp
   split<;>simp
theorem wholeO_eq (l:List Tkn) (i o:Nat):exprO l (fuelO l i) (.expr 1) i o=some (wholeO l i o):=by
 have:=exprO_some l (fuelO l i) (.expr 1) i o (by simp [Call.fine]) (by simp only [Call.need,fuelO];omega)
 unfold wholeO
 cases h:exprO l (fuelO l i) (.expr 1) i o with
 | none=>exact absurd h this
 | some r=>rfl
abbrev bts (s:Str):ByteArray:=⟨s.toArray⟩
def Itr (w:World) (b:Nat) (s:Str) (p:Nat):Prop:=w.heap[b]?=some (.stringIter (bts s) p)
theorem Itr.lt {w:World} {b p:Nat} {s:Str} (h:Itr w b s p):b<w.heap.size:=(Array.getElem?_eq_some_iff.1 h).1
def dec (s:Str) (p:Nat):Nat×Nat:=Utf8.decode (bts s) p
theorem bts_size (s:Str):(bts s).size=s.length:=by simp [ByteArray.size]
theorem dec_ascii {s:Str} {p:Nat} (h:p<s.length) (ha:(s[p]).toNat<128):dec s p=((s[p]).toNat,1):=by
 have h1:p<(bts s).size:=by rw [bts_size];exact h
 have e:(bts s)[p]'h1=s[p]:=by simp [bts,ByteArray.getElem_eq_getElem_data]
 have:=decode_ascii (bts s) p h1 (by rw [e];exact ha)
 rw [e] at this
 exact this
theorem dec_high {s:Str} {p:Nat} (h:p<s.length) (ha:128≤(s[p]).toNat):128≤(dec s p).1∧1≤(dec s p).2:=by
 have h1:p<(bts s).size:=by rw [bts_size];exact h
 have e:(bts s)[p]'h1=s[p]:=by simp [bts,ByteArray.getElem_eq_getElem_data]
 exact decode_high (bts s) p h1 (by rw [e];exact ha)
theorem dec_pos {s:Str} {p:Nat} (h:p<s.length):1≤(dec s p).2:=by
 by_cases ha:(s[p]).toNat<128
 rw [dec_ascii h ha];exact Nat.le_refl _
 exact (dec_high h (by omega)).2
section
variable {P:Program} {n:Nat} {e:Env} {w:World} {d:Option Nat} {ty:TypeId} {pos:String} {af:Array Edge} {g:Option (Nat×Bool)}
theorem OE_range {x:Operand} {t:TypeId} {s:Str} [hu:Und P t .string] (hx:ev e x=some (str s)):OE P n ⟨d,.range t x,ty,pos,af,g⟩ e w (fun v w'=>∃ b,v=.pointer (some ⟨b,0,none⟩)∧w.heap.size≤b∧Itr w' b s 0∧Stp [] w w'):=
 OE_value (v:=.pointer (some ⟨w.heap.size,0,none⟩)) (w':=w.iter (bts s) 0) (fun a ha=>by
  have:=run_range_string (P:=P) w t (bts s) hu.h
  simp [execOp,ha.ev hx,this]) ⟨w.heap.size,rfl,Nat.le_refl _,World.iter_heap _ _ _,Stp.alloc _ _ _⟩
theorem OE_next {x:Operand} {s:Str} {b p:Nat} (hx:ev e x=some (.pointer (some ⟨b,0,none⟩))) (hI:Itr w b s p) (hp:p<s.length) :
 OE P n ⟨d,.next x true,ty,pos,af,g⟩ e w (fun v w'=>v=.tuple #[.bool true,.int .i64 p,.int .i32 ((dec s p).1:Int)]∧Itr w' b s (p+(dec s p).2)∧Stp [b] w w'):=by
 have hlt:=hI.lt
 have hp':p<(bts s).size:=by rw [bts_size];exact hp
 unfold Itr at hI
 refine OE_value (v:=.tuple #[.bool true,.int .i64 p,.int .i32 ((dec s p).1:Int)]) (w':={ w with heap:=w.heap.setIfInBounds b (.stringIter (bts s) (p+(dec s p).2)) }) (fun a ha=>?_) ⟨rfl,?_,⟨rfl,rfl,rfl,by simp,fun k hk hn=>?_⟩⟩
 · simp [execOp,ha.ev hx,Instr.next,getObj,setObj,Sem.run,hI,hp',goInt,dec]
 show (w.heap.setIfInBounds b _)[b]?=_
 simp [hlt]
 show (w.heap.setIfInBounds b _)[k]?=_
 exact Array.getElem?_setIfInBounds_ne (by simpa using fun h=>hn (by simp [h]))
theorem OE_nextEnd {x:Operand} {s:Str} {b p:Nat} (hx:ev e x=some (.pointer (some ⟨b,0,none⟩))) (hI:Itr w b s p) (hp:¬ p<s.length) :
 OE P n ⟨d,.next x true,ty,pos,af,g⟩ e w (fun v w'=>v=.tuple #[.bool false]∧w'=w):=by
 have hp':¬ p<(bts s).size:=by rw [bts_size];exact hp
 unfold Itr at hI
 refine OE_value (v:=.tuple #[.bool false]) (w':=w) (fun a ha=>?_) ⟨rfl,rfl⟩
 simp [execOp,ha.ev hx,Instr.next,getObj,Sem.run,hI,hp']
theorem PR_field {x:Operand} {t:TypeId} {i:Nat} {u v:Value} (hx:ev e x=some u) (hb:∀ w,(Instr.field t u i).run P w=.ok v w):PR P n ⟨d,.field t x i,ty,pos,af,g⟩ e w v:=
 ⟨fun a ha=>by simp [execOp,ha.ev hx,hb]⟩
end
def letB (c:UInt8):Bool:=decide (97≤c.toNat) && decide (c.toNat≤122)
def digB (c:UInt8):Bool:=decide (48≤c.toNat) && decide (c.toNat≤57)
def ldB (c:UInt8):Bool:=letB c || digB c
def decN (s:Str):Nat:=s.foldl (fun n c=>10 * n+(c.toNat - 48)) 0
def leapM (y:Int):Bool:=decide (y % 4=0) && (decide (¬ y % 100=0) || decide (y % 400=0))
def lengthM (y m:Int):Int:=
 if m<1∨12<m then 0 else if m=2 then (if leapM y then 29 else 28) else if m=4∨m=6∨m=9∨m=11 then 30 else 31
def dayM (y m d:Int):Int:=
 let (y,m):=if m - 3<0 then (y - 1,m+9) else (y,m - 3)
 365 * y+y / 4 - y / 100+y / 400+(153 * m+2) / 5+d - 307
def dateP (s:Str):Int×Int:=
 if s.length=10∧s.getD 4 0=45∧s.getD 7 0=45∧((s.take 4).all digB∧((s.drop 5).take 2).all digB∧(s.drop 8).all digB) then
  let y:Int:=decN (s.take 4)
  let m:Int:=decN ((s.drop 5).take 2)
  let d:Int:=decN (s.drop 8)
  if y<1∨9999<y∨m<1∨12<m∨d<1∨lengthM y m<d then (0,5) else (dayM y m d,0)
 else (0,7)
inductive Lx where
 | err (c:Int)
 | ok (t:Tkn)
def wordL (s:Str):Lx:=let n:=(s.takeWhile ldB).length;if 12<n then .err 2 else .ok ⟨1,0,s.take n,0⟩
def numberL (s:Str):Lx:=
 let t:=s.takeWhile digB
 if 1<t.length∧t.getD 0 0=48 then .err 20 else if 2147483647<decN t then .err 5 else .ok ⟨2,0,t,decN t⟩
def formL:Str:=[64,100,100,100,100,45,100,100,45,100,100]
def fitL (c x:UInt8):Bool:=if c=100 then digB x else decide (x=c)
def dayL (s:Str):Lx:=
 if s.length<11 then .err 20 else if ((formL.zip s).all fun p=>fitL p.1 p.2) then
  (let d:=dateP ((s.take 11).drop 1);if d.2=0 then .ok ⟨3,0,s.take 11,d.1⟩ else .err 5)
 else .err 20
def symsL:Str:=[123,125,40,41,59,44,43,45,42,60,61,62]
def symbolL (s:Str):Lx:=
 if s.take 2=[60,61]∨s.take 2=[33,61]∨s.take 2=[62,61] then .ok ⟨4,0,s.take 2,0⟩
 else if s.getD 0 0∈symsL then .ok ⟨4,0,s.take 1,0⟩ else .err 20
def readL (s:Str):Lx:=
 let c:=s.getD 0 0
 if letB c then wordL s else if digB c then numberL s else if c=64 then dayL s else symbolL s
def spaceL (c:UInt8):Bool:=c=9 || c=10 || c=13 || c=32
inductive Tks where
 | err (a c:Int)
 | ok (l:List Tkn)
def tokensG (nl:Str→Nat) (s:Str):Nat→Nat→List Tkn→Tks
 | 0,at_,l=>.ok (l++[⟨0,at_,[],0⟩])
 | f + 1, at_, l=>
   if at_<s.length then
    let rest:=s.drop at_
    let c:=rest.getD 0 0
    if spaceL c then tokensG nl s f (at_+1) l
    else if c=35 then tokensG nl s f (at_+nl rest) l
    else match readL rest with
     | .err e=>.err at_ e
     | .ok t=>tokensG nl s f (at_+t.text.length) (l++[{ t with pos:=at_ }])
   else .ok (l++[⟨0,at_,[],0⟩])
structure TkOk (t:Tkn):Prop where
 kind:t.kind≠0
 kinds:1≤t.kind∧t.kind≤4
 text:t.text≠[]
 sp:∀ c∈t.text,c≠32
 word:t.kind=1→t.text.length≤12∧(∀ c∈t.text,ldB c=true)∧letB (t.text.getD 0 0)=true
 num:t.kind=2→0≤t.num∧t.num≤2147483647
 day:t.kind=3→0≤t.num∧t.num≤3652058
theorem mem_takeWhile {p:UInt8→Bool}:∀ {l:Str} {c:UInt8},c∈l.takeWhile p→p c=true
 | [],c,h=>by simp at h
 | a :: r, c, h => by
   simp only [List.takeWhile_cons] at h
   split at h
   rename_i ha
   rcases List.mem_cons.1 h with rfl|h
   exact ha
   exact mem_takeWhile h
   simp at h
theorem take_takeWhile {p:UInt8→Bool}:∀ (l:Str),l.take (l.takeWhile p).length=l.takeWhile p
 | []=>by simp
 | a :: r => by
   simp only [List.takeWhile_cons]
   split
   simp [take_takeWhile r]
   simp
theorem ld_sp {c:UInt8} (h:ldB c=true):c≠32:=by rintro rfl;revert h;decide
theorem dig_sp {c:UInt8} (h:digB c=true):c≠32:=by rintro rfl;revert h;decide
theorem fit_sp {c x:UInt8} (h:fitL c x=true) (hc:c≠32):x≠32:=by
 unfold fitL at h
 split at h
 exact dig_sp h
 simp at h;rw [h];exact hc
theorem zip_all {p:UInt8→UInt8→Bool}:∀ {a s:Str},a.length≤s.length→((a.zip s).all fun q=>p q.1 q.2)=true→∀ x∈s.take a.length,∃ c∈a,p c x=true
 | [],s,hl,h,x,hx=>by simp at hx
 | c :: a,[],hl,h,x,hx=>by simp at hl
 | c :: a, y :: s, hl, h, x, hx => by
   simp only [List.zip_cons_cons,List.all_cons,Bool.and_eq_true] at h
   simp only [List.length_cons,List.take_succ_cons,List.mem_cons] at hx
   rcases hx with rfl|hx
   exact ⟨c,by simp,h.1⟩
   obtain ⟨d,hd,h'⟩:=zip_all (by simpa using hl) h.2 x hx
   exact ⟨d,by simp [hd],h'⟩
theorem lengthM_le (y m:Int):lengthM y m≤31:=by
 unfold lengthM
 repeat' split
 all_goals omega
theorem dayM_range {y m d:Int} (hy:1≤y) (hy2:y≤9999) (hm:1≤m) (hm2:m≤12) (hd:1≤d) (hd2:d≤lengthM y m):0≤dayM y m d∧dayM y m d≤3652058:=by
 have h31:=lengthM_le y m
 have hm':m=1∨m=2∨m=3∨m=4∨m=5∨m=6∨m=7∨m=8∨m=9∨m=10∨m=11∨m=12:=by omega
 unfold dayM
 rcases hm' with rfl|rfl|rfl|rfl|rfl|rfl|rfl|rfl|rfl|rfl|rfl|rfl<;>simp<;>omega
theorem dateP_range (s:Str):0≤(dateP s).1∧(dateP s).1≤3652058:=by
 unfold dateP
 split
 simp only
 split
 simp
 rename_i h
 simp only [not_or,Int.not_lt] at h
 exact dayM_range h.1 h.2.1 h.2.2.1 h.2.2.2.1 h.2.2.2.2.1 h.2.2.2.2.2
 simp
theorem readL_ok {s:Str} {t:Tkn} (hs:s≠[]) (hsp:s.getD 0 0≠32) (h:readL s=.ok t):TkOk t∧t.text.length≤s.length∧t.text=s.take t.text.length:=by
 obtain ⟨a,r,rfl⟩:∃ a r,s=a :: r:=by cases s with|nil=>exact absurd rfl hs|cons a r=>exact ⟨a,r,rfl⟩
 simp only [List.getD_cons_zero] at hsp
 unfold readL at h
 simp only [List.getD_cons_zero] at h
 split at h
 rename_i hl
 unfold wordL at h
 simp only at h
 split at h
 simp at h
 rename_i hn
 simp only [Lx.ok.injEq] at h
 subst h
 have hld:ldB a=true:=by simp [ldB,hl]
 have hne:(a :: r).takeWhile ldB=a :: r.takeWhile ldB:=by simp [hld]
 have ht:=take_takeWhile (p:=ldB) (a :: r)
 refine ⟨⟨by simp,by simp,?_,?_,fun _=>⟨?_,?_,?_⟩,by simp,by simp⟩,by simp;omega,by simp⟩
 simp only;rw [ht,hne];simp
 simp only;rw [ht];exact fun c hc=>ld_sp (mem_takeWhile hc)
 simp only;rw [ht];omega
 simp only;rw [ht];exact fun c hc=>mem_takeWhile hc
 simp only;rw [ht,hne];simpa using hl
 split at h
 rename_i hl
 unfold numberL at h
 simp only at h
 split at h
 simp at h
 split at h
 simp at h
 rename_i hn
 simp only [Lx.ok.injEq] at h
 subst h
 have hne:(a :: r).takeWhile digB=a :: r.takeWhile digB:=by simp [hl]
 have ht:=take_takeWhile (p:=digB) (a :: r)
 have hlen:=congrArg List.length ht
 simp only [List.length_take] at hlen
 refine ⟨⟨by simp,by simp,?_,?_,by simp,fun _=>⟨?_,?_⟩,by simp⟩,?_,?_⟩
 simp only;rw [hne];simp
 exact fun c hc=>dig_sp (mem_takeWhile hc)
 simp only;omega
 simp only;omega
 simp only;omega
 exact ht.symm
 split at h
 rename_i h64
 unfold dayL at h
 split at h
 simp at h
 rename_i h11
 split at h
 rename_i hf
 simp only at h
 split at h
 simp only [Lx.ok.injEq] at h
 subst h
 have hd:=dateP_range (((a :: r).take 11).drop 1)
 refine ⟨⟨by simp,by simp,by simp,?_,by simp,by simp,fun _=>hd⟩,by simp;omega,by simp⟩
 intro c hc
 obtain ⟨x,hx,h'⟩:=zip_all (a:=formL) (s:=a :: r) (by simp only [formL,List.length_cons,List.length_nil] at h11 ⊢;omega) hf c hc
 exact fit_sp h' (by revert hx;simp only [formL];intro hx h0;subst h0;simp at hx)
 simp at h
 simp at h
 unfold symbolL at h
 split at h
 rename_i h2
 simp only [Lx.ok.injEq] at h
 subst h
 refine ⟨⟨by simp,by simp,by simp,?_,by simp,by simp,by simp⟩,by simp;omega,by simp⟩
 simp only
 intro c hc
 rcases h2 with h2|h2|h2<;>rw [h2] at hc<;>(rintro rfl;simp at hc)
 split at h
 simp only [Lx.ok.injEq] at h
 subst h
 refine ⟨⟨by simp,by simp,by simp,?_,by simp,by simp,by simp⟩,by simp,by simp⟩
 simp only [List.take_succ_cons,List.take_zero,List.mem_singleton]
 rintro c rfl
 exact hsp
 simp at h
theorem tokensG_ok {nl:Str→Nat} {s:Str} (hsl:s.length≤4000):∀ (f at_:Nat) (l l':List Tkn),(∀ t∈l,TkOk t)→(∀ t∈l,t.text.length≤4000)→l.length≤at_→l.length≤s.length→tokensG nl s f at_ l=.ok l'→
 ∃ l1 p,l'=l1++[⟨0,p,[],0⟩]∧(∀ t∈l1,TkOk t)∧(∀ t∈l1,t.text.length≤4000)∧l1.length≤s.length
 | 0, at_, l, l', h1, h2, h3, h4, h => by
   simp only [tokensG,Tks.ok.injEq] at h
   exact ⟨l,_,h.symm,h1,h2,h4⟩
 | f + 1, at_, l, l', h1, h2, h3, h4, h => by
   simp only [tokensG] at h
   split at h
   rename_i hlt
   split at h
   exact tokensG_ok hsl f _ _ _ h1 h2 (by omega) h4 h
   split at h
   exact tokensG_ok hsl f _ _ _ h1 h2 (by omega) h4 h
   · rename_i hnsp _
     cases hr:readL (s.drop at_) with
     | err e=>rw [hr] at h;simp at h
     | ok t=>
       rw [hr] at h
       simp only at h
       obtain ⟨g1,g2,g3⟩:=readL_ok (s:=s.drop at_) (by simp;omega) (by rintro h32;rw [h32] at hnsp;exact hnsp (by decide)) hr
       have hpos:1≤t.text.length:=by
        have:=g1.text
        cases ht:t.text with
        | nil=>exact absurd ht this
        | cons a r=>simp
       have hlen:t.text.length≤s.length - at_:=by simpa using g2
       refine tokensG_ok hsl f _ _ _ ?_ ?_ ?_ ?_ h
       intro u hu
       rcases List.mem_append.1 hu with hu|hu
       exact h1 u hu
       simp only [List.mem_singleton] at hu
       subst hu
       exact ⟨g1.kind,g1.kinds,g1.text,g1.sp,g1.word,g1.num,g1.day⟩
       intro u hu
       rcases List.mem_append.1 hu with hu|hu
       exact h2 u hu
       simp only [List.mem_singleton] at hu
       subst hu
       simp only
       omega
       simp;omega
       simp;omega
   simp only [Tks.ok.injEq] at h
   exact ⟨l,_,h.symm,h1,h2,h4⟩
theorem toks_of {l1:List Tkn} {p:Int} (h1:∀ t∈l1,TkOk t) (h2:∀ t∈l1,t.text.length≤4000) (h3:l1.length≤4000):Toks (l1++([⟨0,p,[],0⟩]:List Tkn)):=by
 have hc:∀ i,cur (l1++([⟨0,p,[],0⟩]:List Tkn)) i=⟨0,p,[],0⟩∨cur (l1++([⟨0,p,[],0⟩]:List Tkn)) i=default∨cur (l1++([⟨0,p,[],0⟩]:List Tkn)) i∈l1:=by
  intro i
  unfold cur
  rw [List.getD_eq_getElem?_getD,List.getElem?_append]
  split
  rename_i h
  right;right
  simp [h]
  · cases hk:i - l1.length with
    | zero=>left;simp
    | succ j=>right;left;simp
 refine ⟨by simp,?_,?_,by simp;omega,?_,?_⟩
 have:cur (l1++([⟨0,p,[],0⟩]:List Tkn)) ((l1++([⟨0,p,[],0⟩]:List Tkn)).length - 1)=⟨0,p,[],0⟩:=by
  unfold cur
  simp
 rw [this]
 exact ⟨rfl,rfl⟩
 intro i hi
 have hi2:i<l1.length:=by simpa using hi
 have:cur (l1++([⟨0,p,[],0⟩]:List Tkn)) i=l1[i]:=by
  unfold cur
  rw [List.getD_eq_getElem?_getD,List.getElem?_append_left hi2]
  simp [hi2]
 rw [this]
 have:=h1 _ (List.getElem_mem hi2)
 exact ⟨this.kind,this.text⟩
 intro i c hcm
 rcases hc i with h|h|h
 rw [h] at hcm;simp at hcm
 rw [h] at hcm;simp [default] at hcm
 exact (h1 _ h).sp c hcm
 intro i
 rcases hc i with h|h|h
 rw [h];simp
 rw [h];simp [default]
 exact h2 _ h
def firstM (s:Str) (p:Nat→Bool):Nat→Nat→Nat
 | 0,_=>s.length
 | f+1,i=>if i<s.length then (if p (dec s i).1 then firstM s p f (i+(dec s i).2) else i) else s.length
theorem firstM_le (s:Str) (p:Nat→Bool):∀ (f i:Nat),firstM s p f i≤s.length
 | 0,i=>Nat.le_refl _
 | f + 1, i => by
   unfold firstM
   split
   split
   exact firstM_le s p f _
   omega
   exact Nat.le_refl _
theorem firstM_ge (s:Str) (p:Nat→Bool):∀ (f i:Nat),i≤s.length→i≤firstM s p f i
 | 0,i,h=>h
 | f + 1, i, h => by
   unfold firstM
   split
   split
   by_cases hw:i+(dec s i).2≤s.length
   exact Nat.le_trans (Nat.le_add_right _ _) (firstM_ge s p f _ hw)
   · have:∀ f j,s.length<j→firstM s p f j=s.length:=fun f j hj=>by
      cases f with
      | zero=>rfl
      | succ f=>unfold firstM;rw [if_neg (by omega)]
     rw [this _ _ (by omega)]
     omega
   exact Nat.le_refl _
   exact h
theorem firstM_ascii (p:Nat→Bool) (q:UInt8→Bool) (hq:∀ c:UInt8,c.toNat<128→p c.toNat=q c) (hp:∀ n,128≤n→p n=false) (hq2:∀ c:UInt8,128≤c.toNat→q c=false) (s:Str) :
 ∀ (f i:Nat),i≤s.length→s.length≤i+f→firstM s p f i=i+((s.drop i).takeWhile q).length
 | 0, i, h1, h2 => by
   have:i=s.length:=by omega
   subst this
   simp [firstM]
 | f + 1, i, h1, h2 => by
   unfold firstM
   by_cases hlt:i<s.length
   rw [if_pos hlt]
   have hd:s.drop i=s[i] :: s.drop (i+1):=List.drop_eq_getElem_cons hlt
   rw [hd,List.takeWhile_cons]
   by_cases ha:(s[i]).toNat<128
   rw [dec_ascii hlt ha]
   simp only [hq _ ha]
   split
   rw [firstM_ascii p q hq hp hq2 s f (i+1) (by omega) (by omega),List.length_cons];omega
   simp
   have h3:=(dec_high hlt (by omega)).1
   rw [hp _ h3,hq2 _ (by omega)]
   simp
   rw [if_neg hlt]
   rw [List.drop_eq_nil_of_le (by omega)]
   simp;omega
def letN (n:Nat):Bool:=decide (97≤n) && decide (n≤122)
def digN (n:Nat):Bool:=decide (48≤n) && decide (n≤57)
def notNl (n:Nat):Bool:=decide (¬ n=10)
def nlM (s:Str):Nat:=firstM s notNl s.length 0
def tokensM (s:Str):Tks:=if 4000<s.length then .err 4000 2 else tokensG nlM s (s.length+1) 0 []
theorem first_dig (s:Str):firstM s digN s.length 0=(s.takeWhile digB).length:=by
 rw [firstM_ascii digN digB (fun c h=>rfl) (fun n h=>by unfold digN;simp;omega) (fun c h=>by unfold digB;simp;omega) s s.length 0 (by omega) (by omega)]
 simp
theorem first_ld (s:Str):firstM s (fun n=>letN n || digN n) s.length 0=(s.takeWhile ldB).length:=by
 rw [firstM_ascii (fun n=>letN n || digN n) ldB (fun c h=>rfl) (fun n h=>by unfold letN digN;simp;omega) (fun c h=>by unfold ldB letB digB;simp;omega) s s.length 0 (by omega) (by omega)]
 simp
end Go.Eng
namespace Go.Proofs.YtjdjdoefppebkaaGreatDoor
open Go Go.Eng Go.RowKit Go.Proofs
theorem letter_any (c:Nat) (w:World):Calls Tryz.prog 207 #[.int .i32 (c:Int)] w (Ret fun r w'=>r=.bool (letN c)∧w'=w):=by
 unfold letN
 refine calls_of_WC1 (n:=9) Tryz.func207 rfl rfl rfl ?_
 repeat'(first|refine W1 ?_|omega|refine VG ?_ ?_<;>intro hg|refine VC ?_ ?_<;>intro hc)
 all_goals refine WR ?_
 all_goals refine .mk ⟨?_,rfl⟩
 all_goals congr 1
 all_goals (first|done|(rw [Bool.eq_iff_iff];simp;omega)|(simp [*]))
theorem digit_any (c:Nat) (w:World):Calls Tryz.prog 209 #[.int .i32 (c:Int)] w (Ret fun r w'=>r=.bool (digN c)∧w'=w):=by
 unfold digN
 refine calls_of_WC1 (n:=9) Tryz.func209 rfl rfl rfl ?_
 repeat'(first|refine W1 ?_|omega|refine VG ?_ ?_<;>intro hg|refine VC ?_ ?_<;>intro hc)
 all_goals refine WR ?_
 all_goals refine .mk ⟨?_,rfl⟩
 all_goals congr 1
 all_goals (first|done|(rw [Bool.eq_iff_iff];simp;omega)|(simp [*]))
theorem nl_any (c:Nat) (w:World):Calls Tryz.prog 206 #[.int .i32 (c:Int)] w (Ret fun r w'=>r=.bool (notNl c)∧w'=w):=by
 unfold notNl
 refine calls_of_WC1 (n:=5) Tryz.func206 rfl rfl rfl ?_
 repeat'(first|refine W1 ?_|omega|refine VG ?_ ?_<;>intro hg|refine VC ?_ ?_<;>intro hc)
 all_goals refine WR ?_
 all_goals refine .mk ⟨?_,rfl⟩
 all_goals congr 1
 all_goals (first|done|(rw [Bool.eq_iff_iff];simp;omega)|(simp [*]))
theorem ld_any (c:Nat) (w:World):Calls Tryz.prog 270 #[.int .i32 (c:Int)] w (Ret fun r w'=>r=.bool (letN c || digN c)∧w'=w):=by
 refine calls_of_WC1 (n:=9) Tryz.func270 rfl rfl rfl ?_
 refine W ?_
 refine CL rfl (evs1 rfl) rfl (letter_any c _) ?_
 rintro _ _ ⟨rfl,rfl⟩
 cases letN c
 refine W ?_
 refine CL rfl (evs1 rfl) rfl (digit_any c _) ?_
 rintro _ _ ⟨rfl,rfl⟩
 refine W ?_
 refine WR ?_
 exact .mk ⟨rfl,rfl⟩
 refine W ?_
 refine WR ?_
 exact .mk ⟨rfl,rfl⟩
theorem first_any {g:Nat} {fn:Func} [hf:Fun Tryz.prog g fn] (p:Nat→Bool) (hg:∀ (c:Nat) (w:World),Calls Tryz.prog g #[.int .i32 (c:Int)] w (Ret fun r w'=>r=.bool (p c)∧w'=w)) (s:Str) (w:World) (hl:s.length≤1000000) :
 Calls Tryz.prog 205 #[str s,.func (.func g) #[] #[]] w (Ret fun r w'=>r=.int .i64 (firstM s p s.length 0:Int)∧Stp [] w w'):=by
 refine calls_of_WC2 (n:=20) Tryz.func205 rfl rfl rfl ?_
 refine W ?_
 refine WL_eff (OE_range rfl) rfl ?_
 rintro _ w1 ⟨b,rfl,hb,hI,hS⟩
 refine W ?_
 refine WC_loop (σ:=Nat×Nat) (fun q=>[(0,str s),(1,.func (.func g) #[] #[]),(8,.pointer (some ⟨b,0,none⟩))]) (fun q w'=>Itr w' b s q.2∧Stp [] w w'∧firstM s p q.1 q.2=firstM s p s.length 0∧s.length≤q.2+q.1) (fun q=>q.1+1 - (if q.2<s.length then 0 else 1)) (s.length,0) ⟨rfl,rfl,rfl,trivial⟩ ⟨hI,hS,rfl,by omega⟩ ?_
 rintro ⟨f,i⟩ w2 ⟨hI,hS,he,hfl⟩
 dsimp only at hI hS he hfl ⊢
 generalize firstM s p s.length 0=R at he ⊢
 by_cases hlt:i<s.length
 obtain ⟨f,rfl⟩:∃ f',f=f'+1:=⟨f - 1,by omega⟩
 have hd:=dec_pos hlt
 unfold firstM at he
 rw [if_pos hlt] at he
 refine W ?_
 refine WL_eff (OE_next rfl hI hlt) rfl ?_
 rintro _ w3 ⟨rfl,hI3,hT⟩
 replace hS:=hS.own hT (fun c hc=>.inr (by simp at hc;omega))
 refine W ?_
 refine CL rfl (evs1 rfl) rfl (hg _ _) ?_
 rintro _ _ ⟨rfl,rfl⟩
 cases hpc:p (dec s i).1
 rw [hpc] at he
 refine W ?_
 refine WR ?_
 simp only [Bool.false_eq_true,if_false] at he
 exact .mk ⟨by rw [← he];rfl,hS⟩
 · rw [hpc] at he
   refine W ?_
   refine WQ_loop (f,i+(dec s i).2) ⟨rfl,rfl,rfl,trivial⟩ ⟨hI3,hS,he,by dsimp only;omega⟩ ?_
   dsimp only
   repeat' split
   all_goals omega
 · refine W ?_
   refine WL_eff (OE_nextEnd rfl hI hlt) rfl ?_
   rintro _ _ ⟨rfl,rfl⟩
   refine W ?_
   refine WR ?_
   refine .mk ⟨?_,hS⟩
   rw [← he]
   cases f with
   | zero=>rfl
   | succ f=>unfold firstM;rw [if_neg hlt]
end Go.Proofs.YtjdjdoefppebkaaGreatDoor
namespace Go.Eng
open Go Go.RowKit Go.Proofs
def yoeN (d:Nat):Nat:=(d - d / 1460+d / 36524 - d / 146096) / 365
def startN (y:Nat):Nat:=365 * y+y / 4 - y / 100
def leapN (y:Nat):Bool:=Nat.beq (y % 4) 0 && (!(Nat.beq (y % 100) 0) || Nat.beq (y % 400) 0)
def oneB (d:Nat):Bool:=Nat.ble 146097 d || (Nat.ble (startN (yoeN d)) d && (Nat.blt d (startN (yoeN d)+365) || (Nat.beq d (startN (yoeN d)+365) && leapN (yoeN d+1))))
def allB:Nat→Nat→Bool
 | 0,lo=>oneB lo
 | k+1,lo=>allB k lo && allB k (lo+2 ^ k)
theorem allB_spec:∀ (k lo d:Nat),allB k lo=true→lo≤d→d<lo+2 ^ k→oneB d=true
 | 0, lo, d, h, h1, h2 => by
   have:d=lo:=by simp at h2;omega
   subst this
   exact h
 | k + 1, lo, d, h, h1, h2 => by
   simp only [allB,Bool.and_eq_true] at h
   rw [Nat.pow_succ] at h2
   rcases Nat.lt_or_ge d (lo+2 ^ k) with h3|h3
   exact allB_spec k lo d h.1 h1 h3
   exact allB_spec k (lo+2 ^ k) d h.2 h3 (by omega)
theorem all_days:allB 18 0=true:=by kernel_rfl
theorem leap_iff (y:Nat):leapN y=leapM (y:Int):=by
 unfold leapN leapM
 have h:∀ a b:Nat,Nat.beq (a % b) 0=decide ((a:Int) % (b:Int)=0):=fun a b=>by
  rw [Bool.eq_iff_iff]
  simp only [decide_eq_true_eq]
  rw [Nat.beq_eq]
  omega
 rw [show Nat.beq (y % 4) 0=decide ((y:Int) % 4=0) from h y 4,show Nat.beq (y % 100) 0=decide ((y:Int) % 100=0) from h y 100,show Nat.beq (y % 400) 0=decide ((y:Int) % 400=0) from h y 400]
 simp
structure Dat where
 y:Int
 m:Int
 d:Int
def ofM (day:Int):Dat:=
 let z:=day+306
 let era:=z / 146097
 let doe:=z % 146097
 let yoe:=(doe - doe / 1460+doe / 36524 - doe / 146096) / 365
 let doy:=doe - (365 * yoe+yoe / 4 - yoe / 100)
 let m:=(5 * doy+2) / 153
 if m≥10 then ⟨yoe+400 * era+1,m - 9,doy - (153 * m+2) / 5+1⟩ else ⟨yoe+400 * era,m+3,doy - (153 * m+2) / 5+1⟩
theorem month_ok:∀ q:Nat,q<366→(5 * q+2) / 153≤11∧(153 * ((5 * q+2) / 153)+2) / 5≤q∧
 q - (153 * ((5 * q+2) / 153)+2) / 5+1≤(if (5 * q+2) / 153=11 then (if q=365 then 29 else 28) else if (5 * q+2) / 153=1∨(5 * q+2) / 153=3∨(5 * q+2) / 153=6∨(5 * q+2) / 153=8 then 30 else 31):=by decide +kernel
theorem era_ok (doe:Int) (h0:0≤doe) (h1:doe<146097):∃ yoe doy:Nat,(doe - doe / 1460+doe / 36524 - doe / 146096) / 365=(yoe:Int)∧doe - (365 * (yoe:Int)+(yoe:Int) / 4 - (yoe:Int) / 100)=(doy:Int)∧yoe≤399∧doy≤365∧(doy=365→leapM ((yoe:Int)+1)=true):=by
 obtain ⟨d,rfl⟩:∃ d:Nat,doe=(d:Int):=⟨doe.toNat,by omega⟩
 have hd:d<146097:=by omega
 have h:=allB_spec 18 0 d all_days (by omega) (by omega)
 unfold oneB at h
 rw [show Nat.ble 146097 d=false by rw [Bool.eq_false_iff];simp;omega] at h
 simp only [Bool.false_or,Bool.and_eq_true,Bool.or_eq_true,Nat.ble_eq,Nat.beq_eq] at h
 obtain ⟨h2,h3⟩:=h
 have hy:((d:Int) - (d:Int) / 1460+(d:Int) / 36524 - (d:Int) / 146096) / 365=((yoeN d:Nat):Int):=by unfold yoeN;omega
 have hyle:yoeN d≤399:=by unfold yoeN;omega
 have hst:(startN (yoeN d):Int)=365 * (yoeN d:Int)+(yoeN d:Int) / 4 - (yoeN d:Int) / 100:=by unfold startN;omega
 refine ⟨yoeN d,d - startN (yoeN d),hy,by omega,hyle,?_,fun h4=>?_⟩
 rcases h3 with h3|h3
 have:=Nat.le_of_ble_eq_true h3;omega
 have:=h3.1;omega
 rcases h3 with h3|h3
 have:=Nat.le_of_ble_eq_true h3;omega
 have:=h3.2;rw [leap_iff] at this;exact this
theorem leapM_era (y e:Int):leapM (y+400 * e)=leapM y:=by
 unfold leapM
 have h4:(y+400 * e) % 4=y % 4:=by omega
 have h100:(y+400 * e) % 100=y % 100:=by omega
 have h400:(y+400 * e) % 400=y % 400:=by omega
 rw [h4,h100,h400]
theorem ofM_ok {n:Int} (h0:0≤n) (h1:n≤3652058):1≤(ofM n).y∧(ofM n).y≤9999∧1≤(ofM n).m∧(ofM n).m≤12∧1≤(ofM n).d∧(ofM n).d≤lengthM (ofM n).y (ofM n).m∧dayM (ofM n).y (ofM n).m (ofM n).d=n:=by
 obtain ⟨yoe,doy,e1,e2,hy,hd,hl⟩:=era_ok ((n+306) % 146097) (by omega) (by omega)
 obtain ⟨m1,m2,m3⟩:=month_ok doy (by omega)
 have hera:(n+306) / 146097 * 146097+(n+306) % 146097=n+306:=by omega
 unfold ofM
 simp only
 rw [e1,e2]
 have em:(5 * (doy:Int)+2) / 153=(((5 * doy+2) / 153:Nat):Int):=by omega
 rw [em]
 have ek:(153 * (((5 * doy+2) / 153:Nat):Int)+2) / 5=(((153 * ((5 * doy+2) / 153)+2) / 5:Nat):Int):=by omega
 rw [ek]
 generalize (n+306) / 146097=era at *
 generalize (n+306) % 146097=doe at *
 have hk5:∀ m:Nat,m≤11→(153 * (m:Int)+2) / 5=(((153 * m+2) / 5:Nat):Int):=fun m _=>by omega
 generalize hm:(5 * doy+2) / 153=m at *
 have q4:((yoe:Int)+400 * era) / 4=(yoe:Int) / 4+100 * era:=by omega
 have q100:((yoe:Int)+400 * era) / 100=(yoe:Int) / 100+4 * era:=by omega
 have q400:((yoe:Int)+400 * era) / 400=era:=by omega
 by_cases h10:((m:Nat):Int)≥10
 rw [if_pos h10]
 simp only
 have hday:dayM ((yoe:Int)+400 * era+1) ((m:Int) - 9) ((doy:Int) - (((153 * m+2) / 5:Nat):Int)+1)=n:=by
  unfold dayM
  rw [if_pos (by omega)]
  simp only
  rw [show (yoe:Int)+400 * era+1 - 1=(yoe:Int)+400 * era by omega,show (m:Int) - 9+9=(m:Int) by omega,hk5 m m1,q4,q100,q400]
  omega
 refine ⟨?_,?_,by omega,by omega,by omega,?_,hday⟩
 omega
 omega
 have hm':m=10∨m=11:=by omega
 rcases hm' with rfl|rfl
 unfold lengthM
 rw [if_neg (by omega),if_neg (by omega),if_neg (by omega)]
 rw [if_neg (by omega),if_neg (by omega)] at m3
 omega
 unfold lengthM
 rw [if_neg (by omega),if_pos (by omega)]
 rw [if_pos rfl] at m3
 by_cases h365:doy=365
 rw [if_pos h365] at m3
 have hlp:leapM ((yoe:Int)+400 * era+1)=true:=by
  rw [show (yoe:Int)+400 * era+1=((yoe:Int)+1)+400 * era by omega,leapM_era]
  exact hl h365
 rw [hlp]
 simp only [if_true]
 omega
 rw [if_neg h365] at m3
 split<;>omega
 rw [if_neg h10]
 simp only
 have hday:dayM ((yoe:Int)+400 * era) ((m:Int)+3) ((doy:Int) - (((153 * m+2) / 5:Nat):Int)+1)=n:=by
  unfold dayM
  rw [if_neg (by omega)]
  simp only
  rw [show (m:Int)+3 - 3=(m:Int) by omega,hk5 m m1,q4,q100,q400]
  omega
 refine ⟨?_,?_,by omega,by omega,by omega,?_,hday⟩
 omega
 omega
 unfold lengthM
 rw [if_neg (by omega),if_neg (by omega)]
 rw [if_neg (by omega)] at m3
 split at m3
 rw [if_pos (by omega)];omega
 rw [if_neg (by omega)];omega
def startY (y:Int):Int:=365 * (y - 1)+(y - 1) / 4 - (y - 1) / 100+(y - 1) / 400
def cumL (y:Int):Nat→Int
 | 0=>0
 | k+1=>cumL y k+lengthM y ((k:Int)+1)
theorem leapM_iff (y:Int):leapM y=true↔(y % 4=0∧(¬ y % 100=0∨y % 400=0)):=by
 unfold leapM
 simp
theorem startY_step (y:Int):startY (y+1)=startY y+(if leapM y=true then 366 else 365):=by
 unfold startY
 have h:=leapM_iff y
 by_cases hl:leapM y=true
 rw [if_pos hl]
 have:=h.1 hl
 omega
 rw [if_neg hl]
 have:¬ (y % 4=0∧(¬ y % 100=0∨y % 400=0)):=fun h'=>hl (h.2 h')
 omega
theorem startY_mono {a b:Int} (h:a≤b):startY a≤startY b:=by
 unfold startY;omega
theorem lengthM_pos {y:Int} {k:Nat} (hk:k<12):28≤lengthM y ((k:Int)+1):=by
 unfold lengthM
 rw [if_neg (by omega)]
 repeat' split
 all_goals omega
theorem cumL_eq (y:Int):∀ k:Nat,k≤11→cumL y k=(if k<2 then 31 * (k:Int) else (if leapM y=true then 1 else 0)+(153 * ((k:Int) - 2)+2) / 5+59):=by
 intro k hk
 have:k=0∨k=1∨k=2∨k=3∨k=4∨k=5∨k=6∨k=7∨k=8∨k=9∨k=10∨k=11:=by omega
 rcases this with rfl|rfl|rfl|rfl|rfl|rfl|rfl|rfl|rfl|rfl|rfl|rfl<;>simp [cumL,lengthM]<;>cases leapM y<;>simp
theorem cum12 (y:Int):cumL y 12=if leapM y=true then 366 else 365:=by
 simp [cumL,lengthM]
 cases leapM y<;>simp
theorem dayM_cum (y d:Int) (k:Nat) (hk:k≤11):dayM y ((k:Int)+1) d=startY y+cumL y k+d - 1:=by
 rw [cumL_eq y k hk]
 unfold dayM
 by_cases h2:k<2
 rw [if_pos h2,if_pos (by omega)]
 simp only
 unfold startY
 omega
 rw [if_neg h2,if_neg (by omega)]
 simp only
 have h:=startY_step y
 have hl:=leapM_iff y
 have e:(153 * ((k:Int)+1 - 3)+2) / 5=(153 * ((k:Int) - 2)+2) / 5:=by congr 2;omega
 rw [e]
 generalize (153 * ((k:Int) - 2)+2) / 5=z
 have e2:startY (y+1)=365 * y+y / 4 - y / 100+y / 400:=by unfold startY;omega
 rw [e2] at h
 by_cases hl':leapM y=true
 rw [if_pos hl'] at h ⊢;omega
 rw [if_neg hl'] at h ⊢;omega
theorem cumL_mono {y:Int}:∀ {a b:Nat},a≤b→b≤12→cumL y a≤cumL y b
 | a, 0, h, _ => by obtain rfl : a = 0 := by omega
                    exact Int.le_refl _
 | a, b + 1, h, h2 => by
   by_cases e:a=b+1
   subst e;exact Int.le_refl _
   have:=cumL_mono (y:=y) (a:=a) (b:=b) (by omega) (by omega)
   have:=lengthM_pos (y:=y) (k:=b) (by omega)
   simp only [cumL];omega
theorem ofM_parts {n:Int} (h0:0≤n) (h1:n≤3652058):∃ k:Nat,k≤11∧(ofM n).m=(k:Int)+1∧1≤(ofM n).y∧(ofM n).y≤9999∧n=startY (ofM n).y+cumL (ofM n).y k+(ofM n).d - 1∧1≤(ofM n).d∧(ofM n).d≤lengthM (ofM n).y ((k:Int)+1)∧startY (ofM n).y≤n∧n<startY ((ofM n).y+1):=by
 obtain ⟨g1,g2,g3,g4,g5,g6,g7⟩:=ofM_ok h0 h1
 obtain ⟨k,hk⟩:∃ k:Nat,(ofM n).m=(k:Int)+1:=⟨((ofM n).m - 1).toNat,by omega⟩
 have hk11:k≤11:=by omega
 rw [hk] at g6 g7
 rw [dayM_cum _ _ k hk11] at g7
 have c0:=cumL_mono (y:=(ofM n).y) (a:=0) (b:=k) (by omega) (by omega)
 have c1:=cumL_mono (y:=(ofM n).y) (a:=k+1) (b:=12) (by omega) (by omega)
 have c2:=cum12 (ofM n).y
 have c3:=startY_step (ofM n).y
 rw [c2,show cumL (ofM n).y (k+1)=cumL (ofM n).y k+lengthM (ofM n).y ((k:Int)+1) from rfl] at c1
 rw [show cumL (ofM n).y 0=0 from rfl] at c0
 exact ⟨k,hk11,hk,g1,g2,g7.symm,g5,g6,by omega,by omega⟩
end Go.Eng
namespace Go.Proofs.YtjdjdoefppebkaaGreatDoor
open Go Go.Eng Go.RowKit Go.Proofs
def lengthsL:List Int:=[0,31,28,31,30,31,30,31,31,30,31,30,31]
def LenG (w:World):Prop:=∀ i u,lengthsL[i]?=some u→w.cell? ⟨1,i,none⟩=some (.int .i64 u)
theorem LenG.ext {S:List Nat} {w w':World} (h:LenG w) (hS:Stp S w w') (hb:1∉S):LenG w':=fun i u hu=>hS.cell hb (h i u hu)
theorem LenG.up {w w':World} (h:LenG w) (hS:Stp [] w w'):LenG w':=h.ext hS (by simp)
theorem Leap_any (y:Int) (w:World) (h0:0≤y) (h1:y≤100000):Calls Tryz.prog 310 #[.int .i64 y] w (Ret fun r w'=>r=.bool (leapM y)∧w'=w):=by
 unfold leapM
 refine calls_of_WC1 (n:=16) Tryz.func310 rfl rfl rfl ?_
 repeat'(first|refine W1 ?_|omega|refine VG ?_ ?_<;>intro hg|refine VC ?_ ?_<;>intro hc)
 all_goals refine WR ?_
 all_goals refine .mk ⟨?_,rfl⟩
 all_goals congr 1
 all_goals (first|done|(rw [Bool.eq_iff_iff];simp;omega)|(simp [*]))
theorem Length_any (y m:Int) (w:World) (hL:LenG w) (h0:0≤y) (h1:y≤100000):Calls Tryz.prog 282 #[.int .i64 y,.int .i64 m] w (Ret fun r w'=>r=.int .i64 (lengthM y m)∧w'=w):=by
 unfold lengthM
 refine calls_of_WC2 (n:=22) Tryz.func282 rfl rfl rfl ?_
 by_cases hm:m<1∨12<m
 · rw [if_pos hm]
   repeat'(first|refine W1 ?_|omega|refine VG ?_ ?_<;>intro hg|refine VC ?_ ?_<;>intro hc)
   all_goals refine WR ?_
   all_goals exact .mk ⟨rfl,rfl⟩
 rw [if_neg hm]
 obtain ⟨k,rfl⟩:∃ k:Nat,m=(k:Int):=⟨m.toNat,by omega⟩
 have hk:k<13:=by omega
 have hcell:w.cell? ⟨1,0+k * 1,none⟩=some (.int .i64 (lengthsL.getD k 0)):=hL _ _ (by
  have:k<lengthsL.length:=hk
  simp [List.getD,this])
 by_cases h2:(k:Int)=2
 rw [if_pos h2]
 focus repeat'(first|refine W1 ?_|omega|refine VG ?_ ?_<;>intro hg|refine VC ?_ ?_<;>intro hc)
 refine CL rfl (evs1 rfl) rfl (Leap_any y _ h0 h1) ?_
 rintro _ _ ⟨rfl,rfl⟩
 cases hl:leapM y
 refine W ?_
 refine WL_pure (PR_load1 rfl rfl hcell) rfl ?_
 refine W ?_
 refine WR ?_
 obtain rfl:k=2:=by omega
 exact .mk ⟨rfl,rfl⟩
 refine W ?_
 refine WR ?_
 exact .mk ⟨rfl,rfl⟩
 rw [if_neg h2]
 focus repeat'(first|refine W1 ?_|omega|refine VG ?_ ?_<;>intro hg|refine VC ?_ ?_<;>intro hc)
 refine WL_pure (PR_load1 rfl rfl hcell) rfl ?_
 refine W ?_
 refine WR ?_
 refine .mk ⟨?_,rfl⟩
 congr 1
 have:k=1∨k=3∨k=4∨k=5∨k=6∨k=7∨k=8∨k=9∨k=10∨k=11∨k=12:=by omega
 rcases this with rfl|rfl|rfl|rfl|rfl|rfl|rfl|rfl|rfl|rfl|rfl<;>rfl
abbrev datV (y m d:Int):Value:=.agg #[.int .i64 y,.int .i64 m,.int .i64 d]
def badD (y m d:Int):Prop:=y<1∨9999<y∨m<1∨12<m∨d<1∨lengthM y m<d
instance (y m d:Int):Decidable (badD y m d):=by unfold badD;infer_instance
theorem DCheck_any (y m d:Int) (w:World) (hL:LenG w):Calls Tryz.prog 325 #[datV y m d] w (Ret fun r w'=>r=.int .i64 (if badD y m d then 5 else 0)∧Stp [] w w'):=by
 refine calls_of_WC1 (n:=36) Tryz.func325 rfl rfl rfl ?_
 refine W ?_
 refine WL_eff (OE_box rfl) rfl ?_
 rintro _ w1 ⟨b,rfl,hb,hblk,hS⟩
 replace hblk:Blk w1 b 291 [.int .i64 y,.int .i64 m,.int .i64 d]:=hblk
 replace hL:=hL.up hS
 refine W ?_
 refine WC_drawn 33 [] [] [(0,0),(1,1),(2,0),(3,0),(4,0),(5,1),(6,0),(7,0),(8,0),(9,0),(10,1),(11,0),(12,0),(13,0),(14,0),(15,1),(16,0),(17,0),(18,0),(19,0),(20,1),(21,0),(22,0),(23,0),(24,0),(25,1),(26,0),(27,1),(28,0),(29,1),(30,2),(31,0),(32,0)] rfl mixed (by kernel_rfl) (by kernel_rfl) (by kernel_rfl) (fun w1 hS1=>?_)
 replace hblk:=hblk.up hS1
 replace hL:=hL.up hS1
 replace hS:=hS.trans hS1
 clear hS1
 by_cases hg:y<1∨9999<y∨m<1∨12<m∨d<1
 · have hbad:badD y m d:=by unfold badD;omega
   rw [if_pos hbad]
   repeat'(first|refine D1 ?_|omega|refine WD_splitN rfl rfl rfl rfl (fun hg=>?_) (fun hg=>?_)|(refine WD_splitBN rfl rfl rfl rfl (fun hg=>?_) (fun hg=>?_)<;>refine D1 ?_)|fail)
   all_goals repeat'(first|refine W1 ?_|omega|refine VG ?_ ?_<;>intro hg|refine VC ?_ ?_<;>intro hc)
   all_goals refine WR ?_
   all_goals exact .mk ⟨rfl,hS⟩
 · repeat'(first|refine D1 ?_|omega|refine WD_splitN rfl rfl rfl rfl (fun hg=>?_) (fun hg=>?_)|(refine WD_splitBN rfl rfl rfl rfl (fun hg=>?_) (fun hg=>?_)<;>refine D1 ?_)|fail)
   refine WD_eff rfl rfl (OE_call rfl (evs2 rfl rfl) (Length_any y m _ hL (by omega) (by omega))) (fun _ _ h=>by rw [h.2];exact Stp.refl _ _) rfl ?_
   rintro _ w3 ⟨rfl,rfl⟩
   repeat'(first|refine D1 ?_|omega|refine WD_splitN rfl rfl rfl rfl (fun hg=>?_) (fun hg=>?_)|(refine WD_splitBN rfl rfl rfl rfl (fun hg=>?_) (fun hg=>?_)<;>refine D1 ?_)|fail)
   all_goals repeat'(first|refine W1 ?_|omega|refine VG ?_ ?_<;>intro hg|refine VC ?_ ?_<;>intro hc)
   refine WR ?_
   exact .mk ⟨by rw [if_pos (by unfold badD;omega)],hS⟩
   refine WR ?_
   exact .mk ⟨by rw [if_neg (by unfold badD;omega)],hS⟩
theorem number_any (y m d:Int) (w:World) (hy:0≤y) (hy2:y≤100000) (hm:1≤m) (hm2:m≤12) (hd:0≤d) (hd2:d≤100000) (h1:m - 3<0→1≤y):Calls Tryz.prog 283 #[datV y m d] w (Ret fun r w'=>r=.int .i64 (dayM y m d)∧Stp [] w w'):=by
 refine calls_of_WC1 (n:=36) Tryz.func283 rfl rfl rfl ?_
 refine W ?_
 refine WL_eff (OE_box rfl) rfl ?_
 rintro _ w1 ⟨b,rfl,hb,hblk,hS⟩
 replace hblk:Blk w1 b 291 [.int .i64 y,.int .i64 m,.int .i64 d]:=hblk
 refine W ?_
 refine WC_drawn 7 [] [] [(0,0),(1,1),(2,0),(3,1),(4,0),(5,0),(6,0)] rfl mixed (by kernel_rfl) (by kernel_rfl) (by kernel_rfl) (fun w1 hS1=>?_)
 replace hblk:=hblk.up hS1
 replace hS:=hS.trans hS1
 clear hS1
 refine D ?_
 repeat'(first|refine W1 ?_|omega|refine VG ?_ ?_<;>intro hg|refine VC ?_ ?_<;>intro hc)
 all_goals refine WR ?_
 all_goals refine .mk ⟨?_,hS⟩
 all_goals unfold dayM
 rw [if_pos (by assumption)]
 congr 1
 dsimp only
 omega
 rw [if_neg (by assumption)]
theorem DDay_any (y m d:Int) (w:World) (hL:LenG w):Calls Tryz.prog 306 #[datV y m d] w (Ret fun r w'=>r=.tuple #[.int .i64 (if badD y m d then 0 else dayM y m d),.int .i64 (if badD y m d then 5 else 0)]∧Stp [] w w'):=by
 refine calls_of_WC1 (n:=12) Tryz.func306 rfl rfl rfl ?_
 refine W ?_
 refine WL_eff (OE_box rfl) rfl ?_
 rintro _ w1 ⟨b,rfl,hb,hblk,hS⟩
 replace hblk:Blk w1 b 291 [.int .i64 y,.int .i64 m,.int .i64 d]:=hblk
 replace hL:=hL.up hS
 refine W ?_
 refine CL rfl (evs1 rfl) rfl (DCheck_any y m d _ hL) ?_
 rintro _ w2 ⟨rfl,hT⟩
 replace hblk:=hblk.up hT
 replace hS:=hS.trans hT
 clear hT
 by_cases hbad:badD y m d
 rw [if_pos hbad,if_pos hbad]
 refine W ?_
 refine WR ?_
 exact .mk ⟨rfl,hS⟩
 rw [if_neg hbad,if_neg hbad]
 refine W ?_
 have h31:=lengthM_le y m
 unfold badD at hbad
 refine CL rfl (evs1 rfl) rfl (number_any y m d _ (by omega) (by omega) (by omega) (by omega) (by omega) (by omega) (by omega)) ?_
 rintro _ w3 ⟨rfl,hT⟩
 refine W ?_
 refine WR ?_
 exact .mk ⟨rfl,hS.trans hT⟩
structure Hol where
 kind:Int
 month:Int
 day:Int
 wd:Int
 nth:Int
 off:Int
 move:Int
 first:Int
 last:Int
structure Clo where
 lo:Int
 hi:Int
 known:Int
structure Cal where
 week:List Bool
 hols:List Hol
 clos:List Clo
def inDays (d:Int):Bool:=decide (0≤d∧d≤3652058)
def eastN (y:Int):Int:=
 let a:=y % 19
 let b:=y / 100
 let c:=y % 100
 let g:=(b - (b+8) / 25+1) / 3
 let h:=(19 * a+b - b / 4 - g+15) % 30
 let l:=(32+2 * (b % 4)+2 * (c / 4) - h - c % 4) % 7
 h+l - 7 * ((a+11 * h+22 * l) / 451)+114
def eastM (y:Int):Int:=dayM y (eastN y / 31) (eastN y % 31+1)
def fstW (y m wd:Int):Int:=dayM y m 1+(wd - dayM y m 1 % 7+7) % 7
def nomM (h:Hol) (y:Int):Option Int:=
 if y<h.first∨h.last<y then none
 else if h.kind=1 then (if badD y h.month h.day then none else some (dayM y h.month h.day))
 else if h.kind=2 then (if fstW y h.month h.wd+7 * (h.nth - 1)<dayM y h.month 1+lengthM y h.month then some (fstW y h.month h.wd+7 * (h.nth - 1)) else none)
 else if h.kind=3 then some (fstW y h.month h.wd+(dayM y h.month 1+lengthM y h.month - 1 - fstW y h.month h.wd) / 7 * 7)
 else if y<1583∨9999<y then none else some (eastM y+h.off)
def movM (m d:Int):Int:=if m=1∧d % 7=5 then d+2 else if m=2∧d % 7=5 then d - 1 else if (m=1∨m=2)∧d % 7=6 then d+1 else d
def keptM (h:Hol) (y:Int):Option Int:=(nomM h y).bind fun d=>if inDays (movM h.move d) then some (movM h.move d) else none
structure HolOk (h:Hol):Prop where
 k1:1≤h.kind
 k2:h.kind≤4
 m1:0≤h.move
 m2:h.move≤2
 f1:1≤h.first
 l1:h.last≤9999
 month:h.kind≠4→1≤h.month∧h.month≤12
 day:h.kind=1→1≤h.day∧h.day≤31
 wd:h.kind=2∨h.kind=3→0≤h.wd∧h.wd≤6
 nth:h.kind=2→1≤h.nth∧h.nth≤5
 off:h.kind=4→-100≤h.off∧h.off≤100
def isHolM (l:List Hol) (d:Int):Bool:=
 inDays d && [(ofM d).y - 1,(ofM d).y,(ofM d).y+1].any fun y=>l.any fun h=>decide (keptM h y=some d)
def cloM (l:List Clo) (known d:Int):Bool:=l.any fun x=>decide (x.known≤known∧x.lo≤d∧d≤x.hi)
def shutM (c:Cal) (known d:Int):Bool:=c.week.getD (d % 7).toNat false || cloM c.clos known d || isHolM c.hols d
def openM (c:Cal) (known d:Int):Bool:=inDays d && !shutM c known d
structure CalOk (c:Cal):Prop where
 week:c.week.length=7
 hols:∀ h∈c.hols,HolOk h
 few:c.hols.length≤6
def findG (opn:Int→Bool) (step:Int):Nat→Int→Int×Int
 | 0,_=>(0,31)
 | k+1,d=>if inDays d=true then (if opn d=true then (d,0) else findG opn step k (d+step)) else (0,31)
def findM (opn:Int→Bool) (step d:Int):Int×Int:=if inDays d=true then findG opn step 1001 d else (0,5)
def addG (opn:Int→Bool) (step:Int):Nat→Int→Int×Int
 | 0,d=>(d,0)
 | k+1,d=>if (findM opn step (d+step)).2=0 then addG opn step k (findM opn step (d+step)).1 else (0,31)
def addM (opn:Int→Bool) (d n:Int):Int×Int:=
 if inDays d=true then (if n < -1000∨1000<n then (0,2) else addG opn (if n<0 then -1 else 1) n.natAbs d) else (0,5)
def monM (d n:Int):Int×Int:=
 if n < -200000∨200000<n then (0,2) else if inDays d=true then
  (let m:=12 * (ofM d).y+(ofM d).m - 1+n
   if m<12∨120000≤m then (0,5) else (dayM (m / 12) (m % 12+1) (min (ofM d).d (lengthM (m / 12) (m % 12+1))),0))
 else (0,5)
def oneB' (b:Bool):Int:=if b=true then 1 else 0
def numE (n:Int):Int×Int:=if n < -2147483647∨2147483647<n then (0,5) else (n,0)
def dayE (n:Int):Int×Int:=if n<0∨3652058<n then (0,5) else (n,0)
def fldM (ev:List Int) (n:Int):Int×Int:=if n=1∧ev.getD 1 0=-1 then (0,32) else (ev.getD n.toNat 0,0)
def sngM (opn:Int→Bool) (op b:Int):Int×Int:=
 if op=8 then (-b,0) else if op=19 then findM opn 1 b else if op=20 then findM opn (-1) b else (1 - b,0)
def dblM (opn:Int→Bool) (op a b:Int):Int×Int:=
 if op=5 then numE (a+b) else if op=6 then numE (a - b) else if op=7 then numE (a * b)
 else if op=9 then (oneB' (decide (a<b)),0) else if op=10 then (oneB' (decide (a≤b)),0) else if op=11 then (oneB' (decide (a=b)),0)
 else if op=15 then dayE (a+b) else if op=16 then dayE (a+7 * b) else if op=17 then monM a b else if op=18 then addM opn a b
 else if op=21 then (max a b,0) else if op=22 then (min a b,0) else (b - a,0)
def arM (op:Int):Nat:=if op=1∨op=2∨op=3∨op=4 then 0 else if op=8∨op=12∨op=19∨op=20 then 1 else 2
def valM (opn:Int→Bool) (ev:List Int) (x:Ins) (a b:Int):Int×Int:=
 if x.op=4 then fldM ev x.n else if arM x.op=0 then (x.n,0) else if arM x.op=1 then sngM opn x.op b else dblM opn x.op a b
abbrev Spn:=Int×Int
def spanM (op a b r:Int):List Spn:=
 if op=19 then [(b,r)] else if op=20 then [(r,b)] else if op=18 then (if 0<b then [(a+1,r)] else if b<0 then [(r,a - 1)] else []) else []
def topK (st:List Int) (k:Nat):Int:=if k<st.length then st.getD (st.length - 1 - k) 0 else 0
def runV (opn:Int→Bool) (ev:List Int) (C:List Ins):Nat→Nat→List Int→List Spn→Int×List Spn×Int
 | 0,_,_,_=>(0,[],22)
 | f + 1, i, st, sp=>
   let x:=C.getD i ⟨0,0⟩
   let b:=topK st 0
   let a:=topK st 1
   if x.op=24 then (b,sp,0)
   else if x.op=13 then runV opn ev C f x.n.toNat st sp
   else if x.op=14 then runV opn ev C f (if b=0 then x.n.toNat else i+1) st.dropLast sp
   else if (valM opn ev x a b).2=0 then runV opn ev C f (i+1) (st.take (st.length - arM x.op)++[(valM opn ev x a b).1]) (sp++spanM x.op a b (valM opn ev x a b).1)
   else (0,[],(valM opn ev x a b).2)
def runAll (opn:Int→Bool) (ev:List Int) (C:List Ins):Int×List Spn×Int:=runV opn ev C C.length 0 [] []
def unitO (s:Str):Int:=if s=[100,97,121,115] then 15 else if s=[119,101,101,107,115] then 16 else if s=[109,111,110,116,104,115] then 17 else 18
def funO (s:Str):Int:=if s=[110,101,120,116] then 19 else if s=[112,114,101,118] then 20 else if s=[108,97,116,101,114] then 21 else if s=[101,97,114,108,105,101,114] then 22 else 23
def binV (s:Str) (a b:Int):Int×Int:=
 if s=[43] then numE (a+b) else if s=[45] then numE (a - b) else if s=[42] then numE (a * b)
 else if s=[60] then (oneB' (decide (a<b)),0) else if s=[60,61] then (oneB' (decide (a≤b)),0) else if s=[61] then (oneB' (decide (a=b)),0)
 else if s=[33,61] then (oneB' (decide (¬ a=b)),0) else if s=[62] then (oneB' (decide (b<a)),0) else if s=[62,61] then (oneB' (decide (b≤a)),0) else (b,0)
def combV (opn:Int→Bool) (ev:List Int) (k n:Int) (s:Str) (rs:List (Int×Int)):Int×Int:=
 if k=1∨k=2∨k=3 then (n,0) else if k=4 then fldM ev (fieldF s).1
 else if ¬ (rs.getD 0 (0,0)).2=0 then (0,(rs.getD 0 (0,0)).2)
 else if k=5 then (if s=[110,111,116] then (1 - (rs.getD 0 (0,0)).1,0) else (-(rs.getD 0 (0,0)).1,0))
 else if k=9 then rs.getD (2 - (rs.getD 0 (0,0)).1).toNat (0,0)
 else if rs.length=1 then sngM opn (funO s) (rs.getD 0 (0,0)).1
 else if k=6∧(s=[97,110,100]∧(rs.getD 0 (0,0)).1=0∨s=[111,114]∧(rs.getD 0 (0,0)).1=1) then ((rs.getD 0 (0,0)).1,0)
 else if ¬ (rs.getD 1 (0,0)).2=0 then (0,(rs.getD 1 (0,0)).2)
 else if k=7 then dblM opn (unitO s) (rs.getD 0 (0,0)).1 (rs.getD 1 (0,0)).1
 else if k=8 then dblM opn (unitO s) (rs.getD 0 (0,0)).1 (-(rs.getD 1 (0,0)).1)
 else if k=10 then dblM opn (funO s) (rs.getD 0 (0,0)).1 (rs.getD 1 (0,0)).1
 else binV s (rs.getD 0 (0,0)).1 (rs.getD 1 (0,0)).1
def evalV (opn:Int→Bool) (ev:List Int):Nd→Int×Int
 | .mk k n s l=>combV opn ev k n s (l.map (evalV opn ev))
theorem evalV_eq (opn:Int→Bool) (ev:List Int) (x:Nd):evalV opn ev x=combV opn ev x.kind x.num x.word (x.kids.map (evalV opn ev)):=by
 cases x
 rw [evalV]
 rfl
def vOk (t v:Int):Prop:=(t=1∧-2147483647≤v∧v≤2147483647)∨(t=2∧(v=0∨v=1))∨(t=3∧0≤v∧v≤3652058)
structure EvOk (ev:List Int):Prop where
 len:ev.length=7
 day:0≤ev.getD 0 0∧ev.getD 0 0≤3652058
 served:-1≤ev.getD 1 0∧ev.getD 1 0≤3652058
 rest:∀ i,2≤i→i<7→-2147483647≤ev.getD i 0∧ev.getD i 0≤2147483647
def StOk (s:Shp) (st:List Int):Prop:=s.length=st.length∧∀ i (h:i<s.length) (h':i<st.length),vOk s[i] st[i]
theorem inDays_iff {d:Int}:inDays d=true↔0≤d∧d≤3652058:=by unfold inDays;simp
theorem findG_ok (opn:Int→Bool) (step:Int):∀ (k:Nat) (d:Int),(findG opn step k d).2=0→inDays (findG opn step k d).1=true∧opn (findG opn step k d).1=true
 | 0,d,h=>by simp [findG] at h
 | k + 1, d, h => by
   unfold findG at h ⊢
   split at h
   rename_i h1
   rw [if_pos h1]
   split at h
   rename_i h2
   rw [if_pos h2]
   exact ⟨h1,h2⟩
   rename_i h2
   rw [if_neg h2]
   exact findG_ok opn step k _ h
   simp at h
theorem findM_ok {opn:Int→Bool} {step d:Int} (h:(findM opn step d).2=0):inDays (findM opn step d).1=true∧inDays d=true:=by
 unfold findM at h ⊢
 split at h
 rename_i h1
 rw [if_pos h1]
 exact ⟨(findG_ok _ _ _ _ h).1,h1⟩
 simp at h
theorem addG_ok (opn:Int→Bool) (step:Int):∀ (k:Nat) (d:Int),inDays d=true→(addG opn step k d).2=0→inDays (addG opn step k d).1=true
 | 0,d,hd,h=>hd
 | k + 1, d, hd, h => by
   unfold addG at h ⊢
   split at h
   rename_i h1
   rw [if_pos h1]
   exact addG_ok opn step k _ (findM_ok h1).1 h
   simp at h
theorem addM_ok {opn:Int→Bool} {d n:Int} (h:(addM opn d n).2=0):inDays (addM opn d n).1=true:=by
 unfold addM at h ⊢
 split at h
 rename_i h1
 rw [if_pos h1]
 split at h
 simp at h
 rename_i h2
 rw [if_neg h2]
 exact addG_ok _ _ _ _ h1 h
 simp at h
theorem dayM_range {y m d:Int} (hy:1≤y) (hy2:y≤9999) (hm:1≤m) (hm2:m≤12) (hd:1≤d) (hd2:d≤lengthM y m):0≤dayM y m d∧dayM y m d≤3652058:=by
 obtain ⟨k,hk⟩:∃ k:Nat,m=(k:Int)+1:=⟨(m - 1).toNat,by omega⟩
 subst hk
 have hk:k≤11:=by omega
 rw [dayM_cum y d k hk]
 have h0:startY 1=0:=by decide
 have h1:=startY_mono hy
 have h2:=startY_mono (show y+1≤10000 by omega)
 have h3:startY 10000=3652059:=by decide
 have hc0:0≤cumL y k:=by
  have:=cumL_mono (y:=y) (Nat.zero_le k) (by omega)
  simpa [cumL] using this
 have hc:cumL y (k+1)=cumL y k+lengthM y ((k:Int)+1):=by simp [cumL]
 have hc12:=cumL_mono (y:=y) (show k+1≤12 by omega) (Nat.le_refl _)
 have hs:=startY_step y
 have h12:=cum12 y
 omega
theorem monM_ok {d n:Int} (h:(monM d n).2=0):inDays (monM d n).1=true:=by
 unfold monM at h ⊢
 split at h
 simp at h
 rename_i h0
 rw [if_neg h0]
 split at h
 rename_i h1
 rw [if_pos h1]
 dsimp only at h ⊢
 split at h
 simp at h
 rename_i h2
 rw [if_neg h2]
 rw [inDays_iff] at h1 ⊢
 obtain ⟨a1,a2,a3,a4,a5,a6,a7⟩:=ofM_ok h1.1 h1.2
 generalize 12 * (ofM d).y+(ofM d).m - 1+n=m at h2
 have hk:(m % 12).toNat<12:=by omega
 have hl:=lengthM_pos (y:=m / 12) hk
 rw [show (((m % 12).toNat:Int))=m % 12 by omega] at hl
 dsimp only
 exact dayM_range (by omega) (by omega) (by omega) (by omega) (by omega) (by omega)
 simp at h
theorem StOk.nil:StOk [] []:=⟨rfl,fun i h=>absurd h (Nat.not_lt_zero _)⟩
theorem StOk.one {t v:Int} (h:vOk t v):StOk [t] [v]:=⟨rfl,fun i hi _=>by
 have:i=0:=by simpa using hi
 subst this;exact h⟩
theorem StOk.app {s1 s2:Shp} {l1 l2:List Int} (h1:StOk s1 l1) (h2:StOk s2 l2):StOk (s1++s2) (l1++l2):=by
 refine ⟨by simp [h1.1,h2.1],fun i h h'=>?_⟩
 by_cases hi:i<s1.length
 rw [List.getElem_append_left hi,List.getElem_append_left (by rw [← h1.1];exact hi)]
 exact h1.2 i hi _
 have e:=h1.1
 rw [List.getElem_append_right (by omega),List.getElem_append_right (by omega)]
 have:=h2.2 (i - s1.length) (by simp at h;omega) (by simp at h';omega)
 simpa [e] using this
theorem StOk.take {s:Shp} {l:List Int} (h:StOk s l) (k:Nat):StOk (s.take k) (l.take k):=
 ⟨by simp [h.1],fun i hi hi'=>by simp at hi hi' ⊢;exact h.2 i _ _⟩
theorem StOk.drop {s:Shp} {l:List Int} (h:StOk s l) (k:Nat):StOk (s.drop k) (l.drop k):=
 ⟨by simp [h.1],fun i hi hi'=>by simp at hi hi' ⊢;exact h.2 _ _ _⟩
theorem StOk.one_inv {t:Int} {l:List Int} (h:StOk [t] l):∃ v,l=[v]∧vOk t v:=by
 match l,h with
 | [v],h=>exact ⟨v,rfl,h.2 0 (by simp) (by simp)⟩
 | [],h=>exact absurd h.1 (by simp)
 | _ :: _ :: _,h=>exact absurd h.1 (by simp)
theorem StOk.two_inv {t u:Int} {l:List Int} (h:StOk [t,u] l):∃ a b,l=[a,b]∧vOk t a∧vOk u b:=by
 match l,h with
 | [a,b],h=>exact ⟨a,b,rfl,h.2 0 (by simp) (by simp),h.2 1 (by simp) (by simp)⟩
 | [],h=>exact absurd h.1 (by simp)
 | [_],h=>exact absurd h.1 (by simp)
 | _ :: _ :: _ :: _,h=>exact absurd h.1 (by simp)
theorem topK_app0 (l:List Int) (v:Int):topK (l++[v]) 0=v:=by
 unfold topK
 simp
theorem topK_app1 (l:List Int) (a b:Int):topK (l++[a,b]) 0=b∧topK (l++[a,b]) 1=a:=by
 unfold topK
 constructor<;>simp [List.getD_eq_getElem?_getD,List.getElem?_append_right]
theorem numE_ok {n:Int} (h:(numE n).2=0):vOk 1 (numE n).1:=by
 unfold numE at h ⊢
 split at h
 simp at h
 rename_i h1;rw [if_neg h1];left;refine ⟨rfl,?_,?_⟩<;>dsimp only<;>omega
theorem dayE_ok {n:Int} (h:(dayE n).2=0):vOk 3 (dayE n).1:=by
 unfold dayE at h ⊢
 split at h
 simp at h
 rename_i h1;rw [if_neg h1];right;right;refine ⟨rfl,?_,?_⟩<;>dsimp only<;>omega
theorem one_ok (b:Bool):vOk 2 (oneB' b):=by
 right;left;refine ⟨rfl,?_⟩;unfold oneB';cases b<;>simp
theorem vOk.days {v:Int} (h:inDays v=true):vOk 3 v:=.inr (.inr ⟨rfl,inDays_iff.1 h⟩)
theorem vOk.n {v:Int} (h:vOk 1 v):-2147483647≤v∧v≤2147483647:=by unfold vOk at h;omega
theorem vOk.b {v:Int} (h:vOk 2 v):v=0∨v=1:=by unfold vOk at h;omega
theorem vOk.d {v:Int} (h:vOk 3 v):0≤v∧v≤3652058:=by unfold vOk at h;omega
theorem effF_range {x:Ins} (h:(effF x).2.2.2=true):1≤x.op∧x.op≤24:=by
 by_cases h1:1≤x.op∧x.op≤24
 exact h1
 · exfalso
   have:effF x=([],[],[],false):=by
    unfold effF
    repeat rw [if_neg (by omega)]
   rw [this] at h
   simp at h
theorem val_ok {opn:Int→Bool} {ev:List Int} (hev:EvOk ev) {x:Ins} {ts vs:List Int} (hx:(effF x).2.2.2=true) (h24:x.op≠24) (h13:x.op≠13) (h14:x.op≠14)
 (ht:ts=(effF x).1∨(effF x).2.1≠[]∧ts=(effF x).2.1) (hs:StOk ts vs) :
 ts.length=arM x.op∧(effF x).1.length=arM x.op∧∀ st,((valM opn ev x (topK (st++vs) 1) (topK (st++vs) 0)).2=0→StOk (effF x).2.2.1 [(valM opn ev x (topK (st++vs) 1) (topK (st++vs) 0)).1]):=by
 have hr:=effF_range hx
 obtain ⟨op,n⟩:=x
 dsimp only at *
 have hop:op=1∨op=2∨op=3∨op=4∨op=5∨op=6∨op=7∨op=8∨op=9∨op=10∨op=11∨op=12∨op=15∨op=16∨op=17∨op=18∨op=19∨op=20∨op=21∨op=22∨op=23:=by omega
 rcases hop with rfl|rfl|rfl|rfl|rfl|rfl|rfl|rfl|rfl|rfl|rfl|rfl|rfl|rfl|rfl|rfl|rfl|rfl|rfl|rfl|rfl
 case inl|inr.inl|inr.inr.inl=>
  simp [effF] at hx ht ⊢
  subst ht
  refine ⟨rfl,rfl,fun st _=>StOk.one ?_⟩
  simp [valM,arM,vOk]
  omega
 case inr.inr.inr.inl=>
  simp [effF] at hx ht ⊢
  subst ht
  refine ⟨rfl,rfl,fun st h=>StOk.one ?_⟩
  simp only [valM,if_true] at h ⊢
  unfold fldM at h ⊢
  split at h
  simp at h
  rename_i h1
  rw [if_neg h1]
  dsimp only
  have h0:=hev.day
  have hs1:=hev.served
  by_cases h01:n=0∨n=1
  rw [if_pos h01]
  right;right
  rcases h01 with rfl|rfl
  exact ⟨rfl,h0.1,h0.2⟩
  refine ⟨rfl,?_,hs1.2⟩
  have:¬ ev.getD 1 0=-1:=fun h=>h1 ⟨rfl,h⟩
  show 0≤ev.getD 1 0
  omega
  rw [if_neg h01]
  left
  exact ⟨rfl,hev.rest n.toNat (by omega) (by omega)⟩
 all_goals
  simp [effF] at hx ht ⊢
  try subst hx
 all_goals
  first
  | (subst ht
     obtain ⟨b,rfl,hb⟩:=hs.one_inv
     refine ⟨rfl,rfl,fun st h=>StOk.one ?_⟩
     simp only [topK_app0] at h ⊢
     simp [valM,arM,sngM,dblM] at h ⊢
     first
     | exact .days (findM_ok h).1
     | (have:=hb.n;unfold vOk;omega)
     | (have:=hb.b;unfold vOk;omega))
  | (rcases ht with rfl | rfl <;>
     (obtain ⟨a,b,rfl,ha,hb⟩:=hs.two_inv
      refine ⟨rfl,rfl,fun st h=>StOk.one ?_⟩
      simp only [topK_app1] at h ⊢
      simp [valM,arM,sngM,dblM] at h ⊢
      exact one_ok _))
  | (subst ht
     obtain ⟨a,b,rfl,ha,hb⟩:=hs.two_inv
     refine ⟨rfl,rfl,fun st h=>StOk.one ?_⟩
     simp only [topK_app1] at h ⊢
     simp [valM,arM,sngM,dblM] at h ⊢
     first
     | exact numE_ok h
     | exact dayE_ok h
     | exact .days (monM_ok h)
     | exact .days (addM_ok h)
     | (have:=ha.d;have:=hb.d;unfold vOk;omega))
theorem vstep_ok {opn:Int→Bool} {ev:List Int} (hev:EvOk ev) {x:Ins} {s nx:Shp} {st:List Int} (hn:nextM x s=some nx) (h24:x.op≠24) (h13:x.op≠13) (h14:x.op≠14) (hs:StOk s st)
 (he:(valM opn ev x (topK st 1) (topK st 0)).2=0):StOk nx (st.take (st.length - arM x.op)++[(valM opn ev x (topK st 1) (topK st 0)).1]):=by
 unfold nextM at hn
 dsimp only at hn
 split at hn
 rename_i hc
 obtain ⟨c1,c2,c3,c4⟩:=hc
 simp only [Option.some.injEq] at hn
 subst hn
 have hsp:st=st.take (s.length - (effF x).1.length)++st.drop (s.length - (effF x).1.length):=(List.take_append_drop _ _).symm
 obtain ⟨v1,v2,v3⟩:=val_ok (opn:=opn) hev c1 h24 h13 h14 c3 (hs.drop _)
 have v4:=v3 (st.take (s.length - (effF x).1.length))
 rw [← hsp] at v4
 rw [← v2,← hs.1]
 exact (hs.take _).app (v4 he)
 cases hn
structure PRow where
 k:Int
 s:Str
 ts:List Int
 t:Int
 L:List Int
deriving DecidableEq
def tblP:List PRow:=[⟨5,[45],[1],1,[8]⟩,⟨5,[110,111,116],[2],2,[12]⟩,⟨10,[110,101,120,116],[3],3,[19]⟩,⟨10,[112,114,101,118],[3],3,[20]⟩,⟨10,[108,97,116,101,114],[3,3],3,[21]⟩,⟨10,[101,97,114,108,105,101,114],[3,3],3,[22]⟩,⟨10,[98,101,116,119,101,101,110],[3,3],1,[23]⟩,
 ⟨7,[100,97,121,115],[3,1],3,[15]⟩,⟨7,[119,101,101,107,115],[3,1],3,[16]⟩,⟨7,[109,111,110,116,104,115],[3,1],3,[17]⟩,⟨7,[99,111,117,114,116,100,97,121,115],[3,1],3,[18]⟩,
 ⟨8,[100,97,121,115],[3,1],3,[8,15]⟩,⟨8,[119,101,101,107,115],[3,1],3,[8,16]⟩,⟨8,[109,111,110,116,104,115],[3,1],3,[8,17]⟩,⟨8,[99,111,117,114,116,100,97,121,115],[3,1],3,[8,18]⟩,
 ⟨6,[43],[1,1],1,[5]⟩,⟨6,[45],[1,1],1,[6]⟩,⟨6,[42],[1,1],1,[7]⟩,
 ⟨6,[60],[1,1],2,[9]⟩,⟨6,[60,61],[1,1],2,[10]⟩,⟨6,[61],[1,1],2,[11]⟩,⟨6,[33,61],[1,1],2,[11,12]⟩,⟨6,[62],[1,1],2,[10,12]⟩,⟨6,[62,61],[1,1],2,[9,12]⟩,
 ⟨6,[60],[3,3],2,[9]⟩,⟨6,[60,61],[3,3],2,[10]⟩,⟨6,[61],[3,3],2,[11]⟩,⟨6,[33,61],[3,3],2,[11,12]⟩,⟨6,[62],[3,3],2,[10,12]⟩,⟨6,[62,61],[3,3],2,[9,12]⟩]
theorem tbl_sig:sigs.all (fun e=>tblP.any (fun r=>decide (r.k=e.1.kind∧r.s=e.1.s∧r.ts=(if e.1.b=0 then [e.1.a] else [e.1.a,e.1.b])∧e.1.c=0) && (match e.2 with|.int .i64 t=>decide (t=r.t)|_=>false)))=true:=by decide +kernel
theorem tbl_A:opsA.all (fun s=>tblP.any (fun r=>decide (r.k=6∧r.s=s∧r.ts=[1,1]∧r.t=1)))=true:=by decide +kernel
theorem tbl_C:opsC.all (fun s=>tblP.any (fun r=>decide (r.k=6∧r.s=s∧r.ts=[1,1]∧r.t=2)) && tblP.any (fun r=>decide (r.k=6∧r.s=s∧r.ts=[3,3]∧r.t=2)))=true:=by decide +kernel
theorem tbl_ok:tblP.all (fun r=>decide (r.k≠9) && decide (r.k≠1∧r.k≠2∧r.k≠3∧r.k≠4) && decide (r.ts≠[]) && !(decide (r.k=6) && (decide (r.s=[97,110,100]) || decide (r.s=[111,114]))) && okL (r.L.map fun o=>⟨o,0⟩) r.ts r.t && decide (extraL r.k r.s++(if r.k=6∧r.s=[45] then [⟨6,0⟩] else [])=r.L.map fun o=>(⟨o,0⟩:Ins)))=true:=by decide +kernel
def Leaf (k n:Int) (s:Str) (t:Int):Prop:=
 ((k=1∨k=2∨k=3)∧t=k∧vOk k n)∨(k=4∧∃ i:Nat,i<7∧s=fieldNames.getD i []∧(fieldF s).1=(i:Int)∧t=if i≤1 then 3 else 1)
theorem leaf_view {k n:Int} {s:Str} (h:leafN k n s≠0):Leaf k n s (leafN k n s):=by
 unfold leafN at h ⊢
 by_cases k4:k=4
 rw [if_pos k4] at h ⊢
 split at h
 · rename_i hn
   rw [if_pos hn]
   have h1:(fieldF s).2.2=true:=by
    cases hb:(fieldF s).2.2 with
    | true=>rfl
    | false=>exact absurd (fieldF_no hb) h
   obtain ⟨i,hi,hsn,hii⟩:=(field_spec s (fieldF s).1).1 ⟨h1,rfl⟩
   refine .inr ⟨k4,i,hi,hsn,hii,?_⟩
   subst hsn
   match i,hi with
   | 0,_=>decide +kernel
   | 1,_=>decide +kernel
   | 2,_=>decide +kernel
   | 3,_=>decide +kernel
   | 4,_=>decide +kernel
   | 5,_=>decide +kernel
   | 6,_=>decide +kernel
 exact absurd rfl h
 rw [if_neg k4] at h ⊢
 split at h
 exact absurd rfl h
 rename_i hs0
 rw [if_neg hs0]
 left
 unfold vOk
 by_cases k1:k=1
 rw [if_pos k1] at h ⊢
 split at h
 rename_i h2;rw [if_pos h2];subst k1;exact ⟨.inl rfl,rfl,.inl ⟨rfl,by omega,by omega⟩⟩
 exact absurd rfl h
 rw [if_neg k1] at h ⊢
 by_cases k2:k=2
 rw [if_pos k2] at h ⊢
 split at h
 rename_i h2;rw [if_pos h2];subst k2;exact ⟨.inr (.inl rfl),rfl,.inr (.inl ⟨rfl,by omega⟩)⟩
 exact absurd rfl h
 rw [if_neg k2] at h ⊢
 by_cases k3:k=3
 rw [if_pos k3] at h ⊢
 split at h
 rename_i h2;rw [if_pos h2];subst k3;exact ⟨.inr (.inr rfl),rfl,.inr (.inr ⟨rfl,by omega,by omega⟩)⟩
 exact absurd rfl h
 rw [if_neg k3] at h;exact absurd rfl h
theorem typed_view {k n:Int} {s:Str} {l:List Nd} (ht:typeT (.mk k n s l)≠0) :
 (l=[]∧Leaf k n s (typeT (.mk k n s l)))∨(k=9∧∃ a b c,l=[a,b,c]∧typeT a=2∧typeT b=typeT (.mk k n s l)∧typeT c=typeT (.mk k n s l))∨
 (k=6∧(s=[97,110,100]∨s=[111,114])∧∃ a b,l=[a,b]∧typeT a=2∧typeT b=2∧typeT (.mk k n s l)=2)∨
 (∃ r∈tblP,r.k=k∧r.s=s∧l.map typeT=r.ts∧typeT (.mk k n s l)=r.t):=by
 have hteq:typeT (.mk k n s l)=combT k n s (l.map typeT):=typeT_eq _
 rw [hteq] at ht ⊢
 rcases combT_cases ht with ⟨he,hc⟩|⟨h0,h3,hn0,hc⟩
 left
 rw [hc] at ht ⊢
 exact ⟨by simpa using he,leaf_view ht⟩
 have hlen:l.length≤3:=by simpa using h3
 rcases hc with ⟨h9,hts⟩|⟨h6,hg2,hbt⟩|hsg
 right;left
 have hl3:l.length=3:=by have:=congrArg List.length hts;simpa using this
 obtain ⟨a,b,c,rfl⟩:=ctyLen3 hl3
 simp only [List.map_cons,List.map_nil,List.cons.injEq,and_true] at hts
 exact ⟨h9,a,b,c,rfl,hts.1,hts.2.1,hts.2.2⟩
 subst h6
 rcases ts_of h0 h3 hn0 hg2 with ⟨hb0,hts⟩|⟨hb0,hts⟩
 exfalso
 apply ht
 rw [hbt,hb0]
 have ha0:(l.map typeT).getD 0 0≠0:=fun h=>h0 (by rw [hts,h];simp)
 unfold binT
 split
 rw [if_neg (by omega)]
 split
 rw [if_neg (by omega)]
 split
 rw [if_neg (by omega)]
 rfl
 have hl2:l.length=2:=by have:=congrArg List.length hts;simpa using this
 obtain ⟨a,b,rfl⟩:=ctyLen2 hl2
 have ra:=typeT_range a
 rw [hbt] at ht ⊢
 simp only [List.map_cons,List.map_nil,List.getD_cons_zero,List.getD_cons_succ] at ht ⊢
 have a0:typeT a≠0:=fun h=>h0 (by simp [h])
 unfold binT at ht ⊢
 by_cases hA:s∈opsA
 rw [if_pos hA] at ht ⊢
 split at ht
 rename_i hab
 rw [if_pos hab]
 right;right;right
 have:=List.all_eq_true.1 tbl_A s hA
 obtain ⟨r,hr,hp⟩:=List.any_eq_true.1 this
 obtain ⟨p1,p2,p3,p4⟩:=of_decide_eq_true hp
 exact ⟨r,hr,p1,p2,by rw [p3,← hab.1,hab.2],p4.symm⟩
 exact absurd rfl ht
 rw [if_neg hA] at ht ⊢
 by_cases hC:s∈opsC
 rw [if_pos hC] at ht ⊢
 split at ht
 rename_i hab
 rw [if_pos hab]
 right;right;right
 have:=List.all_eq_true.1 tbl_C s hC
 rw [Bool.and_eq_true] at this
 have h13:typeT a=1∨typeT a=3:=by omega
 rcases h13 with h1|h1
 obtain ⟨r,hr,hp⟩:=List.any_eq_true.1 this.1
 obtain ⟨p1,p2,p3,p4⟩:=of_decide_eq_true hp
 exact ⟨r,hr,p1,p2,by rw [p3,← hab.1,h1],p4.symm⟩
 obtain ⟨r,hr,hp⟩:=List.any_eq_true.1 this.2
 obtain ⟨p1,p2,p3,p4⟩:=of_decide_eq_true hp
 exact ⟨r,hr,p1,p2,by rw [p3,← hab.1,h1],p4.symm⟩
 exact absurd rfl ht
 rw [if_neg hC] at ht ⊢
 split at ht
 rename_i hL
 rw [if_pos hL]
 split at ht
 rename_i hab
 rw [if_pos hab]
 right;right;left
 have hs:s=[97,110,100]∨s=[111,114]:=by simpa [opsL] using hL
 exact ⟨trivial,hs,a,b,rfl,hab.2,by rw [← hab.1,hab.2],rfl⟩
 exact absurd rfl ht
 exact absurd rfl ht
 right;right;right
 rw [hsg] at ht ⊢
 obtain ⟨e,he,hx,hv⟩:=sig_cases ht
 have:=List.all_eq_true.1 tbl_sig e he
 obtain ⟨r,hr,hp⟩:=List.any_eq_true.1 this
 rw [Bool.and_eq_true] at hp
 obtain ⟨p1,p2,p3,p4⟩:=of_decide_eq_true hp.1
 have p5:=hp.2
 rw [hv] at p5
 have p6:=of_decide_eq_true p5
 rw [← hx] at p1 p2 p3 p4
 dsimp only at p1 p2 p3 p4
 refine ⟨r,hr,p1,p2,?_,p6⟩
 rw [p3]
 rcases ts_of h0 h3 hn0 p4 with ⟨hb0,hts⟩|⟨hb0,hts⟩
 rw [if_pos hb0];exact hts
 rw [if_neg hb0];exact hts
def runL (opn:Int→Bool) (ev:List Int):List Int→List Int→Int×List Int
 | [],st=>(0,st)
 | o :: L,st=>if (valM opn ev ⟨o,0⟩ (topK st 1) (topK st 0)).2=0 then runL opn ev L (st.take (st.length - arM o)++[(valM opn ev ⟨o,0⟩ (topK st 1) (topK st 0)).1]) else ((valM opn ev ⟨o,0⟩ (topK st 1) (topK st 0)).2,st)
abbrev okv (vs:List Int):List (Int×Int):=vs.map fun v=>(v,0)
def LineR (opn:Int→Bool) (ev:List Int) (L st0 vs:List Int) (v:Int×Int):Prop:=(runL opn ev L (st0++vs)).1=v.2∧(v.2=0→(runL opn ev L (st0++vs)).2=st0++[v.1])
theorem etk2 (l:List Int) (a b:Int):(l++[a,b]).take ((l++[a,b]).length - 2)=l:=by rw [List.length_append];simp
theorem etk1 (l:List Int) (a:Int):(l++[a]).take ((l++[a]).length - 1)=l:=by rw [List.length_append];simp
theorem tk12 (l:List Int) (a b:Int):(l++[a,b]).take ((l++[a,b]).length - 1)=l++[a]:=by rw [List.length_append];simp [List.take_append,List.take_of_length_le]
theorem line1 {opn:Int→Bool} {ev:List Int} {o a b:Int} {st0:List Int} (h:arM o=2):LineR opn ev [o] st0 [a,b] (valM opn ev ⟨o,0⟩ a b):=by
 unfold LineR runL
 rw [(topK_app1 st0 a b).1,(topK_app1 st0 a b).2,h,etk2]
 by_cases he:(valM opn ev ⟨o,0⟩ a b).2=0
 rw [if_pos he]
 exact ⟨by rw [he];rfl,fun _=>rfl⟩
 rw [if_neg he]
 exact ⟨rfl,fun h=>absurd h he⟩
theorem line0 {opn:Int→Bool} {ev:List Int} {o b:Int} {st0:List Int} (h:arM o=1):LineR opn ev [o] st0 [b] (sngM opn o b):=by
 have hv:∀ a,valM opn ev ⟨o,0⟩ a b=sngM opn o b:=by
  intro a
  unfold valM
  have h4:o≠4:=by intro h4;subst h4;simp [arM] at h
  dsimp only
  rw [if_neg h4,if_neg (by omega),if_pos h]
 unfold LineR runL
 rw [topK_app0,hv,h,etk1]
 by_cases he:(sngM opn o b).2=0
 rw [if_pos he]
 exact ⟨by rw [he];rfl,fun _=>rfl⟩
 rw [if_neg he]
 exact ⟨rfl,fun h=>absurd h he⟩
theorem line8 {opn:Int→Bool} {ev:List Int} {o a b:Int} {st0:List Int} (h:arM o=2):LineR opn ev [8,o] st0 [a,b] (valM opn ev ⟨o,0⟩ a (-b)):=by
 have hl:=line1 (opn:=opn) (ev:=ev) (a:=a) (b:=-b) (st0:=st0) h
 unfold LineR at hl ⊢
 have e:runL opn ev [8,o] (st0++[a,b])=runL opn ev [o] (st0++[a,-b]):=by
  rw [runL,(topK_app1 st0 a b).1,(topK_app1 st0 a b).2]
  have e1:valM opn ev ⟨8,0⟩ a b=(-b,0):=rfl
  rw [e1,if_pos rfl]
  have e2:arM 8=1:=rfl
  rw [e2,tk12,List.append_assoc]
  rfl
 rw [e]
 exact hl
theorem val2 {opn:Int→Bool} {ev:List Int} {o:Int} (h:arM o=2) (a b:Int):valM opn ev ⟨o,0⟩ a b=dblM opn o a b:=by
 unfold valM
 have h4:o≠4:=by intro h4;subst h4;simp [arM] at h
 dsimp only
 rw [if_neg h4,if_neg (by omega),if_neg (by omega)]
theorem line1d {opn:Int→Bool} {ev:List Int} {o a b:Int} {st0:List Int} (h:arM o=2):LineR opn ev [o] st0 [a,b] (dblM opn o a b):=val2 (opn:=opn) (ev:=ev) h a b ▸ line1 h
theorem line8d {opn:Int→Bool} {ev:List Int} {o a b:Int} {st0:List Int} (h:arM o=2):LineR opn ev [8,o] st0 [a,b] (dblM opn o a (-b)):=val2 (opn:=opn) (ev:=ev) h a (-b) ▸ line8 h
theorem line12 {opn:Int→Bool} {ev:List Int} {o a b v:Int} {st0:List Int} (h:arM o=2) (hv:valM opn ev ⟨o,0⟩ a b=(v,0)):LineR opn ev [o,12] st0 [a,b] (1 - v,0):=by
 have e:runL opn ev [o,12] (st0++[a,b])=runL opn ev [12] (st0++[v]):=by
  rw [runL,(topK_app1 st0 a b).1,(topK_app1 st0 a b).2,hv,if_pos rfl,h,etk2]
 have hl:=line0 (opn:=opn) (ev:=ev) (o:=12) (b:=v) (st0:=st0) rfl
 unfold LineR at hl ⊢
 rw [e]
 exact hl
theorem one_not (p q:Prop) [Decidable p] [Decidable q] (h:¬ p↔q):1 - oneB' (decide p)=oneB' (decide q):=by
 by_cases hp:p
 have hq:¬ q:=fun x=>(h.2 x) hp
 rw [decide_eq_true hp,decide_eq_false hq];rfl
 have hq:q:=h.1 hp
 rw [decide_eq_false hp,decide_eq_true hq];rfl
def PL (r:PRow):Prop:=∀ (opn:Int→Bool) (ev:List Int) (n:Int) (st0 vs:List Int),StOk r.ts vs→LineR opn ev r.L st0 vs (combV opn ev r.k n r.s (okv vs))
theorem pl0:PL ⟨5,[45],[1],1,[8]⟩:=by
 intro opn ev n st0 vs hv
 dsimp only at hv ⊢
 obtain ⟨b,rfl,hb⟩:=hv.one_inv
 have e:combV opn ev 5 n [45] (okv [b])=sngM opn 8 b:=by kernel_rfl
 rw [e]
 exact line0 rfl
theorem pl1:PL ⟨5,[110,111,116],[2],2,[12]⟩:=by
 intro opn ev n st0 vs hv
 dsimp only at hv ⊢
 obtain ⟨b,rfl,hb⟩:=hv.one_inv
 have e:combV opn ev 5 n [110,111,116] (okv [b])=sngM opn 12 b:=by kernel_rfl
 rw [e]
 exact line0 rfl
theorem pl2:PL ⟨10,[110,101,120,116],[3],3,[19]⟩:=by
 intro opn ev n st0 vs hv
 dsimp only at hv ⊢
 obtain ⟨b,rfl,hb⟩:=hv.one_inv
 have e:combV opn ev 10 n [110,101,120,116] (okv [b])=sngM opn 19 b:=by kernel_rfl
 rw [e]
 exact line0 rfl
theorem pl3:PL ⟨10,[112,114,101,118],[3],3,[20]⟩:=by
 intro opn ev n st0 vs hv
 dsimp only at hv ⊢
 obtain ⟨b,rfl,hb⟩:=hv.one_inv
 have e:combV opn ev 10 n [112,114,101,118] (okv [b])=sngM opn 20 b:=by kernel_rfl
 rw [e]
 exact line0 rfl
theorem pl4:PL ⟨10,[108,97,116,101,114],[3,3],3,[21]⟩:=by
 intro opn ev n st0 vs hv
 dsimp only at hv ⊢
 obtain ⟨a,b,rfl,ha,hb⟩:=hv.two_inv
 have e:combV opn ev 10 n [108,97,116,101,114] (okv [a,b])=dblM opn 21 a b:=by kernel_rfl
 rw [e]
 exact line1d rfl
theorem pl5:PL ⟨10,[101,97,114,108,105,101,114],[3,3],3,[22]⟩:=by
 intro opn ev n st0 vs hv
 dsimp only at hv ⊢
 obtain ⟨a,b,rfl,ha,hb⟩:=hv.two_inv
 have e:combV opn ev 10 n [101,97,114,108,105,101,114] (okv [a,b])=dblM opn 22 a b:=by kernel_rfl
 rw [e]
 exact line1d rfl
theorem pl6:PL ⟨10,[98,101,116,119,101,101,110],[3,3],1,[23]⟩:=by
 intro opn ev n st0 vs hv
 dsimp only at hv ⊢
 obtain ⟨a,b,rfl,ha,hb⟩:=hv.two_inv
 have e:combV opn ev 10 n [98,101,116,119,101,101,110] (okv [a,b])=dblM opn 23 a b:=by kernel_rfl
 rw [e]
 exact line1d rfl
theorem pl7:PL ⟨7,[100,97,121,115],[3,1],3,[15]⟩:=by
 intro opn ev n st0 vs hv
 dsimp only at hv ⊢
 obtain ⟨a,b,rfl,ha,hb⟩:=hv.two_inv
 have e:combV opn ev 7 n [100,97,121,115] (okv [a,b])=dblM opn 15 a b:=by kernel_rfl
 rw [e]
 exact line1d rfl
theorem pl8:PL ⟨7,[119,101,101,107,115],[3,1],3,[16]⟩:=by
 intro opn ev n st0 vs hv
 dsimp only at hv ⊢
 obtain ⟨a,b,rfl,ha,hb⟩:=hv.two_inv
 have e:combV opn ev 7 n [119,101,101,107,115] (okv [a,b])=dblM opn 16 a b:=by kernel_rfl
 rw [e]
 exact line1d rfl
theorem pl9:PL ⟨7,[109,111,110,116,104,115],[3,1],3,[17]⟩:=by
 intro opn ev n st0 vs hv
 dsimp only at hv ⊢
 obtain ⟨a,b,rfl,ha,hb⟩:=hv.two_inv
 have e:combV opn ev 7 n [109,111,110,116,104,115] (okv [a,b])=dblM opn 17 a b:=by kernel_rfl
 rw [e]
 exact line1d rfl
theorem pl10:PL ⟨7,[99,111,117,114,116,100,97,121,115],[3,1],3,[18]⟩:=by
 intro opn ev n st0 vs hv
 dsimp only at hv ⊢
 obtain ⟨a,b,rfl,ha,hb⟩:=hv.two_inv
 have e:combV opn ev 7 n [99,111,117,114,116,100,97,121,115] (okv [a,b])=dblM opn 18 a b:=by kernel_rfl
 rw [e]
 exact line1d rfl
theorem pl11:PL ⟨8,[100,97,121,115],[3,1],3,[8,15]⟩:=by
 intro opn ev n st0 vs hv
 dsimp only at hv ⊢
 obtain ⟨a,b,rfl,ha,hb⟩:=hv.two_inv
 have e:combV opn ev 8 n [100,97,121,115] (okv [a,b])=dblM opn 15 a (-b):=by kernel_rfl
 rw [e]
 exact line8d rfl
theorem pl12:PL ⟨8,[119,101,101,107,115],[3,1],3,[8,16]⟩:=by
 intro opn ev n st0 vs hv
 dsimp only at hv ⊢
 obtain ⟨a,b,rfl,ha,hb⟩:=hv.two_inv
 have e:combV opn ev 8 n [119,101,101,107,115] (okv [a,b])=dblM opn 16 a (-b):=by kernel_rfl
 rw [e]
 exact line8d rfl
theorem pl13:PL ⟨8,[109,111,110,116,104,115],[3,1],3,[8,17]⟩:=by
 intro opn ev n st0 vs hv
 dsimp only at hv ⊢
 obtain ⟨a,b,rfl,ha,hb⟩:=hv.two_inv
 have e:combV opn ev 8 n [109,111,110,116,104,115] (okv [a,b])=dblM opn 17 a (-b):=by kernel_rfl
 rw [e]
 exact line8d rfl
theorem pl14:PL ⟨8,[99,111,117,114,116,100,97,121,115],[3,1],3,[8,18]⟩:=by
 intro opn ev n st0 vs hv
 dsimp only at hv ⊢
 obtain ⟨a,b,rfl,ha,hb⟩:=hv.two_inv
 have e:combV opn ev 8 n [99,111,117,114,116,100,97,121,115] (okv [a,b])=dblM opn 18 a (-b):=by kernel_rfl
 rw [e]
 exact line8d rfl
theorem pl15:PL ⟨6,[43],[1,1],1,[5]⟩:=by
 intro opn ev n st0 vs hv
 dsimp only at hv ⊢
 obtain ⟨a,b,rfl,ha,hb⟩:=hv.two_inv
 have e:combV opn ev 6 n [43] (okv [a,b])=dblM opn 5 a b:=by kernel_rfl
 rw [e]
 exact line1d rfl
theorem pl16:PL ⟨6,[45],[1,1],1,[6]⟩:=by
 intro opn ev n st0 vs hv
 dsimp only at hv ⊢
 obtain ⟨a,b,rfl,ha,hb⟩:=hv.two_inv
 have e:combV opn ev 6 n [45] (okv [a,b])=dblM opn 6 a b:=by kernel_rfl
 rw [e]
 exact line1d rfl
theorem pl17:PL ⟨6,[42],[1,1],1,[7]⟩:=by
 intro opn ev n st0 vs hv
 dsimp only at hv ⊢
 obtain ⟨a,b,rfl,ha,hb⟩:=hv.two_inv
 have e:combV opn ev 6 n [42] (okv [a,b])=dblM opn 7 a b:=by kernel_rfl
 rw [e]
 exact line1d rfl
theorem pl18:PL ⟨6,[60],[1,1],2,[9]⟩:=by
 intro opn ev n st0 vs hv
 dsimp only at hv ⊢
 obtain ⟨a,b,rfl,ha,hb⟩:=hv.two_inv
 have e:combV opn ev 6 n [60] (okv [a,b])=dblM opn 9 a b:=by kernel_rfl
 rw [e]
 exact line1d rfl
theorem pl19:PL ⟨6,[60,61],[1,1],2,[10]⟩:=by
 intro opn ev n st0 vs hv
 dsimp only at hv ⊢
 obtain ⟨a,b,rfl,ha,hb⟩:=hv.two_inv
 have e:combV opn ev 6 n [60,61] (okv [a,b])=dblM opn 10 a b:=by kernel_rfl
 rw [e]
 exact line1d rfl
theorem pl20:PL ⟨6,[61],[1,1],2,[11]⟩:=by
 intro opn ev n st0 vs hv
 dsimp only at hv ⊢
 obtain ⟨a,b,rfl,ha,hb⟩:=hv.two_inv
 have e:combV opn ev 6 n [61] (okv [a,b])=dblM opn 11 a b:=by kernel_rfl
 rw [e]
 exact line1d rfl
theorem pl21:PL ⟨6,[33,61],[1,1],2,[11,12]⟩:=by
 intro opn ev n st0 vs hv
 dsimp only at hv ⊢
 obtain ⟨a,b,rfl,ha,hb⟩:=hv.two_inv
 have e:combV opn ev 6 n [33,61] (okv [a,b])=(oneB' (decide (¬ a=b)),0):=by kernel_rfl
 have hl:=line12 (opn:=opn) (ev:=ev) (o:=11) (a:=a) (b:=b) (v:=oneB' (decide (a=b))) (st0:=st0) rfl rfl
 rw [one_not (a=b) (¬ a=b) Iff.rfl] at hl
 rw [e]
 exact hl
theorem pl22:PL ⟨6,[62],[1,1],2,[10,12]⟩:=by
 intro opn ev n st0 vs hv
 dsimp only at hv ⊢
 obtain ⟨a,b,rfl,ha,hb⟩:=hv.two_inv
 have e:combV opn ev 6 n [62] (okv [a,b])=(oneB' (decide (b<a)),0):=by kernel_rfl
 have hl:=line12 (opn:=opn) (ev:=ev) (o:=10) (a:=a) (b:=b) (v:=oneB' (decide (a≤b))) (st0:=st0) rfl rfl
 rw [one_not (a≤b) (b<a) (by omega)] at hl
 rw [e]
 exact hl
theorem pl23:PL ⟨6,[62,61],[1,1],2,[9,12]⟩:=by
 intro opn ev n st0 vs hv
 dsimp only at hv ⊢
 obtain ⟨a,b,rfl,ha,hb⟩:=hv.two_inv
 have e:combV opn ev 6 n [62,61] (okv [a,b])=(oneB' (decide (b≤a)),0):=by kernel_rfl
 have hl:=line12 (opn:=opn) (ev:=ev) (o:=9) (a:=a) (b:=b) (v:=oneB' (decide (a<b))) (st0:=st0) rfl rfl
 rw [one_not (a<b) (b≤a) (by omega)] at hl
 rw [e]
 exact hl
theorem pl24:PL ⟨6,[60],[3,3],2,[9]⟩:=by
 intro opn ev n st0 vs hv
 dsimp only at hv ⊢
 obtain ⟨a,b,rfl,ha,hb⟩:=hv.two_inv
 have e:combV opn ev 6 n [60] (okv [a,b])=dblM opn 9 a b:=by kernel_rfl
 rw [e]
 exact line1d rfl
theorem pl25:PL ⟨6,[60,61],[3,3],2,[10]⟩:=by
 intro opn ev n st0 vs hv
 dsimp only at hv ⊢
 obtain ⟨a,b,rfl,ha,hb⟩:=hv.two_inv
 have e:combV opn ev 6 n [60,61] (okv [a,b])=dblM opn 10 a b:=by kernel_rfl
 rw [e]
 exact line1d rfl
theorem pl26:PL ⟨6,[61],[3,3],2,[11]⟩:=by
 intro opn ev n st0 vs hv
 dsimp only at hv ⊢
 obtain ⟨a,b,rfl,ha,hb⟩:=hv.two_inv
 have e:combV opn ev 6 n [61] (okv [a,b])=dblM opn 11 a b:=by kernel_rfl
 rw [e]
 exact line1d rfl
theorem pl27:PL ⟨6,[33,61],[3,3],2,[11,12]⟩:=by
 intro opn ev n st0 vs hv
 dsimp only at hv ⊢
 obtain ⟨a,b,rfl,ha,hb⟩:=hv.two_inv
 have e:combV opn ev 6 n [33,61] (okv [a,b])=(oneB' (decide (¬ a=b)),0):=by kernel_rfl
 have hl:=line12 (opn:=opn) (ev:=ev) (o:=11) (a:=a) (b:=b) (v:=oneB' (decide (a=b))) (st0:=st0) rfl rfl
 rw [one_not (a=b) (¬ a=b) Iff.rfl] at hl
 rw [e]
 exact hl
theorem pl28:PL ⟨6,[62],[3,3],2,[10,12]⟩:=by
 intro opn ev n st0 vs hv
 dsimp only at hv ⊢
 obtain ⟨a,b,rfl,ha,hb⟩:=hv.two_inv
 have e:combV opn ev 6 n [62] (okv [a,b])=(oneB' (decide (b<a)),0):=by kernel_rfl
 have hl:=line12 (opn:=opn) (ev:=ev) (o:=10) (a:=a) (b:=b) (v:=oneB' (decide (a≤b))) (st0:=st0) rfl rfl
 rw [one_not (a≤b) (b<a) (by omega)] at hl
 rw [e]
 exact hl
theorem pl29:PL ⟨6,[62,61],[3,3],2,[9,12]⟩:=by
 intro opn ev n st0 vs hv
 dsimp only at hv ⊢
 obtain ⟨a,b,rfl,ha,hb⟩:=hv.two_inv
 have e:combV opn ev 6 n [62,61] (okv [a,b])=(oneB' (decide (b≤a)),0):=by kernel_rfl
 have hl:=line12 (opn:=opn) (ev:=ev) (o:=9) (a:=a) (b:=b) (v:=oneB' (decide (a<b))) (st0:=st0) rfl rfl
 rw [one_not (a<b) (b≤a) (by omega)] at hl
 rw [e]
 exact hl
theorem pl_all:∀ r∈tblP,PL r:=by
 unfold tblP
 refine List.forall_mem_cons.2 ⟨pl0,?_⟩
 refine List.forall_mem_cons.2 ⟨pl1,?_⟩
 refine List.forall_mem_cons.2 ⟨pl2,?_⟩
 refine List.forall_mem_cons.2 ⟨pl3,?_⟩
 refine List.forall_mem_cons.2 ⟨pl4,?_⟩
 refine List.forall_mem_cons.2 ⟨pl5,?_⟩
 refine List.forall_mem_cons.2 ⟨pl6,?_⟩
 refine List.forall_mem_cons.2 ⟨pl7,?_⟩
 refine List.forall_mem_cons.2 ⟨pl8,?_⟩
 refine List.forall_mem_cons.2 ⟨pl9,?_⟩
 refine List.forall_mem_cons.2 ⟨pl10,?_⟩
 refine List.forall_mem_cons.2 ⟨pl11,?_⟩
 refine List.forall_mem_cons.2 ⟨pl12,?_⟩
 refine List.forall_mem_cons.2 ⟨pl13,?_⟩
 refine List.forall_mem_cons.2 ⟨pl14,?_⟩
 refine List.forall_mem_cons.2 ⟨pl15,?_⟩
 refine List.forall_mem_cons.2 ⟨pl16,?_⟩
 refine List.forall_mem_cons.2 ⟨pl17,?_⟩
 refine List.forall_mem_cons.2 ⟨pl18,?_⟩
 refine List.forall_mem_cons.2 ⟨pl19,?_⟩
 refine List.forall_mem_cons.2 ⟨pl20,?_⟩
 refine List.forall_mem_cons.2 ⟨pl21,?_⟩
 refine List.forall_mem_cons.2 ⟨pl22,?_⟩
 refine List.forall_mem_cons.2 ⟨pl23,?_⟩
 refine List.forall_mem_cons.2 ⟨pl24,?_⟩
 refine List.forall_mem_cons.2 ⟨pl25,?_⟩
 refine List.forall_mem_cons.2 ⟨pl26,?_⟩
 refine List.forall_mem_cons.2 ⟨pl27,?_⟩
 refine List.forall_mem_cons.2 ⟨pl28,?_⟩
 refine List.forall_mem_cons.2 ⟨pl29,?_⟩
 intro r h
 cases h
theorem plain_line (opn:Int→Bool) (ev:List Int) (n:Int) (st0 vs:List Int) (r:PRow) (hr:r∈tblP) (hv:StOk r.ts vs):LineR opn ev r.L st0 vs (combV opn ev r.k n r.s (okv vs)):=pl_all r hr opn ev n st0 vs hv
def PO (r:PRow):Prop:=∀ (opn:Int→Bool) (ev:List Int) (hev:EvOk ev) (n:Int) (vs:List Int),StOk r.ts vs→(combV opn ev r.k n r.s (okv vs)).2=0→vOk r.t (combV opn ev r.k n r.s (okv vs)).1
theorem po0:PO ⟨5,[45],[1],1,[8]⟩:=by
 intro opn ev hev n vs hv he
 dsimp only at hv he ⊢
 obtain ⟨b,rfl,hb⟩:=hv.one_inv
 have e:combV opn ev 5 n [45] (okv [b])=sngM opn 8 b:=by kernel_rfl
 rw [e] at he ⊢
 have h1:=hb.n
 show vOk 1 (-b)
 unfold vOk
 omega
theorem po1:PO ⟨5,[110,111,116],[2],2,[12]⟩:=by
 intro opn ev hev n vs hv he
 dsimp only at hv he ⊢
 obtain ⟨b,rfl,hb⟩:=hv.one_inv
 have e:combV opn ev 5 n [110,111,116] (okv [b])=sngM opn 12 b:=by kernel_rfl
 rw [e] at he ⊢
 have h1:=hb.b
 show vOk 2 (1 - b)
 unfold vOk
 omega
theorem po2:PO ⟨10,[110,101,120,116],[3],3,[19]⟩:=by
 intro opn ev hev n vs hv he
 dsimp only at hv he ⊢
 obtain ⟨b,rfl,hb⟩:=hv.one_inv
 have e:combV opn ev 10 n [110,101,120,116] (okv [b])=sngM opn 19 b:=by kernel_rfl
 rw [e] at he ⊢
 exact .days (findM_ok (opn:=opn) (step:=1) (d:=b) he).1
theorem po3:PO ⟨10,[112,114,101,118],[3],3,[20]⟩:=by
 intro opn ev hev n vs hv he
 dsimp only at hv he ⊢
 obtain ⟨b,rfl,hb⟩:=hv.one_inv
 have e:combV opn ev 10 n [112,114,101,118] (okv [b])=sngM opn 20 b:=by kernel_rfl
 rw [e] at he ⊢
 exact .days (findM_ok (opn:=opn) (step:=-1) (d:=b) he).1
theorem po4:PO ⟨10,[108,97,116,101,114],[3,3],3,[21]⟩:=by
 intro opn ev hev n vs hv he
 dsimp only at hv he ⊢
 obtain ⟨a,b,rfl,ha,hb⟩:=hv.two_inv
 have e:combV opn ev 10 n [108,97,116,101,114] (okv [a,b])=dblM opn 21 a b:=by kernel_rfl
 rw [e] at he ⊢
 have h1:=ha.d
 have h2:=hb.d
 show vOk 3 (max a b)
 unfold vOk
 omega
theorem po5:PO ⟨10,[101,97,114,108,105,101,114],[3,3],3,[22]⟩:=by
 intro opn ev hev n vs hv he
 dsimp only at hv he ⊢
 obtain ⟨a,b,rfl,ha,hb⟩:=hv.two_inv
 have e:combV opn ev 10 n [101,97,114,108,105,101,114] (okv [a,b])=dblM opn 22 a b:=by kernel_rfl
 rw [e] at he ⊢
 have h1:=ha.d
 have h2:=hb.d
 show vOk 3 (min a b)
 unfold vOk
 omega
theorem po6:PO ⟨10,[98,101,116,119,101,101,110],[3,3],1,[23]⟩:=by
 intro opn ev hev n vs hv he
 dsimp only at hv he ⊢
 obtain ⟨a,b,rfl,ha,hb⟩:=hv.two_inv
 have e:combV opn ev 10 n [98,101,116,119,101,101,110] (okv [a,b])=dblM opn 23 a b:=by kernel_rfl
 rw [e] at he ⊢
 have h1:=ha.d
 have h2:=hb.d
 show vOk 1 (b - a)
 unfold vOk
 omega
theorem po7:PO ⟨7,[100,97,121,115],[3,1],3,[15]⟩:=by
 intro opn ev hev n vs hv he
 dsimp only at hv he ⊢
 obtain ⟨a,b,rfl,ha,hb⟩:=hv.two_inv
 have e:combV opn ev 7 n [100,97,121,115] (okv [a,b])=dblM opn 15 a b:=by kernel_rfl
 rw [e] at he ⊢
 exact dayE_ok he
theorem po8:PO ⟨7,[119,101,101,107,115],[3,1],3,[16]⟩:=by
 intro opn ev hev n vs hv he
 dsimp only at hv he ⊢
 obtain ⟨a,b,rfl,ha,hb⟩:=hv.two_inv
 have e:combV opn ev 7 n [119,101,101,107,115] (okv [a,b])=dblM opn 16 a b:=by kernel_rfl
 rw [e] at he ⊢
 exact dayE_ok he
theorem po9:PO ⟨7,[109,111,110,116,104,115],[3,1],3,[17]⟩:=by
 intro opn ev hev n vs hv he
 dsimp only at hv he ⊢
 obtain ⟨a,b,rfl,ha,hb⟩:=hv.two_inv
 have e:combV opn ev 7 n [109,111,110,116,104,115] (okv [a,b])=dblM opn 17 a b:=by kernel_rfl
 rw [e] at he ⊢
 exact .days (monM_ok he)
theorem po10:PO ⟨7,[99,111,117,114,116,100,97,121,115],[3,1],3,[18]⟩:=by
 intro opn ev hev n vs hv he
 dsimp only at hv he ⊢
 obtain ⟨a,b,rfl,ha,hb⟩:=hv.two_inv
 have e:combV opn ev 7 n [99,111,117,114,116,100,97,121,115] (okv [a,b])=dblM opn 18 a b:=by kernel_rfl
 rw [e] at he ⊢
 exact .days (addM_ok he)
theorem po11:PO ⟨8,[100,97,121,115],[3,1],3,[8,15]⟩:=by
 intro opn ev hev n vs hv he
 dsimp only at hv he ⊢
 obtain ⟨a,b,rfl,ha,hb⟩:=hv.two_inv
 have e:combV opn ev 8 n [100,97,121,115] (okv [a,b])=dblM opn 15 a (-b):=by kernel_rfl
 rw [e] at he ⊢
 exact dayE_ok he
theorem po12:PO ⟨8,[119,101,101,107,115],[3,1],3,[8,16]⟩:=by
 intro opn ev hev n vs hv he
 dsimp only at hv he ⊢
 obtain ⟨a,b,rfl,ha,hb⟩:=hv.two_inv
 have e:combV opn ev 8 n [119,101,101,107,115] (okv [a,b])=dblM opn 16 a (-b):=by kernel_rfl
 rw [e] at he ⊢
 exact dayE_ok he
theorem po13:PO ⟨8,[109,111,110,116,104,115],[3,1],3,[8,17]⟩:=by
 intro opn ev hev n vs hv he
 dsimp only at hv he ⊢
 obtain ⟨a,b,rfl,ha,hb⟩:=hv.two_inv
 have e:combV opn ev 8 n [109,111,110,116,104,115] (okv [a,b])=dblM opn 17 a (-b):=by kernel_rfl
 rw [e] at he ⊢
 exact .days (monM_ok he)
theorem po14:PO ⟨8,[99,111,117,114,116,100,97,121,115],[3,1],3,[8,18]⟩:=by
 intro opn ev hev n vs hv he
 dsimp only at hv he ⊢
 obtain ⟨a,b,rfl,ha,hb⟩:=hv.two_inv
 have e:combV opn ev 8 n [99,111,117,114,116,100,97,121,115] (okv [a,b])=dblM opn 18 a (-b):=by kernel_rfl
 rw [e] at he ⊢
 exact .days (addM_ok he)
theorem po15:PO ⟨6,[43],[1,1],1,[5]⟩:=by
 intro opn ev hev n vs hv he
 dsimp only at hv he ⊢
 obtain ⟨a,b,rfl,ha,hb⟩:=hv.two_inv
 have e:combV opn ev 6 n [43] (okv [a,b])=dblM opn 5 a b:=by kernel_rfl
 rw [e] at he ⊢
 exact numE_ok he
theorem po16:PO ⟨6,[45],[1,1],1,[6]⟩:=by
 intro opn ev hev n vs hv he
 dsimp only at hv he ⊢
 obtain ⟨a,b,rfl,ha,hb⟩:=hv.two_inv
 have e:combV opn ev 6 n [45] (okv [a,b])=dblM opn 6 a b:=by kernel_rfl
 rw [e] at he ⊢
 exact numE_ok he
theorem po17:PO ⟨6,[42],[1,1],1,[7]⟩:=by
 intro opn ev hev n vs hv he
 dsimp only at hv he ⊢
 obtain ⟨a,b,rfl,ha,hb⟩:=hv.two_inv
 have e:combV opn ev 6 n [42] (okv [a,b])=dblM opn 7 a b:=by kernel_rfl
 rw [e] at he ⊢
 exact numE_ok he
theorem po18:PO ⟨6,[60],[1,1],2,[9]⟩:=by
 intro opn ev hev n vs hv he
 dsimp only at hv he ⊢
 obtain ⟨a,b,rfl,ha,hb⟩:=hv.two_inv
 have e:combV opn ev 6 n [60] (okv [a,b])=dblM opn 9 a b:=by kernel_rfl
 rw [e] at he ⊢
 exact one_ok _
theorem po19:PO ⟨6,[60,61],[1,1],2,[10]⟩:=by
 intro opn ev hev n vs hv he
 dsimp only at hv he ⊢
 obtain ⟨a,b,rfl,ha,hb⟩:=hv.two_inv
 have e:combV opn ev 6 n [60,61] (okv [a,b])=dblM opn 10 a b:=by kernel_rfl
 rw [e] at he ⊢
 exact one_ok _
theorem po20:PO ⟨6,[61],[1,1],2,[11]⟩:=by
 intro opn ev hev n vs hv he
 dsimp only at hv he ⊢
 obtain ⟨a,b,rfl,ha,hb⟩:=hv.two_inv
 have e:combV opn ev 6 n [61] (okv [a,b])=dblM opn 11 a b:=by kernel_rfl
 rw [e] at he ⊢
 exact one_ok _
theorem po21:PO ⟨6,[33,61],[1,1],2,[11,12]⟩:=by
 intro opn ev hev n vs hv he
 dsimp only at hv he ⊢
 obtain ⟨a,b,rfl,ha,hb⟩:=hv.two_inv
 have e:combV opn ev 6 n [33,61] (okv [a,b])=(oneB' (decide (¬ a=b)),0):=by kernel_rfl
 rw [e]
 exact one_ok _
theorem po22:PO ⟨6,[62],[1,1],2,[10,12]⟩:=by
 intro opn ev hev n vs hv he
 dsimp only at hv he ⊢
 obtain ⟨a,b,rfl,ha,hb⟩:=hv.two_inv
 have e:combV opn ev 6 n [62] (okv [a,b])=(oneB' (decide (b<a)),0):=by kernel_rfl
 rw [e]
 exact one_ok _
theorem po23:PO ⟨6,[62,61],[1,1],2,[9,12]⟩:=by
 intro opn ev hev n vs hv he
 dsimp only at hv he ⊢
 obtain ⟨a,b,rfl,ha,hb⟩:=hv.two_inv
 have e:combV opn ev 6 n [62,61] (okv [a,b])=(oneB' (decide (b≤a)),0):=by kernel_rfl
 rw [e]
 exact one_ok _
theorem po24:PO ⟨6,[60],[3,3],2,[9]⟩:=by
 intro opn ev hev n vs hv he
 dsimp only at hv he ⊢
 obtain ⟨a,b,rfl,ha,hb⟩:=hv.two_inv
 have e:combV opn ev 6 n [60] (okv [a,b])=dblM opn 9 a b:=by kernel_rfl
 rw [e] at he ⊢
 exact one_ok _
theorem po25:PO ⟨6,[60,61],[3,3],2,[10]⟩:=by
 intro opn ev hev n vs hv he
 dsimp only at hv he ⊢
 obtain ⟨a,b,rfl,ha,hb⟩:=hv.two_inv
 have e:combV opn ev 6 n [60,61] (okv [a,b])=dblM opn 10 a b:=by kernel_rfl
 rw [e] at he ⊢
 exact one_ok _
theorem po26:PO ⟨6,[61],[3,3],2,[11]⟩:=by
 intro opn ev hev n vs hv he
 dsimp only at hv he ⊢
 obtain ⟨a,b,rfl,ha,hb⟩:=hv.two_inv
 have e:combV opn ev 6 n [61] (okv [a,b])=dblM opn 11 a b:=by kernel_rfl
 rw [e] at he ⊢
 exact one_ok _
theorem po27:PO ⟨6,[33,61],[3,3],2,[11,12]⟩:=by
 intro opn ev hev n vs hv he
 dsimp only at hv he ⊢
 obtain ⟨a,b,rfl,ha,hb⟩:=hv.two_inv
 have e:combV opn ev 6 n [33,61] (okv [a,b])=(oneB' (decide (¬ a=b)),0):=by kernel_rfl
 rw [e]
 exact one_ok _
theorem po28:PO ⟨6,[62],[3,3],2,[10,12]⟩:=by
 intro opn ev hev n vs hv he
 dsimp only at hv he ⊢
 obtain ⟨a,b,rfl,ha,hb⟩:=hv.two_inv
 have e:combV opn ev 6 n [62] (okv [a,b])=(oneB' (decide (b<a)),0):=by kernel_rfl
 rw [e]
 exact one_ok _
theorem po29:PO ⟨6,[62,61],[3,3],2,[9,12]⟩:=by
 intro opn ev hev n vs hv he
 dsimp only at hv he ⊢
 obtain ⟨a,b,rfl,ha,hb⟩:=hv.two_inv
 have e:combV opn ev 6 n [62,61] (okv [a,b])=(oneB' (decide (b≤a)),0):=by kernel_rfl
 rw [e]
 exact one_ok _
theorem po_all:∀ r∈tblP,PO r:=by
 unfold tblP
 refine List.forall_mem_cons.2 ⟨po0,?_⟩
 refine List.forall_mem_cons.2 ⟨po1,?_⟩
 refine List.forall_mem_cons.2 ⟨po2,?_⟩
 refine List.forall_mem_cons.2 ⟨po3,?_⟩
 refine List.forall_mem_cons.2 ⟨po4,?_⟩
 refine List.forall_mem_cons.2 ⟨po5,?_⟩
 refine List.forall_mem_cons.2 ⟨po6,?_⟩
 refine List.forall_mem_cons.2 ⟨po7,?_⟩
 refine List.forall_mem_cons.2 ⟨po8,?_⟩
 refine List.forall_mem_cons.2 ⟨po9,?_⟩
 refine List.forall_mem_cons.2 ⟨po10,?_⟩
 refine List.forall_mem_cons.2 ⟨po11,?_⟩
 refine List.forall_mem_cons.2 ⟨po12,?_⟩
 refine List.forall_mem_cons.2 ⟨po13,?_⟩
 refine List.forall_mem_cons.2 ⟨po14,?_⟩
 refine List.forall_mem_cons.2 ⟨po15,?_⟩
 refine List.forall_mem_cons.2 ⟨po16,?_⟩
 refine List.forall_mem_cons.2 ⟨po17,?_⟩
 refine List.forall_mem_cons.2 ⟨po18,?_⟩
 refine List.forall_mem_cons.2 ⟨po19,?_⟩
 refine List.forall_mem_cons.2 ⟨po20,?_⟩
 refine List.forall_mem_cons.2 ⟨po21,?_⟩
 refine List.forall_mem_cons.2 ⟨po22,?_⟩
 refine List.forall_mem_cons.2 ⟨po23,?_⟩
 refine List.forall_mem_cons.2 ⟨po24,?_⟩
 refine List.forall_mem_cons.2 ⟨po25,?_⟩
 refine List.forall_mem_cons.2 ⟨po26,?_⟩
 refine List.forall_mem_cons.2 ⟨po27,?_⟩
 refine List.forall_mem_cons.2 ⟨po28,?_⟩
 refine List.forall_mem_cons.2 ⟨po29,?_⟩
 intro r h
 cases h
theorem plain_ok (opn:Int→Bool) (ev:List Int) (hev:EvOk ev) (n:Int) (vs:List Int) (r:PRow) (hr:r∈tblP) (hv:StOk r.ts vs) (he:(combV opn ev r.k n r.s (okv vs)).2=0):vOk r.t (combV opn ev r.k n r.s (okv vs)).1:=po_all r hr opn ev hev n vs hv he
def firstE:List (Int×Int)→Int
 | []=>0
 | r :: l=>if r.2=0 then firstE l else r.2
theorem tbl_k:∀ r∈tblP,(¬ (r.k=1∨r.k=2∨r.k=3)∧¬ r.k=4∧¬ r.k=9)∧¬ (r.k=6∧(r.s=[97,110,100]∨r.s=[111,114]))∧(r.ts.length=1∨r.ts.length=2):=by decide +kernel
theorem plain_err (opn:Int→Bool) (ev:List Int) (n:Int) (rs:List (Int×Int)) (r:PRow) (hr:r∈tblP) (hl:rs.length=r.ts.length) (he:firstE rs≠0):combV opn ev r.k n r.s rs=(0,firstE rs):=by
 obtain ⟨⟨h1,h4,h9⟩,hao,hlen⟩:=tbl_k r hr
 unfold combV
 rw [if_neg h1,if_neg h4]
 rcases hlen with h|h
 rw [h] at hl
 obtain ⟨a,rfl⟩:=List.length_eq_one_iff.1 hl
 have ha:¬ a.2=0:=fun h0=>he (by simp [firstE,h0])
 have e1:([a]:List (Int×Int)).getD 0 (0,0)=a:=rfl
 rw [e1,if_pos ha]
 simp [firstE,ha]
 rw [h] at hl
 obtain ⟨a,b,rfl⟩:=ctyLen2 hl
 have e1:([a,b]:List (Int×Int)).getD 0 (0,0)=a:=rfl
 have e2:([a,b]:List (Int×Int)).getD 1 (0,0)=b:=rfl
 rw [e1,e2]
 by_cases ha:a.2=0
 have hb:¬ b.2=0:=fun h0=>he (by simp [firstE,ha,h0])
 have h5:¬ r.k=5:=by
  have:∀ r∈tblP,r.k=5→r.ts.length=1:=by decide +kernel
  intro h5
  rw [this r hr h5] at h
  cases h
 rw [if_neg (fun h=>h ha),if_neg h5,if_neg h9,if_neg (by simp),if_neg (fun h=>hao ⟨h.1,h.2.elim (fun x=>.inl x.1) (fun x=>.inr x.1)⟩),if_pos hb]
 simp [firstE,ha,hb]
 rw [if_pos ha]
 simp [firstE,ha]
theorem eval_vok (opn:Int→Bool) (ev:List Int) (hev:EvOk ev) (x:Nd):typeT x≠0→(evalV opn ev x).2=0→vOk (typeT x) (evalV opn ev x).1:=by
 induction x using Nd.ind with
 | h k n s l ih=>
 intro ht he
 have hkid:∀ y∈l,typeT y≠0:=fun y hy=>typeT_kid (x:=.mk k n s l) ht hy
 have hev2:evalV opn ev (.mk k n s l)=combV opn ev k n s (l.map (evalV opn ev)):=evalV_eq _ _ _
 rw [hev2] at he ⊢
 rcases typed_view ht with ⟨rfl,hlf⟩|⟨rfl,a,b,c,rfl,ta,tb,tc⟩|⟨rfl,hs,a,b,rfl,ta,tb,ht2⟩|⟨r,hr,rfl,rfl,hts,htt⟩
 rcases hlf with ⟨hk,ht2,hv⟩|⟨rfl,i,hi,rfl,hf,ht2⟩
 rw [ht2]
 unfold combV
 rw [if_pos hk]
 exact hv
 have e:combV opn ev 4 n (fieldNames.getD i []) (List.map (evalV opn ev) [])=fldM ev (i:Int):=by
  unfold combV
  rw [if_neg (by decide),if_pos rfl,hf]
 rw [e] at he ⊢
 rw [ht2]
 unfold fldM at he ⊢
 split at he
 simp at he
 rename_i h1
 rw [if_neg h1]
 have h0:=hev.day
 have hs1:=hev.served
 rw [Int.toNat_natCast]
 by_cases h01:i≤1
 rw [if_pos h01]
 right;right
 have h01:i=0∨i=1:=by omega
 rcases h01 with rfl|rfl
 exact ⟨rfl,h0.1,h0.2⟩
 refine ⟨rfl,?_,hs1.2⟩
 have:¬ ev.getD 1 0=-1:=fun h=>h1 ⟨rfl,h⟩
 show 0≤ev.getD 1 0
 omega
 rw [if_neg h01]
 left
 exact ⟨rfl,hev.rest i (by omega) (by omega)⟩
 have em:[a,b,c].map (evalV opn ev)=[evalV opn ev a,evalV opn ev b,evalV opn ev c]:=rfl
 have e0:[evalV opn ev a,evalV opn ev b,evalV opn ev c].getD 0 (0,0)=evalV opn ev a:=rfl
 rw [em] at he ⊢
 unfold combV at he ⊢
 rw [if_neg (by decide),if_neg (by decide),e0] at he ⊢
 by_cases ha:(evalV opn ev a).2=0
 rw [if_neg (fun h=>h ha),if_neg (by decide),if_pos rfl] at he ⊢
 have hva:=(ih a (by simp) (hkid a (by simp)) ha)
 rw [ta] at hva
 rcases hva.b with h0|h1
 rw [h0] at he ⊢
 rw [← tc]
 exact ih c (by simp) (hkid c (by simp)) he
 rw [h1] at he ⊢
 rw [← tb]
 exact ih b (by simp) (hkid b (by simp)) he
 rw [if_pos ha] at he
 exact absurd he ha
 rw [ht2]
 have em:[a,b].map (evalV opn ev)=[evalV opn ev a,evalV opn ev b]:=rfl
 have e0:[evalV opn ev a,evalV opn ev b].getD 0 (0,0)=evalV opn ev a:=rfl
 have e1:[evalV opn ev a,evalV opn ev b].getD 1 (0,0)=evalV opn ev b:=rfl
 rw [em] at he ⊢
 unfold combV at he ⊢
 rw [if_neg (by decide),if_neg (by decide),e0,e1] at he ⊢
 by_cases ha:(evalV opn ev a).2=0
 rw [if_neg (fun h=>h ha),if_neg (by decide),if_neg (by decide),if_neg (by simp)] at he ⊢
 have hva:=(ih a (by simp) (hkid a (by simp)) ha)
 rw [ta] at hva
 split at he
 rename_i hc
 rw [if_pos hc]
 exact hva
 rename_i hc
 rw [if_neg hc]
 by_cases hb:(evalV opn ev b).2=0
 rw [if_neg (fun h=>h hb),if_neg (by decide),if_neg (by decide),if_neg (by decide)] at he ⊢
 have hvb:=(ih b (by simp) (hkid b (by simp)) hb)
 rw [tb] at hvb
 rcases hs with rfl|rfl
 exact hvb
 exact hvb
 rw [if_pos hb] at he
 exact absurd he hb
 rw [if_pos ha] at he
 exact absurd he ha
 rw [htt]
 by_cases hf:firstE (l.map (evalV opn ev))=0
 · have hall:∀ y∈l,(evalV opn ev y).2=0:=by
    have:∀ (rs:List (Int×Int)),firstE rs=0→∀ z∈rs,z.2=0:=by
     intro rs
     induction rs with
     | nil=>intro _ z hz;cases hz
     | cons q r ihr=>
       intro h z hz
       rw [firstE] at h
       split at h
       rename_i h0
       rcases List.mem_cons.1 hz with rfl|hz
       exact h0
       exact ihr h z hz
       rename_i h0;exact absurd h h0
    intro y hy
    exact this _ hf _ (List.mem_map_of_mem hy)
   have hmap:l.map (evalV opn ev)=okv (l.map fun y=>(evalV opn ev y).1):=by
    unfold okv
    rw [List.map_map]
    refine List.map_congr_left (fun y hy=>?_)
    have:=hall y hy
    exact Prod.ext rfl this
   have hst:StOk r.ts (l.map fun y=>(evalV opn ev y).1):=by
    rw [← hts]
    refine ⟨by simp,fun i h h'=>?_⟩
    simp only [List.getElem_map]
    have hi:i<l.length:=by simpa using h
    exact ih l[i] (List.getElem_mem hi) (hkid _ (List.getElem_mem hi)) (hall _ (List.getElem_mem hi))
   rw [hmap] at he ⊢
   exact plain_ok opn ev hev n _ r hr hst he
 rw [plain_err opn ev n _ r hr (by rw [← hts];simp) hf] at he
 exact absurd he hf
theorem cur_of {l:List Tkn} {i:Nat} (h:i<l.length):cur l i=l[i]:=by simp [cur,List.getD,h]
def Pd (w:World) (b:Nat) (tv:Value) (l:List Tkn) (i o:Nat):Prop:=Blk w b 170 [tv,.int .i64 i,.int .i64 o]∧SlV [b] w tv l∧i<l.length∧l.length≤1000000∧o≤12
theorem Pd.up {w w':World} {b i o:Nat} {tv:Value} {l:List Tkn} (h:Pd w b tv l i o) (hS:Stp [] w w'):Pd w' b tv l i o:=by
 obtain ⟨h1,h2,h3⟩:=h
 exact ⟨h1.up hS,h2.up hS,h3⟩
theorem Pd.lt {w:World} {b i o:Nat} {tv:Value} {l:List Tkn} (h:Pd w b tv l i o):b<w.heap.size:=by
 obtain ⟨h1,_⟩:=h
 exact h1.lt
theorem Pd.i_lt {w:World} {b i o:Nat} {tv:Value} {l:List Tkn} (h:Pd w b tv l i o):i<l.length:=by
 obtain ⟨_,_,h1,_⟩:=h
 exact h1
def failV (a c:Int):Value:=.iface 210 (.agg #[.int .i64 a,.int .i64 c])
def PE {α:Type} (r:Out α) (G:α→Nat→Nat→Value→World→Prop) (F:World→Prop) (e:Ending) (w':World):Prop:=
 match r with
 | .err a c=>e=.panicked [⟨failV a c,false,false⟩]∧F w'
 | .ok x i o=>Ret (G x i o) e w'
theorem WL_pcall {P:Program} {n:Nat} {Q:Exit→Act→World→Prop} {e:Env} {w:World} {ops:Array Oper} {rest:List Oper} {d:Nat} {ty:TypeId} {pos:String} {af:Array Edge} {f:Nat} {fn:Func} {xs:Array Operand} {ts:Array TypeId} {vs:Array Value} {c:Operand} {ch:List PanicEntry} {F:World→Prop} [hf:Fun P f fn]
 (hc:ev e c=some (.func (.func f) #[] #[])) (hv:∀ a,Has n e a→xs.map a.eval=vs) (h:Calls P f vs w (fun e w'=>e=.panicked ch∧F w')) (hd:Nat.blt d n=true) (k:∀ w',F w'→WQ n Q (.panic ch) [] w') :
 WL P n ops Q (⟨some d,.call { callee:=.value c,args:=xs,argTypes:=ts },ty,pos,af,none⟩ :: rest) e w:=
 WL_effP (G:=fun _ _=>False) (F:=fun ch' w'=>ch'=ch∧F w') (OEP_call hc hv (h.mono fun e w' ⟨h1,h2⟩=>by rw [h1];exact .pan ⟨rfl,h2⟩)) hd (fun ch' w' ⟨h1,h2⟩=>by subst h1;exact WQ_forget (k w' h2)) (fun _ _ h=>h.elim)
theorem buildF (a c:Int) (w:World):(Instr.build 210 #[(0,.int .i64 a),(1,.int .i64 c)]).run Tryz.prog w=.ok (.agg #[.int .i64 a,.int .i64 c]) w:=by kernel_rfl
theorem next_any (b:Nat) (tv:Value) (l:List Tkn) (i o:Nat) (w:World) (hp:Pd w b tv l i o) :
 Calls Tryz.prog 168 #[.pointer (some ⟨b,0,none⟩)] w (Ret fun r w'=>r=str (cur l i).text∧Stp [] w w'):=by
 obtain ⟨hb,hs,hi,hl,ho⟩:=hp
 rw [cur_of hi]
 refine calls_of_WC1 (n:=14) Tryz.func168 rfl rfl rfl ?_
 refine W ?_
 refine WC_drawn 12 [] [] [(0,0),(1,0),(2,0),(3,1),(4,0),(5,0),(6,0),(7,1),(8,0),(9,0),(10,1),(11,0)] rfl mixed (by kernel_rfl) (by kernel_rfl) (by kernel_rfl) (fun w1 hS1=>?_)
 replace hb:=hb.up hS1
 replace hs:=hs.up hS1
 refine D ?_
 refine W ?_
 refine WR ?_
 exact .mk ⟨rfl,hS1⟩
theorem fail_any (b:Nat) (tv:Value) (l:List Tkn) (i o:Nat) (c:Int) (w:World) (hp:Pd w b tv l i o) :
 Calls Tryz.prog 119 #[.pointer (some ⟨b,0,none⟩),.int .i64 c] w (fun e w'=>e=.panicked [⟨failV (cur l i).pos c,false,false⟩]∧Stp [] w w'):=by
 obtain ⟨hb,hs,hi,hl,ho⟩:=hp
 rw [cur_of hi]
 refine calls_of_WC2 (n:=18) Tryz.func119 rfl rfl rfl ?_
 refine W ?_
 refine WC_drawnq 15 ([]) [] [(0,0),(1,0),(2,0),(3,1),(4,0),(5,0),(6,0),(7,1),(8,0),(9,0),(10,1),(11,0),(12,0),(13,0),(14,2)] rfl mixed (by kernel_rfl) (by kernel_rfl) (by kernel_rfl) (fun w1 hS1=>?_)
 replace hb:=hb.up hS1
 replace hs:=hs.up hS1
 refine WDq_free rfl trivial (fun _=>PR_move rfl) rfl ?_
 refine WDq_free rfl trivial (fun _=>PR_nilCheck rfl) rfl ?_
 refine WDq_free rfl trivial (fun _=>PR_fieldAddr rfl) rfl ?_
 refine WDq_read rfl trivial (fun w' hw=>PR_load_blk rfl rfl (hb.up hw) rfl) rfl ?_
 refine WDq_free rfl trivial (fun _=>PR_move rfl) rfl ?_
 refine WDq_free rfl trivial (fun _=>PR_nilCheck rfl) rfl ?_
 refine WDq_free rfl trivial (fun _=>PR_fieldAddr rfl) rfl ?_
 refine WDq_read rfl trivial (fun w' hw=>PR_load_blk rfl rfl (hb.up hw) rfl) rfl ?_
 refine WDq_free rfl trivial (fun _=>PR_idx rfl hs rfl rfl hi) rfl ?_
 refine WDq_free rfl trivial (fun _=>PR_field_el rfl (SlV.isSome hs hi)) rfl ?_
 refine WDq_read rfl trivial (fun w' hw=>PR_load_el (u:=.int .i64 l[i].pos) rfl rfl (hs.up hw) hi rfl rfl) rfl ?_
 refine WDq_free rfl trivial (fun _=>PR_move rfl) rfl ?_
 refine WDq_free rfl trivial (fun _=>PR_build (vs:=[(0,.int .i64 l[i].pos),(1,.int .i64 c)]) rfl (buildF _ _)) rfl ?_
 refine WDq_free rfl trivial (fun _=>PR_makeInterface rfl) rfl ?_
 refine WDq_panic rfl trivial (panic_run rfl) ?_
 refine WQ_panic ?_
 exact ⟨rfl,hS1⟩
theorem take_any (b:Nat) (tv:Value) (l:List Tkn) (s:Str) (i o:Nat) (w:World) (hp:Pd w b tv l i o) (hn:(cur l i).text=s→i+1<l.length) :
 Calls Tryz.prog 251 #[.pointer (some ⟨b,0,none⟩),str s] w (Ret fun r w'=>r=.bool (decide ((cur l i).text=s))∧Pd w' b tv l (if (cur l i).text=s then i+1 else i) o∧Stp [b] w w'):=by
 refine calls_of_WC2 (n:=16) Tryz.func251 rfl rfl rfl ?_
 refine W ?_
 refine CL rfl (evs1 rfl) rfl (next_any b tv l i o _ hp) ?_
 rintro _ w1 ⟨rfl,hS1⟩
 replace hp:=hp.up hS1
 obtain ⟨hb,hs,hi,hl,ho⟩:=hp
 have hmax:=hs.max
 by_cases h:(cur l i).text=s
 have hi1:=hn h
 focus repeat'(first|refine W1 ?_|omega|refine VG ?_ ?_<;>intro hg|refine VC ?_ ?_<;>intro hc)
 exact absurd h (by assumption)
 refine WL_eff0 (OE_store1 (u:=.int .i64 ((i+1:Nat):Int)) rfl (by show some _=some _;simp) rfl rfl hb (by simp)) ?_
 rintro _ w2 ⟨hT,hb2⟩
 refine W ?_
 refine WR ?_
 rw [decide_eq_true h,if_pos h]
 exact .mk ⟨rfl,⟨hb2,hs.ext hT (fun c hc=>hc) (fun c hc=>.inl hc),hi1,hl,ho⟩,(hS1.mono (by simp)).trans hT⟩
 focus repeat'(first|refine W1 ?_|omega|refine VG ?_ ?_<;>intro hg|refine VC ?_ ?_<;>intro hc)
 refine WR ?_
 rw [decide_eq_false h,if_neg h]
 exact .mk ⟨rfl,⟨hb,hs,hi,hl,ho⟩,hS1.mono (by simp)⟩
 exact absurd h (by assumption)
def PC {α:Type} (b:Nat) (w:World) (tv:Value) (l:List Tkn) (r:Out α) (G:α→Value→World→Prop) (e:Ending) (w':World):Prop:=
 PE r (fun x i o v w'=>G x v w'∧Pd w' b tv l i o∧Stp [b] w w') (fun w'=>Stp [b] w w') e w'
theorem PC.ok {α:Type} {b:Nat} {w w':World} {tv:Value} {l:List Tkn} {x:α} {i o:Nat} {G:α→Value→World→Prop} {v:Value} (hG:G x v w') (hp:Pd w' b tv l i o) (hS:Stp [b] w w'):PC b w tv l (.ok x i o) G (.returned v) w':=⟨v,rfl,hG,hp,hS⟩
theorem PC.err {α:Type} {b:Nat} {w w':World} {tv:Value} {l:List Tkn} {a c:Int} {G:α→Value→World→Prop} (hS:Stp [b] w w'):PC b w tv l (.err a c) G (.panicked [⟨failV a c,false,false⟩]) w':=⟨rfl,hS⟩
theorem PC.fail {α:Type} {b:Nat} {w w':World} {tv:Value} {l:List Tkn} {i:Nat} {c:Int} {G:α→Value→World→Prop} (hS:Stp [b] w w'):PC b w tv l (failO l i c) G (.panicked [⟨failV (cur l i).pos c,false,false⟩]) w':=⟨rfl,hS⟩
theorem failS (b:Nat) (tv:Value) (l:List Tkn) (i o:Nat) (c:Int) (w w0:World) (hp:Pd w b tv l i o) (hS:Stp [b] w0 w) :
 Calls Tryz.prog 119 #[.pointer (some ⟨b,0,none⟩),.int .i64 c] w (fun e w'=>e=.panicked [⟨failV (cur l i).pos c,false,false⟩]∧Stp [b] w0 w'):=
 (fail_any b tv l i o c w hp).mono fun e w' ⟨h1,h2⟩=>⟨h1,hS.trans (h2.mono (by simp))⟩
theorem PC.goes {α:Type} {b f:Nat} {args:Array Value} {w:World} {tv:Value} {l:List Tkn} {x:α} {i o:Nat} {r:Out α} {G:α→Value→World→Prop} (h:Calls Tryz.prog f args w (PC b w tv l r G)) (hr:r=.ok x i o):Calls Tryz.prog f args w (Ret fun v w'=>G x v w'∧Pd w' b tv l i o∧Stp [b] w w'):=by
 subst hr;exact h
theorem PC.falls {α:Type} {b f:Nat} {args:Array Value} {w w0:World} {tv:Value} {l:List Tkn} {a c:Int} {r:Out α} {G:α→Value→World→Prop} (h:Calls Tryz.prog f args w (PC b w tv l r G)) (hr:r=.err a c) (hS:Stp [b] w0 w):Calls Tryz.prog f args w (fun e w'=>e=.panicked [⟨failV a c,false,false⟩]∧Stp [b] w0 w'):=by
 subst hr;exact h.mono fun e w' ⟨h1,h2⟩=>⟨h1,hS.trans h2⟩
theorem mustP_any (b:Nat) (tv:Value) (l:List Tkn) (hL:Toks l) (s:Str) (hs0:s≠[]) (i o:Nat) (w:World) (hp:Pd w b tv l i o) :
 Calls Tryz.prog 165 #[.pointer (some ⟨b,0,none⟩),str s] w (PC b w tv l (mustO l s i o) (fun _ v _=>v=.tuple #[])):=by
 have hn:(cur l i).text=s→i+1<l.length:=fun h=>hL.end_of hp.i_lt (by rw [h];exact hs0)
 unfold mustO
 refine calls_of_WC2 (n:=10) Tryz.func165 rfl rfl rfl ?_
 refine W ?_
 refine CL rfl (evs2 rfl rfl) rfl (take_any b tv l s i o _ hp hn) ?_
 rintro _ w1 ⟨rfl,hp1,hS1⟩
 by_cases h:(cur l i).text=s
 rw [if_pos h] at hp1 ⊢
 rw [decide_eq_true h]
 refine W ?_
 refine WR ?_
 exact PC.ok rfl hp1 hS1
 rw [if_neg h] at hp1 ⊢
 rw [decide_eq_false h]
 refine W ?_
 refine WL_pcall rfl (evs2 rfl rfl) (failS b tv l i o 20 _ w hp1 hS1) rfl ?_
 intro w2 hw2
 focus repeat'(first|refine WQ_then_panic ?_|refine WQ_block_panic ?_)
 refine WQ_panic ?_
 exact PC.fail hw2
theorem words_iff (C:Str) (W:List Str) (h1:∀ i∈List.range (C.length+1),(C.drop i).head?=some 32→(C.drop (i+1)).takeWhile (fun c=>decide (c≠32))∈W∨(C.drop (i+1)).takeWhile (fun c=>decide (c≠32))=[])
 (h2:∀ t∈W,Lib.contains C (32 :: t++[32])=true) {t:Str} (h0:t≠[]) (hc:∀ c∈t,c≠32):Lib.contains C (32 :: t++[32])=decide (t∈W):=by
 by_cases ht:t∈W
 rw [h2 t ht,decide_eq_true ht]
 · rw [decide_eq_false ht]
   unfold Lib.contains
   rw [decide_eq_false_iff_not,index_iff]
   rintro ⟨i,hi,h⟩
   cases hd:C.drop i with
   | nil=>rw [hd] at h;simp at h
   | cons a l=>
     rw [hd] at h
     simp only [List.cons_append,List.isPrefixOf,Bool.and_eq_true,beq_iff_eq] at h
     obtain ⟨rfl,h⟩:=h
     have hl:C.drop (i+1)=l:=by
      have:=congrArg List.tail hd
      simpa [List.tail_drop] using this
     have hw:=take_word t l hc h
     have:=h1 i (List.mem_range.2 (by omega)) (by rw [hd];rfl)
     rw [hl,hw] at this
     exact this.elim ht h0
def unitC:Str:=[32,100,97,121,115,32,119,101,101,107,115,32,109,111,110,116,104,115,32,99,111,117,114,116,100,97,121,115,32]
def fieldC:Str:=[32,100,97,121,32,115,101,114,118,101,100,32,101,120,116,114,97,32,98,121,32,116,111,32,99,111,117,114,116,32,97,109,111,117,110,116,32]
def funcC:Str:=[32,110,101,120,116,32,112,114,101,118,32,108,97,116,101,114,32,101,97,114,108,105,101,114,32,98,101,116,119,101,101,110,32]
theorem unit_iff {t:Str} (h0:t≠[]) (hc:∀ c∈t,c≠32):Lib.contains unitC (32 :: t++[32])=decide (t∈unitW):=words_iff unitC _ (by decide +kernel) (by decide +kernel) h0 hc
theorem field_iff {t:Str} (h0:t≠[]) (hc:∀ c∈t,c≠32):Lib.contains fieldC (32 :: t++[32])=decide (t∈fieldW):=words_iff fieldC _ (by decide +kernel) (by decide +kernel) h0 hc
theorem func_iff {t:Str} (h0:t≠[]) (hc:∀ c∈t,c≠32):Lib.contains funcC (32 :: t++[32])=decide (t∈funcW):=words_iff funcC _ (by decide +kernel) (by decide +kernel) h0 hc
theorem within_any (C:Str) (ws:List Str) (hW:[]∉ws) (t:Str) (m:Int) (w:World) (hm:w.cell? ⟨2,0,none⟩=some (.int .i64 m)) (hC:C.length≤1000000) (htl:t.length≤4000)
 (hiff:t≠[]→Lib.contains C (32 :: t++[32])=decide (t∈ws)) :
 Calls Tryz.prog 215 #[str C,str t] w (Ret fun r w'=>r=.bool (decide (t∈ws))∧Stp [] w w'):=by
 refine calls_of_WC2 (n:=14) Tryz.func215 rfl rfl rfl ?_
 by_cases h:t=[]
 · subst h
   repeat'(first|refine W1 ?_|omega|refine VG ?_ ?_<;>intro hg|refine VC ?_ ?_<;>intro hc)
   all_goals
    refine WR ?_
    rw [decide_eq_false hW]
    exact .mk ⟨rfl,Stp.refl _ _⟩
 · have e1:Lib.contains C ([32]++t++[32])=decide (t∈ws):=hiff h
   repeat'(first|refine W1 ?_|omega|refine VG ?_ ?_<;>intro hg|refine VC ?_ ?_<;>intro hc)
   rotate_left
   exact absurd h (by assumption)
   refine WL_addT rfl rfl (by simp;omega) rfl ?_
   repeat'(first|refine W1 ?_|omega|refine VG ?_ ?_<;>intro hg|refine VC ?_ ?_<;>intro hc)
   refine WL_addT rfl rfl (by simp;omega) rfl ?_
   repeat'(first|refine W1 ?_|omega|refine VG ?_ ?_<;>intro hg|refine VC ?_ ?_<;>intro hc)
   refine CL rfl (evs2 rfl rfl) rfl (contains_any C ([32]++t++[32]) m _ (by omega) hm) ?_
   rintro _ w1 ⟨rfl,hS1⟩
   rw [e1]
   refine W ?_
   refine WR ?_
   exact .mk ⟨rfl,hS1⟩
theorem token_any (b:Nat) (tv:Value) (l:List Tkn) (hL:Toks l) (k:Int) (hk:k≠0) (i o:Nat) (w:World) (hp:Pd w b tv l i o) :
 Calls Tryz.prog 167 #[.pointer (some ⟨b,0,none⟩),.int .i64 k] w (PC b w tv l (tokenO l k i o) (fun t v _=>v=.agg (Flat.enc t).toArray)):=by
 obtain ⟨hb,hs,hi,hl,ho⟩:=id hp
 have hn:(cur l i).kind=k→i+1<l.length:=fun h=>hL.end_of_kind hi (by rw [h];exact hk)
 have hmax:=hs.max
 have hs0:=hs
 unfold tokenO
 rw [cur_of hi] at hn ⊢
 refine calls_of_WC2 (n:=30) Tryz.func167 rfl rfl rfl ?_
 refine W ?_
 refine WL_eff OE_alloc rfl ?_
 rintro _ w0 ⟨b4,rfl,hb4,e4,hS0⟩
 have n4:b4≠b:=by have:=hb.lt;omega
 replace hb:=hb.up hS0
 replace hs:=hs.up hS0
 refine W ?_
 refine WC_drawn 12 [] [11] [(0,0),(1,0),(2,0),(3,1),(4,0),(5,0),(6,0),(7,1),(8,0),(9,1),(10,2),(11,2)] rfl mixed (by kernel_rfl) (by kernel_rfl) (by kernel_rfl) (fun w1 hS1=>?_)
 replace hb:=hb.up hS1
 replace hs:=hs.up hS1
 replace e4:=e4.up hS1
 replace hS0:=hS0.trans hS1
 clear hS1
 refine D ?_
 refine WD_eff rfl trivial OE_alloc (fun _ _ ⟨_,_,_,_,h⟩=>h) rfl ?_
 rintro _ w2 ⟨b5,rfl,hb5,e5,hS2⟩
 have n5:b5≠b:=by have:=hb.lt;omega
 have n54:b5≠b4:=by have:=e4.lt;omega
 refine WD_late0 rfl trivial (OE_storeA (us:=Flat.enc l[i]) rfl rfl rfl rfl (Flat.one _) e5 rfl) rfl ?_
 rintro _ w3 ⟨hT,e5⟩
 have hT0:=hS2.own hT (fun c hc=>.inr (by simp at hc;omega))
 clear hT hS2
 replace hb:=hb.up hT0
 replace hs:=hs.up hT0
 replace e4:=e4.up hT0
 replace hS0:=hS0.trans hT0
 clear hT0 hb5
 refine D ?_
 refine W ?_
 have hp3:Pd w3 b tv l i o:=⟨hb,hs,hi,hl,ho⟩
 by_cases h:l[i].kind=k
 rw [if_pos h]
 have hi1:=hn h
 focus repeat'(first|refine W1 ?_|omega|refine VG ?_ ?_<;>intro hg|refine VC ?_ ?_<;>intro hc)
 refine WL_eff0 (OE_store1 (u:=.int .i64 ((i+1:Nat):Int)) rfl (by show some _=some _;simp) rfl rfl hb (by simp)) ?_
 rintro _ w4 ⟨hT,hb2⟩
 replace e4:=e4.ext hT (by simpa using n4)
 replace e5:=e5.ext hT (by simpa using n5)
 replace hs:=hs.ext (X':=[b]) hT (fun c hc=>hc) (fun c hc=>.inl hc)
 refine W ?_
 refine WL_eff0 (OE_storeA (us:=Flat.enc l[i]) rfl rfl rfl rfl (Flat.one _) e4 rfl) ?_
 rintro _ w5 ⟨hT5,e4⟩
 refine W ?_
 refine WQ_retc (cs:=Flat.enc l[i]) rfl rfl rfl e4 rfl ?_
 have hTT:=((hS0.mono (by simp)).trans hT).own hT5 (fun c hc=>.inr (by simp at hc;omega))
 exact PC.ok rfl ⟨hb2.ext hT5 (by simpa using n4.symm),hs0.ext hTT (fun c hc=>hc) (fun c hc=>.inl hc),hi1,hl,ho⟩ hTT
 rw [if_neg h]
 focus repeat'(first|refine W1 ?_|omega|refine VG ?_ ?_<;>intro hg|refine VC ?_ ?_<;>intro hc)
 refine WL_pcall rfl (evs2 rfl rfl) (failS b tv l i o 20 _ w hp3 (hS0.mono (by simp))) rfl ?_
 intro w2 hw2
 focus repeat'(first|refine WQ_then_panic ?_|refine WQ_block_panic ?_)
 refine WQ_panic ?_
 exact PC.fail hw2
theorem cell_up {w w':World} {b:Nat} {m:Int} (hm:w.cell? ⟨2,0,none⟩=some (.int .i64 m)) (hb:b≠2) (hS:Stp [b] w w'):w'.cell? ⟨2,0,none⟩=some (.int .i64 m):=
 hS.cell (by simpa using fun h=>hb h.symm) hm
theorem tknText (t:Tkn) (w:World):(Instr.field 167 (.agg (Flat.enc t).toArray) 2).run Tryz.prog w=.ok (str t.text) w:=by kernel_rfl
theorem opens_any (b:Nat) (tv:Value) (l:List Tkn) (hL:Toks l) (s:Str) (hs0:s≠[]) (i o:Nat) (w:World) (hp:Pd w b tv l i o) :
 Calls Tryz.prog 212 #[.pointer (some ⟨b,0,none⟩),str s] w (PC b w tv l (opensO l s i o) (fun _ v _=>v=.tuple #[])):=by
 have hn:(cur l i).text=s→i+1<l.length:=fun h=>hL.end_of hp.i_lt (by rw [h];exact hs0)
 unfold opensO
 refine calls_of_WC2 (n:=31) Tryz.func212 rfl rfl rfl ?_
 refine W ?_
 refine CL rfl (evs1 rfl) rfl (next_any b tv l i o _ hp) ?_
 rintro _ w1 ⟨rfl,hS1⟩
 have hp1:=hp.up hS1
 have hS:=hS1.mono (S':=[b]) (by simp)
 by_cases h:(cur l i).text=s
 have hi1:=hn h
 rw [if_pos h]
 obtain ⟨hb,hs,hi,hl,ho⟩:=id hp1
 focus repeat'(first|refine W1 ?_|omega|refine VG ?_ ?_<;>intro hg|refine VC ?_ ?_<;>intro hc)
 exact absurd h (by assumption)
 refine WL_pcall rfl (evs2 rfl rfl) (failS b tv l i o 2 _ w hp1 hS) rfl ?_
 intro w3 hw3
 focus repeat'(first|refine WQ_then_panic ?_|refine WQ_block_panic ?_)
 refine WQ_panic ?_
 rw [if_pos (by omega)]
 exact PC.fail hw3
 refine WL_eff0 (OE_store1 (u:=.int .i64 ((i+1:Nat):Int)) rfl (by show some _=some _;simp) rfl rfl hb (by simp)) ?_
 rintro _ w2 ⟨hT,hb2⟩
 replace hs:=hs.ext (X':=[b]) hT (fun c hc=>hc) (fun c hc=>.inl hc)
 refine W ?_
 refine WL_eff0 (OE_store1 (u:=.int .i64 ((o+1:Nat):Int)) rfl (by show some _=some _;simp) rfl rfl hb2 (by simp)) ?_
 rintro _ w3 ⟨hT3,hb3⟩
 replace hs:=hs.ext (X':=[b]) hT3 (fun c hc=>hc) (fun c hc=>.inl hc)
 refine W ?_
 first|refine WQ_ret0 rfl ?_|refine WQ_end0 rfl ?_
 rw [if_neg (by omega)]
 exact PC.ok rfl ⟨hb3,hs,hi1,hl,by omega⟩ ((hS.trans hT).trans hT3)
 · rw [if_neg h]
   repeat'(first|refine W1 ?_|omega|refine VG ?_ ?_<;>intro hg|refine VC ?_ ?_<;>intro hc)
   refine WL_pcall rfl (evs2 rfl rfl) (failS b tv l i o 20 _ w hp1 hS) rfl ?_
   intro w3 hw3
   focus repeat'(first|refine WQ_then_panic ?_|refine WQ_block_panic ?_)
   refine WQ_panic ?_
   exact PC.fail hw3
   all_goals exact absurd h (by assumption)
theorem closes_any (b:Nat) (tv:Value) (l:List Tkn) (hL:Toks l) (s:Str) (hs0:s≠[]) (i o:Nat) (ho0:0<o) (w:World) (hp:Pd w b tv l i o) :
 Calls Tryz.prog 273 #[.pointer (some ⟨b,0,none⟩),str s] w (PC b w tv l (closesO l s i o) (fun _ v _=>v=.tuple #[])):=by
 unfold closesO
 refine calls_of_WC2 (n:=14) Tryz.func273 rfl rfl rfl ?_
 refine W ?_
 cases hr:mustO l s i o with
 | err a c=>
   refine WL_pcall rfl (evs2 rfl rfl) (PC.falls (mustP_any b tv l hL s hs0 i o _ hp) hr (Stp.refl _ _)) rfl ?_
   intro w3 hw3
   repeat'(first|refine WQ_then_panic ?_|refine WQ_block_panic ?_)
   refine WQ_panic ?_
   exact PC.err hw3
 | ok x i1 o1=>
   have ho1:o1=o:=by
    unfold mustO failO at hr
    split at hr<;>simp at hr
    omega
   refine CL rfl (evs2 rfl rfl) rfl (PC.goes (mustP_any b tv l hL s hs0 i o _ hp) hr) ?_
   rintro _ w1 ⟨rfl,hp1,hS⟩
   obtain ⟨hb,hs,hi,hl,ho⟩:=id hp1
   refine W ?_
   refine WL_eff0 (OE_store1 (u:=.int .i64 ((o1 - 1:Nat):Int)) rfl (by show some _=some _;simp;omega) rfl rfl hb (by simp)) ?_
   rintro _ w3 ⟨hT3,hb3⟩
   replace hs:=hs.ext (X':=[b]) hT3 (fun c hc=>hc) (fun c hc=>.inl hc)
   refine W ?_
   refine WR ?_
   exact PC.ok rfl ⟨hb3,hs,hi,hl,by omega⟩ (hS.trans hT3)
theorem levelOf_any (s:Str) (w:World):Calls Tryz.prog 214 #[str s] w (Ret fun r w'=>r=.int .i64 (levelO s:Int)∧w'=w):=by
 unfold levelO
 refine calls_of_WC1 (n:=20) Tryz.func214 rfl rfl rfl ?_
 repeat'(first|refine W1 ?_|omega|refine VG ?_ ?_<;>intro hg|refine VC ?_ ?_<;>intro hc)
 all_goals refine WR ?_
 all_goals refine .mk ⟨?_,rfl⟩
 all_goals simp_all
theorem arguments_any (s:Str) (w:World):Calls Tryz.prog 307 #[str s] w (Ret fun r w'=>r=.int .i64 (argsO s:Int)∧w'=w):=by
 unfold argsO
 refine calls_of_WC1 (n:=9) Tryz.func307 rfl rfl rfl ?_
 repeat'(first|refine W1 ?_|omega|refine VG ?_ ?_<;>intro hg|refine VC ?_ ?_<;>intro hc)
 all_goals refine WR ?_
 all_goals refine .mk ⟨?_,rfl⟩
 all_goals simp_all
end Go.Proofs.YtjdjdoefppebkaaGreatDoor
namespace Go.Eng
open Go Go.RowKit Go.Proofs
section
variable {P:Program} {n:Nat} {Q:Exit→Act→World→Prop} {e:Env} {w:World} {ops:Array Oper} {S:List Nat} {Lt:List Nat} {rest:List (Nat×Nat)}
theorem WDq_pcall {i d:Nat} {ty:TypeId} {pos:String} {af:Array Edge} {gd:Option (Nat×Bool)} {f:Nat} {fn:Func} {xs:Array Operand} {ts:Array TypeId} {vs:Array Value} {c:Operand} {ch:List PanicEntry} {F:World→Prop} [hf:Fun P f fn]
 (hi:ops[i]?=some ⟨some d,.call { callee:=.value c,args:=xs,argTypes:=ts },ty,pos,af,gd⟩) (hg:gdOk ops e gd)
 (hc:ev e c=some (.func (.func f) #[] #[])) (hv:∀ a,Has n e a→xs.map a.eval=vs) (h:Calls P f vs w (fun e w'=>e=.panicked ch∧F w')) (hdn:Nat.blt d n=true) (k:∀ w',F w'→WQ n Q (.panic ch) [] w'):WDq P n ops S Lt Q ((i,2) :: rest) e w:=
 WDq_effP (G:=fun _ _=>False) (F:=fun ch' w'=>ch'=ch∧F w') hi hg (OEP_call hc hv (h.mono fun e w' ⟨h1,h2⟩=>by rw [h1];exact .pan ⟨rfl,h2⟩)) (fun _ _ h=>h.elim) hdn (fun ch' w' ⟨h1,h2⟩=>by subst h1;exact k w' h2) (fun _ _ h=>h.elim)
end
end Go.Eng
namespace Go.Proofs.YtjdjdoefppebkaaGreatDoor
open Go Go.Eng Go.RowKit Go.Proofs
def ExprC (f:Nat):Prop:=∀ (l:List Tkn) (hL:Toks l) (m:Int) (c:Eng.Call) (i o:Nat) (r:Out Nd),exprO l f c i o=some r→
 ∀ (X:List Nat) (b:Nat) (tv:Value) (w:World),b≠2→b∈X→(∀ c∈X,c<w.heap.size)→w.cell? ⟨2,0,none⟩=some (.int .i64 m)→Pd w b tv l i o→
 match c with
 | .expr k=>1≤k→k≤8→Calls Tryz.prog 120 #[.pointer (some ⟨b,0,none⟩),.int .i64 (k:Int)] w (PC b w tv l r (fun x v w'=>NdV X w' v x))
 | .prim=>Calls Tryz.prog 213 #[.pointer (some ⟨b,0,none⟩)] w (PC b w tv l r (fun x v w'=>NdV X w' v x))
 | .loop _ _=>True
theorem buildU (s:Str) (p:Option Addr) (l c:Nat) (w:World):(Instr.build 27 #[(0,.int .i64 5),(2,str s),(3,.slice p l c)]).run Tryz.prog w=.ok (.agg #[.int .i64 5,.int .i64 0,str s,.slice p l c]) w:=by kernel_rfl
theorem buildB (s:Str) (p:Option Addr) (l c:Nat) (w:World):(Instr.build 27 #[(0,.int .i64 6),(2,str s),(3,.slice p l c)]).run Tryz.prog w=.ok (.agg #[.int .i64 6,.int .i64 0,str s,.slice p l c]) w:=by kernel_rfl
theorem exprU (f:Nat) (IH:ExprC f) (l:List Tkn) (hL:Toks l) (m:Int) (k i o:Nat) (r:Out Nd) (hk:k≤8) (hsp:(k=3∧(cur l i).text=[110,111,116])∨(k=7∧(cur l i).text=[45]))
 (h : (match opensO l (cur l i).text i o with
   | .err a c=>some (.err a c)
   | .ok _ i' o'=>
     match exprO l f (.expr k) i' o' with
     | none=>none
     | some (.err a c)=>some (.err a c)
     | some (.ok x i'' o'')=>some (.ok (.mk 5 0 (cur l i).text [x]) i'' (o'' - 1)))=some r) (X:List Nat) (b:Nat) (tv:Value) (w:World) (hb1:b≠2) (hbX:b∈X) (hX:∀ c∈X,c<w.heap.size) (hm:w.cell? ⟨2,0,none⟩=some (.int .i64 m)) (hp:Pd w b tv l i o) :
 Calls Tryz.prog 120 #[.pointer (some ⟨b,0,none⟩),.int .i64 (k:Int)] w (PC b w tv l r (fun x v w'=>NdV X w' v x)):=by
 have htn:(cur l i).text≠[]:=by rcases hsp with ⟨_,h⟩|⟨_,h⟩<;>rw [h]<;>decide
 have hs0:=hp.2.1
 refine calls_of_WC2 (n:=98) Tryz.func120 rfl rfl rfl ?_
 refine W ?_
 refine WL_eff OE_alloc rfl ?_
 rintro _ w1 ⟨b4,rfl,hb4,e4,hS⟩
 have n4:b4≠b:=by have:=hp.lt;omega
 replace hm:=hS.cell (by simp) hm
 replace hp:=hp.up hS
 rcases hsp with ⟨rfl,ht⟩|⟨rfl,ht⟩
 · refine W ?_
   refine CL rfl (evs1 rfl) rfl (next_any b tv l i o _ hp) ?_
   rintro _ w2 ⟨rfl,hT⟩
   replace hp:=hp.up hT;replace e4:=e4.up hT
   replace hm:=hT.cell (by simp) hm
   replace hS:=hS.trans hT
   clear hT
   repeat'(first|refine W1 ?_|omega|refine VG ?_ ?_<;>intro hg|refine VC ?_ ?_<;>intro hc)
   all_goals try exact absurd ht (by assumption)
   refine CL rfl (evs1 rfl) rfl (next_any b tv l i o _ hp) ?_
   rintro _ w3 ⟨rfl,hT⟩
   replace hp:=hp.up hT;replace e4:=e4.up hT
   replace hm:=hT.cell (by simp) hm
   replace hS:=hS.trans hT
   clear hT
   refine W ?_
   cases hO:opensO l (cur l i).text i o with
   | err a c=>
     rw [hO] at h
     simp only [Option.some.injEq] at h
     subst h
     refine WL_pcall rfl (evs2 rfl rfl) (PC.falls (opens_any b tv l hL _ htn i o _ hp) hO (hS.mono (by simp))) rfl ?_
     intro w4 hw4
     repeat'(first|refine WQ_then_panic ?_|refine WQ_block_panic ?_)
     refine WQ_panic ?_
     exact PC.err hw4
   | ok u i1 o1=>
     have hoo:=opensO_open hO
     rw [hO] at h
     simp only at h
     refine CL rfl (evs2 rfl rfl) rfl (PC.goes (opens_any b tv l hL _ htn i o _ hp) hO) ?_
     rintro _ w4 ⟨rfl,hp4,hT⟩
     replace e4:=e4.ext hT (by simpa using n4)
     replace hm:=cell_up hm hb1 hT
     have hS4:=(hS.mono (S':=[b]) (by simp)).trans hT
     clear hT hS hp
     have l4:=e4.lt
     have hX4:∀ c∈b4 :: X,c<w4.heap.size:=fun c hc=>by
      rcases List.mem_cons.1 hc with rfl|h
      exact l4
      exact Nat.lt_of_lt_of_le (hX c h) hS4.size
     refine W ?_
     cases hE:exprO l f (.expr 3) i1 o1 with
     | none=>rw [hE] at h;simp at h
     | some r1=>
       rw [hE] at h
       have hsub:=IH l hL m (.expr 3) i1 o1 r1 hE (b4 :: X) b tv w4 hb1 (List.mem_cons_of_mem _ hbX) hX4 hm hp4 (by omega) (by omega)
       cases r1 with
       | err a c=>
         simp only [Option.some.injEq] at h
         subst h
         refine WL_pcall rfl (evs2 rfl rfl) (PC.falls hsub rfl hS4) rfl ?_
         intro w5 hw5
         repeat'(first|refine WQ_then_panic ?_|refine WQ_block_panic ?_)
         refine WQ_panic ?_
         exact PC.err hw5
       | ok x i2 o2=>
         have hoe:=exprO_open l _ _ _ _ _ _ _ hE
         simp only [Option.some.injEq] at h
         subst h
         refine CL rfl (evs2 rfl rfl) rfl (PC.goes hsub rfl) ?_
         rintro _ w5 ⟨⟨kx,rfl,hx⟩,hp5,hT⟩
         replace e4:=e4.ext hT (by simpa using n4)
         have hX5:∀ c∈b4 :: X,c<w5.heap.size:=fun c hc=>Nat.lt_of_lt_of_le (hX4 c hc) hT.size
         have hS5:=hS4.trans hT
         clear hT hS4 hp4 hX4 hsub
         obtain ⟨p0,c0,rfl,-⟩:=id hx
         refine W ?_
         refine WL_eff (OE_buildSlice (vs:=[(0,.agg (ndC x (.slice p0 x.kids.length c0)).toArray)]) rfl (buildSN1 _ _ _ _ _ _)) rfl ?_
         intro bv w6 hN
         have hbv:SlV (b4 :: X) w6 bv [x]:=hN.slvG (css:=[ndC x _]) hX5 rfl rfl rfl (reps1 hx) (by simp [maxLen])
         obtain ⟨bn,rfl,hbn,-,hT⟩:=id hN
         replace e4:=e4.up hT;replace hp5:=hp5.up hT
         have hX6:∀ c∈b4 :: X,c<w6.heap.size:=fun c hc=>Nat.lt_of_lt_of_le (hX5 c hc) hT.size
         have hS6:=hS5.trans (hT.mono (by simp))
         clear hT hS5 hX5 hN hx
         apply WL_build (vs:=[(0,.int .i64 5),(2,str (cur l i).text),(3,.slice (some ⟨bn,0,none⟩) 1 1)]) rfl (buildU _ _ _ _) rfl
         refine WL_eff OE_alloc rfl ?_
         rintro _ w7 ⟨b6,rfl,hb6,e6,hT⟩
         have n64:b6≠b4:=by have:=e4.lt;omega
         have n6b:b6≠b:=by have:=hp5.lt;omega
         refine WL_eff0 (OE_storeA (us:=ndC (.mk 5 0 (cur l i).text [x]) (.slice (some ⟨bn,0,none⟩) 1 1)) rfl rfl rfl rfl (ndC_one hbv) e6 rfl) ?_
         rintro _ w8 ⟨hT2,e6'⟩
         replace hT:=hT.own hT2 (fun c hc=>.inr (by simp at hc;omega))
         clear hT2 e6
         replace e4:=e4.up hT;replace hp5:=hp5.up hT
         have hS8:=hS6.trans (hT.mono (by simp))
         replace hbv:SlV (b6 :: b4 :: X) w8 (.slice (some ⟨bn,0,none⟩) 1 1) [x]:=hbv.ext hT (by simp) (fun c hc=>by
          rcases List.mem_cons.1 hc with rfl|h
          exact .inr hb6
          exact .inl h)
         have hb4w:w.heap.size≤b4:=hb4
         clear hT hS6 hX6
         obtain ⟨hpb,hps,hpi,hpl,hpo⟩:=id hp5
         refine W ?_
         refine WL_eff0 (OE_store1 (u:=.int .i64 ((o2 - 1:Nat):Int)) rfl (by show some _=some _;simp;omega) rfl rfl hpb (by simp)) ?_
         rintro _ w9 ⟨hT,hpb9⟩
         replace hps:=hps.ext (X':=[b]) hT (fun c hc=>hc) (fun c hc=>.inl hc)
         replace e4:=e4.ext hT (by simpa using n4)
         replace e6':=e6'.ext hT (by simpa using n6b)
         replace hbv:=hbv.ext (X':=b6 :: b4 :: X) hT (fun c hc=>by simp at hc;subst hc;simp [hbX]) (fun c hc=>.inl hc)
         have hS9:=hS8.trans hT
         clear hT hS8 hpb hp5
         refine W ?_
         refine WL_eff0 (OE_storeA (us:=ndC (.mk 5 0 (cur l i).text [x]) (.slice (some ⟨bn,0,none⟩) 1 1)) rfl rfl rfl rfl (ndC_one hbv) e4 rfl) ?_
         rintro _ w10 ⟨hT,e4'⟩
         refine W ?_
         refine WQ_retc rfl rfl rfl e4' rfl ?_
         have hl4:=hpb9.lt
         have hSx:=hS9.own hT (fun c hc=>by simp at hc;subst hc;exact .inr hb4w)
         refine PC.ok ⟨_,rfl,?_⟩ ⟨hpb9.ext hT (by simpa using n4.symm),hs0.ext hSx (fun c hc=>hc) (fun c hc=>.inl hc),hpi,hpl,by omega⟩ hSx
         exact (hbv.ext (X':=b6 :: b4 :: X) hT (fun c hc=>by simp at hc;simp [hc]) (fun c hc=>.inl hc)).wk (fun c hc=>by simp [hc])
 · refine W ?_
   refine CL rfl (evs1 rfl) rfl (next_any b tv l i o _ hp) ?_
   rintro _ w2 ⟨rfl,hT⟩
   replace hp:=hp.up hT;replace e4:=e4.up hT
   replace hm:=hT.cell (by simp) hm
   replace hS:=hS.trans hT
   clear hT
   repeat'(first|refine W1 ?_|omega|refine VG ?_ ?_<;>intro hg|refine VC ?_ ?_<;>intro hc)
   all_goals try exact absurd ht (by assumption)
   refine CL rfl (evs1 rfl) rfl (next_any b tv l i o _ hp) ?_
   rintro _ w3 ⟨rfl,hT⟩
   replace hp:=hp.up hT;replace e4:=e4.up hT
   replace hm:=hT.cell (by simp) hm
   replace hS:=hS.trans hT
   clear hT
   refine W ?_
   cases hO:opensO l (cur l i).text i o with
   | err a c=>
     rw [hO] at h
     simp only [Option.some.injEq] at h
     subst h
     refine WL_pcall rfl (evs2 rfl rfl) (PC.falls (opens_any b tv l hL _ htn i o _ hp) hO (hS.mono (by simp))) rfl ?_
     intro w4 hw4
     repeat'(first|refine WQ_then_panic ?_|refine WQ_block_panic ?_)
     refine WQ_panic ?_
     exact PC.err hw4
   | ok u i1 o1=>
     have hoo:=opensO_open hO
     rw [hO] at h
     simp only at h
     refine CL rfl (evs2 rfl rfl) rfl (PC.goes (opens_any b tv l hL _ htn i o _ hp) hO) ?_
     rintro _ w4 ⟨rfl,hp4,hT⟩
     replace e4:=e4.ext hT (by simpa using n4)
     replace hm:=cell_up hm hb1 hT
     have hS4:=(hS.mono (S':=[b]) (by simp)).trans hT
     clear hT hS hp
     have l4:=e4.lt
     have hX4:∀ c∈b4 :: X,c<w4.heap.size:=fun c hc=>by
      rcases List.mem_cons.1 hc with rfl|h
      exact l4
      exact Nat.lt_of_lt_of_le (hX c h) hS4.size
     refine W ?_
     cases hE:exprO l f (.expr 7) i1 o1 with
     | none=>rw [hE] at h;simp at h
     | some r1=>
       rw [hE] at h
       have hsub:=IH l hL m (.expr 7) i1 o1 r1 hE (b4 :: X) b tv w4 hb1 (List.mem_cons_of_mem _ hbX) hX4 hm hp4 (by omega) (by omega)
       cases r1 with
       | err a c=>
         simp only [Option.some.injEq] at h
         subst h
         refine WL_pcall rfl (evs2 rfl rfl) (PC.falls hsub rfl hS4) rfl ?_
         intro w5 hw5
         repeat'(first|refine WQ_then_panic ?_|refine WQ_block_panic ?_)
         refine WQ_panic ?_
         exact PC.err hw5
       | ok x i2 o2=>
         have hoe:=exprO_open l _ _ _ _ _ _ _ hE
         simp only [Option.some.injEq] at h
         subst h
         refine CL rfl (evs2 rfl rfl) rfl (PC.goes hsub rfl) ?_
         rintro _ w5 ⟨⟨kx,rfl,hx⟩,hp5,hT⟩
         replace e4:=e4.ext hT (by simpa using n4)
         have hX5:∀ c∈b4 :: X,c<w5.heap.size:=fun c hc=>Nat.lt_of_lt_of_le (hX4 c hc) hT.size
         have hS5:=hS4.trans hT
         clear hT hS4 hp4 hX4 hsub
         obtain ⟨p0,c0,rfl,-⟩:=id hx
         refine W ?_
         refine WL_eff (OE_buildSlice (vs:=[(0,.agg (ndC x (.slice p0 x.kids.length c0)).toArray)]) rfl (buildSN1 _ _ _ _ _ _)) rfl ?_
         intro bv w6 hN
         have hbv:SlV (b4 :: X) w6 bv [x]:=hN.slvG (css:=[ndC x _]) hX5 rfl rfl rfl (reps1 hx) (by simp [maxLen])
         obtain ⟨bn,rfl,hbn,-,hT⟩:=id hN
         replace e4:=e4.up hT;replace hp5:=hp5.up hT
         have hX6:∀ c∈b4 :: X,c<w6.heap.size:=fun c hc=>Nat.lt_of_lt_of_le (hX5 c hc) hT.size
         have hS6:=hS5.trans (hT.mono (by simp))
         clear hT hS5 hX5 hN hx
         apply WL_build (vs:=[(0,.int .i64 5),(2,str (cur l i).text),(3,.slice (some ⟨bn,0,none⟩) 1 1)]) rfl (buildU _ _ _ _) rfl
         refine WL_eff OE_alloc rfl ?_
         rintro _ w7 ⟨b6,rfl,hb6,e6,hT⟩
         have n64:b6≠b4:=by have:=e4.lt;omega
         have n6b:b6≠b:=by have:=hp5.lt;omega
         refine WL_eff0 (OE_storeA (us:=ndC (.mk 5 0 (cur l i).text [x]) (.slice (some ⟨bn,0,none⟩) 1 1)) rfl rfl rfl rfl (ndC_one hbv) e6 rfl) ?_
         rintro _ w8 ⟨hT2,e6'⟩
         replace hT:=hT.own hT2 (fun c hc=>.inr (by simp at hc;omega))
         clear hT2 e6
         replace e4:=e4.up hT;replace hp5:=hp5.up hT
         have hS8:=hS6.trans (hT.mono (by simp))
         replace hbv:SlV (b6 :: b4 :: X) w8 (.slice (some ⟨bn,0,none⟩) 1 1) [x]:=hbv.ext hT (by simp) (fun c hc=>by
          rcases List.mem_cons.1 hc with rfl|h
          exact .inr hb6
          exact .inl h)
         have hb4w:w.heap.size≤b4:=hb4
         clear hT hS6 hX6
         obtain ⟨hpb,hps,hpi,hpl,hpo⟩:=id hp5
         refine W ?_
         refine WL_eff0 (OE_store1 (u:=.int .i64 ((o2 - 1:Nat):Int)) rfl (by show some _=some _;simp;omega) rfl rfl hpb (by simp)) ?_
         rintro _ w9 ⟨hT,hpb9⟩
         replace hps:=hps.ext (X':=[b]) hT (fun c hc=>hc) (fun c hc=>.inl hc)
         replace e4:=e4.ext hT (by simpa using n4)
         replace e6':=e6'.ext hT (by simpa using n6b)
         replace hbv:=hbv.ext (X':=b6 :: b4 :: X) hT (fun c hc=>by simp at hc;subst hc;simp [hbX]) (fun c hc=>.inl hc)
         have hS9:=hS8.trans hT
         clear hT hS8 hpb hp5
         refine W ?_
         refine WL_eff0 (OE_storeA (us:=ndC (.mk 5 0 (cur l i).text [x]) (.slice (some ⟨bn,0,none⟩) 1 1)) rfl rfl rfl rfl (ndC_one hbv) e4 rfl) ?_
         rintro _ w10 ⟨hT,e4'⟩
         refine W ?_
         refine WQ_retc rfl rfl rfl e4' rfl ?_
         have hl4:=hpb9.lt
         have hSx:=hS9.own hT (fun c hc=>by simp at hc;subst hc;exact .inr hb4w)
         refine PC.ok ⟨_,rfl,?_⟩ ⟨hpb9.ext hT (by simpa using n4.symm),hs0.ext hSx (fun c hc=>hc) (fun c hc=>.inl hc),hpi,hpl,by omega⟩ hSx
         exact (hbv.ext (X':=b6 :: b4 :: X) hT (fun c hc=>by simp at hc;simp [hc]) (fun c hc=>.inl hc)).wk (fun c hc=>by simp [hc])
theorem unitW_nil:([]:Str)∉unitW:=by decide
theorem unitC_len:unitC.length≤1000000:=by decide
theorem within_unit (t:Str) (m:Int) (w:World) (hm:w.cell? ⟨2,0,none⟩=some (.int .i64 m)) (htl:t.length≤4000) (hsp:∀ c∈t,c≠32) :
 Calls Tryz.prog 215 #[str unitC,str t] w (Ret fun r w'=>r=.bool (decide (t∈unitW))∧Stp [] w w'):=
 within_any unitC unitW unitW_nil t m w hm unitC_len htl (fun h=>unit_iff h hsp)
set_option maxHeartbeats 2000000 in
theorem exprB (f:Nat) (IH:∀ f'≤f,ExprC f') (l:List Tkn) (hL:Toks l) (m:Int) (k i o:Nat) (r:Out Nd) (hk1:1≤k) (hk:k≤7) (hsp:¬ ((k=3∧(cur l i).text=[110,111,116])∨(k=7∧(cur l i).text=[45])))
 (h : (match exprO l f (.expr (k + 1)) i o with
   | none=>none
   | some (.err a c)=>some (.err a c)
   | some (.ok x i' o')=>exprO l f (.loop k x) i' o')=some r) (X:List Nat) (b:Nat) (tv:Value) (w:World) (hb1:b≠2) (hbX:b∈X) (hX:∀ c∈X,c<w.heap.size) (hm:w.cell? ⟨2,0,none⟩=some (.int .i64 m)) (hp:Pd w b tv l i o) :
 Calls Tryz.prog 120 #[.pointer (some ⟨b,0,none⟩),.int .i64 (k:Int)] w (PC b w tv l r (fun x v w'=>NdV X w' v x)):=by
 have hs0:=hp.2.1
 refine calls_of_WC2 (n:=98) Tryz.func120 rfl rfl rfl ?_
 refine W ?_
 refine WL_eff OE_alloc rfl ?_
 rintro _ w1 ⟨b4,rfl,hb4,e4,hS⟩
 have n4:b4≠b:=by have:=hp.lt;omega
 replace hm:=hS.cell (by simp) hm
 replace hp:=hp.up hS
 have hX1:∀ c∈X,c<w1.heap.size:=fun c hc=>Nat.lt_of_lt_of_le (hX c hc) hS.size
 refine WL_nil ?_
 refine WQ_then ?_
 refine WC_cut (σ:=Unit) (fun _=>[(0,.pointer (some ⟨b,0,none⟩)),(1,.int .i64 (k:Int)),(4,.pointer (some ⟨b4,0,none⟩))])
  (fun _ w'=>Pd w' b tv l i o∧(∃ cs:List Value,cs.length=4∧Blk w' b4 27 cs)∧w'.cell? ⟨2,0,none⟩=some (.int .i64 m)∧Stp [] w w') ?_ ?_
 by_cases k3:k=3
 · subst k3
   have ht:¬ (cur l i).text=[110,111,116]:=fun e=>hsp (.inl ⟨rfl,e⟩)
   refine W ?_
   refine CL rfl (evs1 rfl) rfl (next_any b tv l i o _ hp) ?_
   rintro _ w2 ⟨rfl,hT⟩
   replace hp:=hp.up hT;replace e4:=e4.up hT
   replace hm:=hT.cell (by simp) hm
   replace hS:=hS.trans hT
   repeat'(first|refine W1 ?_|omega|refine VG ?_ ?_<;>intro hg|refine VC ?_ ?_<;>intro hc)
   all_goals try exact absurd (by assumption) ht
   exact WQ_cut () ⟨rfl,rfl,rfl,trivial⟩ ⟨hp,⟨_,rfl,e4⟩,hm,hS⟩
 by_cases k7:k=7
 · subst k7
   have ht:¬ (cur l i).text=[45]:=fun e=>hsp (.inr ⟨rfl,e⟩)
   refine W ?_
   refine CL rfl (evs1 rfl) rfl (next_any b tv l i o _ hp) ?_
   rintro _ w2 ⟨rfl,hT⟩
   replace hp:=hp.up hT;replace e4:=e4.up hT
   replace hm:=hT.cell (by simp) hm
   replace hS:=hS.trans hT
   repeat'(first|refine W1 ?_|omega|refine VG ?_ ?_<;>intro hg|refine VC ?_ ?_<;>intro hc)
   all_goals try exact absurd (by assumption) ht
   exact WQ_cut () ⟨rfl,rfl,rfl,trivial⟩ ⟨hp,⟨_,rfl,e4⟩,hm,hS⟩
 focus repeat'(first|refine W1 ?_|omega|refine VG ?_ ?_<;>intro hg|refine VC ?_ ?_<;>intro hc)
 exact WQ_cut () ⟨rfl,rfl,rfl,trivial⟩ ⟨hp,⟨_,rfl,e4⟩,hm,hS⟩
 clear hp e4 hm hS
 rintro _ w2 ⟨hp,⟨cs4,hc4,e4⟩,hm,hS⟩
 have l4:=e4.lt
 have hX2:∀ c∈b4 :: X,c<w2.heap.size:=fun c hc=>by
  rcases List.mem_cons.1 hc with rfl|h
  exact l4
  exact Nat.lt_of_lt_of_le (hX c h) hS.size
 refine W ?_
 cases hE:exprO l f (.expr (k+1)) i o with
 | none=>rw [hE] at h;simp at h
 | some r1=>
   rw [hE] at h
   have hsub:=IH f (Nat.le_refl _) l hL m (.expr (k+1)) i o r1 hE (b4 :: X) b tv w2 hb1 (List.mem_cons_of_mem _ hbX) hX2 hm hp (by omega) (by omega)
   cases r1 with
   | err a c=>
     simp only [Option.some.injEq] at h
     subst h
     refine WL_pcall rfl (evs2 rfl rfl) (PC.falls hsub rfl (hS.mono (by simp))) rfl ?_
     intro w3 hw3
     repeat'(first|refine WQ_then_panic ?_|refine WQ_block_panic ?_)
     refine WQ_panic ?_
     exact PC.err hw3
   | ok x i1 o1=>
     simp only at h
     refine CL rfl (evs2 rfl rfl) rfl (PC.goes hsub rfl) ?_
     rintro _ w3 ⟨⟨kx,rfl,hx⟩,hp3,hT⟩
     replace e4:=e4.ext hT (by simpa using n4)
     replace hm:=cell_up hm hb1 hT
     have hX3:∀ c∈b4 :: X,c<w3.heap.size:=fun c hc=>Nat.lt_of_lt_of_le (hX2 c hc) hT.size
     have hS3:=(hS.mono (S':=[b]) (by simp)).trans hT
     clear hT hS hp hX2 hsub
     refine WL_eff OE_alloc rfl ?_
     rintro _ w4 ⟨b7,rfl,hb7,e7,hT⟩
     have n74:b7≠b4:=by have:=e4.lt;omega
     have n7b:b7≠b:=by have:=hp3.lt;omega
     have n71:b7≠2:=by have:=block_lt_of_cell hm;simp at this;omega
     refine WL_eff0 (OE_storeA (us:=ndC x kx) rfl rfl rfl rfl (ndC_one hx) e7 rfl) ?_
     rintro _ w5 ⟨hT2,e7'⟩
     replace hT:=hT.own hT2 (fun c hc=>.inr (by simp at hc;omega))
     clear hT2 e7
     have hb7w:w.heap.size≤b7:=Nat.le_trans hS3.size hb7
     have hb4w:w.heap.size≤b4:=hb4
     replace e4:=e4.up hT;replace hp3:=hp3.up hT
     replace hm:=hT.cell (by simp) hm
     replace hx:SlV (b7 :: b4 :: X) w5 kx x.kids:=hx.ext hT (by simp) (fun c hc=>by
      rcases List.mem_cons.1 hc with rfl|h
      exact .inr hb7
      exact .inl h)
     have hS5:=hS3.trans (hT.mono (by simp))
     clear hT hS3
     have l7:=e7'.lt
     have hX5:∀ c∈b7 :: b4 :: X,c<w5.heap.size:=fun c hc=>by
      rcases List.mem_cons.1 hc with rfl|h
      exact l7
      have:=hX3 c h;omega
     refine W ?_
     clear hX3 hE
     refine WC_loop (σ:=Nat×Nd×Value×Nat×Nat) (fun q=>[(0,.pointer (some ⟨b,0,none⟩)),(1,.int .i64 (k:Int)),(4,.pointer (some ⟨b4,0,none⟩)),(7,.pointer (some ⟨b7,0,none⟩))])
      (fun q w'=>exprO l q.1 (.loop k q.2.1) q.2.2.2.1 q.2.2.2.2=some r∧q.1≤f∧Pd w' b tv l q.2.2.2.1 q.2.2.2.2∧Blk w' b7 27 (ndC q.2.1 q.2.2.1)∧SlV (b7 :: b4 :: X) w' q.2.2.1 q.2.1.kids∧(∃ cs:List Value,cs.length=4∧Blk w' b4 27 cs)∧w'.cell? ⟨2,0,none⟩=some (.int .i64 m)∧Stp [b] w w'∧w5.heap.size≤w'.heap.size)
      (fun q=>q.1) (f,x,kx,i1,o1) ⟨rfl,rfl,rfl,rfl,trivial⟩ ⟨h,Nat.le_refl _,hp3,e7',hx,⟨cs4,hc4,e4⟩,hm,hS5,Nat.le_refl _⟩ ?_
     clear h hp3 e7' hx e4 hm hS5 l4 l7 hc4 cs4
     rintro ⟨f1,y,ky,i2,o2⟩ w6 ⟨h,hf1,hp,e7,hy,⟨cs4,hc4,e4⟩,hm,hS,h56⟩
     dsimp only at h hf1 hp e7 hy ⊢
     match cs4,hc4 with
     | [q0,q1,q2,q3],_=>
     cases f1 with
     | zero=>simp [exprO] at h
     | succ f1=>
     rw [exprO] at h
     refine W ?_
     refine CL rfl (evs1 rfl) rfl (next_any b tv l i2 o2 _ hp) ?_
     rintro _ w7 ⟨rfl,hT⟩
     replace hp:=hp.up hT;replace e4:=e4.up hT;replace e7:=e7.up hT;replace hy:=hy.up hT
     replace hm:=hT.cell (by simp) hm
     replace hS:=hS.trans (hT.mono (by simp))
     replace h56:=Nat.le_trans h56 hT.size
     clear hT
     refine W ?_
     refine CL rfl (evs1 rfl) rfl (levelOf_any _ _) ?_
     rintro _ _ ⟨rfl,rfl⟩
     by_cases hlv:levelO (cur l i2).text=k
     · rw [if_pos hlv] at h
       have hi1:=hL.end_of hp.i_lt (levelO_nil hlv hk1)
       repeat'(first|refine W1 ?_|omega|refine VG ?_ ?_<;>intro hg|refine VC ?_ ?_<;>intro hc)
       refine CL rfl (evs1 rfl) rfl (next_any b tv l i2 o2 _ hp) ?_
       rintro _ w8 ⟨rfl,hT⟩
       replace hp:=hp.up hT;replace e4:=e4.up hT;replace e7:=e7.up hT;replace hy:=hy.up hT
       replace hm:=hT.cell (by simp) hm
       replace hS:=hS.trans (hT.mono (by simp))
       replace h56:=Nat.le_trans h56 hT.size
       clear hT
       obtain ⟨hpb,hps,hpi,hpl,hpo⟩:=id hp
       refine W ?_
       refine WL_eff0 (OE_store1 (u:=.int .i64 ((i2+1:Nat):Int)) rfl (by show some _=some _;simp) rfl rfl hpb (by simp)) ?_
       rintro _ w9 ⟨hT,hpb9⟩
       replace hps:=hps.ext (X':=[b]) hT (fun c hc=>hc) (fun c hc=>.inl hc)
       replace e4:=e4.ext hT (by simpa using n4)
       replace e7:=e7.ext hT (by simpa using n7b)
       replace hy:=hy.ext (X':=b7 :: b4 :: X) hT (fun c hc=>by simp at hc;subst hc;simp [hbX]) (fun c hc=>.inl hc)
       replace hm:=cell_up hm hb1 hT
       replace hS:=hS.trans hT
       replace h56:=Nat.le_trans h56 hT.size
       replace hp:Pd w9 b tv l (i2+1) o2:=⟨hpb9,hps,hi1,hpl,hpo⟩
       clear hT hpb9 hps hpi hpl hpo hpb
       refine W ?_
       have hX9:∀ c∈b7 :: b4 :: X,c<w9.heap.size:=fun c hc=>Nat.lt_of_lt_of_le (hX5 c hc) h56
       cases hE:exprO l f1 (.expr (k+1)) (i2+1) o2 with
       | none=>rw [hE] at h;simp at h
       | some r2=>
         rw [hE] at h
         cases r2 with
         | err a c=>
           simp only [Option.some.injEq] at h
           subst h
           refine WC_drawnq 9 ([b]) [8] [(0,0),(1,1),(2,0),(3,0),(4,0),(5,2),(6,2),(7,0),(8,2)] rfl mixed (by kernel_rfl) (by kernel_rfl) (by kernel_rfl) (fun w1 hS1=>?_)
           replace hp:=hp.up hS1;replace e7:=e7.up hS1
           replace hm:=hS1.cell (by simp) hm
           replace hS:=hS.trans (hS1.mono (by simp))
           have hsub:=IH f1 (by omega) l hL m (.expr (k+1)) (i2+1) o2 _ hE (b7 :: b4 :: X) b tv w1 hb1 (by simp [hbX]) (fun c hc=>Nat.lt_of_lt_of_le (hX9 c hc) hS1.size) hm hp (by omega) (by omega)
           refine WDq_free rfl trivial (fun _=>PR_move rfl) rfl ?_
           refine WDq_read rfl trivial (fun w' hw=>PR_load_blkA rfl rfl (e7.ext hw (by simpa using n7b)) rfl) rfl ?_
           refine WDq_free rfl trivial (fun _=>PR_move rfl) rfl ?_
           refine WDq_free rfl trivial (fun _=>PR_move rfl) rfl ?_
           refine WDq_free rfl trivial (fun _=>PR_add rfl rfl (by unfold I64;omega)) rfl ?_
           refine WDq_pcall rfl trivial rfl (evs2 rfl rfl) (PC.falls hsub rfl hS) rfl ?_
           intro wz hwz
           repeat'(first|refine WQ_then_panic ?_|refine WQ_block_panic ?_)
           refine WQ_panic ?_
           exact PC.err hwz
         | ok z i3 o3=>
           simp only at h
           refine WC_drawn 9 ([b]) [8] [(0,0),(1,1),(2,0),(3,0),(4,0),(5,2),(6,2),(7,0),(8,2)] rfl mixed (by kernel_rfl) (by kernel_rfl) (by kernel_rfl) (fun w1 hS1=>?_)
           replace hp:=hp.up hS1;replace e7:=e7.up hS1;replace hy:=hy.up hS1;replace e4:=e4.up hS1
           replace hm:=hS1.cell (by simp) hm
           replace hS:=hS.trans (hS1.mono (by simp))
           have h5x:=Nat.le_trans h56 hS1.size
           have hX1:∀ c∈b7 :: b4 :: X,c<w1.heap.size:=fun c hc=>Nat.lt_of_lt_of_le (hX9 c hc) hS1.size
           have hsub:=IH f1 (by omega) l hL m (.expr (k+1)) (i2+1) o2 _ hE (b7 :: b4 :: X) b tv w1 hb1 (by simp [hbX]) hX1 hm hp (by omega) (by omega)
           clear hS1 hX9 h56
           refine D ?_
           refine WD_eff rfl trivial (OE_call rfl (evs2 rfl rfl) (PC.goes hsub rfl)) (fun _ _ h=>h.2.2) rfl ?_
           rintro _ w10 ⟨⟨kz,rfl,hz⟩,hp10,hT⟩
           replace e4:=e4.ext hT (by simpa using n4)
           replace e7:=e7.ext hT (by simpa using n7b)
           replace hy:=hy.ext (X':=b7 :: b4 :: X) hT (fun c hc=>by simp at hc;subst hc;simp [hbX]) (fun c hc=>.inl hc)
           replace hm:=cell_up hm hb1 hT
           replace hS:=hS.trans hT
           have h510:=Nat.le_trans h5x hT.size
           have hX10:∀ c∈b7 :: b4 :: X,c<w10.heap.size:=fun c hc=>Nat.lt_of_lt_of_le (hX1 c hc) hT.size
           clear hT hp hX1 h5x hsub
           obtain ⟨py,cy,rfl,-⟩:=id hy
           obtain ⟨pz,cz,rfl,-⟩:=id hz
           refine WD_eff rfl trivial (OE_buildSlice (vs:=[(0,.agg (ndC y (.slice py y.kids.length cy)).toArray),(1,.agg (ndC z (.slice pz z.kids.length cz)).toArray)]) rfl (buildSN2 _ _ _ _ _ _ _ _ _ _ _ _)) (fun _ _ h=>(NewSl.stp h).mono (by simp)) rfl ?_
           intro bv w11 hN
           have hbv:SlV (b7 :: b4 :: X) w11 bv [y,z]:=hN.slvG (css:=[ndC y _,ndC z _]) hX10 rfl rfl rfl (reps2 hy hz) (by simp [maxLen])
           obtain ⟨bn,rfl,hbn,-,hT⟩:=id hN
           replace hp10:=hp10.up hT;replace e4:=e4.up hT;replace e7:=e7.up hT
           replace hm:=hT.cell (by simp) hm
           replace hS:=hS.trans (hT.mono (by simp))
           have h511:=Nat.le_trans h510 hT.size
           clear hT hN hX10 h510 hy hz
           refine WF_build rfl trivial (vs:=[(0,.int .i64 6),(2,str (cur l i2).text),(3,.slice (some ⟨bn,0,none⟩) 2 2)]) rfl (buildB _ _ _ _) rfl ?_
           refine WD_late0 rfl trivial (OE_storeA (us:=ndC (.mk 6 0 (cur l i2).text [y,z]) (.slice (some ⟨bn,0,none⟩) 2 2)) rfl rfl rfl rfl (ndC_one hbv) e7 rfl) rfl ?_
           rintro _ w12 ⟨hT,e7'⟩
           have hb7x:∀ S:List Nat,S=[b7]→∀ c∈S,w.heap.size≤c:=fun S hS c hc=>by subst hS;simp at hc;subst hc;exact hb7w
           replace e4:=e4.ext hT (by simpa using n74.symm)
           replace hp10:Pd w12 b tv l i3 o3:=by
            obtain ⟨g1,g2,g3,g4,g5⟩:=hp10
            have hSx:=hS.own hT (fun c hc=>.inr (hb7x _ rfl c hc))
            exact ⟨g1.ext hT (by simpa using n7b.symm),hs0.ext hSx (fun c hc=>hc) (fun c hc=>.inl hc),g3,g4,g5⟩
           replace hbv:=hbv.ext (X':=b7 :: b4 :: X) hT (fun c hc=>by simp at hc;simp [hc]) (fun c hc=>.inl hc)
           replace hm:=hT.cell (by simpa using n71.symm) hm
           replace hS:=hS.own hT (fun c hc=>.inr (hb7x _ rfl c hc))
           have h512:=Nat.le_trans h511 hT.size
           clear hT h511
           refine D ?_
           by_cases k5:k=5
           subst k5
           refine W ?_
           refine CL rfl (evs1 rfl) rfl (next_any b tv l i3 o3 _ hp10) ?_
           rintro _ w13 ⟨rfl,hT⟩
           replace hp10:=hp10.up hT;replace e4:=e4.up hT;replace e7':=e7'.up hT;replace hbv:=hbv.up hT
           replace hm:=hT.cell (by simp) hm
           replace hS:=hS.trans (hT.mono (by simp))
           replace h512:=Nat.le_trans h512 hT.size
           clear hT
           refine W ?_
           refine CL rfl (evs2 rfl rfl) rfl (within_unit (cur l i3).text m _ hm (hL.tl i3) (hL.sp i3)) ?_
           rintro _ w14 ⟨rfl,hT⟩
           replace hp10:=hp10.up hT;replace e4:=e4.up hT;replace e7':=e7'.up hT;replace hbv:=hbv.up hT
           replace hm:=hT.cell (by simp) hm
           replace hS:=hS.trans (hT.mono (by simp))
           replace h512:=Nat.le_trans h512 hT.size
           clear hT
           by_cases hu:(cur l i3).text∈unitW
           rw [if_pos ⟨rfl,hu⟩] at h
           rw [decide_eq_true hu]
           have hi3:=hL.end_of hp10.i_lt (fun e=>unitW_nil (e ▸ hu))
           refine W ?_
           refine CL rfl (evs1 rfl) rfl (next_any b tv l i3 o3 _ hp10) ?_
           rintro _ w15 ⟨rfl,hT⟩
           replace hp10:=hp10.up hT;replace e4:=e4.up hT;replace e7':=e7'.up hT;replace hbv:=hbv.up hT
           replace hm:=hT.cell (by simp) hm
           replace hS:=hS.trans (hT.mono (by simp))
           replace h512:=Nat.le_trans h512 hT.size
           clear hT
           refine W ?_
           refine WL_eff0 (OE_store1 (u:=.int .i64 7) rfl rfl rfl rfl e7' (by simp)) ?_
           rintro _ w16 ⟨hT,e7''⟩
           refine W ?_
           refine WL_eff0 (OE_store1 (u:=str (cur l i3).text) rfl rfl rfl rfl e7'' (by simp)) ?_
           rintro _ w17 ⟨hT',e7q⟩
           replace hT:=hT.trans hT'
           replace e7q:Blk w17 b7 27 (ndC (.mk 7 0 (cur l i3).text [y,z]) (.slice (some ⟨bn,0,none⟩) 2 2)):=e7q
           clear hT' e7' e7''
           replace e4:=e4.ext hT (by simpa using n74.symm)
           replace hp10:Pd w17 b tv l i3 o3:=by
            obtain ⟨g1,g2,g3,g4,g5⟩:=hp10
            have hSx:=hS.own hT (fun c hc=>.inr (hb7x _ rfl c hc))
            exact ⟨g1.ext hT (by simpa using n7b.symm),hs0.ext hSx (fun c hc=>hc) (fun c hc=>.inl hc),g3,g4,g5⟩
           replace hbv:=hbv.ext (X':=b7 :: b4 :: X) hT (fun c hc=>by simp at hc;simp [hc]) (fun c hc=>.inl hc)
           replace hm:=hT.cell (by simpa using n71.symm) hm
           replace hS:=hS.own hT (fun c hc=>.inr (hb7x _ rfl c hc))
           replace h512:=Nat.le_trans h512 hT.size
           clear hT
           refine W ?_
           refine WC_cutQ (σ:=Unit) (fun _=>[(0,.pointer (some ⟨b,0,none⟩)),(1,.int .i64 (5:Int)),(4,.pointer (some ⟨b4,0,none⟩)),(7,.pointer (some ⟨b7,0,none⟩))])
            (fun _ w'=>Blk w' b7 27 (ndC (.mk (if (cur l i2).text=[45] then 8 else 7) 0 (cur l i3).text [y,z]) (.slice (some ⟨bn,0,none⟩) 2 2))∧Stp [b7] w17 w') ?_ ?_
           by_cases hm8:(cur l i2).text=[45]
           rw [if_pos hm8]
           focus repeat'(first|refine W1 ?_|omega|refine VG ?_ ?_<;>intro hg|refine VC ?_ ?_<;>intro hc)
           refine WL_eff0 (OE_store1 (u:=.int .i64 8) rfl rfl rfl rfl e7q (by simp)) ?_
           rintro _ w18 ⟨hT,e8⟩
           refine W ?_
           exact WQ_cut () ⟨rfl,rfl,rfl,rfl,trivial⟩ ⟨e8,hT⟩
           exact absurd hm8 (by assumption)
           rw [if_neg hm8]
           focus repeat'(first|refine W1 ?_|omega|refine VG ?_ ?_<;>intro hg|refine VC ?_ ?_<;>intro hc)
           exact absurd (by assumption) hm8
           exact WQ_cut () ⟨rfl,rfl,rfl,rfl,trivial⟩ ⟨e7q,Stp.refl _ _⟩
           rintro _ w18 ⟨e8,hT⟩
           replace e4:=e4.ext hT (by simpa using n74.symm)
           replace hp10:Pd w18 b tv l i3 o3:=by
            obtain ⟨g1,g2,g3,g4,g5⟩:=hp10
            have hSx:=hS.own hT (fun c hc=>.inr (hb7x _ rfl c hc))
            exact ⟨g1.ext hT (by simpa using n7b.symm),hs0.ext hSx (fun c hc=>hc) (fun c hc=>.inl hc),g3,g4,g5⟩
           replace hbv:=hbv.ext (X':=b7 :: b4 :: X) hT (fun c hc=>by simp at hc;simp [hc]) (fun c hc=>.inl hc)
           replace hm:=hT.cell (by simpa using n71.symm) hm
           replace hS:=hS.own hT (fun c hc=>.inr (hb7x _ rfl c hc))
           replace h512:=Nat.le_trans h512 hT.size
           clear hT e7q
           obtain ⟨hpb,hps,hpi,hpl,hpo⟩:=id hp10
           refine W ?_
           refine WL_eff0 (OE_store1 (u:=.int .i64 ((i3+1:Nat):Int)) rfl (by show some _=some _;simp) rfl rfl hpb (by simp)) ?_
           rintro _ w19 ⟨hT,hpb9⟩
           replace hps:=hps.ext (X':=[b]) hT (fun c hc=>hc) (fun c hc=>.inl hc)
           replace e4:=e4.ext hT (by simpa using n4)
           replace e8:=e8.ext hT (by simpa using n7b)
           replace hbv:=hbv.ext (X':=b7 :: b4 :: X) hT (fun c hc=>by simp at hc;subst hc;simp [hbX]) (fun c hc=>.inl hc)
           replace hm:=cell_up hm hb1 hT
           replace hS:=hS.trans hT
           replace h512:=Nat.le_trans h512 hT.size
           refine W ?_
           exact WQ_loop (f1,.mk (if (cur l i2).text=[45] then 8 else 7) 0 (cur l i3).text [y,z],.slice (some ⟨bn,0,none⟩) 2 2,i3+1,o3) ⟨rfl,rfl,rfl,rfl,trivial⟩ ⟨h,by omega,⟨hpb9,hps,hi3,hpl,hpo⟩,e8,hbv,⟨_,rfl,e4⟩,hm,hS,h512⟩ (by omega)
           rw [if_neg (fun h=>hu h.2),if_neg (by omega)] at h
           rw [decide_eq_false hu]
           refine W ?_
           exact WQ_loop (f1,.mk 6 0 (cur l i2).text [y,z],.slice (some ⟨bn,0,none⟩) 2 2,i3,o3) ⟨rfl,rfl,rfl,rfl,trivial⟩ ⟨h,by omega,hp10,e7',hbv,⟨_,rfl,e4⟩,hm,hS,h512⟩ (by omega)
           rw [if_neg (fun h=>k5 h.1)] at h
           by_cases k4:k=4
           rw [if_pos k4] at h
           subst k4
           simp only [Option.some.injEq] at h
           subst h
           have e7:=e7'
           replace hp:=hp10
           skip
           refine W ?_
           refine WL_eff0 (OE_storeA (us:=ndC (.mk 6 0 (cur l i2).text [y,z]) (.slice (some ⟨bn,0,none⟩) 2 2)) rfl rfl rfl rfl (ndC_one hbv) e4 rfl) ?_
           rintro _ wz ⟨hT,e4'⟩
           refine W ?_
           refine WQ_retc rfl rfl rfl e4' rfl ?_
           obtain ⟨hpb,hps,hpi,hpl,hpo⟩:=id hp
           have hSx:=hS.own hT (fun c hc=>by simp at hc;subst hc;exact .inr hb4w)
           refine PC.ok ⟨_,rfl,?_⟩ ⟨hpb.ext hT (by simpa using n4.symm),hs0.ext hSx (fun c hc=>hc) (fun c hc=>.inl hc),hpi,hpl,hpo⟩ hSx
           exact (hbv.ext (X':=b7 :: b4 :: X) hT (fun c hc=>by simp at hc;simp [hc]) (fun c hc=>.inl hc)).wk (fun c hc=>by simp [hc])
           rw [if_neg k4] at h
           focus repeat'(first|refine W1 ?_|omega|refine VG ?_ ?_<;>intro hg|refine VC ?_ ?_<;>intro hc)
           exact WQ_loop (f1,.mk 6 0 (cur l i2).text [y,z],.slice (some ⟨bn,0,none⟩) 2 2,i3,o3) ⟨rfl,rfl,rfl,rfl,trivial⟩ ⟨h,by omega,hp10,e7',hbv,⟨_,rfl,e4⟩,hm,hS,h512⟩ (by omega)
     rw [if_neg hlv] at h
     simp only [Option.some.injEq] at h
     subst h
     focus repeat'(first|refine W1 ?_|omega|refine VG ?_ ?_<;>intro hg|refine VC ?_ ?_<;>intro hc)
     skip
     refine W ?_
     refine WL_eff0 (OE_storeA (us:=ndC y ky) rfl rfl rfl rfl (ndC_one hy) e4 rfl) ?_
     rintro _ wz ⟨hT,e4'⟩
     refine W ?_
     refine WQ_retc rfl rfl rfl e4' rfl ?_
     obtain ⟨hpb,hps,hpi,hpl,hpo⟩:=id hp
     have hSx:=hS.own hT (fun c hc=>by simp at hc;subst hc;exact .inr hb4w)
     refine PC.ok ⟨_,rfl,?_⟩ ⟨hpb.ext hT (by simpa using n4.symm),hs0.ext hSx (fun c hc=>hc) (fun c hc=>.inl hc),hpi,hpl,hpo⟩ hSx
     exact (hy.ext (X':=b7 :: b4 :: X) hT (fun c hc=>by simp at hc;simp [hc]) (fun c hc=>.inl hc)).wk (fun c hc=>by simp [hc])
end Go.Proofs.YtjdjdoefppebkaaGreatDoor
namespace Go.Eng
open Go Go.RowKit Go.Proofs
theorem flatten_lenG {k:Nat}:∀ (l:List (List Value)),(∀ c∈l,c.length=k)→l.flatten.length=l.length * k
 | [],_=>by simp
 | c :: r, h => by
   simp only [List.flatten_cons,List.length_append,List.length_cons,Nat.succ_mul]
   rw [flatten_lenG r (fun c hc=>h c (by simp [hc])),h c (by simp)]
   omega
theorem NewSl.rowG {α:Type} [GoRep α] {w w':World} {X:List Nat} {T len base:Nat} {cs:List Value} {v:Value} {ys:List α} {css:List (List Value)} (h:NewSl w T len cs v w') (hX:∀ b∈X,b<w.heap.size) (hbase:base≤w.heap.size) (hl:len=ys.length) (hcl:css.length=ys.length)
 (hc:cs=css.flatten) (hr:∀ i (hi:i<ys.length) (hi':i<css.length),GoRep.rep X w ys[i] css[i]) (hm:ys.length≤maxLen):Row X w' base T v ys:=by
 obtain ⟨b,rfl,hb,hblk,hS⟩:=h
 subst hl
 subst hc
 have hk:∀ c∈css,c.length=GoRep.k α:=by
  intro c hc
  obtain ⟨i,hi,rfl⟩:=List.getElem_of_mem hc
  exact GoRep.len (hr i (by omega) hi)
 have hfl:css.flatten.length=ys.length * GoRep.k α:=by rw [flatten_lenG css hk,hcl]
 refine ⟨css,hcl,fun i hi hi'=>GoRep.ext (hr i hi hi') hS (by simp) (fun c hc=>?_),hfl,.inr ⟨b,ys.length,css.flatten.toArray,rfl,by omega,hblk,Nat.le_refl _,hm,by rw [List.size_toArray];exact hfl,?_⟩⟩
 rcases List.mem_append.1 hc with hc|hc
 simp only [ob,List.mem_singleton] at hc
 exact .inr (by omega)
 exact .inl hc
 exact List.take_of_length_le (by show css.flatten.length≤_;rw [hfl];exact Nat.le_refl _)
theorem Row.slvN {α:Type} [GoRep α] {X:List Nat} {w:World} {base T:Nat} {v:Value} {xs:List α} (h:Row X w base T v xs) (hX:∀ b∈X,b∉ob v):SlV X w v xs:=by
 obtain ⟨css,hl,hr,ho⟩:=h
 have hk:∀ c∈css,c.length=GoRep.k α:=by
  intro c hc
  obtain ⟨i,hi,rfl⟩:=List.getElem_of_mem hc
  exact GoRep.len (hr i (by omega) hi)
 rcases ho.2 with ⟨rfl,hn⟩|⟨q,cap,cur,rfl,hb,hg,hnc,hcm,hcs,ht⟩
 exact ⟨none,0,by rw [hn],by omega,by simp [maxLen],fun _=>rfl,fun i hi=>by omega⟩
 refine ⟨some ⟨q,0,none⟩,cap,rfl,hnc,hcm,fun h=>by simp at h,fun i hi=>?_⟩
 refine ⟨q,0,css[i]'(by omega),rfl,(Array.getElem?_eq_some_iff.1 hg).1,fun hx=>hX q hx (by simp [ob]),?_,fun j u hu=>?_⟩
 exact GoRep.ext (hr i hi (by omega)) (Stp.refl [] w) (by simp) (fun b hb=>.inl (by simp [hb]))
 have h1:=flatten_at css hk i (by omega) j u hu
 rw [← ht,List.getElem?_take] at h1
 split at h1
 have h2:cur[i * GoRep.k α+j]?=some u:=by simpa using h1
 rw [Nat.zero_add,cell_of_row w q _ cur T (0,0) hg]
 exact h2
 cases h1
end Go.Eng
namespace Go.Proofs.YtjdjdoefppebkaaGreatDoor
open Go Go.Eng Go.RowKit Go.Proofs
theorem nilSlvN {α:Type} [GoRep α] (X:List Nat) (w:World):SlV (α:=α) X w (.slice none 0 0) []:=⟨none,0,rfl,Nat.le_refl _,by simp [maxLen],fun _=>rfl,fun i hi=>absurd hi (Nat.not_lt_zero _)⟩
theorem buildC (s:Str) (w:World):(Instr.build 27 #[(0,.int .i64 10),(2,str s)]).run Tryz.prog w=.ok (.agg #[.int .i64 10,.int .i64 0,str s,.slice none 0 0]) w:=by kernel_rfl
theorem buildI9 (p:Option Addr) (l c:Nat) (w:World):(Instr.build 27 #[(0,.int .i64 9),(3,.slice p l c)]).run Tryz.prog w=.ok (.agg #[.int .i64 9,.int .i64 0,str [],.slice p l c]) w:=by kernel_rfl
theorem buildTE (a b:Str) (w:World):(Instr.buildSlice 119 2 #[(0,str a),(1,str b)]).run Tryz.prog w=.ok (.slice (some ⟨w.heap.size,0,none⟩) 2 2) (w.alloc (.cells #[str a,str b] 9)):=by kernel_rfl
theorem funcW_nil:([]:Str)∉funcW:=by decide
theorem argsO_le (s:Str):argsO s≤2:=by unfold argsO;split<;>omega
theorem Blk.slv2 {w:World} {bw T:Nat} {a c:Str} (h:Blk w bw T [str a,str c]):SlV (α:=Str) [] w (.slice (some ⟨bw,0,none⟩) 2 2) [a,c]:=by
 refine ⟨some ⟨bw,0,none⟩,2,rfl,Nat.le_refl _,by simp [maxLen],fun h=>by simp at h,fun i hi=>⟨bw,0,[str ([a,c][i])],rfl,h.lt,by simp,rfl,fun j u hu=>h.cell ?_⟩⟩
 have hi2:i<2:=hi
 rcases (by omega:i=0∨i=1) with rfl|rfl
 · cases j with
   | zero=>exact hu
   | succ j=>simp at hu
 · cases j with
   | zero=>exact hu
   | succ j=>simp at hu
theorem row_cells {α:Type} [GoRep α] {X:List Nat} {w:World} {base T:Nat} {v:Value} {xs:List α} (h:Row X w base T v xs):v.cells.toList=[v]:=by
 obtain ⟨css,_,_,ho⟩:=h
 rcases ho.2 with ⟨rfl,hn⟩|⟨q,cap,cur,rfl,_⟩<;>rfl
theorem row_one {α:Type} [GoRep α] {X:List Nat} {w:World} {base T:Nat} {v:Value} {xs:List α} (h:Row X w base T v xs):v.oneCell'=true:=by
 obtain ⟨css,_,_,ho⟩:=h
 rcases ho.2 with ⟨rfl,hn⟩|⟨q,cap,cur,rfl,_⟩<;>rfl
set_option maxHeartbeats 2000000 in
theorem callE (f:Nat) (IH:ExprC f) (l:List Tkn) (hL:Toks l) (m:Int) (i o:Nat) (r:Out Nd) (hf:(cur l i).text∈funcW)
 (h : (match tokenO l 1 i o with
   | .err a c=>some (.err a c)
   | .ok _ i1 o1=>
     match opensO l [40] i1 o1 with
     | .err a c=>some (.err a c)
     | .ok _ i' o'=>
       match manyO (exprO l f (.expr 1)) (commaO l) (argsO (cur l i).text) 0 [] i' o' with
       | none=>none
       | some (.err a c)=>some (.err a c)
       | some (.ok ks i3 o3)=>
         match closesO l [41] i3 o3 with
         | .err a c=>some (.err a c)
         | .ok _ i4 o4=>some (.ok (.mk 10 0 (cur l i).text ks) i4 o4))=some r) (X:List Nat) (b:Nat) (tv:Value) (w:World) (hb1:b≠2) (hbX:b∈X) (hX:∀ c∈X,c<w.heap.size) (hm:w.cell? ⟨2,0,none⟩=some (.int .i64 m)) (hp:Pd w b tv l i o) :
 Calls Tryz.prog 275 #[.pointer (some ⟨b,0,none⟩)] w (PC b w tv l r (fun x v w'=>NdV X w' v x)):=by
 have hs0:=hp.2.1
 have hm0:=hm
 have hbw:=hp.lt
 have hargs:=argsO_le (cur l i).text
 have htx:=hL.tl i
 refine calls_of_WC1 (n:=32) Tryz.func275 rfl rfl rfl ?_
 refine W ?_
 refine WL_eff OE_alloc rfl ?_
 rintro _ w1 ⟨b2,rfl,hb2,e2,hS⟩
 have n2b:b2≠b:=by have:=hp.lt;omega
 have hb2w:w.heap.size≤b2:=hb2
 replace hm:=hS.cell (by simp) hm
 replace hp:=hp.up hS
 refine W ?_
 cases hK:tokenO l 1 i o with
 | err a c=>
   rw [hK] at h
   simp only [Option.some.injEq] at h
   subst h
   refine WL_pcall rfl (evs2 rfl rfl) (PC.falls (token_any b tv l hL 1 (by decide) i o _ hp) hK (hS.mono (by simp))) rfl ?_
   intro wz hwz
   repeat'(first|refine WQ_then_panic ?_|refine WQ_block_panic ?_)
   refine WQ_panic ?_
   exact PC.err hwz
 | ok t i1 o1=>
   obtain ⟨ho1,hi1,ht,hkind⟩:=tokenO_open hK
   subst o1;subst i1;subst t
   rw [hK] at h
   simp only at h
   refine CL rfl (evs2 rfl rfl) rfl (PC.goes (token_any b tv l hL 1 (by decide) i o _ hp) hK) ?_
   rintro _ w2 ⟨rfl,hp2,hT⟩
   replace e2:=e2.ext hT (by simpa using n2b)
   replace hm:=cell_up hm hb1 hT
   replace hS:=(hS.mono (S':=[b]) (by simp)).trans hT
   clear hT hp
   refine WL_pure (PR_field rfl (tknText _)) rfl ?_
   apply WL_build (vs:=[(0,.int .i64 10),(2,str (cur l i).text)]) rfl (buildC _) rfl
   refine WL_eff OE_alloc rfl ?_
   rintro _ w3 ⟨b3,rfl,hb3,e3,hT⟩
   have n23:b2≠b3:=by have:=e2.lt;omega
   have n3b:b3≠b:=by have:=hp2.lt;omega
   have n31:b3≠2:=by have:=block_lt_of_cell hm;simp at this;omega
   have hb3w:w.heap.size≤b3:=Nat.le_trans hS.size hb3
   refine WL_eff0 (OE_storeA (us:=ndC (.mk 10 0 (cur l i).text []) (.slice none 0 0)) rfl rfl rfl rfl (ndC_one (x:=.mk 10 0 (cur l i).text []) (nilSlvN [] w)) e3 rfl) ?_
   rintro _ w4 ⟨hT2,e3'⟩
   replace hT:=hT.own hT2 (fun c hc=>.inr (by simp at hc;omega))
   clear hT2 e3
   replace hp2:=hp2.up hT;replace e2:=e2.up hT
   replace hm:=hT.cell (by simp) hm
   replace hS:=hS.trans (hT.mono (by simp))
   clear hT
   refine W ?_
   cases hO:opensO l [40] (i+1) o with
   | err a c=>
     rw [hO] at h
     simp only [Option.some.injEq] at h
     subst h
     refine WL_pcall rfl (evs2 rfl rfl) (PC.falls (opens_any b tv l hL [40] (by decide) _ _ _ hp2) hO hS) rfl ?_
     intro wz hwz
     repeat'(first|refine WQ_then_panic ?_|refine WQ_block_panic ?_)
     refine WQ_panic ?_
     exact PC.err hwz
   | ok u iA oA=>
     obtain ⟨hoo,hoi,hopt⟩:=opensO_open hO
     subst oA;subst iA
     rw [hO] at h
     simp only at h
     refine CL rfl (evs2 rfl rfl) rfl (PC.goes (opens_any b tv l hL [40] (by decide) _ _ _ hp2) hO) ?_
     rintro _ wB ⟨rfl,hp,hT⟩
     replace e2:=e2.ext hT (by simpa using n2b)
     replace e3:=e3'.ext hT (by simpa using n3b)
     replace hm:=cell_up hm hb1 hT
     replace hS:=hS.trans hT
     clear hT hp2 e3'
     have l2:=e2.lt
     have l3:=e3.lt
     have hwB:wB.heap.size≤wB.heap.size:=Nat.le_refl _
     have hwBw:=hS.size
     have hXb:∀ c∈b3 :: b2 :: X,c<wB.heap.size:=fun c hc=>by
      rcases List.mem_cons.1 hc with rfl|hc
      exact l3
      rcases List.mem_cons.1 hc with rfl|hc
      exact l2
      have:=hX c hc;have:=hS.size;omega
     refine W ?_
     refine CL rfl (evs1 rfl) rfl (arguments_any _ _) ?_
     rintro _ wB2 ⟨rfl,hww⟩
     subst wB2
     refine W ?_
     cases hM:manyO (exprO l f (.expr 1)) (commaO l) (argsO (cur l i).text) 0 [] (i+1+1) (o+1) with
     | none=>rw [hM] at h;simp at h
     | some r3=>
     rw [hM] at h
     refine WC_loop (σ:=Nat×List Nd×Value×Nat×Nat) (fun q=>[(0,.pointer (some ⟨b,0,none⟩)),(2,.pointer (some ⟨b2,0,none⟩)),(3,.pointer (some ⟨b3,0,none⟩)),(13,.int .i64 (argsO (cur l i).text:Int)),(14,.int .i64 (q.1:Int))])
      (fun q w'=>manyO (exprO l f (.expr 1)) (commaO l) (argsO (cur l i).text - q.1) q.1 q.2.1 q.2.2.2.1 q.2.2.2.2=some r3∧q.1≤argsO (cur l i).text∧q.2.1.length=q.1∧q.2.2.2.2=o+1∧Pd w' b tv l q.2.2.2.1 q.2.2.2.2∧Blk w' b3 27 (ndC (.mk 10 0 (cur l i).text q.2.1) q.2.2.1)∧Row (b3 :: b2 :: X) w' wB.heap.size 27 q.2.2.1 q.2.1∧b3∉ob q.2.2.1∧(∃ cs:List Value,cs.length=4∧Blk w' b2 27 cs)∧w'.cell? ⟨2,0,none⟩=some (.int .i64 m)∧Stp [b] w w'∧wB.heap.size≤w'.heap.size)
      (fun q=>argsO (cur l i).text - q.1) (0,[],.slice none 0 0,i+1+1,o+1) ⟨rfl,rfl,rfl,rfl,rfl,trivial⟩ ⟨hM,Nat.zero_le _,rfl,rfl,hp,e3,Row.nil,by simp [ob],⟨_,rfl,e2⟩,hm,hS,Nat.le_refl _⟩ ?_
     clear hM hp e3 e2 hm hS
     rintro ⟨k,ks,kv,i2,o2⟩ w6 ⟨hM,hka,hkl,ho2',hp,e3,hrow,hn3,⟨cs2,hc2,e2⟩,hm,hS,hsz⟩
     dsimp only at hM hka hkl ho2' hp e3 hrow hn3 hsz ⊢
     match cs2,hc2 with
     | [q0,q1,q2,q3],_=>
     by_cases hlt:k<argsO (cur l i).text
     · obtain ⟨n',hn'⟩:∃ n',argsO (cur l i).text - k=n'+1:=⟨argsO (cur l i).text - k - 1,by omega⟩
       rw [hn'] at hM
       simp only [manyO] at hM
       repeat'(first|refine W1 ?_|omega|refine VG ?_ ?_<;>intro hg|refine VC ?_ ?_<;>intro hc)
       ·
         have hk0:0<k:=by omega
         have hcm:commaO l k i2 o2=mustO l [44] i2 o2:=by unfold commaO;rw [if_pos hk0]
         rw [hcm] at hM
         cases hU:mustO l [44] i2 o2 with
         | err a c=>
           rw [hU] at hM
           simp only [Option.some.injEq] at hM
           subst hM
           simp only [Option.some.injEq] at h
           subst h
           refine WL_pcall rfl (evs2 rfl rfl) (PC.falls (mustP_any b tv l hL _ (by decide) i2 o2 _ hp) hU hS) rfl ?_
           intro wz hwz
           repeat'(first|refine WQ_then_panic ?_|refine WQ_block_panic ?_)
           refine WQ_panic ?_
           exact PC.err hwz
         | ok u iC oC=>
           rw [hU] at hM
           simp only at hM
           have hoC:=mustO_open hU
           refine CL rfl (evs2 rfl rfl) rfl (PC.goes (mustP_any b tv l hL _ (by decide) i2 o2 _ hp) hU) ?_
           rintro _ wC ⟨rfl,hpC,hT⟩
           have hbk:∀ c∈[b],c∈b3 :: b2 :: X∧c∉ob kv:=fun c hc=>by
            simp only [List.mem_singleton] at hc
            subst hc
            exact ⟨by simp [hbX],fun h=>by have:=(hrow.ob_le c h).1;have:=hp.lt;omega⟩
           replace hrow:=hrow.ext (X':=b3 :: b2 :: X) hT hbk (fun c hc=>.inl hc)
           replace e2:=e2.ext hT (by simpa using n2b)
           replace e3:=e3.ext hT (by simpa using n3b)
           replace hm:=cell_up hm hb1 hT
           replace hS:=hS.trans hT
           replace hsz:=Nat.le_trans hsz hT.size
           clear hT hp hU hcm
           refine W ?_
           have hp:=hpC
           cases hE:exprO l f (.expr 1) iC oC with
           | none=>rw [hE] at hM;simp at hM
           | some r2=>
             rw [hE] at hM
             obtain ⟨hpb,hps,hpi,hpl,hpo⟩:=id hp
             have hlb:=hpb.lt
             have hlk:=hrow.ob_le
             have hXk:∀ c∈ob kv++(b3 :: b2 :: X),c<wC.heap.size:=fun c hc=>by
              rcases List.mem_append.1 hc with h|h
              exact (hlk c h).2
              exact Nat.lt_of_lt_of_le (hXb c h) hsz
             cases r2 with
             | err a c=>
               simp only [Option.some.injEq] at hM
               subst hM
               simp only [Option.some.injEq] at h
               subst h
               refine WC_drawnq 8 (b :: ob kv) [7] [(0,0),(1,1),(2,0),(3,2),(4,2),(5,2),(6,0),(7,2)] rfl mixed (by kernel_rfl) (by kernel_rfl) (by kernel_rfl) (fun w1 hS1=>?_)
               replace hp:=hp.up hS1;replace e3:=e3.up hS1
               replace hm:=hS1.cell (by simp) hm
               replace hS:=hS.trans (hS1.mono (by simp))
               have hsub:=IH l hL m (.expr 1) iC oC _ hE (ob kv++(b3 :: b2 :: X)) b tv w1 hb1 (by simp [hbX]) (fun c hc=>Nat.lt_of_lt_of_le (hXk c hc) hS1.size) hm hp (by omega) (by omega)
               refine WDq_free rfl trivial (fun _=>PR_fieldAddr rfl) rfl ?_
               refine WDq_read rfl trivial (fun w' hw=>PR_load_blk rfl rfl (e3.ext hw (by simp only [List.mem_cons,not_or];exact ⟨n3b,hn3⟩)) rfl) rfl ?_
               refine WDq_free rfl trivial (fun _=>PR_move rfl) rfl ?_
               refine WDq_pcall rfl trivial rfl (evs2 rfl rfl) (PC.falls hsub rfl hS) rfl ?_
               intro wz hwz
               repeat'(first|refine WQ_then_panic ?_|refine WQ_block_panic ?_)
               refine WQ_panic ?_
               exact PC.err hwz
             | ok x i3 o3=>
               simp only at hM
               refine WC_drawn 8 (b :: ob kv) [7] [(0,0),(1,1),(2,0),(3,2),(4,2),(5,2),(6,0),(7,2)] rfl mixed (by kernel_rfl) (by kernel_rfl) (by kernel_rfl) (fun w1 hS1=>?_)
               replace hp:=hp.up hS1;replace e3:=e3.up hS1;replace e2:=e2.up hS1;replace hrow:=hrow.up hS1
               replace hm:=hS1.cell (by simp) hm
               replace hS:=hS.trans (hS1.mono (by simp))
               have hsz1:=Nat.le_trans hsz hS1.size
               have hXk1:∀ c∈ob kv++(b3 :: b2 :: X),c<w1.heap.size:=fun c hc=>Nat.lt_of_lt_of_le (hXk c hc) hS1.size
               have hsub:=IH l hL m (.expr 1) iC oC _ hE (ob kv++(b3 :: b2 :: X)) b tv w1 hb1 (by simp [hbX]) hXk1 hm hp (by omega) (by omega)
               clear hS1 hXk hpb hps hlk
               refine WF_fieldAddr rfl trivial rfl rfl ?_
               refine WR_load_blk rfl trivial rfl rfl e3 (by simp only [List.mem_cons,not_or];exact ⟨n3b,hn3⟩) rfl rfl ?_
               refine WF_move rfl trivial rfl rfl ?_
               refine WD_eff rfl trivial (OE_call rfl (evs2 rfl rfl) (PC.goes hsub rfl)) (fun _ _ h=>h.2.2.mono (by simp)) rfl ?_
               rintro _ w7 ⟨⟨kx,rfl,hx⟩,hp7,hT⟩
               have hbk:∀ c∈[b],c∈b3 :: b2 :: X∧c∉ob kv:=fun c hc=>by
                simp only [List.mem_singleton] at hc
                subst hc
                exact ⟨by simp [hbX],fun h=>by have:=(hrow.ob_le c h).1;omega⟩
               replace hrow:=hrow.ext (X':=b3 :: b2 :: X) hT hbk (fun c hc=>.inl hc)
               replace e2:=e2.ext hT (by simpa using n2b)
               replace e3:=e3.ext hT (by simpa using n3b)
               replace hm:=cell_up hm hb1 hT
               replace hS:=hS.trans hT
               have hsz7:=Nat.le_trans hsz1 hT.size
               have hXk7:∀ c∈ob kv++(b3 :: b2 :: X),c<w7.heap.size:=fun c hc=>Nat.lt_of_lt_of_le (hXk1 c hc) hT.size
               clear hT hXk1 hsz1 hsub hp
               obtain ⟨px,cx,rfl,-⟩:=id hx
               refine WD_eff rfl trivial (OE_buildSlice (vs:=[(0,.agg (ndC x (.slice px x.kids.length cx)).toArray)]) rfl (buildSN1 _ _ _ _ _ _)) (fun _ _ h=>(NewSl.stp h).mono (by simp)) rfl ?_
               intro bv w8 hN
               have hbv:SlV (ob kv++(b3 :: b2 :: X)) w8 bv [x]:=hN.slvG (css:=[ndC x _]) hXk7 rfl rfl rfl (reps1 hx) (by simp [maxLen])
               have hT:=NewSl.stp hN
               replace hp7:=hp7.up hT;replace e3:=e3.up hT;replace e2:=e2.up hT;replace hrow:=hrow.up hT
               replace hm:=hT.cell (by simp) hm
               replace hS:=hS.trans (hT.mono (by simp))
               have hsz8:=Nat.le_trans hsz7 hT.size
               have hXk8:∀ c∈ob kv++(b3 :: b2 :: X),c<w8.heap.size:=fun c hc=>Nat.lt_of_lt_of_le (hXk7 c hc) hT.size
               clear hT hN hXk7 hsz7 hx
               have hbase:wB.heap.size≤w8.heap.size:=Nat.le_trans hwB hsz8
               refine WD_eff rfl trivial (OE_append (X:=b3 :: b2 :: X) (base:=wB.heap.size) rfl (by decide) rfl rfl hrow hbv (by simp only [List.length_cons,List.length_nil];omega) (by simp only [List.length_cons,List.length_nil,maxLen];omega) hbase) (fun _ _ h=>h.2.1.mono (fun c hc=>List.mem_cons_of_mem _ hc)) rfl ?_
               rintro kv' w9 ⟨hrow',hT,hown⟩
               have hown1:∀ c∈ob kv,w.heap.size≤c:=fun c hc=>by have:=(hrow.ob_le c hc).1;omega
               have hn3':b3∉ob kv':=fun h=>by
                rcases hown _ h with h|h
                exact hn3 h
                have:=hXk8 b3 (by simp);omega
               have hn2':b2∉ob kv:=fun h=>by have:=(hrow.ob_le _ h).1;omega
               have hn1:(2:Nat)∉ob kv:=fun h=>by have:=(hrow.ob_le _ h).1;have:=block_lt_of_cell hm0;simp at this;omega
               have hnX:∀ c∈X,c∉ob kv':=fun c hc h=>by
                have:=(hrow'.ob_le _ h).1
                have:=hX c hc
                omega
               replace e2:=e2.ext hT hn2'
               replace e3:=e3.ext hT hn3
               replace hm:=hT.cell hn1 hm
               replace hS:=hS.own hT (fun c hc=>.inr (hown1 c hc))
               replace hp7:Pd w9 b tv l i3 o3:=by
                obtain ⟨g1,g2,g3,g4,g5⟩:=hp7
                exact ⟨g1.ext hT (fun h=>by have:=hown1 b h;omega),hs0.ext hS (fun c hc=>hc) (fun c hc=>.inl hc),g3,g4,g5⟩
               have hsz9:=Nat.le_trans hsz8 hT.size
               clear hT hbv hXk8 hrow
               refine WF_fieldAddr rfl trivial rfl rfl ?_
               refine WD_late0 rfl trivial (OE_store1 (u:=kv') rfl rfl (row_cells hrow') (row_one hrow') e3 (by simp)) rfl ?_
               rintro _ w10 ⟨hT,e3'⟩
               replace e3':Blk w10 b3 27 (ndC (.mk 10 0 (cur l i).text (ks++[x])) kv'):=e3'
               replace e2:=e2.ext hT (by simpa using n23)
               replace hm:=hT.cell (by simpa using n31.symm) hm
               replace hS:=hS.own hT (fun c hc=>by simp at hc;subst hc;exact .inr hb3w)
               replace hp7:Pd w10 b tv l i3 o3:=by
                obtain ⟨g1,g2,g3,g4,g5⟩:=hp7
                exact ⟨g1.ext hT (by simpa using n3b.symm),hs0.ext hS (fun c hc=>hc) (fun c hc=>.inl hc),g3,g4,g5⟩
               replace hrow':=hrow'.ext (X':=b3 :: b2 :: X) hT (fun c hc=>by simp at hc;subst hc;exact ⟨by simp,hn3'⟩) (fun c hc=>.inl hc)
               have hsz10:=Nat.le_trans hsz9 hT.size
               refine D ?_
               refine W ?_
               exact WQ_loop (k+1,ks++[x],kv',i3,o3) ⟨rfl,rfl,rfl,rfl,rfl,trivial⟩ ⟨by rw [show argsO (cur l i).text - (k+1)=n' by omega];exact hM,by omega,by simp;omega,by show o3=o+1;have:=exprO_open l _ _ _ _ _ _ _ hE;omega,hp7,e3',hrow',hn3',⟨_,rfl,e2⟩,hm,hS,hsz10⟩ (by dsimp only;omega)
       · have hk0:¬ 0<k:=by omega
         have hcm:commaO l k i2 o2=.ok () i2 o2:=by unfold commaO;rw [if_neg hk0]
         rw [hcm] at hM
         simp only at hM
         cases hE:exprO l f (.expr 1) i2 o2 with
         | none=>rw [hE] at hM;simp at hM
         | some r2=>
           rw [hE] at hM
           obtain ⟨hpb,hps,hpi,hpl,hpo⟩:=id hp
           have hlb:=hpb.lt
           have hlk:=hrow.ob_le
           have hXk:∀ c∈ob kv++(b3 :: b2 :: X),c<w6.heap.size:=fun c hc=>by
            rcases List.mem_append.1 hc with h|h
            exact (hlk c h).2
            exact Nat.lt_of_lt_of_le (hXb c h) hsz
           cases r2 with
           | err a c=>
             simp only [Option.some.injEq] at hM
             subst hM
             simp only [Option.some.injEq] at h
             subst h
             refine WC_drawnq 8 (b :: ob kv) [7] [(0,0),(1,1),(2,0),(3,2),(4,2),(5,2),(6,0),(7,2)] rfl mixed (by kernel_rfl) (by kernel_rfl) (by kernel_rfl) (fun w1 hS1=>?_)
             replace hp:=hp.up hS1;replace e3:=e3.up hS1
             replace hm:=hS1.cell (by simp) hm
             replace hS:=hS.trans (hS1.mono (by simp))
             have hsub:=IH l hL m (.expr 1) i2 o2 _ hE (ob kv++(b3 :: b2 :: X)) b tv w1 hb1 (by simp [hbX]) (fun c hc=>Nat.lt_of_lt_of_le (hXk c hc) hS1.size) hm hp (by omega) (by omega)
             refine WDq_free rfl trivial (fun _=>PR_fieldAddr rfl) rfl ?_
             refine WDq_read rfl trivial (fun w' hw=>PR_load_blk rfl rfl (e3.ext hw (by simp only [List.mem_cons,not_or];exact ⟨n3b,hn3⟩)) rfl) rfl ?_
             refine WDq_free rfl trivial (fun _=>PR_move rfl) rfl ?_
             refine WDq_pcall rfl trivial rfl (evs2 rfl rfl) (PC.falls hsub rfl hS) rfl ?_
             intro wz hwz
             repeat'(first|refine WQ_then_panic ?_|refine WQ_block_panic ?_)
             refine WQ_panic ?_
             exact PC.err hwz
           | ok x i3 o3=>
             simp only at hM
             refine WC_drawn 8 (b :: ob kv) [7] [(0,0),(1,1),(2,0),(3,2),(4,2),(5,2),(6,0),(7,2)] rfl mixed (by kernel_rfl) (by kernel_rfl) (by kernel_rfl) (fun w1 hS1=>?_)
             replace hp:=hp.up hS1;replace e3:=e3.up hS1;replace e2:=e2.up hS1;replace hrow:=hrow.up hS1
             replace hm:=hS1.cell (by simp) hm
             replace hS:=hS.trans (hS1.mono (by simp))
             have hsz1:=Nat.le_trans hsz hS1.size
             have hXk1:∀ c∈ob kv++(b3 :: b2 :: X),c<w1.heap.size:=fun c hc=>Nat.lt_of_lt_of_le (hXk c hc) hS1.size
             have hsub:=IH l hL m (.expr 1) i2 o2 _ hE (ob kv++(b3 :: b2 :: X)) b tv w1 hb1 (by simp [hbX]) hXk1 hm hp (by omega) (by omega)
             clear hS1 hXk hpb hps hlk
             refine WF_fieldAddr rfl trivial rfl rfl ?_
             refine WR_load_blk rfl trivial rfl rfl e3 (by simp only [List.mem_cons,not_or];exact ⟨n3b,hn3⟩) rfl rfl ?_
             refine WF_move rfl trivial rfl rfl ?_
             refine WD_eff rfl trivial (OE_call rfl (evs2 rfl rfl) (PC.goes hsub rfl)) (fun _ _ h=>h.2.2.mono (by simp)) rfl ?_
             rintro _ w7 ⟨⟨kx,rfl,hx⟩,hp7,hT⟩
             have hbk:∀ c∈[b],c∈b3 :: b2 :: X∧c∉ob kv:=fun c hc=>by
              simp only [List.mem_singleton] at hc
              subst hc
              exact ⟨by simp [hbX],fun h=>by have:=(hrow.ob_le c h).1;omega⟩
             replace hrow:=hrow.ext (X':=b3 :: b2 :: X) hT hbk (fun c hc=>.inl hc)
             replace e2:=e2.ext hT (by simpa using n2b)
             replace e3:=e3.ext hT (by simpa using n3b)
             replace hm:=cell_up hm hb1 hT
             replace hS:=hS.trans hT
             have hsz7:=Nat.le_trans hsz1 hT.size
             have hXk7:∀ c∈ob kv++(b3 :: b2 :: X),c<w7.heap.size:=fun c hc=>Nat.lt_of_lt_of_le (hXk1 c hc) hT.size
             clear hT hXk1 hsz1 hsub hp
             obtain ⟨px,cx,rfl,-⟩:=id hx
             refine WD_eff rfl trivial (OE_buildSlice (vs:=[(0,.agg (ndC x (.slice px x.kids.length cx)).toArray)]) rfl (buildSN1 _ _ _ _ _ _)) (fun _ _ h=>(NewSl.stp h).mono (by simp)) rfl ?_
             intro bv w8 hN
             have hbv:SlV (ob kv++(b3 :: b2 :: X)) w8 bv [x]:=hN.slvG (css:=[ndC x _]) hXk7 rfl rfl rfl (reps1 hx) (by simp [maxLen])
             have hT:=NewSl.stp hN
             replace hp7:=hp7.up hT;replace e3:=e3.up hT;replace e2:=e2.up hT;replace hrow:=hrow.up hT
             replace hm:=hT.cell (by simp) hm
             replace hS:=hS.trans (hT.mono (by simp))
             have hsz8:=Nat.le_trans hsz7 hT.size
             have hXk8:∀ c∈ob kv++(b3 :: b2 :: X),c<w8.heap.size:=fun c hc=>Nat.lt_of_lt_of_le (hXk7 c hc) hT.size
             clear hT hN hXk7 hsz7 hx
             have hbase:wB.heap.size≤w8.heap.size:=Nat.le_trans hwB hsz8
             refine WD_eff rfl trivial (OE_append (X:=b3 :: b2 :: X) (base:=wB.heap.size) rfl (by decide) rfl rfl hrow hbv (by simp only [List.length_cons,List.length_nil];omega) (by simp only [List.length_cons,List.length_nil,maxLen];omega) hbase) (fun _ _ h=>h.2.1.mono (fun c hc=>List.mem_cons_of_mem _ hc)) rfl ?_
             rintro kv' w9 ⟨hrow',hT,hown⟩
             have hown1:∀ c∈ob kv,w.heap.size≤c:=fun c hc=>by have:=(hrow.ob_le c hc).1;omega
             have hn3':b3∉ob kv':=fun h=>by
              rcases hown _ h with h|h
              exact hn3 h
              have:=hXk8 b3 (by simp);omega
             have hn2':b2∉ob kv:=fun h=>by have:=(hrow.ob_le _ h).1;omega
             have hn1:(2:Nat)∉ob kv:=fun h=>by have:=(hrow.ob_le _ h).1;have:=block_lt_of_cell hm0;simp at this;omega
             have hnX:∀ c∈X,c∉ob kv':=fun c hc h=>by
              have:=(hrow'.ob_le _ h).1
              have:=hX c hc
              omega
             replace e2:=e2.ext hT hn2'
             replace e3:=e3.ext hT hn3
             replace hm:=hT.cell hn1 hm
             replace hS:=hS.own hT (fun c hc=>.inr (hown1 c hc))
             replace hp7:Pd w9 b tv l i3 o3:=by
              obtain ⟨g1,g2,g3,g4,g5⟩:=hp7
              exact ⟨g1.ext hT (fun h=>by have:=hown1 b h;omega),hs0.ext hS (fun c hc=>hc) (fun c hc=>.inl hc),g3,g4,g5⟩
             have hsz9:=Nat.le_trans hsz8 hT.size
             clear hT hbv hXk8 hrow
             refine WF_fieldAddr rfl trivial rfl rfl ?_
             refine WD_late0 rfl trivial (OE_store1 (u:=kv') rfl rfl (row_cells hrow') (row_one hrow') e3 (by simp)) rfl ?_
             rintro _ w10 ⟨hT,e3'⟩
             replace e3':Blk w10 b3 27 (ndC (.mk 10 0 (cur l i).text (ks++[x])) kv'):=e3'
             replace e2:=e2.ext hT (by simpa using n23)
             replace hm:=hT.cell (by simpa using n31.symm) hm
             replace hS:=hS.own hT (fun c hc=>by simp at hc;subst hc;exact .inr hb3w)
             replace hp7:Pd w10 b tv l i3 o3:=by
              obtain ⟨g1,g2,g3,g4,g5⟩:=hp7
              exact ⟨g1.ext hT (by simpa using n3b.symm),hs0.ext hS (fun c hc=>hc) (fun c hc=>.inl hc),g3,g4,g5⟩
             replace hrow':=hrow'.ext (X':=b3 :: b2 :: X) hT (fun c hc=>by simp at hc;subst hc;exact ⟨by simp,hn3'⟩) (fun c hc=>.inl hc)
             have hsz10:=Nat.le_trans hsz9 hT.size
             refine D ?_
             refine W ?_
             exact WQ_loop (k+1,ks++[x],kv',i3,o3) ⟨rfl,rfl,rfl,rfl,rfl,trivial⟩ ⟨by rw [show argsO (cur l i).text - (k+1)=n' by omega];exact hM,by omega,by simp;omega,by show o3=o+1;have:=exprO_open l _ _ _ _ _ _ _ hE;omega,hp7,e3',hrow',hn3',⟨_,rfl,e2⟩,hm,hS,hsz10⟩ (by dsimp only;omega)
     · have hk:k=argsO (cur l i).text:=by omega
       rw [show argsO (cur l i).text - k=0 by omega] at hM
       simp only [manyO,Option.some.injEq] at hM
       subst hM
       simp only at h
       have ho2:0<o2:=by omega
       repeat'(first|refine W1 ?_|omega|refine VG ?_ ?_<;>intro hg|refine VC ?_ ?_<;>intro hc)
       cases hC:closesO l [41] i2 o2 with
       | err a c=>
         rw [hC] at h
         simp only [Option.some.injEq] at h
         subst h
         refine WL_pcall rfl (evs2 rfl rfl) (PC.falls (closes_any b tv l hL _ (by decide) i2 o2 ho2 _ hp) hC hS) rfl ?_
         intro wz hwz
         repeat'(first|refine WQ_then_panic ?_|refine WQ_block_panic ?_)
         refine WQ_panic ?_
         exact PC.err hwz
       | ok u i3 o3=>
         rw [hC] at h
         simp only [Option.some.injEq] at h
         subst h
         refine CL rfl (evs2 rfl rfl) rfl (PC.goes (closes_any b tv l hL _ (by decide) i2 o2 ho2 _ hp) hC) ?_
         rintro _ w7 ⟨rfl,hp7,hT⟩
         have hbk:∀ c∈[b],c∈b3 :: b2 :: X∧c∉ob kv:=fun c hc=>by
          simp only [List.mem_singleton] at hc
          subst hc
          exact ⟨by simp [hbX],fun h=>by have:=(hrow.ob_le c h).1;have:=hp.lt;omega⟩
         have hnX:∀ c∈b3 :: b2 :: X,c∉ob kv:=fun c hc h=>by
          have h1:=(hrow.ob_le _ h).1
          rcases List.mem_cons.1 hc with rfl|hc
          exact hn3 h
          rcases List.mem_cons.1 hc with rfl|hc
          omega
          have:=hX c hc;omega
         replace hrow:=hrow.ext (X':=b3 :: b2 :: X) hT hbk (fun c hc=>.inl hc)
         replace e2:=e2.ext hT (by simpa using n2b)
         replace e3:=e3.ext hT (by simpa using n3b)
         replace hS:=hS.trans hT
         have hsl:=hrow.slvN hnX
         refine W ?_
         refine WL_eff0 (OE_storeA (us:=ndC (.mk 10 0 (cur l i).text ks) kv) rfl rfl rfl rfl (ndC_one hsl) e2 rfl) ?_
         rintro _ wz ⟨hT,e2'⟩
         refine W ?_
         refine WQ_retc rfl rfl rfl e2' rfl ?_
         obtain ⟨hpb,hps,hpi,hpl,hpo⟩:=id hp7
         have hSx:=hS.own hT (fun c hc=>by simp at hc;subst hc;exact .inr hb2w)
         refine PC.ok ⟨_,rfl,?_⟩ ⟨hpb.ext hT (by simpa using n2b.symm),hs0.ext hSx (fun c hc=>hc) (fun c hc=>.inl hc),hpi,hpl,hpo⟩ hSx
         exact (hsl.ext (X':=b3 :: b2 :: X) hT (fun c hc=>by simp at hc;simp [hc]) (fun c hc=>.inl hc)).wk (fun c hc=>by simp [hc])
set_option maxHeartbeats 2000000 in
theorem choiceE (f:Nat) (IH:ExprC f) (l:List Tkn) (hL:Toks l) (m:Int) (i o:Nat) (r:Out Nd)
 (h : (match opensO l [105, 102] i o with
   | .err a c=>some (.err a c)
   | .ok _ i' o'=>
     match exprO l f (.expr 1) i' o' with
     | none=>none
     | some (.err a c)=>some (.err a c)
     | some (.ok x i'' o'')=>
       match manyO (exprO l f (.expr 1)) (thenO l) 2 0 [x] i'' o'' with
       | none=>none
       | some (.err a c)=>some (.err a c)
       | some (.ok ks i3 o3)=>
         match closesO l [101,110,100] i3 o3 with
         | .err a c=>some (.err a c)
         | .ok _ i4 o4=>some (.ok (.mk 9 0 [] ks) i4 o4))=some r) (X:List Nat) (b:Nat) (tv:Value) (w:World) (hb1:b≠2) (hbX:b∈X) (hX:∀ c∈X,c<w.heap.size) (hm:w.cell? ⟨2,0,none⟩=some (.int .i64 m)) (hp:Pd w b tv l i o) :
 Calls Tryz.prog 274 #[.pointer (some ⟨b,0,none⟩)] w (PC b w tv l r (fun x v w'=>NdV X w' v x)):=by
 have hs0:=hp.2.1
 have hm0:=hm
 have hbw:=hp.lt
 refine calls_of_WC1 (n:=32) Tryz.func274 rfl rfl rfl ?_
 refine W ?_
 refine WL_eff OE_alloc rfl ?_
 rintro _ w1 ⟨b2,rfl,hb2,e2,hS⟩
 have n2b:b2≠b:=by have:=hp.lt;omega
 have hb2w:w.heap.size≤b2:=hb2
 replace hm:=hS.cell (by simp) hm
 replace hp:=hp.up hS
 refine W ?_
 cases hO:opensO l [105,102] i o with
 | err a c=>
   rw [hO] at h
   simp only [Option.some.injEq] at h
   subst h
   refine WL_pcall rfl (evs2 rfl rfl) (PC.falls (opens_any b tv l hL _ (by decide) i o _ hp) hO (hS.mono (by simp))) rfl ?_
   intro wz hwz
   repeat'(first|refine WQ_then_panic ?_|refine WQ_block_panic ?_)
   refine WQ_panic ?_
   exact PC.err hwz
 | ok t i1 o1=>
   obtain ⟨hoo,hoi,hopt⟩:=opensO_open hO
   subst o1;subst i1
   rw [hO] at h
   simp only at h
   refine CL rfl (evs2 rfl rfl) rfl (PC.goes (opens_any b tv l hL _ (by decide) i o _ hp) hO) ?_
   rintro _ wA ⟨rfl,hp2,hT⟩
   replace e2:=e2.ext hT (by simpa using n2b)
   replace hm:=cell_up hm hb1 hT
   replace hS:=(hS.mono (S':=[b]) (by simp)).trans hT
   clear hT hp
   have l2:=e2.lt
   have hXa:∀ c∈b2 :: X,c<wA.heap.size:=fun c hc=>by
    rcases List.mem_cons.1 hc with rfl|hc
    exact l2
    have:=hX c hc;have:=hS.size;omega
   refine W ?_
   cases hE0:exprO l f (.expr 1) (i+1) (o+1) with
   | none=>rw [hE0] at h;simp at h
   | some r1=>
   rw [hE0] at h
   have hsub:=IH l hL m (.expr 1) (i+1) (o+1) r1 hE0 (b2 :: X) b tv wA hb1 (by simp [hbX]) hXa hm hp2 (by omega) (by omega)
   cases r1 with
   | err a c=>
     simp only [Option.some.injEq] at h
     subst h
     refine WL_pcall rfl (evs2 rfl rfl) (PC.falls hsub rfl hS) rfl ?_
     intro wz hwz
     repeat'(first|refine WQ_then_panic ?_|refine WQ_block_panic ?_)
     refine WQ_panic ?_
     exact PC.err hwz
   | ok x0 iA oA=>
     have hoA:=exprO_open l _ _ _ _ _ _ _ hE0
     simp only at h
     refine CL rfl (evs2 rfl rfl) rfl (PC.goes hsub rfl) ?_
     rintro _ wB ⟨⟨kx0,rfl,hx0⟩,hp,hT⟩
     replace e2:=e2.ext hT (by simpa using n2b)
     replace hm:=cell_up hm hb1 hT
     replace hS:=hS.trans hT
     have hXB:∀ c∈b2 :: X,c<wB.heap.size:=fun c hc=>Nat.lt_of_lt_of_le (hXa c hc) hT.size
     clear hT hp2 hsub hXa l2
     obtain ⟨p0,c0,rfl,-⟩:=id hx0
     refine WL_eff (OE_buildSlice (vs:=[(0,.agg (ndC x0 (.slice p0 x0.kids.length c0)).toArray)]) rfl (buildSN1 _ _ _ _ _ _)) rfl ?_
     intro kv0 wD hN
     have hr0:Row (b2 :: X) wD wB.heap.size 27 kv0 [x0]:=hN.rowG (css:=[ndC x0 _]) hXB (Nat.le_refl _) rfl rfl rfl (reps1 hx0) (by simp [maxLen])
     obtain ⟨bn,rfl,hbn,-,hT⟩:=id hN
     replace hp:=hp.up hT;replace e2:=e2.up hT
     replace hm:=hT.cell (by simp) hm
     replace hS:=hS.trans (hT.mono (by simp))
     have hBD:=hT.size
     clear hT hN hx0
     apply WL_build (vs:=[(0,.int .i64 9),(3,.slice (some ⟨bn,0,none⟩) 1 1)]) rfl (buildI9 _ _ _) rfl
     refine WL_eff OE_alloc rfl ?_
     rintro _ w3 ⟨b3,rfl,hb3,e3,hT⟩
     have n23:b2≠b3:=by have:=e2.lt;omega
     have n3b:b3≠b:=by have:=hp.lt;omega
     have n31:b3≠2:=by have:=block_lt_of_cell hm;simp at this;omega
     have n3n:b3≠bn:=by have:=(hr0.ob_le bn (by simp [ob])).2;omega
     have hb3w:w.heap.size≤b3:=Nat.le_trans hS.size hb3
     refine WL_eff0 (OE_storeA (us:=ndC (.mk 9 0 [] [x0]) (.slice (some ⟨bn,0,none⟩) 1 1)) rfl rfl rfl rfl (by intro c hc;simp [ndC] at hc;rcases hc with rfl|rfl|rfl|rfl<;>rfl) e3 rfl) ?_
     rintro _ w4 ⟨hT2,e3'⟩
     replace hT:=hT.own hT2 (fun c hc=>.inr (by simp at hc;omega))
     clear hT2 e3
     replace hp:=hp.up hT;replace e2:=e2.up hT
     replace hr0:Row (b3 :: b2 :: X) w4 wB.heap.size 27 (.slice (some ⟨bn,0,none⟩) 1 1) [x0]:=hr0.ext hT (by simp) (fun c hc=>by
      rcases List.mem_cons.1 hc with rfl|hc
      exact .inr hb3
      exact .inl hc)
     replace hm:=hT.cell (by simp) hm
     replace hS:=hS.trans (hT.mono (by simp))
     have hB4:=Nat.le_trans hBD hT.size
     clear hT
     refine W ?_
     refine WL_eff (OE_buildSlice (vs:=[(0,str [116,104,101,110]),(1,str [101,108,115,101])]) rfl (buildTE _ _)) rfl ?_
     intro wv w5 hN
     obtain ⟨bw,rfl,hbw5,ew,hT⟩:=id hN
     have nwb:bw≠b:=by have:=hp.lt;omega
     have nw3:bw≠b3:=by have:=e3'.lt;omega
     have nwn:bw≠bn:=by have:=(hr0.ob_le bn (by simp [ob])).2;omega
     replace hp:=hp.up hT;replace e2:=e2.up hT;replace e3':=e3'.up hT;replace hr0:=hr0.up hT
     replace hm:=hT.cell (by simp) hm
     replace hS:=hS.trans (hT.mono (by simp))
     have hwB:=Nat.le_trans hB4 hT.size
     have l2:=hXB b2 (by simp)
     have hXb:∀ c∈b3 :: b2 :: X,c<w5.heap.size:=fun c hc=>by
      rcases List.mem_cons.1 hc with rfl|hc
      exact e3'.lt
      exact Nat.lt_of_lt_of_le (hXB c hc) hwB
     clear hT hN hbw5
     have hwv:=Blk.slv2 ew
     have hwv2:(0:Nat)<([[116,104,101,110],[101,108,115,101]]:List Str).length:=by simp
     refine W ?_
     cases hM:manyO (exprO l f (.expr 1)) (thenO l) 2 0 [x0] iA oA with
     | none=>rw [hM] at h;simp at h
     | some r3=>
     rw [hM] at h
     refine WC_loop (σ:=Nat×List Nd×Value×Nat×Nat) (fun q=>[(0,.pointer (some ⟨b,0,none⟩)),(2,.pointer (some ⟨b2,0,none⟩)),(3,.pointer (some ⟨b3,0,none⟩)),(12,.slice (some ⟨bw,0,none⟩) 2 2),(13,.int .i64 2),(14,.int .i64 (q.1:Int))])
      (fun q w'=>manyO (exprO l f (.expr 1)) (thenO l) (2 - q.1) q.1 q.2.1 q.2.2.2.1 q.2.2.2.2=some r3∧q.1≤2∧q.2.1.length=q.1+1∧q.2.2.2.2=o+1∧Pd w' b tv l q.2.2.2.1 q.2.2.2.2∧Blk w' b3 27 (ndC (.mk 9 0 [] q.2.1) q.2.2.1)∧Row (b3 :: b2 :: X) w' wB.heap.size 27 q.2.2.1 q.2.1∧b3∉ob q.2.2.1∧bw∉ob q.2.2.1∧Blk w' bw 9 [str [116,104,101,110],str [101,108,115,101]]∧(∃ cs:List Value,cs.length=4∧Blk w' b2 27 cs)∧w'.cell? ⟨2,0,none⟩=some (.int .i64 m)∧Stp [b] w w'∧w5.heap.size≤w'.heap.size)
      (fun q=>2 - q.1) (0,[x0],.slice (some ⟨bn,0,none⟩) 1 1,iA,oA) ⟨rfl,rfl,rfl,rfl,rfl,rfl,trivial⟩ ⟨hM,by simp,rfl,hoA,hp,e3',hr0,by simpa [ob] using n3n,by simpa [ob] using nwn,ew,⟨_,rfl,e2⟩,hm,hS,Nat.le_refl _⟩ ?_
     have hwBw:w.heap.size≤wB.heap.size:=by omega
     clear hM hp e3' e2 hm hS hwv hr0 ew
     rintro ⟨k,ks,kv,i2,o2⟩ w6 ⟨hM,hka,hkl,ho2',hp,e3,hrow,hn3,hnw,ew,⟨cs2,hc2,e2⟩,hm,hS,hsz⟩
     dsimp only at hM hka hkl ho2' hp e3 hrow hn3 hnw hsz ⊢
     match cs2,hc2 with
     | [q0,q1,q2,q3],_=>
     have hwv:=Blk.slv2 ew
     by_cases hlt:k<2
     · obtain ⟨n',hn'⟩:∃ n',2 - k=n'+1:=⟨2 - k - 1,by omega⟩
       rw [hn'] at hM
       simp only [manyO] at hM
       have hk2:k<([[116,104,101,110],[101,108,115,101]]:List Str).length:=hlt
       have hth:thenO l k i2 o2=mustO l (([[116,104,101,110],[101,108,115,101]]:List Str)[k]) i2 o2:=by
        rcases (by omega:k=0∨k=1) with rfl|rfl<;>rfl
       have hne:([[116,104,101,110],[101,108,115,101]]:List Str)[k]≠[]:=by
        rcases (by omega:k=0∨k=1) with rfl|rfl
        show ([116,104,101,110]:Str)≠[];decide
        show ([101,108,115,101]:Str)≠[];decide
       rw [hth] at hM
       repeat'(first|refine W1 ?_|omega|refine VG ?_ ?_<;>intro hg|refine VC ?_ ?_<;>intro hc)
       cases hU:mustO l (([[116,104,101,110],[101,108,115,101]]:List Str)[k]) i2 o2 with
       | err a c=>
         rw [hU] at hM
         simp only [Option.some.injEq] at hM
         subst hM
         simp only [Option.some.injEq] at h
         subst h
         refine WL_pcall rfl (evs2 rfl rfl) (PC.falls (mustP_any b tv l hL _ hne i2 o2 _ hp) hU hS) rfl ?_
         intro wz hwz
         repeat'(first|refine WQ_then_panic ?_|refine WQ_block_panic ?_)
         refine WQ_panic ?_
         exact PC.err hwz
       | ok u iC oC=>
         rw [hU] at hM
         simp only at hM
         have hoC:=mustO_open hU
         refine CL rfl (evs2 rfl rfl) rfl (PC.goes (mustP_any b tv l hL _ hne i2 o2 _ hp) hU) ?_
         rintro _ wC ⟨rfl,hpC,hT⟩
         have hbk:∀ c∈[b],c∈b3 :: b2 :: X∧c∉ob kv:=fun c hc=>by
          simp only [List.mem_singleton] at hc
          subst hc
          exact ⟨by simp [hbX],fun h=>by have:=(hrow.ob_le c h).1;have:=hp.lt;omega⟩
         replace hrow:=hrow.ext (X':=b3 :: b2 :: X) hT hbk (fun c hc=>.inl hc)
         replace e2:=e2.ext hT (by simpa using n2b)
         replace ew:=ew.ext hT (by simpa using nwb)
         replace e3:=e3.ext hT (by simpa using n3b)
         replace hm:=cell_up hm hb1 hT
         replace hS:=hS.trans hT
         replace hsz:=Nat.le_trans hsz hT.size
         clear hT hp hU hwv hth
         refine W ?_
         have hp:=hpC
         cases hE:exprO l f (.expr 1) iC oC with
         | none=>rw [hE] at hM;simp at hM
         | some r2=>
           rw [hE] at hM
           obtain ⟨hpb,hps,hpi,hpl,hpo⟩:=id hp
           have hlb:=hpb.lt
           have hlk:=hrow.ob_le
           have hXk:∀ c∈ob kv++(b3 :: b2 :: X),c<wC.heap.size:=fun c hc=>by
            rcases List.mem_append.1 hc with h|h
            exact (hlk c h).2
            exact Nat.lt_of_lt_of_le (hXb c h) hsz
           cases r2 with
           | err a c=>
             simp only [Option.some.injEq] at hM
             subst hM
             simp only [Option.some.injEq] at h
             subst h
             refine WC_drawnq 8 (b :: ob kv) [7] [(0,0),(1,1),(2,0),(3,2),(4,2),(5,2),(6,0),(7,2)] rfl mixed (by kernel_rfl) (by kernel_rfl) (by kernel_rfl) (fun w1 hS1=>?_)
             replace hp:=hp.up hS1;replace e3:=e3.up hS1
             replace hm:=hS1.cell (by simp) hm
             replace hS:=hS.trans (hS1.mono (by simp))
             have hsub:=IH l hL m (.expr 1) iC oC _ hE (ob kv++(b3 :: b2 :: X)) b tv w1 hb1 (by simp [hbX]) (fun c hc=>Nat.lt_of_lt_of_le (hXk c hc) hS1.size) hm hp (by omega) (by omega)
             refine WDq_free rfl trivial (fun _=>PR_fieldAddr rfl) rfl ?_
             refine WDq_read rfl trivial (fun w' hw=>PR_load_blk rfl rfl (e3.ext hw (by simp only [List.mem_cons,not_or];exact ⟨n3b,hn3⟩)) rfl) rfl ?_
             refine WDq_free rfl trivial (fun _=>PR_move rfl) rfl ?_
             refine WDq_pcall rfl trivial rfl (evs2 rfl rfl) (PC.falls hsub rfl hS) rfl ?_
             intro wz hwz
             repeat'(first|refine WQ_then_panic ?_|refine WQ_block_panic ?_)
             refine WQ_panic ?_
             exact PC.err hwz
           | ok x i3 o3=>
             simp only at hM
             refine WC_drawn 8 (b :: ob kv) [7] [(0,0),(1,1),(2,0),(3,2),(4,2),(5,2),(6,0),(7,2)] rfl mixed (by kernel_rfl) (by kernel_rfl) (by kernel_rfl) (fun w1 hS1=>?_)
             replace hp:=hp.up hS1;replace e3:=e3.up hS1;replace e2:=e2.up hS1;replace ew:=ew.up hS1;replace hrow:=hrow.up hS1
             replace hm:=hS1.cell (by simp) hm
             replace hS:=hS.trans (hS1.mono (by simp))
             have hsz1:=Nat.le_trans hsz hS1.size
             have hXk1:∀ c∈ob kv++(b3 :: b2 :: X),c<w1.heap.size:=fun c hc=>Nat.lt_of_lt_of_le (hXk c hc) hS1.size
             have hsub:=IH l hL m (.expr 1) iC oC _ hE (ob kv++(b3 :: b2 :: X)) b tv w1 hb1 (by simp [hbX]) hXk1 hm hp (by omega) (by omega)
             clear hS1 hXk hpb hps hlk
             refine WF_fieldAddr rfl trivial rfl rfl ?_
             refine WR_load_blk rfl trivial rfl rfl e3 (by simp only [List.mem_cons,not_or];exact ⟨n3b,hn3⟩) rfl rfl ?_
             refine WF_move rfl trivial rfl rfl ?_
             refine WD_eff rfl trivial (OE_call rfl (evs2 rfl rfl) (PC.goes hsub rfl)) (fun _ _ h=>h.2.2.mono (by simp)) rfl ?_
             rintro _ w7 ⟨⟨kx,rfl,hx⟩,hp7,hT⟩
             have hbk:∀ c∈[b],c∈b3 :: b2 :: X∧c∉ob kv:=fun c hc=>by
              simp only [List.mem_singleton] at hc
              subst hc
              exact ⟨by simp [hbX],fun h=>by have:=(hrow.ob_le c h).1;omega⟩
             replace hrow:=hrow.ext (X':=b3 :: b2 :: X) hT hbk (fun c hc=>.inl hc)
             replace e2:=e2.ext hT (by simpa using n2b)
             replace ew:=ew.ext hT (by simpa using nwb)
             replace e3:=e3.ext hT (by simpa using n3b)
             replace hm:=cell_up hm hb1 hT
             replace hS:=hS.trans hT
             have hsz7:=Nat.le_trans hsz1 hT.size
             have hXk7:∀ c∈ob kv++(b3 :: b2 :: X),c<w7.heap.size:=fun c hc=>Nat.lt_of_lt_of_le (hXk1 c hc) hT.size
             clear hT hXk1 hsz1 hsub hp
             obtain ⟨px,cx,rfl,-⟩:=id hx
             refine WD_eff rfl trivial (OE_buildSlice (vs:=[(0,.agg (ndC x (.slice px x.kids.length cx)).toArray)]) rfl (buildSN1 _ _ _ _ _ _)) (fun _ _ h=>(NewSl.stp h).mono (by simp)) rfl ?_
             intro bv w8 hN
             have hbv:SlV (ob kv++(b3 :: b2 :: X)) w8 bv [x]:=hN.slvG (css:=[ndC x _]) hXk7 rfl rfl rfl (reps1 hx) (by simp [maxLen])
             have hT:=NewSl.stp hN
             replace hp7:=hp7.up hT;replace e3:=e3.up hT;replace e2:=e2.up hT;replace ew:=ew.up hT;replace hrow:=hrow.up hT
             replace hm:=hT.cell (by simp) hm
             replace hS:=hS.trans (hT.mono (by simp))
             have hsz8:=Nat.le_trans hsz7 hT.size
             have hXk8:∀ c∈ob kv++(b3 :: b2 :: X),c<w8.heap.size:=fun c hc=>Nat.lt_of_lt_of_le (hXk7 c hc) hT.size
             clear hT hN hXk7 hsz7 hx
             have hbase:wB.heap.size≤w8.heap.size:=Nat.le_trans hwB hsz8
             refine WD_eff rfl trivial (OE_append (X:=b3 :: b2 :: X) (base:=wB.heap.size) rfl (by decide) rfl rfl hrow hbv (by simp only [List.length_cons,List.length_nil];omega) (by simp only [List.length_cons,List.length_nil,maxLen];omega) hbase) (fun _ _ h=>h.2.1.mono (fun c hc=>List.mem_cons_of_mem _ hc)) rfl ?_
             rintro kv' w9 ⟨hrow',hT,hown⟩
             have hown1:∀ c∈ob kv,w.heap.size≤c:=fun c hc=>by have:=(hrow.ob_le c hc).1;omega
             have hn3':b3∉ob kv':=fun h=>by
              rcases hown _ h with h|h
              exact hn3 h
              have:=hXk8 b3 (by simp);omega
             have hnw':bw∉ob kv':=fun h=>by
              rcases hown _ h with h|h
              exact hnw h
              have:=ew.lt;omega
             have hn2':b2∉ob kv:=fun h=>by have:=(hrow.ob_le _ h).1;omega
             have hn1:(2:Nat)∉ob kv:=fun h=>by have:=(hrow.ob_le _ h).1;have:=block_lt_of_cell hm0;simp at this;omega
             have hnX:∀ c∈X,c∉ob kv':=fun c hc h=>by
              have:=(hrow'.ob_le _ h).1
              have:=hX c hc
              omega
             replace e2:=e2.ext hT hn2'
             replace ew:=ew.ext hT hnw
             replace e3:=e3.ext hT hn3
             replace hm:=hT.cell hn1 hm
             replace hS:=hS.own hT (fun c hc=>.inr (hown1 c hc))
             replace hp7:Pd w9 b tv l i3 o3:=by
              obtain ⟨g1,g2,g3,g4,g5⟩:=hp7
              exact ⟨g1.ext hT (fun h=>by have:=hown1 b h;omega),hs0.ext hS (fun c hc=>hc) (fun c hc=>.inl hc),g3,g4,g5⟩
             have hsz9:=Nat.le_trans hsz8 hT.size
             clear hT hbv hXk8 hrow
             refine WF_fieldAddr rfl trivial rfl rfl ?_
             refine WD_late0 rfl trivial (OE_store1 (u:=kv') rfl rfl (row_cells hrow') (row_one hrow') e3 (by simp)) rfl ?_
             rintro _ w10 ⟨hT,e3'⟩
             replace e3':Blk w10 b3 27 (ndC (.mk 9 0 [] (ks++[x])) kv'):=e3'
             replace e2:=e2.ext hT (by simpa using n23)
             replace ew:=ew.ext hT (by simpa using nw3)
             replace hm:=hT.cell (by simpa using n31.symm) hm
             replace hS:=hS.own hT (fun c hc=>by simp at hc;subst hc;exact .inr hb3w)
             replace hp7:Pd w10 b tv l i3 o3:=by
              obtain ⟨g1,g2,g3,g4,g5⟩:=hp7
              exact ⟨g1.ext hT (by simpa using n3b.symm),hs0.ext hS (fun c hc=>hc) (fun c hc=>.inl hc),g3,g4,g5⟩
             replace hrow':=hrow'.ext (X':=b3 :: b2 :: X) hT (fun c hc=>by simp at hc;subst hc;exact ⟨by simp,hn3'⟩) (fun c hc=>.inl hc)
             have hsz10:=Nat.le_trans hsz9 hT.size
             refine D ?_
             refine W ?_
             exact WQ_loop (k+1,ks++[x],kv',i3,o3) ⟨rfl,rfl,rfl,rfl,rfl,rfl,trivial⟩ ⟨by rw [show 2 - (k+1)=n' by omega];exact hM,by omega,by simp;omega,by show o3=o+1;have:=exprO_open l _ _ _ _ _ _ _ hE;omega,hp7,e3',hrow',hn3',hnw',ew,⟨_,rfl,e2⟩,hm,hS,hsz10⟩ (by dsimp only;omega)
     · have hk:k=2:=by omega
       subst hk
       simp only [Nat.sub_self,manyO,Option.some.injEq] at hM
       subst hM
       simp only at h
       have ho2:0<o2:=by omega
       repeat'(first|refine W1 ?_|omega|refine VG ?_ ?_<;>intro hg|refine VC ?_ ?_<;>intro hc)
       cases hC:closesO l [101,110,100] i2 o2 with
       | err a c=>
         rw [hC] at h
         simp only [Option.some.injEq] at h
         subst h
         refine WL_pcall rfl (evs2 rfl rfl) (PC.falls (closes_any b tv l hL _ (by decide) i2 o2 ho2 _ hp) hC hS) rfl ?_
         intro wz hwz
         repeat'(first|refine WQ_then_panic ?_|refine WQ_block_panic ?_)
         refine WQ_panic ?_
         exact PC.err hwz
       | ok u i3 o3=>
         rw [hC] at h
         simp only [Option.some.injEq] at h
         subst h
         refine CL rfl (evs2 rfl rfl) rfl (PC.goes (closes_any b tv l hL _ (by decide) i2 o2 ho2 _ hp) hC) ?_
         rintro _ w7 ⟨rfl,hp7,hT⟩
         have hbk:∀ c∈[b],c∈b3 :: b2 :: X∧c∉ob kv:=fun c hc=>by
          simp only [List.mem_singleton] at hc
          subst hc
          exact ⟨by simp [hbX],fun h=>by have:=(hrow.ob_le c h).1;have:=hp.lt;omega⟩
         have hnX:∀ c∈b3 :: b2 :: X,c∉ob kv:=fun c hc h=>by
          have h1:=(hrow.ob_le _ h).1
          rcases List.mem_cons.1 hc with rfl|hc
          exact hn3 h
          rcases List.mem_cons.1 hc with rfl|hc
          omega
          have:=hX c hc;omega
         replace hrow:=hrow.ext (X':=b3 :: b2 :: X) hT hbk (fun c hc=>.inl hc)
         replace e2:=e2.ext hT (by simpa using n2b)
         replace e3:=e3.ext hT (by simpa using n3b)
         replace hS:=hS.trans hT
         have hsl:=hrow.slvN hnX
         refine W ?_
         refine WL_eff0 (OE_storeA (us:=ndC (.mk 9 0 [] ks) kv) rfl rfl rfl rfl (ndC_one hsl) e2 rfl) ?_
         rintro _ wz ⟨hT,e2'⟩
         refine W ?_
         refine WQ_retc rfl rfl rfl e2' rfl ?_
         obtain ⟨hpb,hps,hpi,hpl,hpo⟩:=id hp7
         have hSx:=hS.own hT (fun c hc=>by simp at hc;subst hc;exact .inr hb2w)
         refine PC.ok ⟨_,rfl,?_⟩ ⟨hpb.ext hT (by simpa using n2b.symm),hs0.ext hSx (fun c hc=>hc) (fun c hc=>.inl hc),hpi,hpl,hpo⟩ hSx
         exact (hsl.ext (X':=b3 :: b2 :: X) hT (fun c hc=>by simp at hc;simp [hc]) (fun c hc=>.inl hc)).wk (fun c hc=>by simp [hc])
end Go.Proofs.YtjdjdoefppebkaaGreatDoor
