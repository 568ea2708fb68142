/-
Merged by program out of own texts: Cal2, Cal3, Vmw4, Wlk1, Vmr1, Vmr2, Mad1, Mad2, Mad3, Gn1, Eng28, Gq1, Gq2, Gq3.
-/
import Derived.Test.YtjdjdoefppebkaaGreatDoorM5
import Derived.RangeFuncBox
import Derived.RangeFuncLeaves
import Derived.RangeFuncNested
import Derived.RangeFuncBound
import Derived.RangeFuncCalls
import Derived.Shelf.Abstract
import Derived.Shelf.RegionOpen
import Derived.BigRegionIn
import Derived.WalkKit
import Derived.OwnWalkIn
import Derived.TacticsInMore
import Derived.LoopNIn
import Derived.LoopIn
set_option linter.unusedVariables false
set_option linter.unusedSimpArgs false
namespace Go.Proofs.YtjdjdoefppebkaaGreatDoor
open Go Go.Eng Go.RowKit Go.Proofs Go.Shelf
attribute [local go_sem] Oper.semAt_some
set_option maxRecDepth 100000 in
set_option maxHeartbeats 2000000 in
theorem ZgD (n:Nat) (hn:2≤n) (l bd bs:Nat) (d0 st:Int) (hst:st=1∨st=-1) (h00:0≤d0) (h01:d0≤3652058) (J:Nat→World→Prop) (Jx:World→Prop)
 (hJc:∀ k W,J k W→W.cell? ⟨bd,0,none⟩=some (.int .i64 (d0+st * k))∧W.cell? ⟨bs,0,none⟩=some (.int .i64 st))
 (hY : ∀ (k : Nat) W, J k W → k ≤ 1000 → ZW (d0 + st * k) = true → YieldAt Fence.wide (n - 1) Tryz.prog l #[.int .i64 (d0 + st * k)] W fun e W'=>
   (e=.returned (.bool true)∧W'.cell? ⟨bd,0,none⟩=some (.int .i64 (d0+st * k))∧W'.frozen? ⟨bd,0,none⟩=false∧W'.cell? ⟨bs,0,none⟩=some (.int .i64 st)∧J (k+1) (W'.setCell ⟨bd,0,none⟩ (.int .i64 (d0+st * k+st))))∨(e=.returned (.bool false)∧Jx W'))
 (W:World) (h0:J 0 W) :
 CallsIn Fence.wide n Tryz.prog 328 #[.func (.yield l) #[] #[],.pointer (some ⟨bd,0,none⟩),.pointer (some ⟨bs,0,none⟩)] W fun e W'=>(∃ v,e=.returned v)∧
  ((∃ k:Nat,(1000<k∨ZW (d0+st * k)=false)∧J k W')∨Jx W'):=by
 refine callsIn_of_wp Tryz.func328 rfl trivial ?_ rfl
 simp only [Tryz.ntmps328,YaA,Xc,Xe,Nat.reduceAdd,Nat.reduceSub,Array.replicate_succ,Array.replicate_zero,List.push_toArray,List.append_toArray,XS,Xp]
 gi_wp2
 gi_loopw [4] (fun i wr=>∃ k:Nat,k≤1001∧i=.int .i64 (k:Int)∧J k wr) (fun i _=>1002 - (intOf i).toNat)
 case atStart=>exact ⟨0,Xy _,rfl,h0⟩
 case round=>
  obtain ⟨k,hk,rfl,hJk⟩:=hrel
  obtain ⟨c1,c2⟩:=hJc k _ hJk
  have hsk:-1001≤st * (k:Int)∧st * (k:Int)≤1001:=by rcases hst with rfl|rfl<;>omega
  by_cases hlt:k≤1000
  · have hle:(k:Int)≤1000:=by omega
    gi_wp2
    refine ⟨trivial,(fun h=>by cases h),?_⟩
    refine (callsIn_wide.2 (Z4i _ _)).mono ?_
    rintro e w' ⟨v,rfl,rfl,rfl⟩
    cases hin:ZW (d0+st * k) with
    | false=>
      gi_wp2
      go_end0
      exact ⟨⟨_,rfl⟩,.inl ⟨k,.inr hin,hJk⟩⟩
    | true=>
      obtain ⟨fn,tmps,assign,body,hy,hR⟩:=hY k _ hJk hlt hin
      gi_wp2
      refine ⟨(fun h=>by cases h),hR.mono ?_⟩
      rintro e W3 (⟨rfl,a1,a2,a3,a4⟩|⟨rfl,hx⟩)
      have hin2:=J1.1 hin
      gi_wp2
      exact ⟨⟨k+1,by omega,rfl,a4⟩,by simp [intOf];omega⟩
      gi_wp2
      refine bodyPost_ret (results_none rfl _ _ _) rfl ?_
      exact ⟨⟨_,rfl⟩,.inr hx⟩
  have hgt:¬ (k:Int)≤1000:=by omega
  gi_wp2
  refine ⟨trivial,?_⟩
  gi_wp2
  go_end0
  exact ⟨⟨_,rfl⟩,.inl ⟨k,.inl (by omega),hJk⟩⟩
theorem Zck {g:Operand} {ps:Array Tmp} {assign body:Code} {Q:Exit→Act→World→Prop} {a:Act} {w:World} {n:Nat} (hn:3≤n) (hps:ps.size=1) {bd bs:Nat} {d0 st:Int}
 (hg:a.eval g=.func (.func 328) #[] #[.pointer (some ⟨bd,0,none⟩),.pointer (some ⟨bs,0,none⟩)]) (hst:st=1∨st=-1) (h00:0≤d0) (h01:d0≤3652058) (hbd:bd<w.heap.size)
 (I I':Nat→World→Prop) (Ix:World→Prop)
 (hI:∀ k W W',I k W→Below w.heap.size W W'→I k W') (hI':∀ k W W',I' k W→Below w.heap.size W W'→I' k W') (hIx:∀ W W',Ix W→Below w.heap.size W W'→Ix W')
 (hc:∀ (k:Nat) W,I k W→W.cell? ⟨bd,0,none⟩=some (.int .i64 (d0+st * k))∧W.cell? ⟨bs,0,none⟩=some (.int .i64 st))
 (hc':∀ (k:Nat) W,I' k W→W.cell? ⟨bd,0,none⟩=some (.int .i64 (d0+st * k))∧W.frozen? ⟨bd,0,none⟩=false∧W.cell? ⟨bs,0,none⟩=some (.int .i64 st))
 (hstep:∀ (k:Nat) W,I' k W→I (k+1) (W.setCell ⟨bd,0,none⟩ (.int .i64 (d0+st * k+st)))) (h0:I 0 w) (a₁:Int→Act)
 (hassign : ∀ (l : Nat) (X : Int) (W : World) (K : Act → World → Prop), K (a₁ X) W→
   assign.wpIn (Fence.wide.inRound l) (n - 1 - 1) Tryz.prog (Exit.then K (fun _ _ _=>False)) { tmps:=(ps.zip #[Value.int .i64 X]).foldl (fun t (p,v)=>t.setIfInBounds p v) a.tmps,defers:=[] } W)
 (hbody : ∀ (l : Nat) (k : Nat) (W : World), I k W → k ≤ 1000 → ZW (d0 + st * k) = true → body.wpIn (Fence.wide.inRound l) (n - 1 - 1) Tryz.prog
   (fun e _ W'=>(∀ b,w.heap.size≤b→b<W.heap.size→W'.heap[b]?=W.heap[b]?)∧match e with|.normal=>I' k W'|.ret=>Ix W'|_=>False) (a₁ (d0+st * k)) W)
 (hdone:∀ (D k:Nat) (W:World),w.heap.size≤D→(1000<k∨ZW (d0+st * k)=false)→I k W→W.heap[D]?=some (.deferred (some []))→Q .normal { a with defers:={ target:=.collected D,args:=#[] } :: a.defers } W)
 (hstop:∀ (D:Nat) (W:World),w.heap.size≤D→Ix W→W.heap[D]?=some (.deferred (some []))→Q .ret { a with defers:={ target:=.collected D,args:=#[] } :: a.defers } W) :
 (Code.rangeFunc g ps assign body).wpIn Fence.wide n Tryz.prog Q a w:=by
 refine wpIn_rangeFunc ?_
 intro fn hfn
 obtain ⟨rec,hrec⟩:∃ rec:LoopState→Option Code→Loop,rec=fun st pe=>{ state:=st,pending:=pe,fn,tmps:=a.tmps,params:=ps,assign,body,defers:=w.heap.size }:=⟨_,rfl⟩
 obtain ⟨W1,hW1⟩:∃ W1,(w.alloc (.deferred (some []))).alloc (.loop (rec .ready none))=W1:=⟨_,rfl⟩
 have hL1:W1.heap[w.heap.size+1]?=some (.loop (rec .ready none)):=by
  rw [← hW1];have:=World.alloc_heap_new (w.alloc (.deferred (some []))) (.loop (rec .ready none));rwa [World.size_alloc] at this
 have hK1:W1.heap[w.heap.size]?=some (.deferred (some [])):=by
  rw [← hW1];exact (Below.heap_alloc _ _ _ (by simp)).trans (World.alloc_heap_new w _)
 have hb1:Below w.heap.size w W1:=by
  rw [← hW1];exact ((Below.refl _ w).alloc (Xo _) _).alloc (by simp) _
 have bput:∀ (W:World) (l:Nat) (o:Obj),w.heap.size≤l→Below w.heap.size W (W.putObj l o):=fun W l o hl=>
  ⟨rfl,rfl,rfl,by simp,fun k hk=>World.putObj_heap_other (by omega)⟩
 refine ⟨w.heap.size+1,[{ target:=.collected w.heap.size,args:=#[] }],W1,{ target:=.fn (.func 328) #[.pointer (some ⟨bd,0,none⟩),.pointer (some ⟨bs,0,none⟩)],args:=#[.func (.yield (w.heap.size+1)) #[] #[]] },W1,328,
  #[.func (.yield (w.heap.size+1)) #[] #[]]++#[.pointer (some ⟨bd,0,none⟩),.pointer (some ⟨bs,0,none⟩)],W1,?_,?_,?_,?_,fun h=>(by cases h),?_⟩
 rw [← hW1,hrec];exact run_enterLoop_outer _ _ _ _ _
 simp only [resolve,hg]
 simp [go_sem]
 intro f' hf';trivial
 have eg:=enters_of Tryz.func328 (by kernel_rfl) rfl
 simp [invoke,go_sem,eg]
 refine (ZgD (n - 1) (by omega) (w.heap.size+1) bd bs d0 st hst h00 h01
  (fun k W=>I k W∧W.heap[w.heap.size+1]?=some (.loop (rec .ready none))∧W.heap[w.heap.size]?=some (.deferred (some [])))
  (fun W=>Ix W∧W.heap[w.heap.size+1]?=some (.loop (rec .done (some .ret)))∧W.heap[w.heap.size]?=some (.deferred (some [])))
  (fun k W h=>hc k W h.1) ?_ W1 ⟨hI _ _ _ h0 hb1,hL1,hK1⟩).mono ?_
 · rintro k W ⟨hi,hl,hk⟩ hkl hin
   have hlt:w.heap.size+1<W.heap.size:=(Xl.1 hl).1
   have hy:=run_yield (P:=Tryz.prog) (args:=#[Value.int .i64 (d0+st * k)]) hl (by rw [hrec];simp [hps])
   rw [hrec] at hy
   refine ⟨fn,_,assign,body,hy,roundIn_of_wpIn hfn (hassign _ _ W _ ⟨_,run_beginRound hl (by rw [hrec]),?_⟩)⟩
   have hl2:(W.putObj (w.heap.size+1) (.loop { rec .ready none with state:=.busy })).heap[w.heap.size+1]?=some (.loop { rec .ready none with state:=.busy }):=World.putObj_heap_same hlt
   have hk2:(W.putObj (w.heap.size+1) (.loop { rec .ready none with state:=.busy })).heap[w.heap.size]?=some (.deferred (some [])):=(World.putObj_heap_other (by omega)).trans hk
   refine wpIn_mono (hbody _ k _ (hI _ _ _ hi (bput _ _ _ (by omega))) hkl hin) ?_
   have fin:∀ (jump:Option Code) (W3:World),(∀ b,w.heap.size≤b→b<(W.putObj (w.heap.size+1) (.loop { rec .ready none with state:=.busy })).heap.size→W3.heap[b]?=(W.putObj (w.heap.size+1) (.loop { rec .ready none with state:=.busy })).heap[b]?)→
    (Instr.endRound (w.heap.size+1) jump).run Tryz.prog W3=.ok (.bool jump.isNone) (W3.putObj (w.heap.size+1) (.loop (rec (if jump.isNone then .ready else .done) jump)))∧
    (W3.putObj (w.heap.size+1) (.loop (rec (if jump.isNone then .ready else .done) jump))).heap[w.heap.size+1]?=some (.loop (rec (if jump.isNone then .ready else .done) jump))∧
    (W3.putObj (w.heap.size+1) (.loop (rec (if jump.isNone then .ready else .done) jump))).heap[w.heap.size]?=some (.deferred (some [])):=fun jump W3 hk3=>by
    have hl3:=(hk3 (w.heap.size+1) (by omega) (by simp;omega)).trans hl2
    have hk4:=(hk3 w.heap.size (by omega) (by simp;omega)).trans hk2
    have:=run_endRound (P:=Tryz.prog) jump hl3
    rw [hrec] at this ⊢
    exact ⟨this,World.putObj_heap_same (Xl.1 hl3).1,(World.putObj_heap_other (by omega)).trans hk4⟩
   rintro e a3 W3 ⟨hk3,hp⟩
   cases e with
   | normal=>
     obtain ⟨hr,hl4,hk4⟩:=fin none W3 hk3
     have hi4:=hI' _ _ _ hp (bput W3 (w.heap.size+1) (.loop (rec .ready none)) (by omega))
     obtain ⟨p1,p2,p3⟩:=hc' _ _ hi4
     refine ⟨_,_,hr,.inl ⟨rfl,p1,p2,p3,hstep _ _ hi4,?_,?_⟩⟩
     exact (Below.heap_setCell _ ⟨bd,0,none⟩ _ _ (by show w.heap.size+1≠bd;omega)).trans hl4
     exact (Below.heap_setCell _ ⟨bd,0,none⟩ _ _ (by show w.heap.size≠bd;omega)).trans hk4
   | ret=>
     obtain ⟨hr,hl4,hk4⟩:=fin (some .ret) W3 hk3
     exact ⟨_,_,hr,.inr ⟨rfl,hIx _ _ hp (bput W3 (w.heap.size+1) _ (by omega)),hl4,hk4⟩⟩
   | exit id=>exact hp.elim
   | goto t=>exact hp.elim
   | panic ch=>exact hp.elim
   | outgrown=>exact hp.elim
 rintro e W2 ⟨⟨v,rfl⟩,(⟨k,hke,hi,hl,hk⟩|⟨hi,hl,hk⟩)⟩
 exact ⟨none,_,by have:=run_endLoop (P:=Tryz.prog) hl (by rw [hrec];simp);rw [hrec] at this;exact this,hdone _ k _ (Xo _) hke (hI _ _ _ hi (bput _ _ _ (by omega))) ((World.putObj_heap_other (by omega)).trans hk)⟩
 refine ⟨some .ret,_,by have:=run_endLoop (P:=Tryz.prog) hl (by rw [hrec];simp);rw [hrec] at this;exact this,?_⟩
 exact wpIn_ret (hstop _ _ (Xo _) (hIx _ _ hi (bput _ _ _ (by omega))) ((World.putObj_heap_other (by omega)).trans hk))
theorem ZgE (d st:Int) (w:World):CC 311 #[.int .i64 d,.int .i64 st] w fun r w'=>∃ b2 b3,r=.func (.func 328) #[] #[.pointer (some ⟨b2,0,none⟩),.pointer (some ⟨b3,0,none⟩)]∧w.heap.size≤b2∧b2<b3∧Blk w' b2 3 [.int .i64 d]∧Blk w' b3 3 [.int .i64 st]∧Stp [] w w':=by
 refine cW2 6 Tryz.func311 ?_
 refine W ?_
 refine Z3 (Zs rfl) rfl ?_
 rintro _ w1 ⟨b2,rfl,hb2,k2,hS⟩
 replace k2:Blk w1 b2 3 [.int .i64 d]:=k2
 refine Z3 (Zs rfl) rfl ?_
 rintro _ w2 ⟨b3,rfl,hb3,k3,hS2⟩
 replace k3:Blk w2 b3 3 [.int .i64 st]:=k3
 have:=k2.lt
 replace k2:=k2.up hS2
 refine W ?_
 refine WR ?_
 exact .mk ⟨b2,b3,rfl,hb2,by omega,k2,k3,hS.trans hS2⟩
theorem Z6D {P:Program} {t b:Nat} {D:TypeDesc} {u:Value} {w:World} [hu:Und P t D] (hA:JX D=false) (hc:w.cell? ⟨b,0,none⟩=some u):(loadVar t ⟨b,0,none⟩).run P w=.ok u w:=by
 simp [loadVar,Und.isAgg,hA,hc]
theorem Z9B (b:Nat) (v:Value) (w:World):Stp [b] w (w.setCell ⟨b,0,none⟩ v):=⟨rfl,rfl,rfl,(KeepsOthers.setCell w ⟨b,0,none⟩ v).size,fun k hk hn=>Below.heap_setCell w ⟨b,0,none⟩ v k (fun e=>hn (by simp [e]))⟩
theorem Z5D (opn:Int→Bool) (st:Int):∀ (m:Nat) (d:Int) (k:Nat),(∀ j:Nat,j<k→opn (d+st * j)=false)→(m≤k∨ZW (d+st * k)=false)→Z48 opn st m d=(0,31)
 | 0,d,k,_,_=>rfl
 | m + 1, d, k, h, hk => by
   unfold Z48
   cases hd:ZW d with
   | false=>rfl
   | true=>
     rw [if_pos rfl]
     cases k with
     | zero=>
       rcases hk with hk|hk
       omega
       rw [show d+st * ((0:Nat):Int)=d by simp,hd] at hk
       cases hk
     | succ k=>
       have h0:=h 0 (by omega)
       rw [show d+st * ((0:Nat):Int)=d by simp] at h0
       rw [if_neg (by rw [h0];simp)]
       have es:∀ j:Nat,d+st+st * (j:Int)=d+st * ((j+1:Nat):Int):=fun j=>by
        rw [Int.natCast_add,Int.mul_add];simp;omega
       exact Z5D opn st m (d+st) k (fun j hj=>by rw [es];exact h (j+1) (by omega)) (hk.imp (fun h=>by omega) (fun h=>by rw [es];exact h))
theorem Z7N (opn:Int→Bool) (st:Int):∀ (m:Nat) (d:Int) (k:Nat),k<m→(∀ j:Nat,j≤k→ZW (d+st * j)=true)→(∀ j:Nat,j<k→opn (d+st * j)=false)→opn (d+st * k)=true→Z48 opn st m d=(d+st * k,0)
 | 0,d,k,h,_,_,_=>absurd h (XI _)
 | m + 1, d, k, hkm, hi, h, ho => by
   have hd:=hi 0 (Xy _)
   rw [show d+st * ((0:Nat):Int)=d by simp] at hd
   unfold Z48
   rw [hd,if_pos rfl]
   cases k with
   | zero=>
     rw [show d+st * ((0:Nat):Int)=d by simp] at ho ⊢
     rw [if_pos ho]
   | succ k=>
     have h0:=h 0 (by omega)
     rw [show d+st * ((0:Nat):Int)=d by simp] at h0
     rw [if_neg (by rw [h0];simp)]
     have es:∀ j:Nat,d+st+st * (j:Int)=d+st * ((j+1:Nat):Int):=fun j=>by
      rw [Int.natCast_add,Int.mul_add];simp;omega
     rw [← es]
     exact Z7N opn st m (d+st) k (by omega) (fun j hj=>by rw [es];exact hi (j+1) (by omega)) (fun j hj=>by rw [es];exact h (j+1) (by omega)) (by rw [es];exact ho)
theorem Zdf {W:World} {b8 b9:Nat} {u v:Value} (c8:W.cell? ⟨b8,0,none⟩=some u) (c9:W.cell? ⟨b9,0,none⟩=some v) (n:b8≠b9) (x y:Value) :
 ((W.setCell ⟨b8,0,none⟩ x).setCell ⟨b9,0,none⟩ y).cell? ⟨b8,0,none⟩=some x∧((W.setCell ⟨b8,0,none⟩ x).setCell ⟨b9,0,none⟩ y).cell? ⟨b9,0,none⟩=some y:=by
 have h1:(W.setCell ⟨b8,0,none⟩ x).cell? ⟨b8,0,none⟩=some x:=World.cell?_setCell_same _ _ _ c8
 have h2:(W.setCell ⟨b8,0,none⟩ x).cell? ⟨b9,0,none⟩=some v:=(World.cell?_setCell_other _ _ _ _ (fun h=>n (by injection h))).trans c9
 exact ⟨(World.cell?_setCell_other _ _ _ _ (fun h=>n (by injection h with h;exact h.symm))).trans h1,World.cell?_setCell_same _ _ _ h2⟩
theorem Z5E (b8 b9:Nat) (x y:Value) (w:World):Stp [b8,b9] w ((w.setCell ⟨b8,0,none⟩ x).setCell ⟨b9,0,none⟩ y):=((Z9B b8 x w).mono (S':=[b8,b9]) (by simp)).trans ((Z9B b9 y _).mono (by simp))
theorem Zcl {tmps:Array Value} {W:World} {b8 b9:Nat} {x y:Value} (h8:tmps.getD 8 undef=.pointer (some ⟨b8,0,none⟩)) (h9:tmps.getD 9 undef=.pointer (some ⟨b9,0,none⟩)) (c8:W.cell? ⟨b8,0,none⟩=some x) (c9:W.cell? ⟨b9,0,none⟩=some y) :
 (results Tryz.f284 tmps).run Tryz.prog W=.ok (.tuple #[x,y]) W:=by
 rw [Xw] at h8 h9
 have l8:=Z6D (P:=Tryz.prog) (t:=3) (hu:=(inferInstance:Und Tryz.prog 3 (.int .i64))) rfl c8
 have l9:=Z6D (P:=Tryz.prog) (t:=41) (hu:=(inferInstance:Und Tryz.prog 41 (.int .i64))) rfl c9
 simp [results,h8,h9,asAddr,l8,l9]
set_option maxRecDepth 100000 in
set_option maxHeartbeats 2000000 in
theorem ZgF (d kn st:Int) (hst:st=1∨st=-1) (c:Cal) (hv cv zo zs hr:Value) (w:World) (h:Z56 w c hv cv zo zs hr) :
 CallsIn Fence.wide 5 Tryz.prog 284 #[Z4h c hv cv zo zs hr,.int .i64 d,.int .i64 kn,.int .i64 st] w fun e W'=>e=.returned (.tuple #[.int .i64 (JN (Zv c kn) st d).1,.int .i64 (JN (Zv c kn) st d).2])∧Stp [] w W':=by
 refine callsIn_of_wp_marks Tryz.func284 rfl trivial ?_ rfl
 simp only [Tryz.ntmps284,YaA,Xc,Xe,Nat.reduceAdd,Nat.reduceSub,Array.replicate_succ,Array.replicate_zero,List.push_toArray,List.append_toArray,XS,Xp]
 gi_wp2
 obtain ⟨W1,hW1⟩:∃ W1,W1=((w.alloc (.cells (Z0i c hv cv zo zs hr).toArray 37)).alloc (.cells #[.int .i64 0] 3)).alloc (.cells #[.int .i64 0] 41):=⟨_,rfl⟩
 rw [← hW1]
 have kc:Blk W1 w.heap.size 37 (Z0i c hv cv zo zs hr):=by
  rw [hW1]
  exact (Blk.up (World.alloc_heap_new w _) (Stp.alloc _ _ _)).up (Stp.alloc _ _ _)
 have k8:Blk W1 (w.heap.size+1) 3 [.int .i64 0]:=by
  rw [hW1]
  have:=World.alloc_heap_new (w.alloc (.cells (Z0i c hv cv zo zs hr).toArray 37)) (.cells #[.int .i64 0] 3)
  rw [World.size_alloc] at this
  exact Blk.up this (Stp.alloc _ _ _)
 have k9:Blk W1 (w.heap.size+1+1) 41 [.int .i64 0]:=by
  rw [hW1]
  have:=World.alloc_heap_new ((w.alloc (.cells (Z0i c hv cv zo zs hr).toArray 37)).alloc (.cells #[.int .i64 0] 3)) (.cells #[.int .i64 0] 41)
  rw [World.size_alloc,World.size_alloc] at this
  exact this
 have hS1:Stp [] w W1:=by
  rw [hW1]
  exact ((Stp.alloc _ _ _).trans (Stp.alloc _ _ _)).trans (Stp.alloc _ _ _)
 have hB8:w.heap.size≤w.heap.size+1:=by omega
 have hB9:w.heap.size≤w.heap.size+1+1:=by omega
 generalize hb9:w.heap.size+1+1=b9 at *
 generalize hb8:w.heap.size+1=b8 at *
 generalize hb4:w.heap.size=b4 at *
 clear hW1
 have n89:b8≠b9:=by omega
 have c8:=Boxed.cell (show Boxed W1 b8 3 (.int .i64 0) from k8)
 have f8:=Boxed.frozen (show Boxed W1 b8 3 (.int .i64 0) from k8)
 have c9:=Boxed.cell (show Boxed W1 b9 41 (.int .i64 0) from k9)
 have f9:=Boxed.frozen (show Boxed W1 b9 41 (.int .i64 0) from k9)
 refine ⟨trivial,?_⟩
 refine (callsIn_wide.2 (Z4i d W1)).mono ?_
 rintro e w' ⟨v,rfl,rfl,rfl⟩
 cases hd:ZW d with
 | false=>
   gi_wp2
   have hfd:JN (Zv c kn) st d=(0,5):=by unfold JN;rw [hd];rfl
   obtain ⟨g8,g9⟩:=Zdf c8 c9 n89 (.int .i64 0) (.int .i64 5)
   refine ⟨_,Zcl rfl rfl g8 g9,?_,?_⟩
   rw [hfd]
   exact hS1.own (Z5E b8 b9 _ _ _) (fun x hx=>by simp at hx;omega)
 | true=>
   have q:=fun (j:Nat) (u:Value) (hu:(Z0i c hv cv zo zs hr)[j]?=some u)=>kc.cell hu
   have q0:=q 0 _ rfl
   have q1:=q 1 _ rfl
   have q2:=q 2 _ rfl
   have q3:=q 3 _ rfl
   have q4:=q 4 _ rfl
   have q5:=q 5 _ rfl
   have q6:=q 6 _ rfl
   have q7:=q 7 _ rfl
   have q8:=q 8 _ rfl
   have q9:=q 9 _ rfl
   have q10:=q 10 _ rfl
   have q11:=q 11 _ rfl
   gi_wp2
   refine ⟨trivial,?_⟩
   refine (callsIn_wide.2 (ZgC kn c hv cv zo zs hr w')).mono ?_
   rintro e W2 ⟨v,rfl,⟨b2,b3,rfl,k2,k3⟩,hS2⟩
   have f8':=Boxed.frozen (show Boxed W2 b8 3 (.int .i64 0) from k8.up hS2)
   have f9':=Boxed.frozen (show Boxed W2 b9 41 (.int .i64 0) from k9.up hS2)
   have c8':=Boxed.cell (show Boxed W2 b8 3 (.int .i64 0) from k8.up hS2)
   have c9':=Boxed.cell (show Boxed W2 b9 41 (.int .i64 0) from k9.up hS2)
   have cN:=Boxed.cell (Boxed.new W2 184 .nilFunc)
   have fN:=Boxed.frozen (Boxed.new W2 184 .nilFunc)
   have hstr:(store ⟨W2.heap.size,0,none⟩ (.func (.func 237) #[] #[.pointer (some ⟨b2,0,none⟩),.pointer (some ⟨b3,0,none⟩)])).run Tryz.prog (W2.alloc (.cells #[.nilFunc] 184))=.ok () ((W2.alloc (.cells #[.nilFunc] 184)).setCell ⟨W2.heap.size,0,none⟩ (.func (.func 237) #[] #[.pointer (some ⟨b2,0,none⟩),.pointer (some ⟨b3,0,none⟩)])):=by
    rw [run_store _ _ _ _ _ rfl]
    simp [cN,fN]
   gi_wp2
   refine ⟨trivial,?_⟩
   refine (callsIn_wide.2 (ZgE d st _)).mono ?_
   rintro e W3 ⟨v,rfl,bd,bs,rfl,hbd,hbs,kd,ks,hS3⟩
   have hcl:W3.cell? ⟨W2.heap.size,0,none⟩=some (.func (.func 237) #[] #[.pointer (some ⟨b2,0,none⟩),.pointer (some ⟨b3,0,none⟩)]):=hS3.cell (by simp) (Boxed.cell (Boxed.new W2 184 _))
   have hSx:Stp [] W2 W3:=(Stp.alloc [] W2 _).trans hS3
   gi_wp2
   have hSw:Stp [] w' W3:=hS2.trans hSx
   have h3:=(h.up hS1).up hSw
   have hb2l:=(k2.up hSx).lt
   have k2':=k2.up hSx
   have k3':=k3.up hSx
   have k8':=k8.up hSw
   have k9':=k9.up hSw
   have hW2z:=hSx.size
   have hcz:W2.heap.size<W3.heap.size:=by have:=block_lt_of_cell hcl;simpa using this
   have hbdz:W2.heap.size<bd:=by simp at hbd;omega
   have k8l:=(k8.up hS2).lt
   have k9l:=(k9.up hS2).lt
   have k2l:=k2.lt
   have k3l:=k3.lt
   have h00:=(J1.1 hd).1
   have h01:=(J1.1 hd).2
   have hbdw:w.heap.size≤bd:=by have:=hS1.size;have:=hSw.size;have:=hS2.size;omega
   have g1:1<w.heap.size:=by have:=block_lt_of_cell (h.len 0 0 rfl);simpa using this
   have g2:3<w.heap.size:=by have:=block_lt_of_cell (h.mov 0 0 rfl);simpa using this
   have hhx:=h.hols.ext (X':=[bd]) (hS1.trans hSw) (by simp) (fun b hb=>.inr (by simp at hb;omega))
   have hcx:=h.clos.ext (X':=[bd]) (hS1.trans hSw) (by simp) (fun b hb=>.inr (by simp at hb;omega))
   have hzw:=(hS1.trans hSw).size
   have cal:∀ W,Stp [bd] W3 W→Z56 W c hv cv zo zs hr:=fun W hS=>⟨hhx.ext (X':=[]) hS (fun b hb=>hb) (by simp),hcx.ext (X':=[]) hS (fun b hb=>hb) (by simp),h3.len.ext hS (by simp;omega),h3.mov.ext hS (by simp;omega),h.ok⟩
   have sb:∀ {S:List Nat} {W W':World},Stp S W3 W→Below W3.heap.size W W'→Stp S W3 W':=fun hS hB=>⟨hB.os.trans hS.os,hB.tape.trans hS.tape,hB.output.trans hS.output,Xh hS.size hB.size,fun i hi hn=>(hB.block i hi).trans (hS.block i hi hn)⟩
   have hkd:=kd.lt
   have hks:=ks.lt
   refine Zck (by omega) rfl rfl hst h00 h01 kd.lt
    (fun k W=>Stp [bd] W3 W∧Boxed W bd 3 (.int .i64 (d+st * k))∧∀ j:Nat,j<k→Zv c kn (d+st * j)=false)
    (fun k W=>(Stp [bd] W3 W∧Boxed W bd 3 (.int .i64 (d+st * k))∧∀ j:Nat,j<k→Zv c kn (d+st * j)=false)∧Zv c kn (d+st * k)=false)
    (fun W=>Stp [bd,b8,b9] W3 W∧∃ k:Nat,k≤1000∧ZW (d+st * k)=true∧(∀ j:Nat,j<k→Zv c kn (d+st * j)=false)∧Zv c kn (d+st * k)=true∧W.cell? ⟨b8,0,none⟩=some (.int .i64 (d+st * k))∧W.cell? ⟨b9,0,none⟩=some (.int .i64 0))
    ?hI ?hI' ?hIx ?hc ?hc' ?hstep ?h0 (fun X=>{ tmps:=#[Z4h c hv cv zo zs hr,.int .i64 d,.int .i64 kn,.int .i64 st,.pointer (some ⟨b4,0,none⟩),undef,undef,undef,.pointer (some ⟨b8,0,none⟩),.pointer (some ⟨b9,0,none⟩),.pointer (some ⟨W2.heap.size,0,none⟩),.int .i64 X,.int .i64 d,.bool true,.bool false,Z4h c hv cv zo zs hr,.int .i64 kn,.func (.func 237) #[] #[.pointer (some ⟨b2,0,none⟩),.pointer (some ⟨b3,0,none⟩)],.int .i64 d,.int .i64 st,.func (.func 328) #[] #[.pointer (some ⟨bd,0,none⟩),.pointer (some ⟨bs,0,none⟩)],.int .i64 X,undef,undef,undef,undef,undef],defers:=[] }) ?hassign ?hbody ?hdone ?hstop
   case hI=>exact fun k W W' ⟨a,b,e⟩ hB=>⟨sb a hB,(hB.block bd hkd).trans b,e⟩
   case hI'=>exact fun k W W' ⟨⟨a,b,e⟩,f⟩ hB=>⟨⟨sb a hB,(hB.block bd hkd).trans b,e⟩,f⟩
   case hIx=>exact fun W W' ⟨a,k,p1,p2,p3,p4,p5,p6⟩ hB=>⟨sb a hB,k,p1,p2,p3,p4,(World.cell?_of_block (hB.block b8 (by omega))).trans p5,(World.cell?_of_block (hB.block b9 (by omega))).trans p6⟩
   case hc=>exact fun k W ⟨a,b,e⟩=>⟨b.cell,a.cell (by simp;omega) (ks.cell rfl)⟩
   case hc'=>exact fun k W ⟨⟨a,b,e⟩,f⟩=>⟨b.cell,b.frozen,a.cell (by simp;omega) (ks.cell rfl)⟩
   case hstep=>
    rintro k W ⟨⟨a,b,e⟩,f⟩
    have e1:d+st * ((k+1:Nat):Int)=d+st * k+st:=by rcases hst with rfl|rfl<;>omega
    refine ⟨a.trans (Z9B bd _ _),by rw [e1];exact b.set _,fun j hj=>?_⟩
    by_cases hjk:j=k
    subst hjk;exact f
    exact e j (by omega)
   case h0=>exact ⟨Stp.refl _ _,by rw [show d+st * ((0:Nat):Int)=d by simp];exact kd,fun j hj=>absurd hj (XI _)⟩
   case hassign=>
    intro l X W K hK
    gi_wp2
    exact hK
   case hbody=>
    rintro l k W ⟨a,bx,e⟩ hkl hin
    have hclw:=a.cell (b:=W2.heap.size) (o:=0) (by simp;omega) hcl
    obtain ⟨x0,x1⟩:=J1.1 hin
    gi_wp2
    refine ⟨trivial,(CallsIn.inRound l (callsIn_wide.2 (Zem (d+st * k) kn b2 b3 c hv cv zo zs hr W (cal W a) (k2'.ext a (by simp;omega)) (k3'.ext a (by simp;omega)) x0 x1))).mono ?_⟩
    rintro e5 W5 ⟨v,rfl,rfl,hS5⟩
    have a5:=a.trans (hS5.mono (by simp))
    cases hsh:ZcY c kn (d+st * k) with
    | true=>
      gi_wp2
      exact ⟨fun b h1 h2=>hS5.block b h2 (by simp),⟨Blk.up (show Blk W bd 3 [.int .i64 (d+st * k)] from bx) hS5,e⟩,by unfold Zv;rw [hin,hsh];rfl⟩
    | false=>
      have f8:=Boxed.frozen (show Boxed W5 b8 3 (.int .i64 0) from k8'.ext a5 (by simp;omega))
      have f9:=Boxed.frozen (show Boxed W5 b9 41 (.int .i64 0) from k9'.ext a5 (by simp;omega))
      have c8:=Boxed.cell (show Boxed W5 b8 3 (.int .i64 0) from k8'.ext a5 (by simp;omega))
      have c9:=Boxed.cell (show Boxed W5 b9 41 (.int .i64 0) from k9'.ext a5 (by simp;omega))
      gi_wp2
      exact ⟨fun b h1 h2=>((Z5E b8 b9 _ _ W5).block b (Xa h2 hS5.size) (by simp;omega)).trans (hS5.block b h2 (by simp)),(a5.mono (by simp)).trans ((Z5E b8 b9 _ _ W5).mono (by simp)),k,hkl,hin,e,by unfold Zv;rw [hin,hsh];rfl,rfl⟩
   case hdone=>
    rintro D k W hD hke ⟨a,bx,e⟩ hdef
    have f8:=Boxed.frozen (show Boxed W b8 3 (.int .i64 0) from k8'.ext a (by simp;omega))
    have f9:=Boxed.frozen (show Boxed W b9 41 (.int .i64 0) from k9'.ext a (by simp;omega))
    have c8:=Boxed.cell (show Boxed W b8 3 (.int .i64 0) from k8'.ext a (by simp;omega))
    have c9:=Boxed.cell (show Boxed W b9 41 (.int .i64 0) from k9'.ext a (by simp;omega))
    gi_wp2
    obtain ⟨y8,y9⟩:=Zdf c8 c9 n89 (.int .i64 0) (.int .i64 31)
    have hdz:D<W.heap.size:=(Xl.1 hdef).1
    have hdef2:=((Z5E b8 b9 (.int .i64 0) (.int .i64 31) W).block D hdz (by simp;omega)).trans hdef
    have hfd:JN (Zv c kn) st d=(0,31):=by
     unfold JN
     rw [hd,if_pos rfl]
     exact Z5D _ _ _ _ k e (hke.imp (fun h=>by omega) id)
    refine ⟨by simp,.inl ⟨_,_,rfl,run_takeDeferred hdef2,_,Zcl rfl rfl ((World.cell?_of_block (World.putObj_heap_other (by show b8≠D;omega))).trans y8) ((World.cell?_of_block (World.putObj_heap_other (by show b9≠D;omega))).trans y9),?_,?_⟩⟩
    rw [hfd]
    have t1:=((hS1.trans hSw).own a (fun x hx=>.inr (by simp at hx;omega))).own (Z5E b8 b9 (.int .i64 0) (.int .i64 31) W) (fun x hx=>.inr (by simp at hx;omega))
    refine ⟨t1.os,t1.tape,t1.output,by simpa using t1.size,fun q hq hn=>(World.putObj_heap_other (by omega)).trans (t1.block q hq hn)⟩
   case hstop=>
    rintro D W hD ⟨a,k,p1,p2,p3,p4,p5,p6⟩ hdef
    gi_wp2
    obtain ⟨x0,x1⟩:=J1.1 p2
    have hfd:JN (Zv c kn) st d=(d+st * k,0):=by
     unfold JN
     rw [hd,if_pos rfl]
     refine Z7N _ _ _ _ k (by omega) (fun j hj=>J1.2 ?_) p3 p4
     rcases hst with rfl|rfl<;>omega
    refine ⟨by simp,.inl ⟨_,_,rfl,run_takeDeferred hdef,_,Zcl rfl rfl ((World.cell?_of_block (World.putObj_heap_other (by show b8≠D;omega))).trans p5) ((World.cell?_of_block (World.putObj_heap_other (by show b9≠D;omega))).trans p6),?_,?_⟩⟩
    rw [hfd]
    have t1:=(hS1.trans hSw).own a (fun x hx=>.inr (by simp at hx;omega))
    exact ⟨t1.os,t1.tape,t1.output,by simpa using t1.size,fun q hq hn=>(World.putObj_heap_other (by omega)).trans (t1.block q hq hn)⟩
theorem Z3K (d kn st:Int) (c:Cal) (hv cv zo zs hr:Value) (w:World) (h:Z56 w c hv cv zo zs hr) (hst:st=1∨st=-1) :
 CC 284 #[Z4h c hv cv zo zs hr,.int .i64 d,.int .i64 kn,.int .i64 st] w fun r w'=>r=.tuple #[.int .i64 (JN (Zv c kn) st d).1,.int .i64 (JN (Zv c kn) st d).2]∧Stp [] w w':=by
 refine Calls.mono (callsIn_wide.1 (ZgF d kn st hst c hv cv zo zs hr w h)) ?_
 rintro e W' ⟨rfl,hS⟩
 exact .mk ⟨rfl,hS⟩
theorem Zen (d kn:Int) (c:Cal) (hv cv zo zs hr:Value) (w:World) (h:Z56 w c hv cv zo zs hr) :
 CC 235 #[Z4h c hv cv zo zs hr,.int .i64 d,.int .i64 kn] w fun r w'=>r=.tuple #[.int .i64 (JN (Zv c kn) (1) d).1,.int .i64 (JN (Zv c kn) (1) d).2]∧Stp [] w w':=by
 refine cW3 14 Tryz.func235 ?_
 refine W ?_
 refine Z3 (Zs rfl) rfl ?_
 rintro _ w1 ⟨b3,rfl,hb3,hblk,hS⟩
 replace hblk:Blk w1 b3 37 (Z0i c hv cv zo zs hr):=hblk
 replace h:=h.up hS
 refine W ?_
 refine CL rfl (Z3n rfl rfl rfl rfl) rfl (Z3K d kn (1) c hv cv zo zs hr _ h (by omega)) ?_
 rintro _ w2 ⟨rfl,hS2⟩
 refine W ?_
 refine WR ?_
 exact .mk ⟨rfl,hS.trans hS2⟩
theorem Z8d (d kn:Int) (c:Cal) (hv cv zo zs hr:Value) (w:World) (h:Z56 w c hv cv zo zs hr) :
 CC 236 #[Z4h c hv cv zo zs hr,.int .i64 d,.int .i64 kn] w fun r w'=>r=.tuple #[.int .i64 (JN (Zv c kn) (-1) d).1,.int .i64 (JN (Zv c kn) (-1) d).2]∧Stp [] w w':=by
 refine cW3 14 Tryz.func236 ?_
 refine W ?_
 refine Z3 (Zs rfl) rfl ?_
 rintro _ w1 ⟨b3,rfl,hb3,hblk,hS⟩
 replace hblk:Blk w1 b3 37 (Z0i c hv cv zo zs hr):=hblk
 replace h:=h.up hS
 refine W ?_
 refine CL rfl (Z3n rfl rfl rfl rfl) rfl (Z3K d kn (-1) c hv cv zo zs hr _ h (by omega)) ?_
 rintro _ w2 ⟨rfl,hS2⟩
 refine W ?_
 refine WR ?_
 exact .mk ⟨rfl,hS.trans hS2⟩
theorem Zix (d n kn:Int) (c:Cal) (hv cv zo zs hr:Value) (w:World) (h:Z56 w c hv cv zo zs hr) :
 CC 234 #[Z4h c hv cv zo zs hr,.int .i64 d,.int .i64 n,.int .i64 kn] w fun r w'=>r=.tuple #[.int .i64 (Z61 (Zv c kn) d n).1,.int .i64 (Z61 (Zv c kn) d n).2]∧Stp [] w w':=by
 refine cW4 46 Tryz.func234 ?_
 refine W ?_
 refine Z3 (Zs rfl) rfl ?_
 rintro _ w1 ⟨b4,rfl,hb4,hblk,hS⟩
 replace hblk:Blk w1 b4 37 (Z0i c hv cv zo zs hr):=hblk
 replace h:=h.up hS
 refine W ?_
 refine CL rfl (Zp rfl) rfl (Z4i d _) ?_
 rintro _ w1 ⟨rfl,rfl⟩
 unfold Z61
 cases hd:ZW d with
 | false=>
   rw [if_neg (by simp)]
   refine W ?_
   refine WR ?_
   exact .mk ⟨rfl,hS⟩
 | true=>
   rw [if_pos rfl]
   by_cases hn:n < -1000∨1000<n
   · rw [if_pos hn]
     repeat'(first|refine W1 ?_|omega|refine VG ?_ ?_<;>intro hg|refine VC ?_ ?_<;>intro hc)
     all_goals refine WR ?_
     all_goals exact .mk ⟨rfl,hS⟩
   rw [if_neg hn]
   by_cases hneg:n<0
   have hna:(n.natAbs:Int)=(-n):=by omega
   have hif:(if n<0 then (-1:Int) else 1)=-1:=by split<;>omega
   rw [hif]
   focus repeat'(first|refine W1 ?_|omega|refine VG ?_ ?_<;>intro hg|refine VC ?_ ?_<;>intro hc)
   refine ZD (σ:=Nat×Int) (fun q=>[(1,.int .i64 q.2),(3,.int .i64 kn),(4,.pointer (some ⟨b4,0,none⟩)),(10,.int .i64 (-1)),(28,.int .i64 (-n)),(29,.int .i64 (q.1:Int))])
    (fun q w'=>q.1≤n.natAbs∧ZW q.2=true∧Z60 (Zv c kn) (-1) (n.natAbs - q.1) q.2=Z60 (Zv c kn) (-1) n.natAbs d∧Stp [] w1 w') (fun q=>n.natAbs - q.1) (0,d) ⟨rfl,rfl,rfl,rfl,rfl,rfl,trivial⟩ ⟨Xy _,hd,rfl,Stp.refl _ _⟩ ?_
   rintro ⟨k,q⟩ w2 ⟨hk,hq,hfg,hS2⟩
   dsimp only at hk hq hfg ⊢
   have hblk2:=hblk.up hS2
   have h2:=h.up hS2
   have hqr:=J1.1 hq
   by_cases hlt:k<n.natAbs
   have e1:n.natAbs - k=(n.natAbs - (k+1))+1:=by omega
   rw [e1,Z60] at hfg
   focus repeat'(first|refine W1 ?_|omega|refine VG ?_ ?_<;>intro hg|refine VC ?_ ?_<;>intro hc)
   refine CL rfl (Z3n rfl rfl rfl rfl) rfl (Z3K (q+(-1)) kn (-1) c hv cv zo zs hr _ h2 (by omega)) ?_
   rintro _ w3 ⟨rfl,hS3⟩
   by_cases he:(JN (Zv c kn) (-1) (q+(-1))).2=0
   rw [if_pos he] at hfg
   rw [he]
   refine W ?_
   exact Zr (k+1,(JN (Zv c kn) (-1) (q+(-1))).1) ⟨rfl,rfl,rfl,rfl,rfl,rfl,trivial⟩ ⟨by dsimp only;omega,(Z3b he).1,hfg,hS2.trans hS3⟩ (by dsimp only;omega)
   rw [if_neg he] at hfg
   focus repeat'(first|refine W1 ?_|omega|refine VG ?_ ?_<;>intro hg|refine VC ?_ ?_<;>intro hc)
   refine WR ?_
   rw [← hfg]
   exact .mk ⟨rfl,(hS.trans hS2).trans hS3⟩
   have e1:n.natAbs - k=0:=by omega
   rw [e1,Z60] at hfg
   focus repeat'(first|refine W1 ?_|omega|refine VG ?_ ?_<;>intro hg|refine VC ?_ ?_<;>intro hc)
   refine WR ?_
   rw [← hfg]
   exact .mk ⟨rfl,hS.trans hS2⟩
   have hna:(n.natAbs:Int)=n:=by omega
   have hif:(if n<0 then (-1:Int) else 1)=1:=by split<;>omega
   rw [hif]
   focus repeat'(first|refine W1 ?_|omega|refine VG ?_ ?_<;>intro hg|refine VC ?_ ?_<;>intro hc)
   refine ZD (σ:=Nat×Int) (fun q=>[(1,.int .i64 q.2),(3,.int .i64 kn),(4,.pointer (some ⟨b4,0,none⟩)),(10,.int .i64 (1)),(28,.int .i64 n),(29,.int .i64 (q.1:Int))])
    (fun q w'=>q.1≤n.natAbs∧ZW q.2=true∧Z60 (Zv c kn) (1) (n.natAbs - q.1) q.2=Z60 (Zv c kn) (1) n.natAbs d∧Stp [] w1 w') (fun q=>n.natAbs - q.1) (0,d) ⟨rfl,rfl,rfl,rfl,rfl,rfl,trivial⟩ ⟨Xy _,hd,rfl,Stp.refl _ _⟩ ?_
   rintro ⟨k,q⟩ w2 ⟨hk,hq,hfg,hS2⟩
   dsimp only at hk hq hfg ⊢
   have hblk2:=hblk.up hS2
   have h2:=h.up hS2
   have hqr:=J1.1 hq
   by_cases hlt:k<n.natAbs
   have e1:n.natAbs - k=(n.natAbs - (k+1))+1:=by omega
   rw [e1,Z60] at hfg
   focus repeat'(first|refine W1 ?_|omega|refine VG ?_ ?_<;>intro hg|refine VC ?_ ?_<;>intro hc)
   refine CL rfl (Z3n rfl rfl rfl rfl) rfl (Z3K (q+(1)) kn (1) c hv cv zo zs hr _ h2 (by omega)) ?_
   rintro _ w3 ⟨rfl,hS3⟩
   by_cases he:(JN (Zv c kn) (1) (q+(1))).2=0
   rw [if_pos he] at hfg
   rw [he]
   refine W ?_
   exact Zr (k+1,(JN (Zv c kn) (1) (q+(1))).1) ⟨rfl,rfl,rfl,rfl,rfl,rfl,trivial⟩ ⟨by dsimp only;omega,(Z3b he).1,hfg,hS2.trans hS3⟩ (by dsimp only;omega)
   rw [if_neg he] at hfg
   focus repeat'(first|refine W1 ?_|omega|refine VG ?_ ?_<;>intro hg|refine VC ?_ ?_<;>intro hc)
   refine WR ?_
   rw [← hfg]
   exact .mk ⟨rfl,(hS.trans hS2).trans hS3⟩
   have e1:n.natAbs - k=0:=by omega
   rw [e1,Z60] at hfg
   focus repeat'(first|refine W1 ?_|omega|refine VG ?_ ?_<;>intro hg|refine VC ?_ ?_<;>intro hc)
   refine WR ?_
   rw [← hfg]
   exact .mk ⟨rfl,hS.trans hS2⟩
theorem Z8e (d n:Int) (w:World) (hL:Z0M w) (h0:0≤d) (h1:d≤3652058) :
 CC 233 #[.int .i64 d,.int .i64 n] w fun r w'=>r=.tuple #[.int .i64 (ZaG d n).1,.int .i64 (ZaG d n).2]∧Stp [] w w':=by
 obtain ⟨y1,y2,m1,m2,d1,d2,hday⟩:=Z43 h0 h1
 have hin:ZW d=true:=J1.2 ⟨h0,h1⟩
 have g1:1<w.heap.size:=by have:=block_lt_of_cell (hL 0 0 rfl);simpa using this
 unfold ZaG
 refine cW2 56 Tryz.func233 ?_
 by_cases hn:n < -200000∨200000<n
 · rw [if_pos hn]
   repeat'(first|refine W1 ?_|omega|refine VG ?_ ?_<;>intro hg|refine VC ?_ ?_<;>intro hc)
   all_goals refine WR ?_
   all_goals exact .mk ⟨rfl,Stp.refl _ _⟩
 rw [if_neg hn,if_pos hin]
 repeat'(first|refine W1 ?_|omega|refine VG ?_ ?_<;>intro hg|refine VC ?_ ?_<;>intro hc)
 refine CL rfl (Zp rfl) rfl (Z9A d _ h0 h1) ?_
 rintro _ w1 ⟨rfl,hS⟩
 replace hL:=hL.up hS
 refine W ?_
 refine Z3 Z6 rfl ?_
 rintro _ w2 ⟨b6,rfl,hb6,e6,hS2⟩
 refine W ?_
 refine Z0 (Z1 (us:=[.int .i64 (ofM d).y,.int .i64 (ofM d).m,.int .i64 (ofM d).d]) rfl rfl rfl rfl (by intro u hu;simp at hu;rcases hu with rfl|rfl|rfl<;>rfl) e6 rfl) ?_
 rintro _ w3 ⟨hT,k6⟩
 have hb6w:w.heap.size≤b6:=by have:=hS.size;omega
 replace hS:=hS.trans (hS2.own hT (fun c hc=>.inr (by simp at hc;omega)))
 replace hL:=hL.up (hS2.own hT (fun c hc=>.inr (by simp at hc;omega)))
 clear e6 hT hS2
 generalize hM:12 * (ofM d).y+(ofM d).m - 1+n=M
 by_cases hr:M<12∨120000≤M
 · rw [if_pos hr]
   refine W ?_
   rw [hM]
   repeat'(first|refine W1 ?_|omega|refine VG ?_ ?_<;>intro hg|refine VC ?_ ?_<;>intro hc)
   all_goals refine WR ?_
   all_goals exact .mk ⟨rfl,hS⟩
 rw [if_neg hr]
 have hl1:=Z19 (M / 12) (M % 12+1)
 have hl0:=Z1Z (y:=M / 12) (k:=(M % 12).toNat) (by omega)
 rw [show (((M % 12).toNat:Int))=M % 12 by omega] at hl0
 refine W ?_
 rw [hM]
 repeat'(first|refine W1 ?_|omega|refine VG ?_ ?_<;>intro hg|refine VC ?_ ?_<;>intro hc)
 refine Z0 (Zj (u:=.int .i64 (M / 12)) rfl rfl rfl rfl k6 (by simp)) ?_
 rintro _ w4 ⟨hS4,k6⟩
 refine W ?_
 refine Z0 (Zj (u:=.int .i64 (M % 12+1)) rfl rfl rfl rfl k6 (by simp)) ?_
 rintro _ w5 ⟨hS5,k6⟩
 replace hL:=(hL.ext hS4 (by simp;omega)).ext hS5 (by simp;omega)
 replace hS:=(hS.own hS4 (fun c hc=>.inr (by simp at hc;omega))).own hS5 (fun c hc=>.inr (by simp at hc;omega))
 clear hS4 hS5
 refine W ?_
 refine ZDr 10 [] [9] [(0,0),(1,1),(2,0),(3,1),(4,0),(5,1),(6,2),(7,0),(8,0),(9,2)] (fun w1 hS1=>?_)
 replace hL:=hL.up hS1
 replace k6:=k6.up hS1
 replace hS:=hS.trans hS1
 clear hS1
 refine D ?_
 refine Zb rfl trivial (Z5 rfl (Z9 rfl rfl) (Z3D (M / 12) (M % 12+1) _ hL (by omega) (by omega))) (fun _ _ h=>by rw [h.2];exact Stp.refl _ _) rfl ?_
 rintro _ _ ⟨rfl,rfl⟩
 refine D ?_
 refine JR rfl trivial (Zj (u:=.int .i64 (min (ofM d).d (ZM (M / 12) (M % 12+1)))) rfl rfl rfl rfl k6 (by simp)) rfl ?_
 rintro _ w6 ⟨hS6,k6⟩
 replace hS:=hS.own hS6 (fun c hc=>.inr (by simp at hc;omega))
 refine D ?_
 refine W ?_
 refine CL rfl (Zp rfl) rfl (Z52 (M / 12) (M % 12+1) (min (ofM d).d (ZM (M / 12) (M % 12+1))) _ (by omega) (by omega) (by omega) (by omega) (by omega) (by omega) (by omega)) ?_
 rintro _ w7 ⟨rfl,hS7⟩
 refine W ?_
 refine WR ?_
 exact .mk ⟨rfl,hS.trans hS7⟩
theorem Ziy (a b:Int) (w:World):(Instr.build 111 #[(0,.int .i64 a),(1,.int .i64 b)]).run Tryz.prog w=.ok (agg ((a,b):Spn)) w:=by kernel_rfl
theorem Z4j (d:Spn) (w:World):(Instr.buildSlice 45 1 #[(0,agg d)]).run Tryz.prog w=.ok (.slice (some ⟨w.heap.size,0,none⟩) 1 1) (w.alloc (.cells (Zi.enc d).toArray 111)):=by kernel_rfl
section
variable {K:MK} {w w':World} {sv pv:Value} {st:List Int} {sp:List Spn} {at_ er:Int} {dn:Bool}
theorem Mch.cal (hK:KOk K) (h:Mch K w sv pv st sp at_ er dn):Z56 w K.c K.hv K.cv K.zo K.zs K.hr:=
 ⟨(h.hols hK).ext (Stp.refl [] w) (by simp) (by simp),(h.clos hK).ext (Stp.refl [] w) (by simp) (by simp),h.len hK,h.mov hK,hK.cal⟩
theorem Mch.spans (hK:KOk K) (h:Mch K w sv pv st sp at_ er dn) {bs:Nat} (hk:K.nk=some bs) {pv':Value} {sp':List Spn} {w2:World} (hS:Stp (ob pv) w w') (hr:Row [] w' K.w0.heap.size 111 pv' sp') (ho:∀ b∈ob pv',b∈ob pv∨w.heap.size≤b)
 (hS2:Stp [bs] w' w2) (hb:Blk w2 bs 45 [pv']):Mch K w2 sv pv' st sp' at_ er dn:=by
 have hbm:=hK.bml
 have hn:=hK.nkl bs hk
 obtain ⟨h1,h2⟩:=h.nt bs hk
 have hge:=fun b hb=>(hr.ob_le b hb).1
 have hge0:=fun b hb=>(h2.ob_le b hb).1
 have hges:=fun b hb=>(h.row.ob_le b hb).1
 have hlts:=fun b hb=>(h.row.ob_le b hb).2
 refine ⟨(h.blk.ext hS (fun hx=>by have:=hge0 _ hx;omega)).ext hS2 (by have:=hn.2;simp;exact fun e=>this e.symm),(h.row.keep hS (fun b hb hp=>h.ap b hp hb)).keep hS2 (fun b hb hx=>by have:=hges _ hx;simp at hb;omega),fun bs' hbs=>?_,(fun h0=>by rw [hk] at h0;cases h0),fun b hb hp=>?_,?_,fun p hp=>?_⟩
 have hbs:bs'=bs:=by rw [hk] at hbs;exact (XJ hbs).symm
 subst hbs
 exact ⟨hb,hr.keep hS2 (fun b hb hx=>by have:=hge _ hx;simp at hb;omega)⟩
 rcases ho b hp with h3|h3
 exact h.ap b hb h3
 have:=hlts b hb
 omega
 exact (h.stp.own (S':=ob pv) hS (fun b hb=>.inr (hge0 b hb))).trans (hS2.mono (by simp [MK.own,hk]))
 obtain ⟨a,b,c,d⟩:=h.prot p hp
 have hlt:=(Xl.1 a).1
 have a2:=(hS.block p.1 hlt d).trans a
 have a3:=(hS2.block p.1 (Xl.1 a2).1 (fun e=>b (by simp at e;rw [e];simp [MK.own,hk]))).trans a2
 exact ⟨a3,b,c,fun h3=>(ho _ h3).elim d (fun h4=>by omega)⟩
theorem Zeo (a b:Int) (w:World):CC 57 #[.int .i64 a,.int .i64 b] w fun r w'=>r=.tuple #[]∧w'=w:=by
 refine cW2 4 Tryz.func57 ?_
 refine W ?_
 refine WR ?_
 exact .mk ⟨rfl,rfl⟩
theorem Zep (hK:KOk K) (h:Mch K w sv pv st sp at_ er dn) {bs:Nat} (hk:K.nk=some bs) (a b:Int) (hl:sp.length≤100000) :
 CC 78 #[.int .i64 a,.int .i64 b,.pointer (some ⟨bs,0,none⟩)] w fun r w'=>r=.tuple #[]∧∃ pv',Mch K w' sv pv' st (sp++[(a,b)]) at_ er dn:=by
 obtain ⟨hblk,hrow⟩:=h.nt bs hk
 have hn:=hK.nkl bs hk
 have hge0:=fun b hb=>(hrow.ob_le b hb).1
 refine cW3 11 Tryz.func78 ?_
 refine W ?_
 refine Ze (vs:=[(0,.int .i64 a),(1,.int .i64 b)]) rfl (Ziy _ _) rfl ?_
 refine Z3 (Z2 (vs:=[(0,agg ((a,b):Spn))]) rfl (Z4j _)) rfl ?_
 rintro bv w1 hN
 have hS1:=Zc.stp hN
 have hbv:SlV (ob pv++[]) w1 bv [((a,b):Spn)]:=hN.slv (fun b hb=>by simp at hb;exact (hrow.ob_le b hb).2) rfl rfl (by simp [maxLen])
 replace h:=h.up hS1
 replace hrow:=hrow.up hS1
 replace hblk:=hblk.up hS1
 refine Z3 (Z05 rfl (by decide) rfl rfl hrow hbv (by simp;omega) (by simp [maxLen];omega) (h.stp.size)) rfl ?_
 rintro pv' w2 ⟨hr2,hS2,ho⟩
 have hblk2:=hblk.ext hS2 (fun hx=>by have:=hge0 _ hx;omega)
 refine W ?_
 have h1:=hr2.slv (X:=[]) (by simp)
 refine Z0 (Zj (u:=pv') rfl rfl h1.cells h1.one hblk2 (by simp)) ?_
 rintro _ w3 ⟨hS3,hblk3⟩
 refine W ?_
 refine WR ?_
 exact .mk ⟨rfl,pv',h.spans hK hk hS2 hr2 ho hS3 hblk3⟩
theorem Z6V {P:Nat} {e:Env} {d:Option Nat} {ty:TypeId} {pos:String} {af:Array Edge} {g:Option (Nat×Bool)} {x y z:Operand} {ts:Array TypeId} (hK:KOk K) (h:Mch K w sv pv st sp at_ er dn) {a b:Int} (hl:sp.length≤100000)
 (hx:ev e x=some (Zjb K.nk)) (hy:ev e y=some (.int .i64 a)) (hz:ev e z=some (.int .i64 b)) :
 OE Tryz.prog P ⟨d,.call { callee:=.value x,args:=#[y,z],argTypes:=ts },ty,pos,af,g⟩ e w (fun v w'=>v=.tuple #[]∧∃ pv',Mch K w' sv pv' st (sp++[(a,b)]) at_ er dn):=by
 cases hk:K.nk with
 | none=>
   rw [hk] at hx
   refine (Z5 (f:=57) hx (Z9 hy hz) (Zeo a b w)).mono ?_
   rintro _ w' ⟨rfl,rfl⟩
   refine ⟨rfl,pv,h.blk,h.row,fun bs hbs=>?_,h.nt0,h.ap,h.stp,h.prot⟩
   rw [hk] at hbs
   cases hbs
 | some bs=>
   rw [hk] at hx
   exact Z3T (f:=78) hx (Z9 hy hz) rfl (Zep hK h hk a b hl)
theorem Res.err {r:Int×Int} {st':List Int} {sp':List Spn} (h:Res K w st sp at_ r) (he:¬ r.2=0):Res K w st' sp' at_ r:=by
 obtain ⟨a,b,c,d,h1,h2⟩:=h
 exact ⟨a,b,c,d,h1,fun h0=>absurd h0 he⟩
theorem Ziz (hK:KOk K) {a b:Int} (h:Mch K w sv pv (st++[a,b]) sp at_ 0 false) (hl:st.length≤100000) (n:Int) (hr:ZW a=true) :
 CC 151 #[mP K,.int .i64 n] w fun r w'=>r=.tuple #[]∧Res K w' st sp at_ (ZaG a b):=by
 obtain ⟨d0,d1⟩:=J1.1 hr
 refine cW2 18 Tryz.func151 ?_
 refine W ?_
 refine CL rfl (Zp rfl) rfl (Z0d hK h) ?_
 rintro _ w1 ⟨rfl,sv1,h1⟩
 refine W ?_
 refine CL rfl (Z9 rfl rfl) rfl (Z8e a b _ (h1.len hK) d0 d1) ?_
 rintro _ w2 ⟨rfl,hS⟩
 replace h1:=h1.up hS
 refine W ?_
 refine CL rfl (ZH rfl rfl rfl) rfl (Z0x hK h1 hl _ _) ?_
 rintro _ w3 ⟨rfl,h2⟩
 refine W ?_
 refine WR ?_
 exact .mk ⟨rfl,h2⟩
theorem Zpt (hK:KOk K) {b:Int} (h:Mch K w sv pv (st++[b]) sp at_ 0 false) (hl:st.length≤100000) (hlp:sp.length≤100000) (n:Int) :
 CC 153 #[mP K,.int .i64 n] w fun r w'=>r=.tuple #[]∧Res K w' st (sp++[(b,(JN (Zv K.c K.kn) 1 b).1)]) at_ (JN (Zv K.c K.kn) (1) b):=by
 refine cW2 35 Tryz.func153 ?_
 refine W ?_
 refine CL rfl (Zp rfl) rfl (Z1Q hK h) ?_
 rintro _ w1 ⟨rfl,sv1,h1⟩
 refine W ?_
 refine ZDr 15 [] [] [(0,0),(1,0),(2,0),(3,1),(4,0),(5,0),(6,0),(7,0),(8,1),(9,2),(10,0),(11,0),(12,0),(13,0),(14,0)] (fun w1 hS1=>?_)
 replace h1:=h1.up hS1
 have hblk:=h1.blk
 unfold Z1H at hblk
 refine D ?_
 refine ZN rfl trivial (fun w' hS'=>Je (us:=Z0i K.c K.hv K.cv K.zo K.zs K.hr) rfl rfl (hblk.up hS') rfl rfl) rfl ?_
 refine D ?_
 refine Zb rfl trivial (Z5 rfl (ZH rfl rfl rfl) (Zen b K.kn K.c K.hv K.cv K.zo K.zs K.hr _ (h1.cal hK))) (fun _ _ h=>h.2) rfl ?_
 rintro _ w2 ⟨rfl,hS2⟩
 replace h1:=h1.up hS2
 replace hblk:=hblk.up hS2
 refine D ?_
 by_cases he:(JN (Zv K.c K.kn) (1) b).2=0
 focus repeat'(first|refine W1 ?_|omega|refine VG ?_ ?_<;>intro hg|refine VC ?_ ?_<;>intro hc)
 refine Z3 (Z6V hK h1 hlp rfl rfl rfl) rfl ?_
 rintro _ w3 ⟨rfl,pv1,h2⟩
 refine W ?_
 refine CL rfl (ZH rfl rfl rfl) rfl (Z0x hK h2 hl _ _) ?_
 rintro _ w4 ⟨rfl,h3⟩
 refine W ?_
 refine WR ?_
 exact .mk ⟨rfl,h3⟩
 focus repeat'(first|refine W1 ?_|omega|refine VG ?_ ?_<;>intro hg|refine VC ?_ ?_<;>intro hc)
 refine CL rfl (ZH rfl rfl rfl) rfl (Z0x hK h1 hl _ _) ?_
 rintro _ w4 ⟨rfl,h3⟩
 refine W ?_
 refine WR ?_
 exact .mk ⟨rfl,h3.err he⟩
theorem Zpu (hK:KOk K) {b:Int} (h:Mch K w sv pv (st++[b]) sp at_ 0 false) (hl:st.length≤100000) (hlp:sp.length≤100000) (n:Int) :
 CC 154 #[mP K,.int .i64 n] w fun r w'=>r=.tuple #[]∧Res K w' st (sp++[((JN (Zv K.c K.kn) (-1) b).1,b)]) at_ (JN (Zv K.c K.kn) (-1) b):=by
 refine cW2 35 Tryz.func154 ?_
 refine W ?_
 refine CL rfl (Zp rfl) rfl (Z1Q hK h) ?_
 rintro _ w1 ⟨rfl,sv1,h1⟩
 refine W ?_
 refine ZDr 15 [] [] [(0,0),(1,0),(2,0),(3,1),(4,0),(5,0),(6,0),(7,0),(8,1),(9,2),(10,0),(11,0),(12,0),(13,0),(14,0)] (fun w1 hS1=>?_)
 replace h1:=h1.up hS1
 have hblk:=h1.blk
 unfold Z1H at hblk
 refine D ?_
 refine ZN rfl trivial (fun w' hS'=>Je (us:=Z0i K.c K.hv K.cv K.zo K.zs K.hr) rfl rfl (hblk.up hS') rfl rfl) rfl ?_
 refine D ?_
 refine Zb rfl trivial (Z5 rfl (ZH rfl rfl rfl) (Z8d b K.kn K.c K.hv K.cv K.zo K.zs K.hr _ (h1.cal hK))) (fun _ _ h=>h.2) rfl ?_
 rintro _ w2 ⟨rfl,hS2⟩
 replace h1:=h1.up hS2
 replace hblk:=hblk.up hS2
 refine D ?_
 by_cases he:(JN (Zv K.c K.kn) (-1) b).2=0
 focus repeat'(first|refine W1 ?_|omega|refine VG ?_ ?_<;>intro hg|refine VC ?_ ?_<;>intro hc)
 refine Z3 (Z6V hK h1 hlp rfl rfl rfl) rfl ?_
 rintro _ w3 ⟨rfl,pv1,h2⟩
 refine W ?_
 refine CL rfl (ZH rfl rfl rfl) rfl (Z0x hK h2 hl _ _) ?_
 rintro _ w4 ⟨rfl,h3⟩
 refine W ?_
 refine WR ?_
 exact .mk ⟨rfl,h3⟩
 focus repeat'(first|refine W1 ?_|omega|refine VG ?_ ?_<;>intro hg|refine VC ?_ ?_<;>intro hc)
 refine CL rfl (ZH rfl rfl rfl) rfl (Z0x hK h1 hl _ _) ?_
 rintro _ w4 ⟨rfl,h3⟩
 refine W ?_
 refine WR ?_
 exact .mk ⟨rfl,h3.err he⟩
theorem ZmX (hK:KOk K) {a b:Int} (h:Mch K w sv pv (st++[a,b]) sp at_ 0 false) (hl:st.length≤100000) (hlp:sp.length≤100000) (n:Int) (hr:ZW a=true) :
 CC 152 #[mP K,.int .i64 n] w fun r w'=>r=.tuple #[]∧Res K w' st (sp++Z0b 18 a b (Z61 (Zv K.c K.kn) a b).1) at_ (Z61 (Zv K.c K.kn) a b):=by
 obtain ⟨d0,d1⟩:=J1.1 hr
 refine cW2 57 Tryz.func152 ?_
 refine W ?_
 refine CL rfl (Zp rfl) rfl (Z0d hK h) ?_
 rintro _ w1 ⟨rfl,sv1,h1⟩
 refine W ?_
 refine ZDr 16 [] [] [(0,0),(1,0),(2,0),(3,1),(4,0),(5,0),(6,0),(7,0),(8,0),(9,1),(10,2),(11,0),(12,0),(13,0),(14,0),(15,0)] (fun w1 hS1=>?_)
 replace h1:=h1.up hS1
 have hblk:=h1.blk
 unfold Z1H at hblk
 refine D ?_
 refine ZN rfl trivial (fun w' hS'=>Je (us:=Z0i K.c K.hv K.cv K.zo K.zs K.hr) rfl rfl (hblk.up hS') rfl rfl) rfl ?_
 refine D ?_
 refine Zb rfl trivial (Z5 rfl (Z3n rfl rfl rfl rfl) (Zix a b K.kn K.c K.hv K.cv K.zo K.zs K.hr _ (h1.cal hK))) (fun _ _ h=>h.2) rfl ?_
 rintro _ w2 ⟨rfl,hS2⟩
 replace h1:=h1.up hS2
 replace hblk:=hblk.up hS2
 refine D ?_
 have hsp:Z0b 18 a b (Z61 (Zv K.c K.kn) a b).1=if 0<b then [(a+1,(Z61 (Zv K.c K.kn) a b).1)] else if b<0 then [((Z61 (Zv K.c K.kn) a b).1,a - 1)] else []:=rfl
 rw [hsp]
 by_cases he:(Z61 (Zv K.c K.kn) a b).2=0
 by_cases hb0:b=0
 rw [if_neg (by omega),if_neg (by omega),Xz]
 focus repeat'(first|refine W1 ?_|omega|refine VG ?_ ?_<;>intro hg|refine VC ?_ ?_<;>intro hc)
 refine CL rfl (ZH rfl rfl rfl) rfl (Z0x hK h1 hl _ _) ?_
 rintro _ w4 ⟨rfl,h3⟩
 refine W ?_
 refine WR ?_
 exact .mk ⟨rfl,h3⟩
 by_cases hb1:0<b
 rw [if_pos hb1]
 focus repeat'(first|refine W1 ?_|omega|refine VG ?_ ?_<;>intro hg|refine VC ?_ ?_<;>intro hc)
 refine Z3 (Z6V hK h1 hlp rfl rfl rfl) rfl ?_
 rintro _ w3 ⟨rfl,pv1,h2⟩
 refine W ?_
 refine CL rfl (ZH rfl rfl rfl) rfl (Z0x hK h2 hl _ _) ?_
 rintro _ w4 ⟨rfl,h3⟩
 refine W ?_
 refine WR ?_
 exact .mk ⟨rfl,h3⟩
 rw [if_neg hb1,if_pos (by omega)]
 focus repeat'(first|refine W1 ?_|omega|refine VG ?_ ?_<;>intro hg|refine VC ?_ ?_<;>intro hc)
 refine Z3 (Z6V hK h1 hlp rfl rfl rfl) rfl ?_
 rintro _ w3 ⟨rfl,pv1,h2⟩
 refine W ?_
 refine CL rfl (ZH rfl rfl rfl) rfl (Z0x hK h2 hl _ _) ?_
 rintro _ w4 ⟨rfl,h3⟩
 refine W ?_
 refine WR ?_
 exact .mk ⟨rfl,h3⟩
 focus repeat'(first|refine W1 ?_|omega|refine VG ?_ ?_<;>intro hg|refine VC ?_ ?_<;>intro hc)
 refine CL rfl (ZH rfl rfl rfl) rfl (Z0x hK h1 hl _ _) ?_
 rintro _ w4 ⟨rfl,h3⟩
 refine W ?_
 refine WR ?_
 exact .mk ⟨rfl,h3.err he⟩
end
structure Zcm (code:List Ins) (st:List (Option Shp)) (i:Nat) (s nx:Shp):Prop where
 at_:st.getD i none=some s
 next:Jn (code.getD i ⟨0,0⟩) s=some nx
 stop:(code.getD i ⟨0,0⟩).op=24→i+1=st.length∧s.length=1
 jump:(code.getD i ⟨0,0⟩).op=13∨(code.getD i ⟨0,0⟩).op=14→(i:Int)<(code.getD i ⟨0,0⟩).n∧(code.getD i ⟨0,0⟩).n<st.length∧st.getD (code.getD i ⟨0,0⟩).n.toNat none=some nx
 on:(code.getD i ⟨0,0⟩).op≠24→(code.getD i ⟨0,0⟩).op≠13→i+1<st.length∧st.getD (i+1) none=some nx
theorem Z2N {st st':List (Option Shp)} {t:Int} {nx:Shp} (h:Z1p st t nx=some st'):(∀ i s,st.getD i none=some s→st'.getD i none=some s)∧0≤t∧t<st.length∧st'.getD t.toNat none=some nx:=by
 unfold Z1p at h
 split at h
 rename_i hr
 split at h
 rename_i s0 hs0
 split at h
 rename_i he
 subst he
 cases h
 exact ⟨fun i s h=>h,hr.1,hr.2,hs0⟩
 cases h
 rename_i hn
 cases h
 refine ⟨fun i s h=>?_,hr.1,hr.2,?_⟩
 by_cases hi:t.toNat=i
 subst hi;rw [hn] at h;cases h
 have:(st.set t.toNat (some nx)).getD i none=st.getD i none:=by
  simp [List.getD,hi]
 rw [this];exact h
 have:t.toNat<st.length:=by omega
 simp [List.getD,this]
 cases h
theorem Zcm.keeps {code:List Ins} {st st':List (Option Shp)} {i:Nat} {s nx:Shp} (h:Zcm code st i s nx) (hk:∀ i s,st.getD i none=some s→st'.getD i none=some s) (hl:st'.length=st.length):Zcm code st' i s nx:=
 ⟨hk _ _ h.at_,h.next,fun h1=>by rw [hl];exact h.stop h1,fun h1=>by rw [hl];exact ⟨(h.jump h1).1,(h.jump h1).2.1,hk _ _ (h.jump h1).2.2⟩,fun h1 h2=>by rw [hl];exact ⟨(h.on h1 h2).1,hk _ _ (h.on h1 h2).2⟩⟩
theorem Zeq {code:List Ins} {st st':List (Option Shp)} {i:Nat} (h:Z2j st i (code.getD i ⟨0,0⟩)=some st'):(∀ i s,st.getD i none=some s→st'.getD i none=some s)∧st'.length=st.length∧∃ s nx,Zcm code st' i s nx:=by
 unfold Z2j at h
 cases hs:st.getD i none with
 | none=>rw [hs] at h;cases h
 | some s=>
   rw [hs] at h
   dsimp only at h
   cases hn:Jn (code.getD i ⟨0,0⟩) s with
   | none=>rw [hn] at h;cases h
   | some nx=>
     rw [hn] at h
     dsimp only at h
     by_cases h24:(code.getD i ⟨0,0⟩).op=24
     rw [if_pos h24] at h
     split at h
     rename_i hc
     cases h
     exact ⟨fun _ _ h=>h,rfl,s,nx,hs,hn,fun _=>hc,fun h=>by omega,fun h=>absurd h24 h⟩
     cases h
     rw [if_neg h24] at h
     by_cases h13:(code.getD i ⟨0,0⟩).op=13
     rw [if_pos h13] at h
     split at h
     rename_i hc
     obtain ⟨k1,k2,k3,k4⟩:=Z2N h
     have hl:=Z0G h
     exact ⟨k1,hl,s,nx,k1 _ _ hs,hn,fun h=>absurd h h24,fun _=>⟨hc,by omega,k4⟩,fun _ h=>absurd h13 h⟩
     cases h
     rw [if_neg h13] at h
     by_cases h14:(code.getD i ⟨0,0⟩).op=14
     rw [if_pos h14] at h
     split at h
     rename_i hc
     obtain ⟨s1,r1,r2⟩:=X5.1 h
     obtain ⟨k1,k2,k3,k4⟩:=Z2N r1
     obtain ⟨m1,m2,m3,m4⟩:=Z2N r2
     have hl:=Z0G r1
     have hl2:=Z0G r2
     exact ⟨fun i s h=>m1 _ _ (k1 _ _ h),by omega,s,nx,m1 _ _ (k1 _ _ hs),hn,fun h=>absurd h h24,fun _=>⟨hc,by omega,m1 _ _ k4⟩,fun _ _=>⟨by omega,m4⟩⟩
     cases h
     rw [if_neg h14] at h
     obtain ⟨k1,k2,k3,k4⟩:=Z2N h
     have hl:=Z0G h
     exact ⟨k1,hl,s,nx,k1 _ _ hs,hn,fun h=>absurd h h24,fun h=>absurd h (not_or.2 ⟨h13,h14⟩),fun _ _=>⟨by omega,k4⟩⟩
theorem Zb9 {code:List Ins} {st0:List (Option Shp)}:∀ (k:Nat) (st:List (Option Shp)),Z9e code k st0=some st→(∀ i s,st0.getD i none=some s→st.getD i none=some s)∧st.length=st0.length∧∀ i,i<k→∃ s nx,Zcm code st i s nx
 | 0,st,h=>by cases h;exact ⟨fun _ _ h=>h,rfl,fun i hi=>by omega⟩
 | k + 1, st, h => by
   obtain ⟨s1,h1,h2⟩:=X5.1 h
   obtain ⟨a1,a2,a3⟩:=Zb9 k s1 h1
   obtain ⟨b1,b2,b3⟩:=Zeq h2
   refine ⟨fun i s h=>b1 _ _ (a1 _ _ h),by omega,fun i hi=>?_⟩
   by_cases hk:i=k
   subst hk;exact b3
   obtain ⟨s,nx,hg⟩:=a3 i (by omega)
   exact ⟨s,nx,hg.keeps b1 b2⟩
theorem ZgG {code:List Ins} {t:Int} (h:Z89 code=(t,0)):0<code.length∧code.length≤200∧∃ st:List (Option Shp),st.length=code.length∧Zaj st∧(∀ s,some s∈st→s.length≤16)∧st.getD 0 none=some []∧st.getD (code.length - 1) none=some [t]∧∀ i,i<code.length→∃ s nx,Zcm code st i s nx:=by
 unfold Z89 at h
 by_cases hl:code.length=0∨code.length > 200
 rw [if_pos hl] at h;cases h
 rw [if_neg hl] at h
 cases hr:Z9e code code.length (some [] :: List.replicate (code.length - 1) none) with
 | none=>rw [hr] at h;cases h
 | some st=>
   rw [hr] at h
   dsimp only at h
   obtain ⟨a1,a2,a3⟩:=Zb9 _ _ hr
   have h0:Zaj ((some []) :: List.replicate (code.length - 1) none):=by
    intro s hs
    simp at hs
    subst hs
    intro k hk;cases hk
   have hlen:st.length=code.length:=by rw [a2];simp;omega
   have h16:∀ (k:Nat) (st:List (Option Shp)),Z9e code k (some [] :: List.replicate (code.length - 1) none)=some st→∀ s,some s∈st→s.length≤16:=by
    intro k
    induction k with
    | zero=>
      intro st h s hs
      cases h
      simp at hs
      subst hs
      simp
    | succ k ih=>
      intro st h
      obtain ⟨s1,h1,h2⟩:=X5.1 h
      exact Zmz (ih s1 h1) h2
   refine ⟨by omega,by omega,st,hlen,(ZfL h0 _ _ hr).1,h16 _ _ hr,a1 0 [] rfl,?_,a3⟩
   obtain ⟨s,nx,hg⟩:=a3 (code.length - 1) (by omega)
   have hat:=hg.at_
   rw [hat] at h ⊢
   by_cases h24:(code.getD (code.length - 1) ⟨0,0⟩).op=24
   have:=(hg.stop h24).2
   obtain ⟨k,rfl⟩:=YaN.1 this
   simp at h
   rw [h]
   by_cases h13:(code.getD (code.length - 1) ⟨0,0⟩).op=13
   have:=hg.jump (.inl h13)
   omega
   have:=hg.on h24 h13
   omega
abbrev Z9C:List (Int×Value):=[(1,fnV 109),(2,fnV 109),(3,fnV 109),(4,fnV 110),
 (5,fnV 139),(6,fnV 140),(7,fnV 141),(8,fnV 142),
 (9,fnV 143),(10,fnV 144),(11,fnV 145),(12,fnV 146),
 (13,fnV 147),(14,fnV 148),(15,fnV 149),(16,fnV 150),
 (17,fnV 151),(18,fnV 152),(19,fnV 153),(20,fnV 154),
 (21,fnV 155),(22,fnV 156),(23,fnV 157),(24,fnV 158)]
abbrev Zpv (z:Int):Value:=.int .i64 z
theorem Zes (w:World):CC 79 #[] w fun r w'=>∃ m,r=.map (some m)∧w.heap.size≤m∧Z03 Zpv w' m Z9C∧Stp [] w w':=by
 refine cW0 3 Tryz.func79 ?_
 refine W ?_
 refine Z3 (Z16 Zpv) rfl ?_
 rintro _ w1 ⟨m,rfl,hm,hmap,hS⟩
 refine Z0 (Zy (a:=(1:Int)) rfl rfl rfl hmap (by decide)) ?_
 clear hmap
 rintro _ w2 ⟨hmap,hT⟩
 replace hS:=hS.own hT (fun c hc=>.inr (by simp at hc;omega))
 clear hT
 refine Z0 (Zy (a:=(2:Int)) rfl rfl rfl hmap (by decide)) ?_
 clear hmap
 rintro _ w2 ⟨hmap,hT⟩
 replace hS:=hS.own hT (fun c hc=>.inr (by simp at hc;omega))
 clear hT
 refine Z0 (Zy (a:=(3:Int)) rfl rfl rfl hmap (by decide)) ?_
 clear hmap
 rintro _ w2 ⟨hmap,hT⟩
 replace hS:=hS.own hT (fun c hc=>.inr (by simp at hc;omega))
 clear hT
 refine Z0 (Zy (a:=(4:Int)) rfl rfl rfl hmap (by decide)) ?_
 clear hmap
 rintro _ w2 ⟨hmap,hT⟩
 replace hS:=hS.own hT (fun c hc=>.inr (by simp at hc;omega))
 clear hT
 refine Z0 (Zy (a:=(5:Int)) rfl rfl rfl hmap (by decide)) ?_
 clear hmap
 rintro _ w2 ⟨hmap,hT⟩
 replace hS:=hS.own hT (fun c hc=>.inr (by simp at hc;omega))
 clear hT
 refine Z0 (Zy (a:=(6:Int)) rfl rfl rfl hmap (by decide)) ?_
 clear hmap
 rintro _ w2 ⟨hmap,hT⟩
 replace hS:=hS.own hT (fun c hc=>.inr (by simp at hc;omega))
 clear hT
 refine Z0 (Zy (a:=(7:Int)) rfl rfl rfl hmap (by decide)) ?_
 clear hmap
 rintro _ w2 ⟨hmap,hT⟩
 replace hS:=hS.own hT (fun c hc=>.inr (by simp at hc;omega))
 clear hT
 refine Z0 (Zy (a:=(8:Int)) rfl rfl rfl hmap (by decide)) ?_
 clear hmap
 rintro _ w2 ⟨hmap,hT⟩
 replace hS:=hS.own hT (fun c hc=>.inr (by simp at hc;omega))
 clear hT
 refine Z0 (Zy (a:=(9:Int)) rfl rfl rfl hmap (by decide)) ?_
 clear hmap
 rintro _ w2 ⟨hmap,hT⟩
 replace hS:=hS.own hT (fun c hc=>.inr (by simp at hc;omega))
 clear hT
 refine Z0 (Zy (a:=(10:Int)) rfl rfl rfl hmap (by decide)) ?_
 clear hmap
 rintro _ w2 ⟨hmap,hT⟩
 replace hS:=hS.own hT (fun c hc=>.inr (by simp at hc;omega))
 clear hT
 refine Z0 (Zy (a:=(11:Int)) rfl rfl rfl hmap (by decide)) ?_
 clear hmap
 rintro _ w2 ⟨hmap,hT⟩
 replace hS:=hS.own hT (fun c hc=>.inr (by simp at hc;omega))
 clear hT
 refine Z0 (Zy (a:=(12:Int)) rfl rfl rfl hmap (by decide)) ?_
 clear hmap
 rintro _ w2 ⟨hmap,hT⟩
 replace hS:=hS.own hT (fun c hc=>.inr (by simp at hc;omega))
 clear hT
 refine Z0 (Zy (a:=(13:Int)) rfl rfl rfl hmap (by decide)) ?_
 clear hmap
 rintro _ w2 ⟨hmap,hT⟩
 replace hS:=hS.own hT (fun c hc=>.inr (by simp at hc;omega))
 clear hT
 refine Z0 (Zy (a:=(14:Int)) rfl rfl rfl hmap (by decide)) ?_
 clear hmap
 rintro _ w2 ⟨hmap,hT⟩
 replace hS:=hS.own hT (fun c hc=>.inr (by simp at hc;omega))
 clear hT
 refine Z0 (Zy (a:=(15:Int)) rfl rfl rfl hmap (by decide)) ?_
 clear hmap
 rintro _ w2 ⟨hmap,hT⟩
 replace hS:=hS.own hT (fun c hc=>.inr (by simp at hc;omega))
 clear hT
 refine Z0 (Zy (a:=(16:Int)) rfl rfl rfl hmap (by decide)) ?_
 clear hmap
 rintro _ w2 ⟨hmap,hT⟩
 replace hS:=hS.own hT (fun c hc=>.inr (by simp at hc;omega))
 clear hT
 refine Z0 (Zy (a:=(17:Int)) rfl rfl rfl hmap (by decide)) ?_
 clear hmap
 rintro _ w2 ⟨hmap,hT⟩
 replace hS:=hS.own hT (fun c hc=>.inr (by simp at hc;omega))
 clear hT
 refine Z0 (Zy (a:=(18:Int)) rfl rfl rfl hmap (by decide)) ?_
 clear hmap
 rintro _ w2 ⟨hmap,hT⟩
 replace hS:=hS.own hT (fun c hc=>.inr (by simp at hc;omega))
 clear hT
 refine Z0 (Zy (a:=(19:Int)) rfl rfl rfl hmap (by decide)) ?_
 clear hmap
 rintro _ w2 ⟨hmap,hT⟩
 replace hS:=hS.own hT (fun c hc=>.inr (by simp at hc;omega))
 clear hT
 refine Z0 (Zy (a:=(20:Int)) rfl rfl rfl hmap (by decide)) ?_
 clear hmap
 rintro _ w2 ⟨hmap,hT⟩
 replace hS:=hS.own hT (fun c hc=>.inr (by simp at hc;omega))
 clear hT
 refine Z0 (Zy (a:=(21:Int)) rfl rfl rfl hmap (by decide)) ?_
 clear hmap
 rintro _ w2 ⟨hmap,hT⟩
 replace hS:=hS.own hT (fun c hc=>.inr (by simp at hc;omega))
 clear hT
 refine Z0 (Zy (a:=(22:Int)) rfl rfl rfl hmap (by decide)) ?_
 clear hmap
 rintro _ w2 ⟨hmap,hT⟩
 replace hS:=hS.own hT (fun c hc=>.inr (by simp at hc;omega))
 clear hT
 refine Z0 (Zy (a:=(23:Int)) rfl rfl rfl hmap (by decide)) ?_
 clear hmap
 rintro _ w2 ⟨hmap,hT⟩
 replace hS:=hS.own hT (fun c hc=>.inr (by simp at hc;omega))
 clear hT
 refine Z0 (Zy (a:=(24:Int)) rfl rfl rfl hmap (by decide)) ?_
 clear hmap
 rintro _ w2 ⟨hmap,hT⟩
 replace hS:=hS.own hT (fun c hc=>.inr (by simp at hc;omega))
 clear hT
 refine W ?_
 refine WR ?_
 exact .mk ⟨m,rfl,hm,hmap,hS⟩
theorem Zcn {x:Ins} {s nx:Shp} {st:List Int} (hn:Jn x s=some nx) (hs:JI s st):(J7 x).2.2.2=true∧∃ st0 vs ts,st=st0++vs∧(ts=(J7 x).1∨(J7 x).2.1≠[]∧ts=(J7 x).2.1)∧JI ts vs:=by
 unfold Jn at hn
 dsimp only at hn
 split at hn
 rename_i hc
 obtain ⟨c1,c2,c3,c4⟩:=hc
 exact ⟨c1,st.take (s.length - (J7 x).1.length),st.drop (s.length - (J7 x).1.length),_,(XV _ _).symm,c3,hs.drop _⟩
 cases hn
def Z0k (K:MK) (w:World) (x:Ins) (st:List Int) (sp:List Spn) (sv pv:Value) (at_:Int):Prop:=
 if x.op=24 then Mch K w sv pv st sp at_ 0 true
 else if x.op=13 then Mch K w sv pv st sp x.n 0 false
 else if x.op=14 then ∃ sv',Mch K w sv' pv st.dropLast sp (if Js st 0=0 then x.n else at_) 0 false
 else Res K w (st.take (st.length - arM x.op)) (sp++Z0b x.op (Js st 1) (Js st 0) (Jq (Zv K.c K.kn) K.ev x (Js st 1) (Js st 0)).1) at_ (Jq (Zv K.c K.kn) K.ev x (Js st 1) (Js st 0))
theorem Z5F {t v:Int} (h:vOk t v):-2147483647≤v∧v≤2147483647:=by unfold vOk at h;omega
theorem Zs8 {t u a b:Int} (ha:vOk t a) (hb:vOk u b):I64 (a * b):=by
 have h1:=Z5F ha
 have h2:=Z5F hb
 have h3:(a * b).natAbs≤2147483647 * 2147483647:=by rw [Int.natAbs_mul];exact Nat.mul_le_mul (by omega) (by omega)
 unfold I64
 omega
section
variable {K:MK} {w w':World} {sv pv:Value} {st:List Int} {sp:List Spn} {at_ er:Int} {dn:Bool}
set_option maxHeartbeats 2000000 in
theorem Zdg {P:Nat} {e:Env} {d:Option Nat} {ty:TypeId} {pos:String} {af:Array Edge} {g:Option (Nat×Bool)} {y1 y2 y3:Operand} {ts:Array TypeId} (hK:KOk K) {x:Ins} {s nx:Shp}
 (h:Mch K w sv pv st sp at_ 0 false) (hn:Jn x s=some nx) (hs:JI s st) (hl:st.length≤100000) (hlp:sp.length≤100000)
 (hx:ev e y1=some (Z2Z Z9C x.op .nilFunc)) (hy:ev e y2=some (mP K)) (hz:ev e y3=some (.int .i64 x.n)) :
 OE Tryz.prog P ⟨d,.call { callee:=.value y1,args:=#[y2,y3],argTypes:=ts },ty,pos,af,g⟩ e w (fun v w'=>v=.tuple #[]∧Z0k K w' x st sp sv pv at_):=by
 obtain ⟨hx1,st0,vs,ts',rfl,hts,hvs⟩:=Zcn hn hs
 have hr:=Z7y hx1
 obtain ⟨op,n⟩:=x
 dsimp only at *
 have hl0:st0.length≤100000:=by rw [Xb] at hl;omega
 have hop:op=1∨op=2∨op=3∨op=4∨op=5∨op=6∨op=7∨op=8∨op=9∨op=10∨op=11∨op=12∨op=13∨op=14∨op=15∨op=16∨op=17∨op=18∨op=19∨op=20∨op=21∨op=22∨op=23∨op=24:=by omega
 rcases hop with rfl|rfl|rfl|rfl|rfl|rfl|rfl|rfl|rfl|rfl|rfl|rfl|rfl|rfl|rfl|rfl|rfl|rfl|rfl|rfl|rfl|rfl|rfl|rfl
 all_goals (simp [J7] at hx1 hts)
 all_goals (try subst hts)
 case inl|inr.inl|inr.inr.inl=>
  refine (Z5 (f:=109) hx (Z9 hy hz) (Zgr hK h hl n)).mono ?_
  rintro v w' ⟨rfl,hres⟩
  refine ⟨rfl,?_⟩
  unfold Z0k
  have et:List.take (st0.length+vs.length) (st0++vs)=st0++vs:=XB (by simp)
  simpa [arM,Z0b,Jq,et] using hres
 case inr.inr.inr.inl=>
  refine (Z5 (f:=110) hx (Z9 hy hz) (Zgu hK h hl n (by omega) (by omega))).mono ?_
  rintro v w' ⟨rfl,hres⟩
  refine ⟨rfl,?_⟩
  unfold Z0k
  have et:List.take (st0.length+vs.length) (st0++vs)=st0++vs:=XB (by simp)
  simpa [arM,Z0b,Jq,et] using hres
 case inr.inr.inr.inr.inl=>
  obtain ⟨a,b,rfl,ha,hb⟩:=hvs.two_inv
  refine (Z5 (f:=139) hx (Z9 hy hz) (Zs2 hK h hl0 n (by have:=Z5F ha;have:=Z5F hb;unfold I64;omega))).mono ?_
  rintro v w' ⟨rfl,hres⟩
  refine ⟨rfl,?_⟩
  unfold Z0k
  simpa [arM,Z0b,Jq,Jf,ZY] using hres
 case inr.inr.inr.inr.inr.inl=>
  obtain ⟨a,b,rfl,ha,hb⟩:=hvs.two_inv
  refine (Z5 (f:=140) hx (Z9 hy hz) (Zs3 hK h hl0 n (by have:=Z5F ha;have:=Z5F hb;unfold I64;omega))).mono ?_
  rintro v w' ⟨rfl,hres⟩
  refine ⟨rfl,?_⟩
  unfold Z0k
  simpa [arM,Z0b,Jq,Jf,ZY] using hres
 case inr.inr.inr.inr.inr.inr.inl=>
  obtain ⟨a,b,rfl,ha,hb⟩:=hvs.two_inv
  refine (Z5 (f:=141) hx (Z9 hy hz) (Zs4 hK h hl0 n (Zs8 ha hb))).mono ?_
  rintro v w' ⟨rfl,hres⟩
  refine ⟨rfl,?_⟩
  unfold Z0k
  simpa [arM,Z0b,Jq,Jf,ZY] using hres
 case inr.inr.inr.inr.inr.inr.inr.inr.inl=>
  obtain ⟨a,b,rfl⟩:∃ a b,vs=[a,b]:=by
   rcases hts with rfl|rfl
   all_goals
    obtain ⟨a,b,h1,-⟩:=hvs.two_inv
    exact ⟨a,b,h1⟩
  refine (Z5 (f:=143) hx (Z9 hy hz) (ltV hK h hl0 n trivial)).mono ?_
  rintro v w' ⟨rfl,hres⟩
  refine ⟨rfl,?_⟩
  unfold Z0k
  simpa [arM,Z0b,Jq,Jf,ZY] using hres
 case inr.inr.inr.inr.inr.inr.inr.inr.inr.inl=>
  obtain ⟨a,b,rfl⟩:∃ a b,vs=[a,b]:=by
   rcases hts with rfl|rfl
   all_goals
    obtain ⟨a,b,h1,-⟩:=hvs.two_inv
    exact ⟨a,b,h1⟩
  refine (Z5 (f:=144) hx (Z9 hy hz) (leV hK h hl0 n trivial)).mono ?_
  rintro v w' ⟨rfl,hres⟩
  refine ⟨rfl,?_⟩
  unfold Z0k
  simpa [arM,Z0b,Jq,Jf,ZY] using hres
 case inr.inr.inr.inr.inr.inr.inr.inr.inr.inr.inl=>
  obtain ⟨a,b,rfl⟩:∃ a b,vs=[a,b]:=by
   rcases hts with rfl|rfl
   all_goals
    obtain ⟨a,b,h1,-⟩:=hvs.two_inv
    exact ⟨a,b,h1⟩
  refine (Z5 (f:=145) hx (Z9 hy hz) (eqV hK h hl0 n trivial)).mono ?_
  rintro v w' ⟨rfl,hres⟩
  refine ⟨rfl,?_⟩
  unfold Z0k
  simpa [arM,Z0b,Jq,Jf,ZY] using hres
 case inr.inr.inr.inr.inr.inr.inr.inr.inr.inr.inr.inr.inr.inr.inl=>
  obtain ⟨a,b,rfl,ha,hb⟩:=hvs.two_inv
  refine (Z5 (f:=149) hx (Z9 hy hz) (Zpl hK h hl0 n (by have:=Z5F ha;have:=Z5F hb;unfold I64;omega))).mono ?_
  rintro v w' ⟨rfl,hres⟩
  refine ⟨rfl,?_⟩
  unfold Z0k
  simpa [arM,Z0b,Jq,Jf,ZY] using hres
 case inr.inr.inr.inr.inr.inr.inr.inr.inr.inr.inr.inr.inr.inr.inr.inl=>
  obtain ⟨a,b,rfl,ha,hb⟩:=hvs.two_inv
  refine (Z5 (f:=150) hx (Z9 hy hz) (ZmS hK h hl0 n (by have:=Z5F ha;have:=Z5F hb;unfold I64;omega))).mono ?_
  rintro v w' ⟨rfl,hres⟩
  refine ⟨rfl,?_⟩
  unfold Z0k
  simpa [arM,Z0b,Jq,Jf,ZY] using hres
 case inr.inr.inr.inr.inr.inr.inr.inr.inr.inr.inr.inr.inr.inr.inr.inr.inl=>
  obtain ⟨a,b,rfl,ha,hb⟩:=hvs.two_inv
  refine (Z5 (f:=151) hx (Z9 hy hz) (Ziz hK h hl0 n (J1.2 ha.d))).mono ?_
  rintro v w' ⟨rfl,hres⟩
  refine ⟨rfl,?_⟩
  unfold Z0k
  simpa [arM,Z0b,Jq,Jf,ZY] using hres
 case inr.inr.inr.inr.inr.inr.inr.inr.inr.inr.inr.inr.inr.inr.inr.inr.inr.inl=>
  obtain ⟨a,b,rfl,ha,hb⟩:=hvs.two_inv
  refine (Z5 (f:=152) hx (Z9 hy hz) (ZmX hK h hl0 hlp n (J1.2 ha.d))).mono ?_
  rintro v w' ⟨rfl,hres⟩
  refine ⟨rfl,?_⟩
  unfold Z0k
  simpa [arM,Z0b,Jq,Jf,ZY] using hres
 case inr.inr.inr.inr.inr.inr.inr.inr.inr.inr.inr.inr.inr.inr.inr.inr.inr.inr.inr.inr.inl=>
  obtain ⟨a,b,rfl,ha,hb⟩:=hvs.two_inv
  refine (Z5 (f:=155) hx (Z9 hy hz) (ZmT hK h hl0 n trivial)).mono ?_
  rintro v w' ⟨rfl,hres⟩
  refine ⟨rfl,?_⟩
  unfold Z0k
  simpa [arM,Z0b,Jq,Jf,ZY] using hres
 case inr.inr.inr.inr.inr.inr.inr.inr.inr.inr.inr.inr.inr.inr.inr.inr.inr.inr.inr.inr.inr.inl=>
  obtain ⟨a,b,rfl,ha,hb⟩:=hvs.two_inv
  refine (Z5 (f:=156) hx (Z9 hy hz) (Zgs hK h hl0 n trivial)).mono ?_
  rintro v w' ⟨rfl,hres⟩
  refine ⟨rfl,?_⟩
  unfold Z0k
  simpa [arM,Z0b,Jq,Jf,ZY] using hres
 case inr.inr.inr.inr.inr.inr.inr.inr.inr.inr.inr.inr.inr.inr.inr.inr.inr.inr.inr.inr.inr.inr.inl=>
  obtain ⟨a,b,rfl,ha,hb⟩:=hvs.two_inv
  refine (Z5 (f:=157) hx (Z9 hy hz) (Zgt hK h hl0 n (by have:=Z5F ha;have:=Z5F hb;unfold I64;omega))).mono ?_
  rintro v w' ⟨rfl,hres⟩
  refine ⟨rfl,?_⟩
  unfold Z0k
  have e:Z3E (b - a)=(b - a,0):=by
   have:=ha.d;have:=hb.d
   unfold Z3E
   rw [if_neg (by omega)]
  rw [e] at hres
  simpa [arM,Z0b,Jq,Jf,ZY] using hres
 case inr.inr.inr.inr.inr.inr.inr.inl=>
  obtain ⟨b,rfl,hb⟩:=hvs.one_inv
  refine (Z5 (f:=142) hx (Z9 hy hz) (Zs5 hK h hl0 n (by have:=Z5F hb;unfold I64;omega))).mono ?_
  rintro v w' ⟨rfl,hres⟩
  refine ⟨rfl,?_⟩
  unfold Z0k
  have e:Z3E (-b)=(-b,0):=by
   have:=Z5F hb
   unfold Z3E
   rw [if_neg (by omega)]
  rw [e] at hres
  simpa [arM,Z0b,Jq,Z3a,Z1E] using hres
 case inr.inr.inr.inr.inr.inr.inr.inr.inr.inr.inr.inl=>
  obtain ⟨b,rfl,hb⟩:=hvs.one_inv
  refine (Z5 (f:=146) hx (Z9 hy hz) (Zs6 hK h hl0 n)).mono ?_
  rintro v w' ⟨rfl,hres⟩
  refine ⟨rfl,?_⟩
  unfold Z0k
  have e:Jr (decide (b=0))=1 - b:=by
   rcases hb.b with rfl|rfl<;>rfl
  rw [e] at hres
  simpa [arM,Z0b,Jq,Z3a,Z1E] using hres
 case inr.inr.inr.inr.inr.inr.inr.inr.inr.inr.inr.inr.inr.inr.inr.inr.inr.inr.inl=>
  obtain ⟨b,rfl,hb⟩:=hvs.one_inv
  refine (Z5 (f:=153) hx (Z9 hy hz) (Zpt hK h hl0 hlp n)).mono ?_
  rintro v w' ⟨rfl,hres⟩
  refine ⟨rfl,?_⟩
  unfold Z0k
  simpa [arM,Z0b,Jq,Z3a,Z1E] using hres
 case inr.inr.inr.inr.inr.inr.inr.inr.inr.inr.inr.inr.inr.inr.inr.inr.inr.inr.inr.inl=>
  obtain ⟨b,rfl,hb⟩:=hvs.one_inv
  refine (Z5 (f:=154) hx (Z9 hy hz) (Zpu hK h hl0 hlp n)).mono ?_
  rintro v w' ⟨rfl,hres⟩
  refine ⟨rfl,?_⟩
  unfold Z0k
  simpa [arM,Z0b,Jq,Z3a,Z1E] using hres
 case inr.inr.inr.inr.inr.inr.inr.inr.inr.inr.inr.inr.inl=>
  refine (Z5 (f:=147) hx (Z9 hy hz) (Zpm hK h n)).mono ?_
  rintro v w' ⟨rfl,hres⟩
  refine ⟨rfl,?_⟩
  unfold Z0k
  simpa using hres
 case inr.inr.inr.inr.inr.inr.inr.inr.inr.inr.inr.inr.inr.inl=>
  obtain ⟨b,rfl,hb⟩:=hvs.one_inv
  refine (Z5 (f:=148) hx (Z9 hy hz) (Zim hK h n)).mono ?_
  rintro v w' ⟨rfl,hres⟩
  refine ⟨rfl,?_⟩
  unfold Z0k
  simpa [Z1E] using hres
 case inr.inr.inr.inr.inr.inr.inr.inr.inr.inr.inr.inr.inr.inr.inr.inr.inr.inr.inr.inr.inr.inr.inr=>
  refine (Z5 (f:=158) hx (Z9 hy hz) (Zpn hK h n)).mono ?_
  rintro v w' ⟨rfl,hres⟩
  refine ⟨rfl,?_⟩
  unfold Z0k
  simpa using hres
end
abbrev Z9D (ev:List Int):Value:=.agg (evC ev).toArray
theorem ZiA (ev:List Int) (c:Cal) (hv cv zo zs hr:Value) (kn:Int) (b:Addr) (w:World) :
 (Instr.build 126 #[(0, Z9D ev), (1, Z4h c hv cv zo zs hr), (2, .int .i64 kn), (7, .func (.func 78) #[] #[.pointer (some b)])]).run Tryz.prog w
   = .ok (.agg (evC ev++Z0i c hv cv zo zs hr++([.int .i64 kn,.slice none 0 0,.int .i64 0,.int .i64 0,.bool false,.func (.func 78) #[] #[.pointer (some b)]]:List Value)).toArray) w:=by kernel_rfl
theorem ZiB (ev:List Int) (c:Cal) (hv cv zo zs hr:Value) (kn:Int) (w:World) :
 (Instr.build 126 #[(0, Z9D ev), (1, Z4h c hv cv zo zs hr), (2, .int .i64 kn), (7, .func (.func 57) #[] #[])]).run Tryz.prog w
   = .ok (.agg (evC ev++Z0i c hv cv zo zs hr++([.int .i64 kn,.slice none 0 0,.int .i64 0,.int .i64 0,.bool false,.func (.func 57) #[] #[]]:List Value)).toArray) w:=by kernel_rfl
theorem ZmY {x:Ins} {s nx:Shp} (hx:x.op=13) (hn:Jn x s=some nx):nx=s:=by
 obtain ⟨op,n⟩:=x
 dsimp only at hx
 subst hx
 simp [Jn,J7] at hn
 exact hn.2.symm
theorem ZmZ {x:Ins} {s nx:Shp} (hx:x.op=14) (hn:Jn x s=some nx):nx=s.dropLast:=by
 obtain ⟨op,n⟩:=x
 dsimp only at hx
 subst hx
 simp [Jn,J7] at hn
 rw [YaQ]
 exact hn.2.symm
def ZiC (K:MK) (code:List Ins) (sh:List (Option Shp)) (q:Nat×Bool) (w:World):Prop:=
 ∃ sv pv st sp at_ er, Mch K w sv pv st sp at_ er q.2∧
   (q.2=false→er=0∧at_=(q.1:Int)∧q.1<code.length∧sp.length≤q.1∧(∃ s,sh.getD q.1 none=some s∧JI s st)∧∃ f,code.length≤f+q.1∧Z2R (Zv K.c K.kn) K.ev code f q.1 st sp=Z0V (Zv K.c K.kn) K.ev code)∧
   (q.2=true→(er=0∧∃ x,st=[x]∧Z0V (Zv K.c K.kn) K.ev code=(x,sp,0))∨(er≠0∧Z0V (Zv K.c K.kn) K.ev code=(0,[],er)))
theorem ZiC.step {K:MK} {code:List Ins} {sh:List (Option Shp)} {i:Nat} {x:Ins} {s nx:Shp} {st:List Int} {sp:List Spn} {w:World} {sv pv:Value} {f:Nat} (hK:KOk K) (hi:i<code.length) (hx:code.getD i ⟨0,0⟩=x) (hlen:sh.length=code.length)
 (hg:Zcm code sh i s nx) (h16:∀ s,some s∈sh→s.length≤16) (hst:JI s st) (hsp:sp.length≤i) (hf:code.length≤f+i) (hr:Z2R (Zv K.c K.kn) K.ev code f i st sp=Z0V (Zv K.c K.kn) K.ev code)
 (h:Z0k K w x st sp sv pv ((i+1:Nat):Int)):∃ q:Nat×Bool,ZiC K code sh q w∧(if q.2=true then 0 else code.length+1 - q.1)<code.length+1 - i:=by
 obtain ⟨f,rfl⟩:∃ f',f=f'+1:=⟨f - 1,by omega⟩
 rw [Z2R] at hr
 rw [hx] at hr
 have hn:=hg.next
 rw [hx] at hn
 unfold Z0k at h
 by_cases h24:x.op=24
 rw [if_pos h24] at h hr
 obtain ⟨hs1,hs2⟩:=hg.stop (by rw [hx];exact h24)
 have hl1:st.length=1:=by rw [← hst.1];exact hs2
 obtain ⟨a,rfl⟩:=YaN.1 hl1
 refine ⟨(i,true),⟨sv,pv,[a],sp,_,0,h,(fun hq=>by cases hq),fun _=>.inl ⟨rfl,a,rfl,?_⟩⟩,by simp;omega⟩
 rw [← hr]
 rfl
 rw [if_neg h24] at h hr
 by_cases h13:x.op=13
 rw [if_pos h13] at h hr
 obtain ⟨j1,j2,j3⟩:=hg.jump (.inl (by rw [hx];exact h13))
 rw [hx] at j1 j2 j3
 have hnx:=ZmY h13 hn
 subst hnx
 refine ⟨(x.n.toNat,false),⟨sv,pv,st,sp,_,0,h,fun _=>⟨rfl,by omega,by omega,by dsimp only;omega,⟨_,j3,hst⟩,f,by dsimp only;omega,hr⟩,fun hq=>by cases hq⟩,by simp;omega⟩
 rw [if_neg h13] at h hr
 by_cases h14:x.op=14
 rw [if_pos h14] at h hr
 obtain ⟨j1,j2,j3⟩:=hg.jump (.inr (by rw [hx];exact h14))
 obtain ⟨o1,o2⟩:=hg.on (by rw [hx];exact h24) (by rw [hx];exact h13)
 rw [hx] at j1 j2 j3
 have hnx:=ZmZ h14 hn
 have hst2:JI nx st.dropLast:=by
  rw [hnx,YaQ,YaQ,← hst.1]
  exact hst.take _
 obtain ⟨sv',h⟩:=h
 by_cases hb:Js st 0=0
 rw [if_pos hb] at h hr
 exact ⟨(x.n.toNat,false),⟨sv',pv,st.dropLast,sp,_,0,h,fun _=>⟨rfl,by omega,by omega,by dsimp only;omega,⟨_,j3,hst2⟩,f,by dsimp only;omega,hr⟩,fun hq=>by cases hq⟩,by simp;omega⟩
 rw [if_neg hb] at h hr
 exact ⟨(i+1,false),⟨sv',pv,st.dropLast,sp,_,0,h,fun _=>⟨rfl,rfl,by omega,by dsimp only;omega,⟨_,o2,hst2⟩,f,by dsimp only;omega,hr⟩,fun hq=>by cases hq⟩,by simp;omega⟩
 rw [if_neg h14] at h hr
 obtain ⟨o1,o2⟩:=hg.on (by rw [hx];exact h24) (by rw [hx];exact h13)
 obtain ⟨sv',pv',st',sp',hM,hok⟩:=h
 by_cases he:(Jq (Zv K.c K.kn) K.ev x (Js st 1) (Js st 0)).2=0
 · rw [if_pos he] at hr
   obtain ⟨e1,e2⟩:=hok he
   subst e1 e2
   rw [he] at hM
   have hsl:(Z0b x.op (Js st 1) (Js st 0) (Jq (Zv K.c K.kn) K.ev x (Js st 1) (Js st 0)).1).length≤1:=by
    unfold Z0b
    repeat' split
    all_goals simp
   refine ⟨(i+1,false),⟨sv',pv',_,_,_,0,hM,fun _=>⟨rfl,rfl,by omega,by dsimp only;rw [Xb];omega,⟨_,o2,ZaJ hK.ev hn h24 h13 h14 hst he⟩,f,by dsimp only;omega,hr⟩,fun hq=>by cases hq⟩,by simp;omega⟩
 rw [if_neg he] at hr
 have hd:decide (¬ (Jq (Zv K.c K.kn) K.ev x (Js st 1) (Js st 0)).2=0)=true:=decide_eq_true he
 rw [hd] at hM
 exact ⟨(i,true),⟨sv',pv',_,_,_,_,hM,(fun hq=>by cases hq),fun _=>.inr ⟨he,hr.symm⟩⟩,by simp;omega⟩
set_option maxHeartbeats 1000000 in
theorem Z4k (v:Value) (code:List Ins) (t kn:Int) (ev:List Int) (c:Cal) (hv cv zo zs hr:Value) (w:World) (hs:SlV [] w v code) (hver:Z89 code=(t,0)) (hcal:Z56 w c hv cv zo zs hr) (hev:Z49 ev) (ho:zo.oneCell'=true∧zs.oneCell'=true∧hr.oneCell'=true) :
 CC 28 #[v,Z9D ev,Z4h c hv cv zo zs hr,.int .i64 kn] w fun r w'=>∃ pv,r=.tuple #[.int .i64 (Z0V (Zv c kn) ev code).1,pv,.int .i64 (Z0V (Zv c kn) ev code).2.2]∧Z0y 111 w w' pv (Z0V (Zv c kn) ev code).2.1:=by
 obtain ⟨hl0,hl200,sh,hlen,hok,h16,hsh0,hshn,hgood⟩:=ZgG hver
 refine cW4 63 Tryz.func28 ?_
 refine W ?_
 refine Z3 (Zs rfl) rfl ?_
 rintro _ w1 ⟨b5,rfl,hb5,k5,hS⟩
 replace k5:Blk w1 b5 29 (evC ev):=k5
 refine Z3 (Zs rfl) rfl ?_
 rintro _ w2 ⟨b6,rfl,hb6,k6,hS2⟩
 replace k6:Blk w2 b6 37 (Z0i c hv cv zo zs hr):=k6
 replace k5:=k5.up hS2
 replace hS:=hS.trans hS2
 refine W ?_
 refine Z3 Z6 rfl ?_
 rintro _ w3 ⟨bs,rfl,hbs,ks,hS3⟩
 replace k5:=k5.up hS3
 replace k6:=k6.up hS3
 have hbsw:w.heap.size≤bs:=Xh hS.size hbs
 replace hS:=hS.trans hS3
 refine W ?_
 refine Ze (vs:=[(0,Z9D ev),(1,Z4h c hv cv zo zs hr),(2,.int .i64 kn),(7,.func (.func 78) #[] #[.pointer (some ⟨bs,0,none⟩)])]) rfl (ZiA ev c hv cv zo zs hr kn _) rfl ?_
 refine Z3 (Zs rfl) rfl ?_
 rintro _ w4 ⟨bm,rfl,hbm,km,hS4⟩
 replace km:Blk w4 bm 126 (evC ev++Z0i c hv cv zo zs hr++[.int .i64 kn,.slice none 0 0,.int .i64 0,.int .i64 0,.bool false,.func (.func 78) #[] #[.pointer (some ⟨bs,0,none⟩)]]):=km
 have hbmw:w.heap.size≤bm:=Xh hS.size hbm
 have hbms:bm≠bs:=by have:=ks.lt;omega
 replace ks:=ks.up hS4
 replace hS:=hS.trans hS4
 clear k5 k6 hS2 hS3 hS4
 refine W ?_
 refine CL rfl Z4O rfl (Zes _) ?_
 rintro _ w5 ⟨m,rfl,hm,hmap,hS5⟩
 obtain ⟨K,e1,e2,hk,e4,e5,e6,e7,e8,e9,e10,e11,e12⟩:∃ K:MK,K.w0=w5∧K.bm=bm∧K.nk=some bs∧K.ev=ev∧K.c=c∧K.kn=kn∧K.hv=hv∧K.cv=cv∧K.zo=zo∧K.zs=zs∧K.hr=hr∧K.pr=[]:=⟨⟨w5,bm,some bs,ev,c,kn,hv,cv,zo,zs,hr,[]⟩,rfl,rfl,rfl,rfl,rfl,rfl,rfl,rfl,rfl,rfl,rfl,rfl⟩
 subst e1 e2 e4 e5 e6 e7 e8 e9 e10 e11
 have hSn:=hS.trans hS5
 have own_ge:∀ b∈K.own,w.heap.size≤b:=fun b hb=>by simp [MK.own,hk] at hb;omega
 have hmo:m∉K.own:=fun hb=>by
  have:=km.lt
  have:=ks.lt
  simp [MK.own,hk] at hb
  omega
 have hcw:=hcal.up hSn
 have g1:1<w.heap.size:=by have:=block_lt_of_cell (hcal.len 0 0 rfl);simpa using this
 have g2:3<w.heap.size:=by have:=block_lt_of_cell (hcal.mov 0 0 rfl);simpa using this
 have hK:KOk K:=
  { hols := hcal.hols.ext hSn (by simp) (fun b hb => .inr (own_ge b hb))
    clos:=hcal.clos.ext hSn (by simp) (fun b hb=>.inr (own_ge b hb))
    ozo:=ho.1,ozs:=ho.2.1,ohr:=ho.2.2
    len:=hcw.len,mov:=hcw.mov
    bml:=(km.up hS5).lt
    nkl:=fun b hb=>by rw [hk] at hb;cases hb;exact ⟨(ks.up hS5).lt,fun h=>hbms h.symm⟩
    gl:=fun b hb=>by have:=own_ge b hb;omega
    cal:=hcal.ok
    ev:=hev }
 have hM:Mch K K.w0 (.slice none 0 0) (.slice none 0 0) [] [] 0 0 false:=
  { blk := by unfold Z1H; rw [hk]; exact km.up hS5
    row:=Row.nil
    nt:=fun b hb=>by rw [hk] at hb;cases hb;exact ⟨ks.up hS5,Row.nil⟩
    nt0:=fun _=>rfl
    ap:=by simp [ob]
    stp:=Stp.refl _ _
    prot:=fun p hp=>by rw [e12] at hp;cases hp }
 have hs0:SlV K.own K.w0 v code:=hs.ext hSn (by simp) (fun b hb=>.inr (own_ge b hb))
 clear hs km ks hcw
 refine W ?_
 refine ZD (σ:=Nat×Bool) (fun _=>[(0,v),(11,.pointer (some ⟨bs,0,none⟩)),(13,mP K),(14,.map (some m))])
  (fun q w'=>ZiC K code sh q w') (fun q=>if q.2=true then 0 else code.length+1 - q.1) (0,false) ⟨rfl,rfl,rfl,rfl,trivial⟩ ⟨_,_,[],[],0,0,hM,fun _=>⟨rfl,rfl,hl0,Xo _,⟨[],hsh0,JI.nil⟩,code.length,Xo _,rfl⟩,fun h=>by cases h⟩ ?_
 clear hM
 rintro ⟨i,dn⟩ w6 ⟨sv,pv,st,sp,at_,er,hM,hrun,hdone⟩
 dsimp only at hM hrun hdone ⊢
 have hblk:=hM.blk
 unfold Z1H at hblk
 cases dn with
 | false=>
   obtain ⟨rfl,rfl,hi,hsp,⟨s,hshs,hst⟩,f,hf,hr⟩:=hrun rfl
   obtain ⟨s',nx,hg⟩:=hgood i hi
   have hss:s'=s:=by have:=hg.at_;rw [hshs] at this;exact (XJ this).symm
   subst hss
   have hsl:=hs0.ext (X':=[]) hM.stp (fun b hb=>hb) (by simp)
   have hx:code.getD i ⟨0,0⟩=code[i]:=by simp [List.getD,hi]
   have hn:=hg.next
   rw [hx] at hn
   have h16':s'.length≤16:=h16 _ (by
    have hil:i<sh.length:=by omega
    rw [Xx,XA hil] at hshs
    simp only [Yae] at hshs
    rw [← hshs]
    exact Xg hil)
   refine W ?_
   refine Z3 Z6 rfl ?_
   rintro _ w7 ⟨b15,rfl,hb15,e15,hS7⟩
   have hbb:=hblk.lt
   refine W ?_
   refine Z0 (Z1 (us:=Zi.enc code[i]) rfl rfl rfl rfl (Zi.one _) e15 rfl) ?_
   rintro _ w8 ⟨hT,k15⟩
   replace hS7:=hS7.own hT (fun c hc=>.inr (by simp at hc;omega))
   clear e15 hT
   replace hM:=hM.up hS7
   replace hblk:=hblk.up hS7
   refine W ?_
   refine Z0 (Zj (u:=.int .i64 ((i:Int)+1)) rfl rfl rfl rfl hblk (by simp [evC,Z0i])) ?_
   rintro _ w9 ⟨hS9,hblk9⟩
   replace hM:=hM.put hK (at':=((i+1:Nat):Int)) (er':=0) (dn':=false) hS9 hblk9
   replace k15:=k15.ext hS9 (by simp;omega)
   have hmp:=hmap.ext hM.stp hmo
   refine W ?_
   refine Z7 (Z1z rfl rfl hmp) rfl ?_
   refine W ?_
   refine Z3 (Zdg hK hM hn hst (by rw [← hst.1];omega) (by omega) rfl rfl rfl) rfl ?_
   rintro _ w10 ⟨rfl,hres⟩
   obtain ⟨q,hq,hlt⟩:=ZiC.step hK hi hx hlen hg h16 hst hsp hf hr hres
   refine W ?_
   exact Zr q ⟨rfl,rfl,rfl,rfl,trivial⟩ hq (by simpa using hlt)
 | true=>
   have fin:∀ w' pv',Stp K.own K.w0 w'→Row [] w' K.w0.heap.size 111 pv' (Z0V (Zv K.c K.kn) K.ev code).2.1→Z0y 111 w w' pv' (Z0V (Zv K.c K.kn) K.ev code).2.1:=fun w' pv' h1 h2=>
    ⟨h2.lower hSn.size,hSn.own h1 (fun b hb=>.inr (own_ge b hb))⟩
   rcases hdone rfl with ⟨rfl,x,rfl,hR⟩|⟨he,hR⟩
   obtain ⟨ks,hrow⟩:=hM.nt bs hk
   refine W ?_
   refine ZDr 6 ([K.bm]) [] [(0,0),(2,1),(1,2),(3,0),(4,0),(5,0)] (fun w1 hS1=>?_)
   replace hM:=hM.up hS1
   replace ks:=ks.up hS1
   replace hrow:=hrow.up hS1
   refine D ?_
   refine Zb rfl trivial (Z5 rfl (Zp rfl) (Z3i (st:=[]) hK hM)) (fun _ _ h=>h.2.2) rfl ?_
   rintro _ w7 ⟨rfl,⟨sv',hM7⟩,hS7⟩
   obtain ⟨ks7,hrow7⟩:=hM7.nt bs hk
   refine D ?_
   refine W ?_
   refine WR ?_
   refine .mk ⟨pv,by rw [hR],fin _ _ hM7.stp ?_⟩
   rw [hR]
   exact hrow7
   focus repeat'(first|refine W1 ?_|omega|refine VG ?_ ?_<;>intro hg|refine VC ?_ ?_<;>intro hc)
   refine ZDr 7 [] [] [(0,0),(1,0),(2,0),(3,1),(4,0),(5,0),(6,0)] (fun w1 hS1=>?_)
   replace hM:=hM.up hS1
   replace hblk:=hblk.up hS1
   refine D ?_
   refine W ?_
   refine WR ?_
   refine .mk ⟨.slice none 0 0,by rw [hR],fin _ _ hM.stp ?_⟩
   rw [hR]
   exact Row.nil
theorem ZgH (a b c d e f:Int) (w:World) :
 (Instr.build 29 #[(0, .int .i64 a), (2, .int .i64 b), (3, .int .i64 c), (4, .int .i64 d), (5, .int .i64 e), (6, .int .i64 f)]).run Tryz.prog w
   = .ok (.agg #[.int .i64 a,.int .i64 0,.int .i64 b,.int .i64 c,.int .i64 d,.int .i64 e,.int .i64 f]) w:=by kernel_rfl
theorem Zco {a s b c d e f:Int} (ha:0≤a∧a≤3652058) (hs:-1≤s∧s≤3652058) (hb:-2147483647≤b∧b≤2147483647) (hc:-2147483647≤c∧c≤2147483647) (hd:-2147483647≤d∧d≤2147483647) (he:-2147483647≤e∧e≤2147483647) (hf:-2147483647≤f∧f≤2147483647):Z49 [a,s,b,c,d,e,f]:=by
 refine ⟨rfl,ha,hs,fun i h2 h7=>?_⟩
 obtain rfl|rfl|rfl|rfl|rfl:i=2∨i=3∨i=4∨i=5∨i=6:=by omega
 exact hb
 exact hc
 exact hd
 exact he
 exact hf
theorem Zba (v:Value) (l:List Int) (w:World) (hs:SlV [] w v l) (hl:∀ a∈l,I64 a) :
 CC 41 #[v] w fun r w'=>∃ ev,r=Z9D ev∧Z49 ev∧Stp [] w w':=by
 refine cW1 31 Tryz.func41 ?_
 refine W ?_
 refine Z3 Z6 rfl ?_
 rintro _ w1 ⟨b2,rfl,hb2,k2,hS⟩
 refine W ?_
 refine CL rfl (ZH rfl rfl rfl) rfl (J9 [] _ l 0 60 _ (by decide) (by unfold I64;omega) (hs.up hS) hl) ?_
 rintro _ w2 ⟨q0,rfl,hq0,hS2⟩
 replace k2:=k2.up hS2
 replace hS:=hS.trans hS2
 clear hS2
 refine W ?_
 refine CL rfl (ZH rfl rfl rfl) rfl (J9 [] _ l 2 9 _ (by decide) (by unfold I64;omega) (hs.up hS) hl) ?_
 rintro _ w2 ⟨q2,rfl,hq2,hS2⟩
 replace k2:=k2.up hS2
 replace hS:=hS.trans hS2
 clear hS2
 refine W ?_
 refine CL rfl (ZH rfl rfl rfl) rfl (J9 [] _ l 3 4 _ (by decide) (by unfold I64;omega) (hs.up hS) hl) ?_
 rintro _ w2 ⟨q3,rfl,hq3,hS2⟩
 replace k2:=k2.up hS2
 replace hS:=hS.trans hS2
 clear hS2
 refine W ?_
 refine CL rfl (ZH rfl rfl rfl) rfl (J9 [] _ l 4 4 _ (by decide) (by unfold I64;omega) (hs.up hS) hl) ?_
 rintro _ w2 ⟨q4,rfl,hq4,hS2⟩
 replace k2:=k2.up hS2
 replace hS:=hS.trans hS2
 clear hS2
 refine W ?_
 refine CL rfl (ZH rfl rfl rfl) rfl (J9 [] _ l 5 3 _ (by decide) (by unfold I64;omega) (hs.up hS) hl) ?_
 rintro _ w2 ⟨q5,rfl,hq5,hS2⟩
 replace k2:=k2.up hS2
 replace hS:=hS.trans hS2
 clear hS2
 refine W ?_
 refine CL rfl (ZH rfl rfl rfl) rfl (J9 [] _ l 6 300 _ (by decide) (by unfold I64;omega) (hs.up hS) hl) ?_
 rintro _ w2 ⟨q6,rfl,hq6,hS2⟩
 replace k2:=k2.up hS2
 replace hS:=hS.trans hS2
 clear hS2
 refine W ?_
 apply Ze (vs:=[(0,.int .i64 (739616+(q0:Int))),(2,.int .i64 (q2:Int)),(3,.int .i64 (q3:Int)),(4,.int .i64 (q4:Int)),(5,.int .i64 (q5:Int)),(6,.int .i64 ((q6:Int) - 50))]) rfl (ZgH _ _ _ _ _ _) rfl
 refine W ?_
 have k2lt:=k2.lt
 refine Z3 Z6 rfl ?_
 rintro _ w3 ⟨b3,rfl,hb3,k3,hS3⟩
 replace k2:=k2.up hS3
 replace hS:=hS.trans hS3
 clear hS3
 refine W ?_
 refine Z0 (Z1 (us:=evC [739616+(q0:Int),0,(q2:Int),(q3:Int),(q4:Int),(q5:Int),(q6:Int) - 50]) rfl rfl rfl rfl (by simp [evC,Value.oneCell']) k3 rfl) ?_
 rintro _ w4 ⟨hS4,k3⟩
 replace k3:Blk w4 b3 29 [.int .i64 (739616+(q0:Int)),.int .i64 (0),.int .i64 (q2:Int),.int .i64 (q3:Int),.int .i64 (q4:Int),.int .i64 (q5:Int),.int .i64 ((q6:Int) - 50)]:=k3
 have n23:b2≠b3:=by omega
 replace k2:=k2.ext hS4 (by simpa using n23)
 replace hS:=hS.own hS4 (fun c hc=>.inr (by simp at hc;omega))
 clear hS4
 refine W ?_
 refine ZDr 8 [] [7] [(0,0),(1,1),(2,0),(3,2),(4,0),(5,0),(6,0),(7,2)] (fun w1 hS1=>?_)
 replace k2:=k2.up hS1
 replace k3:=k3.up hS1
 replace hS:=hS.trans hS1
 clear hS1
 refine D ?_
 refine Zb rfl trivial (Z5 rfl (ZH rfl rfl rfl) (J9 [] _ l 1 20 _ (by decide) (by unfold I64;omega) (hs.up hS) hl)) (fun _ _ h=>h.choose_spec.2.2) rfl ?_
 rintro _ w5 ⟨q1,rfl,hq1,hS5⟩
 replace k2:=k2.up hS5
 replace k3:=k3.up hS5
 replace hS:=hS.trans hS5
 clear hS5
 refine D ?_
 refine JR rfl trivial (Zj (u:=.int .i64 (739616+(q0:Int)+(q1:Int) - 5)) rfl rfl rfl rfl k3 (by simp)) rfl ?_
 rintro _ w6 ⟨hS6,k3⟩
 replace k3:Blk w6 b3 29 [.int .i64 (739616+(q0:Int)),.int .i64 (739616+(q0:Int)+(q1:Int) - 5),.int .i64 (q2:Int),.int .i64 (q3:Int),.int .i64 (q4:Int),.int .i64 (q5:Int),.int .i64 ((q6:Int) - 50)]:=k3
 replace k2:=k2.ext hS6 (by simpa using n23)
 replace hS:=hS.own hS6 (fun c hc=>.inr (by simp at hc;omega))
 clear hS6
 refine D ?_
 refine W ?_
 refine CL rfl (ZH rfl rfl rfl) rfl (J9 [] _ l 1 7 _ (by decide) (by unfold I64;omega) (hs.up hS) hl) ?_
 rintro _ w7 ⟨q7,rfl,hq7,hS7⟩
 replace k2:=k2.up hS7
 replace k3:=k3.up hS7
 replace hS:=hS.trans hS7
 clear hS7
 by_cases h3:(q7:Int)=3
 focus repeat'(first|refine W1 ?_|omega|refine VG ?_ ?_<;>intro hg|refine VC ?_ ?_<;>intro hc)
 refine Z0 (Zj (u:=.int .i64 (-1)) rfl rfl rfl rfl k3 (by simp)) ?_
 rintro _ w8 ⟨hS8,k3⟩
 replace k3:Blk w8 b3 29 [.int .i64 (739616+(q0:Int)),.int .i64 (-1),.int .i64 (q2:Int),.int .i64 (q3:Int),.int .i64 (q4:Int),.int .i64 (q5:Int),.int .i64 ((q6:Int) - 50)]:=k3
 replace k2:=k2.ext hS8 (by simpa using n23)
 replace hS:=hS.own hS8 (fun c hc=>.inr (by simp at hc;omega))
 clear hS8
 refine W ?_
 refine Z0 (Z1 (us:=evC [739616+(q0:Int),-1,(q2:Int),(q3:Int),(q4:Int),(q5:Int),(q6:Int) - 50]) rfl rfl rfl rfl (by simp [evC,Value.oneCell']) k2 rfl) ?_
 rintro _ w9 ⟨hS9,k2⟩
 replace hS:=hS.own hS9 (fun c hc=>.inr (by simp at hc;omega))
 clear hS9
 refine W ?_
 refine Zu rfl rfl rfl k2 rfl ?_
 exact .mk ⟨_,rfl,Zco (by omega) (by omega) (by omega) (by omega) (by omega) (by omega) (by omega),hS⟩
 focus repeat'(first|refine W1 ?_|omega|refine VG ?_ ?_<;>intro hg|refine VC ?_ ?_<;>intro hc)
 refine Z0 (Z1 (us:=evC [739616+(q0:Int),739616+(q0:Int)+(q1:Int) - 5,(q2:Int),(q3:Int),(q4:Int),(q5:Int),(q6:Int) - 50]) rfl rfl rfl rfl (by simp [evC,Value.oneCell']) k2 rfl) ?_
 rintro _ w9 ⟨hS9,k2⟩
 replace hS:=hS.own hS9 (fun c hc=>.inr (by simp at hc;omega))
 clear hS9
 refine W ?_
 refine Zu rfl rfl rfl k2 rfl ?_
 exact .mk ⟨_,rfl,Zco (by omega) (by omega) (by omega) (by omega) (by omega) (by omega) (by omega),hS⟩
theorem Z3L (z:Int) (m:Int) (w:World) (hm:0<m) (hz:I64 z):CC 186 #[.int .i64 z,.int .i64 m] w fun r w'=>r=.int .i64 ((if z<0 then -(z+1) else z) % m)∧Stp [] w w':=by
 unfold I64 at hz
 refine cW2 13 Tryz.func186 ?_
 by_cases h:z<0
 focus repeat'(first|refine W1 ?_|omega|refine VG ?_ ?_<;>intro hg|refine VC ?_ ?_<;>intro hc)
 refine WR ?_
 exact .mk ⟨by rw [if_pos h],Stp.refl _ _⟩
 focus repeat'(first|refine W1 ?_|omega|refine VG ?_ ?_<;>intro hg|refine VC ?_ ?_<;>intro hc)
 refine WR ?_
 exact .mk ⟨by rw [if_neg h],Stp.refl _ _⟩
theorem Zcp (X:List Nat) (v:Value) (l:List Int) (i m:Int) (w:World) (hm:0<m) (hi:I64 i) (hs:SlV X w v l) (hl:∀ a∈l,I64 a):CC 185 #[v,.int .i64 i,.int .i64 m] w fun r w'=>∃ q:Nat,r=.int .i64 (q:Int)∧(q:Int)<m∧Stp [] w w':=by
 unfold I64 at hi
 have hmax:=hs.max
 refine cW3 21 Tryz.func185 ?_
 refine W ?_
 by_cases hgo:0≤i∧i<l.length
 obtain ⟨h0,h1⟩:=hgo
 obtain ⟨k,rfl⟩:∃ k:Nat,i=(k:Int):=⟨i.toNat,by omega⟩
 have hk:k<l.length:=by omega
 focus repeat'(first|refine W1 ?_|omega|refine VG ?_ ?_<;>intro hg|refine VC ?_ ?_<;>intro hc)
 refine CL rfl (Z9 rfl rfl) rfl (Z3L _ m _ hm (hl _ (Xg hk))) ?_
 rintro _ w2 ⟨rfl,hS⟩
 refine W ?_
 refine WR ?_
 have:=Z0O (if l[k]<0 then -(l[k]+1) else l[k]) m hm
 exact .mk ⟨_,by rw [Yat this.1],by rw [Yat this.1];exact this.2,hS⟩
 · repeat'(first|refine W1 ?_|omega|refine VG ?_ ?_<;>intro hg|refine VC ?_ ?_<;>intro hc)
   all_goals first
    | (refine WR ?_
       exact .mk ⟨0,rfl,by simpa using hm,Stp.refl _ _⟩)
theorem ZiD (a:Int) (w:World):(Instr.build 35 #[(0,.int .i64 a)]).run Tryz.prog w=.ok (.agg #[.int .i64 a,.slice none 0 0]) w:=by kernel_rfl
theorem ZiE (a b:Int) (w:World):(Instr.build 190 #[(0,.int .i64 a),(1,.int .i64 b)]).run Tryz.prog w=.ok (agg ((a,b):Spn)) w:=by kernel_rfl
theorem ZgI (d:Spn) (w:World):(Instr.buildSlice 33 1 #[(0,agg d)]).run Tryz.prog w=.ok (.slice (some ⟨w.heap.size,0,none⟩) 1 1) (w.alloc (.cells (Zi.enc d).toArray 190)):=by kernel_rfl
def Zbb (x:Spn):Prop:=0≤x.1∧x.1≤2000000
theorem Z7O (v:Value) (l:List Int) (w:World) (hs:SlV [] w v l) (hl:∀ a∈l,I64 a) :
 CC 95 #[v] w fun r w'=>∃ (o:Int) (zs:Value) (xs:List Spn),r=.agg #[.int .i64 o,zs]∧(∀ x∈xs,Zbb x)∧xs.length≤100∧Z0y 190 w w' zs xs:=by
 have hmax:=hs.max
 refine cW1 45 Tryz.func95 ?_
 refine W ?_
 refine Z3 Z6 rfl ?_
 rintro _ w1 ⟨b2,rfl,hb2,k2,hS⟩
 refine W ?_
 refine CL rfl (ZH rfl rfl rfl) rfl (Zcp [] _ l 0 1801 _ (by decide) (by unfold I64;omega) (hs.up hS) hl) ?_
 rintro _ w2 ⟨q0,rfl,hq0,hS2⟩
 replace k2:=k2.up hS2
 replace hS:=hS.trans hS2
 clear hS2
 refine W ?_
 refine Ze (vs:=[(0,.int .i64 ((q0:Int) - 900))]) rfl (ZiD _) rfl ?_
 have k2lt:=k2.lt
 refine Z3 Z6 rfl ?_
 rintro _ w3 ⟨b3,rfl,hb3,k3,hS3⟩
 replace k2:=k2.up hS3
 replace hS:=hS.trans hS3
 clear hS3
 refine W ?_
 have n23:b2≠b3:=by omega
 refine Z0 (Z1 (us:=[.int .i64 ((q0:Int) - 900),.slice none 0 0]) rfl rfl rfl rfl (by simp [Value.oneCell']) k3 rfl) ?_
 rintro _ w4 ⟨hS4,k3⟩
 replace k2:=k2.ext hS4 (by simpa using n23)
 replace hS:=hS.own hS4 (fun c hc=>.inr (by simp at hc;omega))
 clear hS4
 have hsz:=hS.size
 have k3lt:=k3.lt
 have k2lt':=k2.lt
 refine W ?_
 refine Z1K (σ:=Value×List Spn) (fun q=>[(2,.pointer (some ⟨b2,0,none⟩)),(3,.pointer (some ⟨b3,0,none⟩))]) (fun q w'=>Blk w' b2 35 (.agg #[.int .i64 0,.slice none 0 0]:Value).cells.toList∧Blk w' b3 35 [.int .i64 ((q0:Int) - 900),q.1]∧Row [] w' w4.heap.size 190 q.1 q.2∧q.2.length≤42∧(∀ x∈q.2,Zbb x)∧Stp [b3] w4 w') ?_ ?_
 refine ZD (σ:=Nat×Int×Value×List Spn) (fun q=>[(0,v),(2,.pointer (some ⟨b2,0,none⟩)),(3,.pointer (some ⟨b3,0,none⟩)),(4,.int .i64 q.2.1),(5,.int .i64 (q.1:Int))])
  (fun q w'=>(1≤q.1∧q.1≤43∧0≤q.2.1∧q.2.1≤25000 * q.1∧q.2.2.2.length<q.1)∧Blk w' b2 35 (.agg #[.int .i64 0,.slice none 0 0]:Value).cells.toList∧Blk w' b3 35 [.int .i64 ((q0:Int) - 900),q.2.2.1]∧Row [] w' w4.heap.size 190 q.2.2.1 q.2.2.2∧(∀ x∈q.2.2.2,Zbb x)∧Stp [b3] w4 w') (fun q=>43 - q.1)
  (1,0,.slice none 0 0,[]) ⟨rfl,rfl,rfl,rfl,rfl,trivial⟩ ⟨⟨by decide,by decide,by decide,by decide,by decide⟩,k2,k3,Row.nil,by simp,Stp.refl _ _⟩ ?_
 rintro ⟨k,at_,zs,xs⟩ w5 ⟨⟨hk1,hk43,ha0,ha1,hxl⟩,k2,k3,hrow,hxs,hS5⟩
 dsimp only at hk1 hk43 ha0 ha1 hxl k3 hrow hxs ⊢
 have hS05:Stp [] w w5:=hS.own hS5 (fun c hc=>.inr (by simp at hc;omega))
 have hs0:=hs
 replace hs:=hs.up hS05
 by_cases hlt:k+1<l.length∧k<41
 obtain ⟨hlt,h41⟩:=hlt
 have hkl:k<l.length:=by omega
 focus repeat'(first|refine W1 ?_|omega|refine VG ?_ ?_<;>intro hg|refine VC ?_ ?_<;>intro hc)
 refine CL rfl (Z9 rfl rfl) rfl (Z3L _ 20000 _ (by decide) (hl _ (Xg hkl))) ?_
 rintro _ w6 ⟨rfl,hS6⟩
 have hr:=Z0O (if l[k]<0 then -(l[k]+1) else l[k]) 20000 (by decide)
 generalize (if l[k]<0 then -(l[k]+1) else l[k]) % 20000=m at hr ⊢
 refine W ?_
 replace k2:=k2.up hS6
 replace k3:=k3.up hS6
 replace hrow:=hrow.up hS6
 replace hs:=hs.up hS6
 replace hS5:=hS5.trans (hS6.mono (by simp))
 clear hS6 hS05
 have n3:b3∉ob zs:=fun h=>by have:=(hrow.ob_le _ h).1;omega
 have n2:b2∉ob zs:=fun h=>by have:=(hrow.ob_le _ h).1;omega
 replace hs:SlV (ob zs) w6 v l:=hs0.ext (X':=ob zs) (hS.own hS5 (fun c hc=>.inr (by simp at hc;omega))) (by simp) (fun b hb=>.inr (by have:=(hrow.ob_le b hb).1;omega))
 refine Z2g 15 (ob zs) [14] [(0,0),(1,1),(2,0),(3,0),(4,0),(5,0),(6,0),(7,1),(8,2),(9,0),(10,0),(11,2),(12,2),(13,0),(14,2)] rfl mixed (by kernel_rfl) (by kernel_rfl) (by kernel_rfl) (fun w1 hS1=>?_)
 replace k2:=k2.up hS1
 replace k3:=k3.up hS1
 replace hrow:=hrow.up hS1
 replace hs:=hs.up hS1
 replace hS5:=hS5.trans (hS1.mono (by simp))
 clear hS1
 refine D ?_
 refine Zb rfl trivial (Z5 rfl (Z9 rfl rfl) (Z3L _ 1801 _ (by decide) (hl _ (Xg hlt)))) (fun _ _ h=>h.2.mono (by simp)) rfl ?_
 rintro _ w7 ⟨rfl,hS7⟩
 have hr2:=Z0O (if l[k+1]<0 then -(l[k+1]+1) else l[k+1]) 1801 (by decide)
 generalize (if l[k+1]<0 then -(l[k+1]+1) else l[k+1]) % 1801=m2 at hr2 ⊢
 replace k2:=k2.up hS7
 replace k3:=k3.up hS7
 replace hrow:=hrow.up hS7
 replace hS5:=hS5.trans (hS7.mono (by simp))
 clear hS7
 refine D ?_
 refine ZE rfl trivial (fun w'=>Z0A (vs:=[(0,.int .i64 (at_+m)),(1,.int .i64 (m2 - 900))]) rfl (ZiE _ _)) rfl ?_
 refine D ?_
 refine Zb rfl trivial (Z2 (vs:=[(0,agg ((at_+m,m2 - 900):Spn))]) rfl (ZgI _)) (fun _ _ h=>(Zc.stp h).mono (by simp)) rfl ?_
 rintro bv w8 hN
 have hbv:SlV (ob zs++[]) w8 bv [((at_+m,m2 - 900):Spn)]:=hN.slv (fun b hb=>(hrow.ob_le b (by simpa using hb)).2) rfl rfl (by simp [maxLen])
 have hT:=Zc.stp hN
 clear hN
 replace k2:=k2.up hT
 replace k3:=k3.up hT
 replace hrow:=hrow.up hT
 replace hS5:=hS5.trans (hT.mono (by simp))
 clear hT
 have hbase:=hS5.size
 have hob:=hrow.ob_le
 refine D ?_
 refine Zb rfl trivial (Z05 (X:=[]) (base:=w4.heap.size) rfl (by decide) rfl rfl hrow hbv (by simp only [Xc,Xe];omega) (by simp only [Xc,Xe,maxLen];omega) hbase) (fun _ _ h=>h.2.1) rfl ?_
 rintro zs' w9 ⟨hrow,hT,hob'⟩
 replace k2:=k2.ext hT (fun h=>by have:=(hob _ h).1;omega)
 replace k3:=k3.ext hT (fun h=>by have:=(hob _ h).1;omega)
 replace hS5:Stp [b3] w4 w9:=hS5.own hT (fun c hc=>.inr (hob c hc).1)
 clear hT
 refine D ?_
 refine JR rfl trivial (Zj (u:=zs') rfl rfl (Row.slv (X:=[]) hrow (by simp)).cells (Row.slv (X:=[]) hrow (by simp)).one k3 (by simp)) rfl ?_
 rintro _ w10 ⟨hT,k3⟩
 replace k3:Blk w10 b3 35 [.int .i64 ((q0:Int) - 900),zs']:=k3
 replace k2:=k2.ext hT (by simpa using n23)
 have hob2:=hrow.ob_le
 replace hrow:=hrow.keep hT (fun b hb h=>by have:=hob2 _ h;simp at hb;omega)
 replace hS5:=hS5.trans hT
 clear hT
 refine D ?_
 refine W ?_
 refine Zr (k+2,at_+m+2880,zs',xs++[((at_+m,m2 - 900):Spn)]) ⟨rfl,rfl,rfl,rfl,rfl,trivial⟩ ⟨⟨by dsimp only;omega,by dsimp only;omega,by dsimp only;omega,by dsimp only;omega,by dsimp only;rw [Xb];simp only [Xc,Xe];omega⟩,k2,k3,hrow,?_,hS5⟩ (by dsimp only;omega)
 intro x hx
 rcases Xt.1 hx with h|h
 exact hxs x h
 rw [Xq.1 h]
 unfold Zbb
 dsimp only
 omega
 · repeat'(first|refine W1 ?_|omega|refine VG ?_ ?_<;>intro hg|refine VC ?_ ?_<;>intro hc)
   all_goals exact ZI (zs,xs) ⟨rfl,rfl,trivial⟩ ⟨k2,k3,hrow,(by dsimp only;omega),hxs,hS5⟩
 rintro ⟨zs,xs⟩ w5 ⟨k2,k3,hrow,hxl,hxs,hS5⟩
 dsimp only at k3 hrow hxl hxs ⊢
 refine W ?_
 have hob:=hrow.ob_le
 have hS05:Stp [] w w5:=hS.own hS5 (fun c hc=>.inr (by simp at hc;omega))
 refine Z0 (Z1 (us:=[.int .i64 ((q0:Int) - 900),zs]) rfl rfl rfl rfl (by intro u hu;simp at hu;rcases hu with rfl|rfl;exact rfl;exact (Row.slv (X:=[]) hrow (by simp)).one) k2 rfl) ?_
 rintro _ w6 ⟨hT,k2⟩
 replace hrow:=hrow.keep hT (fun b hb h=>by have:=hob _ h;simp at hb;omega)
 refine W ?_
 refine Zu rfl rfl rfl k2 rfl ?_
 exact .mk ⟨_,zs,xs,rfl,hxs,by omega,hrow.lower hsz,hS05.own hT (fun c hc=>.inr (by simp at hc;omega))⟩
def cL (b0 b5 b6:Bool) (hv cv zo zs hr:Value):List Value:=[.bool b0,.bool false,.bool false,.bool false,.bool false,.bool b5,.bool b6,hv,cv,zo,zs,hr]
theorem ZiF (w:World):(Instr.buildSlice 22 4 #[(0,.int .i64 1439),(1,.int .i64 1020),(2,.int .i64 0),(3,.int .i64 720)]).run Tryz.prog w=.ok (.slice (some ⟨w.heap.size,0,none⟩) 4 4) (w.alloc (.cells #[.int .i64 1439,.int .i64 1020,.int .i64 0,.int .i64 720] 3)):=by kernel_rfl
theorem ZiG (h:Int) (w:World):(Instr.build 37 #[(4,.int .i64 h)]).run Tryz.prog w=.ok (.agg (cL false false false (.slice none 0 0) (.slice none 0 0) (.int .i64 0) (.slice none 0 0) (.int .i64 h)).toArray) w:=by kernel_rfl
theorem Zn0 (a b c:Int) (w:World):(Instr.build 187 #[(0,.int .i64 a),(1,.int .i64 b),(7,.int .i64 1),(8,.int .i64 9999),(6,.int .i64 c)]).run Tryz.prog w=.ok (agg (⟨a,b,0,0,0,0,c,1,9999⟩:Hol)) w:=by kernel_rfl
theorem ZiH (h:Hol) (w:World):(Instr.buildSlice 31 1 #[(0,agg h)]).run Tryz.prog w=.ok (.slice (some ⟨w.heap.size,0,none⟩) 1 1) (w.alloc (.cells (Zi.enc h).toArray 187)):=by kernel_rfl
theorem ZiI (a b c:Int) (w:World):(Instr.build 77 #[(0,.int .i64 a),(1,.int .i64 b),(2,.int .i64 c)]).run Tryz.prog w=.ok (agg (⟨a,b,c⟩:Clo)) w:=by kernel_rfl
theorem ZiJ (h:Clo) (w:World):(Instr.buildSlice 32 1 #[(0,agg h)]).run Tryz.prog w=.ok (.slice (some ⟨w.heap.size,0,none⟩) 1 1) (w.alloc (.cells (Zi.enc h).toArray 77)):=by kernel_rfl
def Zbc (x:Clo):Prop:=739616≤x.lo∧x.lo<739736∧x.lo≤x.hi∧x.hi≤x.lo+5∧739616≤x.known∧x.known<739746
structure Zjc (c:Cal):Prop where
 ok:ZcZ c
 wk:∃ b0 b5 b6:Bool,c.week=[b0,false,false,false,false,b5,b6]
 h3:c.hols.length≤3
 c3:c.clos.length≤3
 cl:∀ x∈c.clos,Zbc x
theorem Z7P (X:List Nat) (v:Value) (l:List Int) (w:World) (hX:∀ b∈X,b<w.heap.size) (hs:SlV [] w v l) (hl:∀ a∈l,I64 a) :
 CC 42 #[v] w fun r w'=>∃ (c:Cal) (hv cv zo zs hr:Value),r=Z4h c hv cv zo zs hr∧(zo.oneCell'=true∧zs.oneCell'=true∧hr.oneCell'=true)∧Zjc c∧SlV X w' hv c.hols∧SlV X w' cv c.clos∧Stp [] w w':=by
 have hmax:=hs.max
 refine cW1 160 Tryz.func42 ?_
 refine W ?_
 refine Z3 Z6 rfl ?_
 rintro _ w1 ⟨b2,rfl,hb2,k2,hS⟩
 refine W ?_
 refine Z3 (Z2 (vs:=[(0,.int .i64 1439),(1,.int .i64 1020),(2,.int .i64 0),(3,.int .i64 720)]) rfl (ZiF)) rfl ?_
 rintro bv w2 hN
 have hbv:SlV [] w2 bv ([1439,1020,0,720]:List Int):=hN.slv (by simp) rfl rfl (by simp [maxLen])
 have hT:=Zc.stp hN
 clear hN
 replace k2:=k2.up hT
 replace hS:=hS.trans hT
 clear hT
 refine W ?_
 refine CL rfl (ZH rfl rfl rfl) rfl (J9 [] _ l 0 4 _ (by decide) (by unfold I64;omega) (hs.up hS) hl) ?_
 rintro _ wn ⟨q0,rfl,hq0,hT⟩
 replace hbv:=hbv.up hT
 replace k2:=k2.up hT
 replace hS:=hS.trans hT
 clear hT
 have hq0':q0<([1439,1020,0,720]:List Int).length:=by simp only [Xc,Xe];omega
 refine W ?_
 generalize ([1439,1020,0,720]:List Int)[q0]=hr
 refine Ze (vs:=[(4,.int .i64 hr)]) rfl (ZiG _) rfl ?_
 have k2lt:=k2.lt
 clear hbv
 refine Z3 Z6 rfl ?_
 rintro _ w3 ⟨b3,rfl,hb3,k3,hT⟩
 replace k2:=k2.up hT
 replace hS:=hS.trans hT
 clear hT
 refine W ?_
 have n23:b2≠b3:=by omega
 refine Z0 (Z1 (us:=cL false false false (.slice none 0 0) (.slice none 0 0) (.int .i64 0) (.slice none 0 0) (.int .i64 hr)) rfl rfl rfl rfl (by simp [cL,Value.oneCell']) k3 rfl) ?_
 rintro _ w4 ⟨hT,k3⟩
 replace k2:=k2.ext hT (by simpa using n23)
 replace hS:=hS.own hT (fun c hc=>.inr (by simp at hc;omega))
 clear hT
 have k3lt:=k3.lt
 have k2lt':=k2.lt
 have hsz3:w.heap.size≤b3:=by have:=k3lt;have:=hS.size;omega
 refine W ?_
 refine CL rfl (ZH rfl rfl rfl) rfl (J9 [] _ l 1 8 _ (by decide) (by unfold I64;omega) (hs.up hS) hl) ?_
 rintro _ wn ⟨q1,rfl,hq1,hT⟩
 replace k3:=k3.up hT
 replace k2:=k2.up hT
 replace hS:=hS.trans hT
 clear hT
 refine W ?_
 refine Z1i (len:=7) (i:=5) rfl rfl rfl (by decide) rfl ?_
 refine Z0 (Zj (u:=.bool (decide (¬ (q1:Int)=1))) rfl rfl rfl rfl k3 (by simp [cL])) ?_
 rintro _ wn ⟨hT,k3⟩
 replace k3:Blk wn b3 37 (cL false (decide (¬ (q1:Int)=1)) false (.slice none 0 0) (.slice none 0 0) (.int .i64 0) (.slice none 0 0) (.int .i64 hr)):=k3
 replace k2:=k2.ext hT (by simpa using n23)
 replace hS:=hS.own hT (fun c hc=>.inr (by simp at hc;omega))
 clear hT
 refine W ?_
 refine Z1i (len:=7) (i:=6) rfl rfl rfl (by decide) rfl ?_
 refine Z0 (Zj (u:=.bool (decide (¬ (q1:Int)=2))) rfl rfl rfl rfl k3 (by simp [cL])) ?_
 rintro _ wn ⟨hT,k3⟩
 replace k3:Blk wn b3 37 (cL false (decide (¬ (q1:Int)=1)) (decide (¬ (q1:Int)=2)) (.slice none 0 0) (.slice none 0 0) (.int .i64 0) (.slice none 0 0) (.int .i64 hr)):=k3
 replace k2:=k2.ext hT (by simpa using n23)
 replace hS:=hS.own hT (fun c hc=>.inr (by simp at hc;omega))
 clear hT
 refine W ?_
 refine Z0 (Zj (u:=.bool (decide ((q1:Int)=3))) rfl rfl rfl rfl k3 (by simp [cL])) ?_
 rintro _ w5 ⟨hT,k3⟩
 replace k3:Blk w5 b3 37 (cL (decide ((q1:Int)=3)) (decide (¬ (q1:Int)=1)) (decide (¬ (q1:Int)=2)) (.slice none 0 0) (.slice none 0 0) (.int .i64 0) (.slice none 0 0) (.int .i64 hr)):=k3
 replace k2:=k2.ext hT (by simpa using n23)
 replace hS:=hS.own hT (fun c hc=>.inr (by simp at hc;omega))
 clear hT
 refine W ?_
 generalize decide ((q1:Int)=3)=b0 at k3 ⊢
 generalize decide (¬ (q1:Int)=1)=b5 at k3 ⊢
 generalize decide (¬ (q1:Int)=2)=b6 at k3 ⊢
 replace k2:Blk w5 b2 37 ((.agg (cL false false false (.slice none 0 0) (.slice none 0 0) (.int .i64 0) (.slice none 0 0) (.int .i64 0)).toArray:Value).cells.toList):=k2
 have hsz5:=hS.size
 have k3lt5:=k3.lt
 have k2lt5:=k2.lt
 refine Z1K (σ:=Value×List Hol) (fun q=>[(0,v),(2,.pointer (some ⟨b2,0,none⟩)),(3,.pointer (some ⟨b3,0,none⟩))]) (fun q w'=>q.2.length≤3∧Blk w' b2 37 ((.agg (cL false false false (.slice none 0 0) (.slice none 0 0) (.int .i64 0) (.slice none 0 0) (.int .i64 0)).toArray:Value).cells.toList)∧Blk w' b3 37 (cL b0 b5 b6 q.1 (.slice none 0 0) (.int .i64 0) (.slice none 0 0) (.int .i64 hr))∧Row [] w' w5.heap.size 187 q.1 q.2∧(∀ x∈q.2,Z2q x)∧Stp [b3] w5 w') ?_ ?_
 refine ZD (σ:=Nat×Value×List Hol) (fun q=>[(0,v),(2,.pointer (some ⟨b2,0,none⟩)),(3,.pointer (some ⟨b3,0,none⟩)),(5,.int .i64 (q.1:Int))]) (fun q w'=>q.1≤3∧q.2.2.length≤q.1∧Blk w' b2 37 ((.agg (cL false false false (.slice none 0 0) (.slice none 0 0) (.int .i64 0) (.slice none 0 0) (.int .i64 0)).toArray:Value).cells.toList)∧Blk w' b3 37 (cL b0 b5 b6 q.2.1 (.slice none 0 0) (.int .i64 0) (.slice none 0 0) (.int .i64 hr))∧Row [] w' w5.heap.size 187 q.2.1 q.2.2∧(∀ x∈q.2.2,Z2q x)∧Stp [b3] w5 w') (fun q=>3 - q.1)
  (0,.slice none 0 0,[]) ⟨rfl,rfl,rfl,rfl,trivial⟩ ⟨by decide,by decide,k2,k3,Row.nil,by simp,Stp.refl _ _⟩ ?_
 rintro ⟨j,hv,hols⟩ w6 ⟨hj3,hlen,k2,k3,hrow,hho,hSb⟩
 dsimp only at hj3 hlen k3 hrow hho ⊢
 have hs':=hs.up (hS.own hSb (fun c hc=>.inr (by simp at hc;omega)))
 have hrob:=hrow.ob_le
 refine W ?_
 refine CL rfl (ZH rfl rfl rfl) rfl (J9 [] _ l 2 4 _ (by decide) (by unfold I64;omega) hs' hl) ?_
 rintro _ wn ⟨q,rfl,hq,hT⟩
 replace k3:=k3.up hT
 replace k2:=k2.up hT
 replace hrow:=hrow.up hT
 replace hs':=hs'.up hT
 replace hSb:=hSb.trans (hT.mono (by simp))
 clear hT
 by_cases hlt:(j:Int)<(q:Int)
 focus repeat'(first|refine W1 ?_|omega|refine VG ?_ ?_<;>intro hg|refine VC ?_ ?_<;>intro hc)
 refine CL rfl (ZH rfl rfl rfl) rfl (J9 [] _ l (3+2 * (j:Int)) 1000000 _ (by decide) (by unfold I64;omega) hs' hl) ?_
 rintro _ wn ⟨x,rfl,hx,hT⟩
 replace k3:=k3.up hT
 replace k2:=k2.up hT
 replace hrow:=hrow.up hT
 replace hs':=hs'.up hT
 replace hSb:=hSb.trans (hT.mono (by simp))
 clear hT
 refine W ?_
 refine CL rfl (ZH rfl rfl rfl) rfl (J9 [] _ l (4+2 * (j:Int)) 1000000 _ (by decide) (by unfold I64;omega) hs' hl) ?_
 rintro _ wn ⟨y,rfl,hy,hT⟩
 replace k3:=k3.up hT
 replace k2:=k2.up hT
 replace hrow:=hrow.up hT
 replace hs':=hs'.up hT
 replace hSb:=hSb.trans (hT.mono (by simp))
 clear hT
 refine W ?_
 refine Ze (vs:=[(0,.int .i64 (1+(x:Int) % 4)),(1,.int .i64 (1+(x:Int) / 4 % 4)),(7,.int .i64 1),(8,.int .i64 9999),(6,.int .i64 ((y:Int) % 3))]) rfl (Zn0 _ _ _) rfl ?_
 have hk3':=k3.lt
 have hk2':=k2.lt
 have hrob':=hrow.ob_le
 have hsb':=hSb.size
 refine Z3 Z6 rfl ?_
 rintro _ wn ⟨b8,rfl,hb8,k8,hT⟩
 replace k3:=k3.up hT
 replace k2:=k2.up hT
 replace hrow:=hrow.up hT
 replace hs':=hs'.up hT
 replace hSb:=hSb.trans (hT.mono (by simp))
 clear hT
 refine W ?_
 have hn8:b8≠b2∧b8≠b3∧b8∉ob hv:=⟨by omega,by omega,fun h=>by have:=(hrob' _ h).2;omega⟩
 have hS8:w5.heap.size≤b8:=by omega
 generalize hm1:1+(x:Int) % 4=m1
 generalize hm2:1+(x:Int) / 4 % 4=m2
 generalize hm3:(y:Int) % 3=m3
 refine Z0 (Z1 (us:=Zi.enc (⟨m1,m2,0,0,0,0,m3,1,9999⟩:Hol)) rfl rfl rfl rfl (Zi.one _) k8 rfl) ?_
 rintro _ wn ⟨hT,k8⟩
 replace k3:=k3.ext hT (by simp;omega)
 replace k2:=k2.ext hT (by simp;omega)
 replace hrow:=hrow.keep hT (by simp;exact hn8.2.2)
 replace hSb:=hSb.own hT (fun c hc=>.inr (by simp at hc;omega))
 clear hT
 replace k8:Blk wn b8 187 [.int .i64 m1,.int .i64 m2,.int .i64 0,.int .i64 0,.int .i64 0,.int .i64 0,.int .i64 m3,.int .i64 1,.int .i64 9999]:=k8
 clear hs'
 refine W ?_
 refine Z1K (σ:=Hol) (fun _=>[(0,v),(2,.pointer (some ⟨b2,0,none⟩)),(3,.pointer (some ⟨b3,0,none⟩)),(5,.int .i64 (j:Int)),(8,.pointer (some ⟨b8,0,none⟩))])
  (fun h w'=>Z2q h∧Blk w' b8 187 [.int .i64 h.kind,.int .i64 h.month,.int .i64 h.day,.int .i64 h.wd,.int .i64 h.nth,.int .i64 h.off,.int .i64 h.move,.int .i64 h.first,.int .i64 h.last]∧Blk w' b2 37 ((.agg (cL false false false (.slice none 0 0) (.slice none 0 0) (.int .i64 0) (.slice none 0 0) (.int .i64 0)).toArray:Value).cells.toList)∧Blk w' b3 37 (cL b0 b5 b6 hv (.slice none 0 0) (.int .i64 0) (.slice none 0 0) (.int .i64 hr))∧Row [] w' w5.heap.size 187 hv hols∧Stp [b3] w5 w') ?_ ?_
 have hk:m1=1∨m1=2∨m1=3∨m1=4:=by omega
 rcases hk with rfl|rfl|rfl|rfl
 refine W ?_
 refine Z0 (Zj (u:=.int .i64 (1+(y:Int) / 3 % 31)) rfl rfl rfl rfl k8 (by simp)) ?_
 rintro _ wn ⟨hT,k8⟩
 replace k8:Blk wn b8 187 [.int .i64 (1),.int .i64 (m2),.int .i64 (1+(y:Int) / 3 % 31),.int .i64 (0),.int .i64 (0),.int .i64 (0),.int .i64 (m3),.int .i64 (1),.int .i64 (9999)]:=k8
 replace k3:=k3.ext hT (by simp;omega)
 replace k2:=k2.ext hT (by simp;omega)
 replace hrow:=hrow.keep hT (by simp;exact hn8.2.2)
 replace hSb:=hSb.own hT (fun c hc=>.inr (by simp at hc;omega))
 clear hT
 refine W ?_
 have hof:Z2q (⟨1,m2,1+(y:Int) / 3 % 31,0,0,0,m3,1,9999⟩:Hol):=by constructor<;>dsimp only<;>omega
 exact ZI (⟨1,m2,1+(y:Int) / 3 % 31,0,0,0,m3,1,9999⟩:Hol) ⟨rfl,rfl,rfl,rfl,rfl,trivial⟩ ⟨hof,k8,k2,k3,hrow,hSb⟩
 refine W ?_
 refine Z0 (Zj (u:=.int .i64 ((y:Int) / 3 % 7)) rfl rfl rfl rfl k8 (by simp)) ?_
 rintro _ wn ⟨hT,k8⟩
 replace k8:Blk wn b8 187 [.int .i64 (2),.int .i64 (m2),.int .i64 (0),.int .i64 ((y:Int) / 3 % 7),.int .i64 (0),.int .i64 (0),.int .i64 (m3),.int .i64 (1),.int .i64 (9999)]:=k8
 replace k3:=k3.ext hT (by simp;omega)
 replace k2:=k2.ext hT (by simp;omega)
 replace hrow:=hrow.keep hT (by simp;exact hn8.2.2)
 replace hSb:=hSb.own hT (fun c hc=>.inr (by simp at hc;omega))
 clear hT
 refine W ?_
 refine Z0 (Zj (u:=.int .i64 (1+(y:Int) / 21 % 5)) rfl rfl rfl rfl k8 (by simp)) ?_
 rintro _ wn ⟨hT,k8⟩
 replace k8:Blk wn b8 187 [.int .i64 (2),.int .i64 (m2),.int .i64 (0),.int .i64 ((y:Int) / 3 % 7),.int .i64 (1+(y:Int) / 21 % 5),.int .i64 (0),.int .i64 (m3),.int .i64 (1),.int .i64 (9999)]:=k8
 replace k3:=k3.ext hT (by simp;omega)
 replace k2:=k2.ext hT (by simp;omega)
 replace hrow:=hrow.keep hT (by simp;exact hn8.2.2)
 replace hSb:=hSb.own hT (fun c hc=>.inr (by simp at hc;omega))
 clear hT
 refine W ?_
 refine Z0 (Zj (u:=.int .i64 (0)) rfl rfl rfl rfl k8 (by simp)) ?_
 rintro _ wn ⟨hT,k8⟩
 replace k8:Blk wn b8 187 [.int .i64 (2),.int .i64 (m2),.int .i64 (0),.int .i64 ((y:Int) / 3 % 7),.int .i64 (1+(y:Int) / 21 % 5),.int .i64 (0),.int .i64 (0),.int .i64 (1),.int .i64 (9999)]:=k8
 replace k3:=k3.ext hT (by simp;omega)
 replace k2:=k2.ext hT (by simp;omega)
 replace hrow:=hrow.keep hT (by simp;exact hn8.2.2)
 replace hSb:=hSb.own hT (fun c hc=>.inr (by simp at hc;omega))
 clear hT
 refine W ?_
 have hof:Z2q (⟨2,m2,0,(y:Int) / 3 % 7,1+(y:Int) / 21 % 5,0,0,1,9999⟩:Hol):=by constructor<;>dsimp only<;>omega
 exact ZI (⟨2,m2,0,(y:Int) / 3 % 7,1+(y:Int) / 21 % 5,0,0,1,9999⟩:Hol) ⟨rfl,rfl,rfl,rfl,rfl,trivial⟩ ⟨hof,k8,k2,k3,hrow,hSb⟩
 refine W ?_
 refine Z0 (Zj (u:=.int .i64 ((y:Int) / 3 % 7)) rfl rfl rfl rfl k8 (by simp)) ?_
 rintro _ wn ⟨hT,k8⟩
 replace k8:Blk wn b8 187 [.int .i64 (3),.int .i64 (m2),.int .i64 (0),.int .i64 ((y:Int) / 3 % 7),.int .i64 (0),.int .i64 (0),.int .i64 (m3),.int .i64 (1),.int .i64 (9999)]:=k8
 replace k3:=k3.ext hT (by simp;omega)
 replace k2:=k2.ext hT (by simp;omega)
 replace hrow:=hrow.keep hT (by simp;exact hn8.2.2)
 replace hSb:=hSb.own hT (fun c hc=>.inr (by simp at hc;omega))
 clear hT
 refine W ?_
 refine Z0 (Zj (u:=.int .i64 (0)) rfl rfl rfl rfl k8 (by simp)) ?_
 rintro _ wn ⟨hT,k8⟩
 replace k8:Blk wn b8 187 [.int .i64 (3),.int .i64 (m2),.int .i64 (0),.int .i64 ((y:Int) / 3 % 7),.int .i64 (0),.int .i64 (0),.int .i64 (0),.int .i64 (1),.int .i64 (9999)]:=k8
 replace k3:=k3.ext hT (by simp;omega)
 replace k2:=k2.ext hT (by simp;omega)
 replace hrow:=hrow.keep hT (by simp;exact hn8.2.2)
 replace hSb:=hSb.own hT (fun c hc=>.inr (by simp at hc;omega))
 clear hT
 refine W ?_
 have hof:Z2q (⟨3,m2,0,(y:Int) / 3 % 7,0,0,0,1,9999⟩:Hol):=by constructor<;>dsimp only<;>omega
 exact ZI (⟨3,m2,0,(y:Int) / 3 % 7,0,0,0,1,9999⟩:Hol) ⟨rfl,rfl,rfl,rfl,rfl,trivial⟩ ⟨hof,k8,k2,k3,hrow,hSb⟩
 refine W ?_
 refine Z0 (Zj (u:=.int .i64 ((y:Int) / 3 % 61 - 10)) rfl rfl rfl rfl k8 (by simp)) ?_
 rintro _ wn ⟨hT,k8⟩
 replace k8:Blk wn b8 187 [.int .i64 (4),.int .i64 (m2),.int .i64 (0),.int .i64 (0),.int .i64 (0),.int .i64 ((y:Int) / 3 % 61 - 10),.int .i64 (m3),.int .i64 (1),.int .i64 (9999)]:=k8
 replace k3:=k3.ext hT (by simp;omega)
 replace k2:=k2.ext hT (by simp;omega)
 replace hrow:=hrow.keep hT (by simp;exact hn8.2.2)
 replace hSb:=hSb.own hT (fun c hc=>.inr (by simp at hc;omega))
 clear hT
 refine W ?_
 refine Z0 (Zj (u:=.int .i64 (0)) rfl rfl rfl rfl k8 (by simp)) ?_
 rintro _ wn ⟨hT,k8⟩
 replace k8:Blk wn b8 187 [.int .i64 (4),.int .i64 (0),.int .i64 (0),.int .i64 (0),.int .i64 (0),.int .i64 ((y:Int) / 3 % 61 - 10),.int .i64 (m3),.int .i64 (1),.int .i64 (9999)]:=k8
 replace k3:=k3.ext hT (by simp;omega)
 replace k2:=k2.ext hT (by simp;omega)
 replace hrow:=hrow.keep hT (by simp;exact hn8.2.2)
 replace hSb:=hSb.own hT (fun c hc=>.inr (by simp at hc;omega))
 clear hT
 refine W ?_
 have hof:Z2q (⟨4,0,0,0,0,(y:Int) / 3 % 61 - 10,m3,1,9999⟩:Hol):=by constructor<;>dsimp only<;>omega
 exact ZI (⟨4,0,0,0,0,(y:Int) / 3 % 61 - 10,m3,1,9999⟩:Hol) ⟨rfl,rfl,rfl,rfl,rfl,trivial⟩ ⟨hof,k8,k2,k3,hrow,hSb⟩
 rintro hh wq ⟨hof,k8,k2,k3,hrow,hSb⟩
 refine W ?_
 refine Z3 (Z2 (vs:=[(0,agg hh)]) rfl (ZiH _)) rfl ?_
 rintro bw wn hN
 have hbw:SlV (ob hv++[]) wn bw [hh]:=hN.slv (fun b hb=>(hrow.ob_le b (by simpa using hb)).2) rfl rfl (by simp [maxLen])
 have hT:=Zc.stp hN
 clear hN
 replace k3:=k3.up hT
 replace k2:=k2.up hT
 replace hrow:=hrow.up hT
 replace hSb:=hSb.trans (hT.mono (by simp))
 clear hT
 have hob:=hrow.ob_le
 have hbase:=hSb.size
 refine Z3 (Z05 (X:=[]) (base:=w5.heap.size) rfl (by decide) rfl rfl hrow hbw (by simp only [Xc,Xe];omega) (by simp only [Xc,Xe,maxLen];omega) hbase) rfl ?_
 rintro hv' wn ⟨hrow,hT,hob'⟩
 replace k2:=k2.ext hT (fun h=>by have:=(hob _ h).1;omega)
 replace k3:=k3.ext hT (fun h=>by have:=(hob _ h).1;omega)
 replace hSb:Stp [b3] w5 wn:=hSb.own hT (fun c hc=>.inr (hob c hc).1)
 clear hT
 have hob2:=hrow.ob_le
 refine W ?_
 refine Z0 (Zj (u:=hv') rfl rfl (Row.slv (X:=[]) hrow (by simp)).cells (Row.slv (X:=[]) hrow (by simp)).one k3 (by simp [cL])) ?_
 rintro _ wn ⟨hT,k3⟩
 replace k3:Blk wn b3 37 (cL b0 b5 b6 hv' (.slice none 0 0) (.int .i64 0) (.slice none 0 0) (.int .i64 hr)):=k3
 replace k2:=k2.ext hT (by simpa using n23)
 replace hrow:=hrow.keep hT (fun b hb h=>by have:=hob2 _ h;simp at hb;omega)
 replace hSb:=hSb.trans hT
 clear hT
 refine W ?_
 refine Zr (j+1,hv',hols++[hh]) ⟨rfl,rfl,rfl,rfl,trivial⟩ ⟨by dsimp only;omega,by dsimp only;rw [Xb];simp only [Xc,Xe];omega,k2,k3,hrow,?_,hSb⟩ (by dsimp only;omega)
 intro z hz
 rcases Xt.1 hz with h|h
 exact hho z h
 rw [Xq.1 h]
 exact hof
 · repeat'(first|refine W1 ?_|omega|refine VG ?_ ?_<;>intro hg|refine VC ?_ ?_<;>intro hc)
   all_goals exact ZI (hv,hols) ⟨rfl,rfl,rfl,trivial⟩ ⟨(by dsimp only;omega),k2,k3,hrow,hho,hSb⟩
 rintro ⟨hv,hols⟩ w6 ⟨hl3,k2,k3,hrow,hho,hSb⟩
 dsimp only at hl3 k3 hrow hho ⊢
 have hhv:SlV (b2 :: b3 :: X) w6 hv hols:=Row.slv (X:=b2 :: b3 :: X) hrow (fun b hb=>by
  rcases Xf.1 hb with rfl|hb
  omega
  rcases Xf.1 hb with rfl|hb
  omega
  have:=hX b hb
  omega)
 replace hS:=hS.own hSb (fun c hc=>.inr (by simp at hc;omega))
 clear hrow hSb
 have hsz6:=hS.size
 have k3lt6:=k3.lt
 have k2lt6:=k2.lt
 refine W ?_
 refine Z1K (σ:=Value×List Clo) (fun q=>[(0,v),(2,.pointer (some ⟨b2,0,none⟩)),(3,.pointer (some ⟨b3,0,none⟩))]) (fun q w'=>q.2.length≤3∧(∀ x∈q.2,Zbc x)∧Blk w' b2 37 ((.agg (cL false false false (.slice none 0 0) (.slice none 0 0) (.int .i64 0) (.slice none 0 0) (.int .i64 0)).toArray:Value).cells.toList)∧Blk w' b3 37 (cL b0 b5 b6 hv q.1 (.int .i64 0) (.slice none 0 0) (.int .i64 hr))∧Row [] w' w6.heap.size 77 q.1 q.2∧Stp [b3] w6 w') ?_ ?_
 refine ZD (σ:=Nat×Value×List Clo) (fun q=>[(0,v),(2,.pointer (some ⟨b2,0,none⟩)),(3,.pointer (some ⟨b3,0,none⟩)),(9,.int .i64 (q.1:Int))]) (fun q w'=>q.1≤3∧q.2.2.length≤q.1∧(∀ x∈q.2.2,Zbc x)∧Blk w' b2 37 ((.agg (cL false false false (.slice none 0 0) (.slice none 0 0) (.int .i64 0) (.slice none 0 0) (.int .i64 0)).toArray:Value).cells.toList)∧Blk w' b3 37 (cL b0 b5 b6 hv q.2.1 (.int .i64 0) (.slice none 0 0) (.int .i64 hr))∧Row [] w' w6.heap.size 77 q.2.1 q.2.2∧Stp [b3] w6 w') (fun q=>3 - q.1)
  (0,.slice none 0 0,[]) ⟨rfl,rfl,rfl,rfl,trivial⟩ ⟨by decide,by decide,(by simp),k2,k3,Row.nil,Stp.refl _ _⟩ ?_
 rintro ⟨j,cv,clos⟩ w7 ⟨hj3,hlen,hsm,k2,k3,hrow,hSb⟩
 dsimp only at hj3 hlen k3 hrow ⊢
 have hs':=hs.up (hS.own hSb (fun c hc=>.inr (by simp at hc;omega)))
 have hrob:=hrow.ob_le
 refine W ?_
 refine CL rfl (ZH rfl rfl rfl) rfl (J9 [] _ l 9 4 _ (by decide) (by unfold I64;omega) hs' hl) ?_
 rintro _ wn ⟨q,rfl,hq,hT⟩
 replace k3:=k3.up hT
 replace k2:=k2.up hT
 replace hrow:=hrow.up hT
 replace hs':=hs'.up hT
 replace hSb:=hSb.trans (hT.mono (by simp))
 clear hT
 by_cases hlt:(j:Int)<(q:Int)
 focus repeat'(first|refine W1 ?_|omega|refine VG ?_ ?_<;>intro hg|refine VC ?_ ?_<;>intro hc)
 refine CL rfl (ZH rfl rfl rfl) rfl (J9 [] _ l (10+(j:Int)) 1000000 _ (by decide) (by unfold I64;omega) hs' hl) ?_
 rintro _ wn ⟨x,rfl,hx,hT⟩
 replace k3:=k3.up hT
 replace k2:=k2.up hT
 replace hrow:=hrow.up hT
 replace hs':=hs'.up hT
 replace hSb:=hSb.trans (hT.mono (by simp))
 clear hT
 refine W ?_
 refine Ze (vs:=[(0,.int .i64 (739616+(x:Int) % 120)),(1,.int .i64 (739616+(x:Int) % 120+(x:Int) / 120 % 6)),(2,.int .i64 (739616+(x:Int) / 720 % 130))]) rfl (ZiI _ _ _) rfl ?_
 have hx3:Zbc ⟨739616+(x:Int) % 120,739616+(x:Int) % 120+(x:Int) / 120 % 6,739616+(x:Int) / 720 % 130⟩:=by unfold Zbc;dsimp only;omega
 generalize 739616+(x:Int) % 120=lo at hx3 ⊢
 generalize lo+(x:Int) / 120 % 6=hi at hx3 ⊢
 generalize 739616+(x:Int) / 720 % 130=kn at hx3 ⊢
 refine Z3 (Z2 (vs:=[(0,agg (⟨lo,hi,kn⟩:Clo))]) rfl (ZiJ _)) rfl ?_
 rintro bw wn hN
 have hbw:SlV (ob cv++[]) wn bw [(⟨lo,hi,kn⟩:Clo)]:=hN.slv (fun b hb=>(hrow.ob_le b (by simpa using hb)).2) rfl rfl (by simp [maxLen])
 have hT:=Zc.stp hN
 clear hN
 replace k3:=k3.up hT
 replace k2:=k2.up hT
 replace hrow:=hrow.up hT
 replace hSb:=hSb.trans (hT.mono (by simp))
 clear hT
 have hob:=hrow.ob_le
 have hbase:=hSb.size
 refine Z3 (Z05 (X:=[]) (base:=w6.heap.size) rfl (by decide) rfl rfl hrow hbw (by simp only [Xc,Xe];omega) (by simp only [Xc,Xe,maxLen];omega) hbase) rfl ?_
 rintro cv' wn ⟨hrow,hT,hob'⟩
 replace k2:=k2.ext hT (fun h=>by have:=(hob _ h).1;omega)
 replace k3:=k3.ext hT (fun h=>by have:=(hob _ h).1;omega)
 replace hSb:Stp [b3] w6 wn:=hSb.own hT (fun c hc=>.inr (hob c hc).1)
 clear hT
 have hob2:=hrow.ob_le
 refine W ?_
 refine Z0 (Zj (u:=cv') rfl rfl (Row.slv (X:=[]) hrow (by simp)).cells (Row.slv (X:=[]) hrow (by simp)).one k3 (by simp [cL])) ?_
 rintro _ wn ⟨hT,k3⟩
 replace k3:Blk wn b3 37 (cL b0 b5 b6 hv cv' (.int .i64 0) (.slice none 0 0) (.int .i64 hr)):=k3
 replace k2:=k2.ext hT (by simpa using n23)
 replace hrow:=hrow.keep hT (fun b hb h=>by have:=hob2 _ h;simp at hb;omega)
 replace hSb:=hSb.trans hT
 clear hT
 refine W ?_
 refine Zr (j+1,cv',clos++[(⟨lo,hi,kn⟩:Clo)]) ⟨rfl,rfl,rfl,rfl,trivial⟩ ⟨by dsimp only;omega,by dsimp only;rw [Xb];simp only [Xc,Xe];omega,(fun y hy=>by rcases Xt.1 hy with h|h;exact hsm y h;rw [Xq.1 h];exact hx3),k2,k3,hrow,hSb⟩ (by dsimp only;omega)
 · repeat'(first|refine W1 ?_|omega|refine VG ?_ ?_<;>intro hg|refine VC ?_ ?_<;>intro hc)
   all_goals exact ZI (cv,clos) ⟨rfl,rfl,rfl,trivial⟩ ⟨(by dsimp only;omega),hsm,k2,k3,hrow,hSb⟩
 rintro ⟨cv,clos⟩ w7 ⟨hcl3,hsm,k2,k3,hrow,hSb⟩
 dsimp only at k3 hrow ⊢
 have hcv:SlV (b2 :: b3 :: X) w7 cv clos:=Row.slv (X:=b2 :: b3 :: X) hrow (fun b hb=>by
  rcases Xf.1 hb with rfl|hb
  omega
  rcases Xf.1 hb with rfl|hb
  omega
  have:=hX b hb
  omega)
 replace hhv:SlV (b2 :: b3 :: X) w7 hv hols:=hhv.ext hSb (by simp) (fun _ h=>.inl h)
 replace hS:=hS.own hSb (fun c hc=>.inr (by simp at hc;omega))
 clear hrow hSb
 have hs':=hs.up hS
 have hsz7:=hS.size
 have k3lt7:=k3.lt
 have k2lt7:=k2.lt
 by_cases h13:13<l.length
 focus repeat'(first|refine W1 ?_|omega|refine VG ?_ ?_<;>intro hg|refine VC ?_ ?_<;>intro hc)
 have hsd:=hs'.slc (l:=13) (r:=l.length) (by omega) (Xo _)
 rw [XL] at hsd
 refine ZbE (l:=13) rfl hs' rfl (by simp) (by omega) rfl ?_
 refine W ?_
 refine CL rfl (Zp rfl) rfl (Z7O _ (l.drop 13) _ hsd (fun a ha=>hl a (List.mem_of_mem_drop ha))) ?_
 rintro _ w8 ⟨zo,zs,xs,rfl,hxs,hxl,hz⟩
 have hob:=hz.ob_le
 have hT:=hz.2
 replace k3:=k3.up hT
 replace k2:=k2.up hT
 have hzr:=hz.1
 replace hhv:SlV (b2 :: b3 :: (ob zs++X)) w8 hv hols:=hhv.ext hT (by simp) (fun b hb=>by
  simp at hb
  rcases hb with rfl|rfl|hb|hb
  exact .inl (by simp)
  exact .inl (by simp)
  exact .inr (hob b hb).1
  exact .inl (by simp [hb]))
 replace hcv:SlV (b2 :: b3 :: (ob zs++X)) w8 cv clos:=hcv.ext hT (by simp) (fun b hb=>by
  simp at hb
  rcases hb with rfl|rfl|hb|hb
  exact .inl (by simp)
  exact .inl (by simp)
  exact .inr (hob b hb).1
  exact .inl (by simp [hb]))
 replace hS:=hS.trans hT
 have hn3:b3∉ob zs:=fun h=>by have:=(hob _ h).1;omega
 have hn2:b2∉ob zs:=fun h=>by have:=(hob _ h).1;omega
 clear hT hz hs hs'
 refine W ?_
 refine Z0 (Z1g (o:=9) (us:=[.int .i64 zo,zs]) rfl rfl rfl rfl (by intro u hu;simp at hu;rcases hu with rfl|rfl;exact rfl;exact (Row.slv (X:=[]) hzr (by simp)).one) k3 (by simp [cL])) ?_
 rintro _ w9 ⟨hT,k3⟩
 replace k3:Blk w9 b3 37 (cL b0 b5 b6 hv cv (.int .i64 zo) zs (.int .i64 hr)):=k3
 replace k2:=k2.ext hT (by simpa using n23)
 replace hzr:=hzr.keep hT (fun b hb h=>by simp at hb;subst hb;exact hn3 h)
 replace hhv:=hhv.ext (X':=b2 :: b3 :: (ob zs++X)) hT (by simp) (fun _ h=>.inl h)
 replace hcv:=hcv.ext (X':=b2 :: b3 :: (ob zs++X)) hT (by simp) (fun _ h=>.inl h)
 replace hS:=hS.own hT (fun c hc=>.inr (by simp at hc;omega))
 clear hT
 refine W ?_
 refine Z1K (σ:=Unit) (fun q=>[(2,.pointer (some ⟨b2,0,none⟩)),(3,.pointer (some ⟨b3,0,none⟩))]) (fun q w'=>Stp (ob zs) w9 w') ?_ ?_
 refine ZD (σ:=Nat×List Spn) (fun q=>[(2,.pointer (some ⟨b2,0,none⟩)),(3,.pointer (some ⟨b3,0,none⟩)),(13,.int .i64 (q.1:Int))]) (fun q w'=>q.1≤xs.length∧q.2.length=xs.length∧(∀ i (hi:i<q.2.length),q.1≤i→Zbb q.2[i])∧Row [] w' w7.heap.size 190 zs q.2∧Stp (ob zs) w9 w') (fun q=>xs.length - q.1)
  (0,xs) ⟨rfl,rfl,rfl,trivial⟩ ⟨by dsimp only;omega,rfl,(fun i hi _=>hxs _ (Xg hi)),hzr,Stp.refl _ _⟩ ?_
 rintro ⟨j,ys⟩ wa ⟨hj,hyl,hys,hzr,hSb⟩
 dsimp only at hj hyl hys hzr ⊢
 have k3:=k3.ext hSb hn3
 have hzs:SlV [] wa zs ys:=Row.slv (X:=[]) hzr (by simp)
 rw [← hyl] at hj
 by_cases hlt:j<ys.length
 focus repeat'(first|refine W1 ?_|omega|refine VG ?_ ?_<;>intro hg|refine VC ?_ ?_<;>intro hc)
 have hel:=(hys j hlt (Xo _))
 unfold Zbb at hel
 refine ZDr 15 [] [14] [(0,0),(1,0),(2,1),(3,0),(4,0),(5,0),(6,1),(7,0),(8,0),(9,0),(10,1),(11,0),(12,0),(13,0),(14,2)] (fun w1 hS1=>?_)
 replace k3:=k3.up hS1
 replace hzr:=hzr.up hS1
 replace hzs:=hzs.up hS1
 replace hSb:=hSb.trans (hS1.mono (by simp))
 clear hS1
 refine D ?_
 refine JR rfl trivial (Z5O (β:=Spn) (i:=j) (y':=((ys[j].1+1065047040,ys[j].2):Spn)) rfl rfl rfl rfl rfl hzr hlt (by decide) rfl) rfl ?_
 rintro _ wb ⟨hzr,hT⟩
 replace hSb:=hSb.trans hT
 refine D ?_
 refine W ?_
 refine Zr (j+1,ys.set j ((ys[j].1+1065047040,ys[j].2):Spn)) ⟨rfl,rfl,rfl,trivial⟩ ⟨by dsimp only;omega,by dsimp only;rw [Yag];exact hyl,?_,hzr,hSb⟩ (by dsimp only;omega)
 intro i hi hle
 dsimp only at hi hle ⊢
 rw [YaF (by omega)]
 exact hys i (by rw [Yag] at hi;exact hi) (by omega)
 · repeat'(first|refine W1 ?_|omega|refine VG ?_ ?_<;>intro hg|refine VC ?_ ?_<;>intro hc)
   all_goals exact ZI () ⟨rfl,rfl,trivial⟩ hSb
 rintro _ wa hSb
 have k3:=k3.ext hSb hn3
 have k2:=k2.ext hSb hn2
 have hhv:=hhv.ext (X':=b2 :: b3 :: X) hSb (fun b h=>by simp [h]) (fun b h=>.inl (by simp at h;rcases h with rfl|rfl|h<;>simp [*]))
 have hcv:=hcv.ext (X':=b2 :: b3 :: X) hSb (fun b h=>by simp [h]) (fun b h=>.inl (by simp at h;rcases h with rfl|rfl|h<;>simp [*]))
 replace hS:=hS.own hSb (fun c hc=>.inr (by have:=(hob _ hc).1;omega))
 have hsa:zs.oneCell'=true:=(Row.slv (X:=[]) hzr (by simp)).one
 clear hSb
 refine W ?_
 refine Z0 (Z1 (us:=cL b0 b5 b6 hv cv (.int .i64 zo) zs (.int .i64 hr)) rfl rfl rfl rfl (by intro u hu;simp [cL] at hu;rcases hu with rfl|rfl|rfl|rfl|rfl|rfl|rfl|rfl|rfl|rfl|rfl<;>first|exact rfl|exact hsa|exact hhv.one|exact hcv.one) k2 rfl) ?_
 rintro _ wb ⟨hT,k2⟩
 refine W ?_
 refine Zu rfl rfl rfl k2 rfl ?_
 exact .mk ⟨⟨[b0,false,false,false,false,b5,b6],hols,clos⟩,hv,cv,.int .i64 zo,zs,.int .i64 hr,rfl,⟨rfl,hsa,rfl⟩,⟨⟨rfl,hho,by dsimp only;omega⟩,⟨b0,b5,b6,rfl⟩,hl3,hcl3,hsm⟩,hhv.ext hT (by simp) (fun b h=>.inl (by simp [h])),hcv.ext hT (by simp) (fun b h=>.inl (by simp [h])),hS.own hT (fun c hc=>.inr (by simp at hc;omega))⟩
 focus repeat'(first|refine W1 ?_|omega|refine VG ?_ ?_<;>intro hg|refine VC ?_ ?_<;>intro hc)
 refine CL rfl (Zp rfl) rfl (Z7O _ [] _ (Row.slv (X:=[]) (Row.nil (base:=0) (T:=0)) (by simp)) (by simp)) ?_
 rintro _ w8 ⟨zo,zs,xs,rfl,hxs,hxl,hz⟩
 have hob:=hz.ob_le
 have hT:=hz.2
 replace k3:=k3.up hT
 replace k2:=k2.up hT
 have hzr:=hz.1
 replace hhv:SlV (b2 :: b3 :: (ob zs++X)) w8 hv hols:=hhv.ext hT (by simp) (fun b hb=>by
  simp at hb
  rcases hb with rfl|rfl|hb|hb
  exact .inl (by simp)
  exact .inl (by simp)
  exact .inr (hob b hb).1
  exact .inl (by simp [hb]))
 replace hcv:SlV (b2 :: b3 :: (ob zs++X)) w8 cv clos:=hcv.ext hT (by simp) (fun b hb=>by
  simp at hb
  rcases hb with rfl|rfl|hb|hb
  exact .inl (by simp)
  exact .inl (by simp)
  exact .inr (hob b hb).1
  exact .inl (by simp [hb]))
 replace hS:=hS.trans hT
 have hn3:b3∉ob zs:=fun h=>by have:=(hob _ h).1;omega
 have hn2:b2∉ob zs:=fun h=>by have:=(hob _ h).1;omega
 clear hT hz hs hs'
 refine W ?_
 refine Z0 (Z1g (o:=9) (us:=[.int .i64 zo,zs]) rfl rfl rfl rfl (by intro u hu;simp at hu;rcases hu with rfl|rfl;exact rfl;exact (Row.slv (X:=[]) hzr (by simp)).one) k3 (by simp [cL])) ?_
 rintro _ w9 ⟨hT,k3⟩
 replace k3:Blk w9 b3 37 (cL b0 b5 b6 hv cv (.int .i64 zo) zs (.int .i64 hr)):=k3
 replace k2:=k2.ext hT (by simpa using n23)
 replace hzr:=hzr.keep hT (fun b hb h=>by simp at hb;subst hb;exact hn3 h)
 replace hhv:=hhv.ext (X':=b2 :: b3 :: (ob zs++X)) hT (by simp) (fun _ h=>.inl h)
 replace hcv:=hcv.ext (X':=b2 :: b3 :: (ob zs++X)) hT (by simp) (fun _ h=>.inl h)
 replace hS:=hS.own hT (fun c hc=>.inr (by simp at hc;omega))
 clear hT
 refine W ?_
 refine Z1K (σ:=Unit) (fun q=>[(2,.pointer (some ⟨b2,0,none⟩)),(3,.pointer (some ⟨b3,0,none⟩))]) (fun q w'=>Stp (ob zs) w9 w') ?_ ?_
 refine ZD (σ:=Nat×List Spn) (fun q=>[(2,.pointer (some ⟨b2,0,none⟩)),(3,.pointer (some ⟨b3,0,none⟩)),(13,.int .i64 (q.1:Int))]) (fun q w'=>q.1≤xs.length∧q.2.length=xs.length∧(∀ i (hi:i<q.2.length),q.1≤i→Zbb q.2[i])∧Row [] w' w7.heap.size 190 zs q.2∧Stp (ob zs) w9 w') (fun q=>xs.length - q.1)
  (0,xs) ⟨rfl,rfl,rfl,trivial⟩ ⟨by dsimp only;omega,rfl,(fun i hi _=>hxs _ (Xg hi)),hzr,Stp.refl _ _⟩ ?_
 rintro ⟨j,ys⟩ wa ⟨hj,hyl,hys,hzr,hSb⟩
 dsimp only at hj hyl hys hzr ⊢
 have k3:=k3.ext hSb hn3
 have hzs:SlV [] wa zs ys:=Row.slv (X:=[]) hzr (by simp)
 rw [← hyl] at hj
 by_cases hlt:j<ys.length
 focus repeat'(first|refine W1 ?_|omega|refine VG ?_ ?_<;>intro hg|refine VC ?_ ?_<;>intro hc)
 have hel:=(hys j hlt (Xo _))
 unfold Zbb at hel
 refine ZDr 15 [] [14] [(0,0),(1,0),(2,1),(3,0),(4,0),(5,0),(6,1),(7,0),(8,0),(9,0),(10,1),(11,0),(12,0),(13,0),(14,2)] (fun w1 hS1=>?_)
 replace k3:=k3.up hS1
 replace hzr:=hzr.up hS1
 replace hzs:=hzs.up hS1
 replace hSb:=hSb.trans (hS1.mono (by simp))
 clear hS1
 refine D ?_
 refine JR rfl trivial (Z5O (β:=Spn) (i:=j) (y':=((ys[j].1+1065047040,ys[j].2):Spn)) rfl rfl rfl rfl rfl hzr hlt (by decide) rfl) rfl ?_
 rintro _ wb ⟨hzr,hT⟩
 replace hSb:=hSb.trans hT
 refine D ?_
 refine W ?_
 refine Zr (j+1,ys.set j ((ys[j].1+1065047040,ys[j].2):Spn)) ⟨rfl,rfl,rfl,trivial⟩ ⟨by dsimp only;omega,by dsimp only;rw [Yag];exact hyl,?_,hzr,hSb⟩ (by dsimp only;omega)
 intro i hi hle
 dsimp only at hi hle ⊢
 rw [YaF (by omega)]
 exact hys i (by rw [Yag] at hi;exact hi) (by omega)
 · repeat'(first|refine W1 ?_|omega|refine VG ?_ ?_<;>intro hg|refine VC ?_ ?_<;>intro hc)
   all_goals exact ZI () ⟨rfl,rfl,trivial⟩ hSb
 rintro _ wa hSb
 have k3:=k3.ext hSb hn3
 have k2:=k2.ext hSb hn2
 have hhv:=hhv.ext (X':=b2 :: b3 :: X) hSb (fun b h=>by simp [h]) (fun b h=>.inl (by simp at h;rcases h with rfl|rfl|h<;>simp [*]))
 have hcv:=hcv.ext (X':=b2 :: b3 :: X) hSb (fun b h=>by simp [h]) (fun b h=>.inl (by simp at h;rcases h with rfl|rfl|h<;>simp [*]))
 replace hS:=hS.own hSb (fun c hc=>.inr (by have:=(hob _ hc).1;omega))
 have hsa:zs.oneCell'=true:=(Row.slv (X:=[]) hzr (by simp)).one
 clear hSb
 refine W ?_
 refine Z0 (Z1 (us:=cL b0 b5 b6 hv cv (.int .i64 zo) zs (.int .i64 hr)) rfl rfl rfl rfl (by intro u hu;simp [cL] at hu;rcases hu with rfl|rfl|rfl|rfl|rfl|rfl|rfl|rfl|rfl|rfl|rfl<;>first|exact rfl|exact hsa|exact hhv.one|exact hcv.one) k2 rfl) ?_
 rintro _ wb ⟨hT,k2⟩
 refine W ?_
 refine Zu rfl rfl rfl k2 rfl ?_
 exact .mk ⟨⟨[b0,false,false,false,false,b5,b6],hols,clos⟩,hv,cv,.int .i64 zo,zs,.int .i64 hr,rfl,⟨rfl,hsa,rfl⟩,⟨⟨rfl,hho,by dsimp only;omega⟩,⟨b0,b5,b6,rfl⟩,hl3,hcl3,hsm⟩,hhv.ext hT (by simp) (fun b h=>.inl (by simp [h])),hcv.ext hT (by simp) (fun b h=>.inl (by simp [h])),hS.own hT (fun c hc=>.inr (by simp at hc;omega))⟩
def Z8f:List Str:=[[101,120,116,114,97],[98,121],[116,111],[99,111,117,114,116],[97,109,111,117,110,116]]
def Z4L:List Str:=[[100,97,121],[115,101,114,118,101,100]]
inductive Gn:Int→Nat→Nd→Prop
 | num (d:Nat) (n:Int) (h:0≤n∧n<25):Gn 1 d (.mk 1 n [] [])
 | fldN (d:Nat) (s:Str) (h:s∈Z8f):Gn 1 d (.mk 4 0 s [])
 | fldD (d:Nat) (s:Str) (h:s∈Z4L):Gn 3 d (.mk 4 0 s [])
 | day (d:Nat) (n:Int) (h:739616≤n∧n<739676):Gn 3 d (.mk 3 n [] [])
 | bool (d:Nat) (n:Int) (h:n=0∨n=1):Gn 2 d (.mk 2 n [] [])
 | neg (d:Nat) (a:Nd):Gn 1 d a→Gn 1 (d+1) (.mk 5 0 [45] [a])
 | not (d:Nat) (a:Nd):Gn 2 d a→Gn 2 (d+1) (.mk 5 0 [110,111,116] [a])
 | btw (d:Nat) (a b:Nd):Gn 3 d a→Gn 3 d b→Gn 1 (d+1) (.mk 10 0 [98,101,116,119,101,101,110] [a,b])
 | cond (d:Nat) (t:Int) (c a b:Nd) (h:t=1∨t=3):Gn 2 d c→Gn t d a→Gn t d b→Gn t (d+1) (.mk 9 0 [] [c,a,b])
 | arith (d:Nat) (s:Str) (a b:Nd) (h:s∈Z0f):Gn 1 d a→Gn 1 d b→Gn 1 (d+1) (.mk 6 0 s [a,b])
 | adj (d:Nat) (s:Str) (a:Nd) (h:s∈Z1e):Gn 3 d a→Gn 3 (d+1) (.mk 10 0 s [a])
 | two (d:Nat) (s:Str) (a b:Nd) (h:s∈Z1f):Gn 3 d a→Gn 3 d b→Gn 3 (d+1) (.mk 10 0 s [a,b])
 | move (d:Nat) (k:Int) (s:Str) (a b:Nd) (hk:k=7∨k=8) (h:s∈J6):Gn 3 d a→Gn 1 d b→Gn 3 (d+1) (.mk k 0 s [a,b])
 | logic (d:Nat) (s:Str) (a b:Nd) (h:s∈Z0g):Gn 2 d a→Gn 2 d b→Gn 2 (d+1) (.mk 6 0 s [a,b])
 | cmp (d:Nat) (t:Int) (s:Str) (a b:Nd) (ht:t=1∨t=3) (h:s∈Z25):Gn t d a→Gn t d b→Gn 2 (d+1) (.mk 6 0 s [a,b])
theorem gA:∀ s∈Z0f,Jb 6 0 s [1,1]=1:=by decide
theorem gL:∀ s∈Z0g,Jb 6 0 s [2,2]=2:=by decide
theorem gC1:∀ s∈Z25,Jb 6 0 s [1,1]=2:=by decide
theorem gC3:∀ s∈Z25,Jb 6 0 s [3,3]=2:=by decide
theorem gN:∀ s∈Z1e,Jb 10 0 s [3]=3:=by
 intro s h
 simp only [Z1e,Xf,Xk,or_false] at h
 rcases h with rfl|rfl<;>rfl
theorem gE:∀ s∈Z1f,Jb 10 0 s [3,3]=3:=by
 intro s h
 simp only [Z1f,Xf,Xk,or_false] at h
 rcases h with rfl|rfl<;>rfl
theorem gU7:∀ s∈J6,Jb 7 0 s [3,1]=3:=by
 intro s h
 simp only [J6,Xf,Xk,or_false] at h
 rcases h with rfl|rfl|rfl|rfl<;>rfl
theorem gU8:∀ s∈J6,Jb 8 0 s [3,1]=3:=by
 intro s h
 simp only [J6,Xf,Xk,or_false] at h
 rcases h with rfl|rfl|rfl|rfl<;>rfl
theorem gF1:∀ s∈Z8f,Z0E 4 0 s=1:=by
 intro s h
 simp only [Z8f,Xf,Xk,or_false] at h
 rcases h with rfl|rfl|rfl|rfl|rfl<;>rfl
theorem gF3:∀ s∈Z4L,Z0E 4 0 s=3:=by
 intro s h
 simp only [Z4L,Xf,Xk,or_false] at h
 rcases h with rfl|rfl<;>rfl
theorem Gn.type {t:Int} {d:Nat} {x:Nd} (h:Gn t d x):Zd x=t:=by
 induction h with
 | num d n h=>
   refine ty0 ?_
   unfold Z0E
   rw [if_neg (by decide),if_neg (by simp),if_pos rfl,if_pos (by omega)]
 | fldN d s h=>exact ty0 (gF1 s h)
 | fldD d s h=>exact ty0 (gF3 s h)
 | day d n h=>
   refine ty0 ?_
   unfold Z0E
   rw [if_neg (by decide),if_neg (by simp),if_neg (by decide),if_neg (by decide),if_pos rfl,if_pos (by omega)]
 | bool d n h=>rcases h with rfl|rfl<;>exact ty0 rfl
 | neg d a ha ia=>exact ty1 ia rfl
 | not d a ha ia=>exact ty1 ia rfl
 | btw d a b ha hb ia ib=>exact ty2 ia ib rfl
 | cond d t c a b h hc ha hb ic ia ib=>rcases h with rfl|rfl<;>exact ty3 ic ia ib rfl
 | arith d s a b h ha hb ia ib=>exact ty2 ia ib (gA s h)
 | adj d s a h ha ia=>exact ty1 ia (gN s h)
 | two d s a b h ha hb ia ib=>exact ty2 ia ib (gE s h)
 | move d k s a b hk h ha hb ia ib=>rcases hk with rfl|rfl<;>first|exact ty2 ia ib (gU7 s h)|exact ty2 ia ib (gU8 s h)
 | logic d s a b h ha hb ia ib=>exact ty2 ia ib (gL s h)
 | cmp d t s a b ht h ha hb ia ib=>rcases ht with rfl|rfl<;>first|exact ty2 ia ib (gC1 s h)|exact ty2 ia ib (gC3 s h)
theorem Gn.nest {t:Int} {d:Nat} {x:Nd} (h:Gn t d x):Zw x≤d+1:=by
 induction h with
 | num|fldN|fldD|day|bool=>rw [Zj5];omega
 | neg|not|adj=>rw [ZcO];omega
 | btw|arith|two|move|logic|cmp=>rw [Zai];omega
 | cond=>rw [Zj6];omega
theorem Z1R (d:Nat):1≤szD (d+1):=by show 1≤1+3 * szD d;omega
theorem Gn.size {t:Int} {d:Nat} {x:Nd} (h:Gn t d x):JJ x≤szD (d+1):=by
 induction h with
 | num d|fldN d|fldD d|day d|bool d=>rw [Zp0];exact Z1R d
 | neg d|not d|adj d=>rw [ZoX,ZbY (by omega)];simp only [Ya0];omega
 | btw d|arith d|two d|move d|logic d|cmp d=>rw [ZoY,ZbY (by omega)];simp only [Ya0];omega
 | cond d=>rw [ZoZ,ZbY (by omega)];simp only [Ya0];omega
end Go.Proofs.YtjdjdoefppebkaaGreatDoor
namespace Go.Eng
open Go Go.RowKit Go.Proofs
structure WT (P:Program) (n:Nat) (ops:Array Oper) (S:List Nat) (Lt:List Nat) (Q:Exit→Act→World→Prop) (listed:Array Bool) (fuel:Nat) (e:Env) (w:World):Prop where
 h:∀ a,Has n e a→Z1y P .any ops S (fun j=>Lt.contains j) (fun a w=>Q .normal a w) fuel listed a w
structure WT1 (P:Program) (n:Nat) (ops:Array Oper) (S:List Nat) (Lt:List Nat) (Q:Exit→Act→World→Prop) (i:Nat) (listed:Array Bool) (fuel:Nat) (e:Env) (w:World):Prop where
 h:∀ a,Has n e a→wpOp P ops (fun _ _ _=>False) i (fun a' w'=>(Stp S w w'∨Lt.contains i=true)∧Z1y P .any ops S (fun j=>Lt.contains j) (fun a w=>Q .normal a w) fuel (listed.setIfInBounds i true) a' w') a w
section rules
variable {P:Program} {n:Nat} {Q:Exit→Act→World→Prop} {e:Env} {w:World} {ops:Array Oper} {S:List Nat} {Lt:List Nat} {listed:Array Bool} {fuel:Nat}
theorem Z2e {id:Nat} {l:List Oper} (m:Nat) (S:List Nat) (Lt:List Nat) (hlm:l.length=m) (hm:P.follows .mixedOrders=true)
 (h:∀ w',Stp [] w w'→WT P n l.toArray S Lt Q (Array.replicate m false) m e w'):WC P n (.region id l.toArray true) Q e w:=by
 subst hlm
 refine ⟨fun a ha=>wp_region_any hm ?_⟩
 have h1:=(h { w with drawn:=w.drawn+1 } (Stp.drew [] w)).h a ha
 have h2:=Z3o (Q:=Q) (fun a w hz=>hz) _ _ _ _ h1
 simpa using h2
theorem Z3k (ord:List (Nat×Nat)) (hs:Region.noSelect ops=true) (hB:Z06 ops Lt ord listed=true) (hl:Nat.beq (wt ord) fuel=true) (h:WD P n ops S Lt Q ord e w):WT P n ops S Lt Q listed fuel e w:=by
 have:=Yab hl
 subst this
 exact ⟨fun a ha=>h.h _ hs hB a ha⟩
theorem Z1t (i q:Nat) (hr:(Region.ready .any ops listed == [i,q])=true) (h1:WT1 P n ops S Lt Q i listed fuel e w) (h2:WT1 P n ops S Lt Q q listed fuel e w):WT P n ops S Lt Q listed (fuel+1) e w:=by
 have hr:=beq_iff_eq.1 hr
 refine ⟨fun a ha=>⟨fun h0=>absurd (hr ▸ h0) (by simp),fun j hj=>?_⟩⟩
 rw [hr] at hj
 have hj':j=i∨j=q:=by simpa using hj
 rcases hj' with rfl|rfl
 exact h1.h a ha
 exact h2.h a ha
variable {i d:Nat} {op:Op} {ty:TypeId} {pos:String} {af:Array Edge} {gd:Option (Nat×Bool)} {v:Value}
theorem Zn1 {o:Oper} {dst:Option Nat} {G:Value→World→Prop} (hi:ops[i]?=some o) (hdst:o.dst=dst) (hg:ZR ops e o.guard) (hp:OE P n o e w (fun v w'=>(Stp S w w'∨Lt.contains i=true)∧G v w'))
 (k:∀ v w' a',G v w'→∀ a,Has n e a→a'=a.put dst v→∃ e',Has n e' a'∧WT P n ops S Lt Q (listed.setIfInBounds i true) fuel e' w'):WT1 P n ops S Lt Q i listed fuel e w:=by
 refine ⟨fun a ha=>?_⟩
 unfold wpOp
 simp only [hi]
 rw [if_pos (Z07 ha hg)]
 refine .inl (Oper.wp_mono ?_ (hp.h a ha _))
 rintro a' w' ⟨v,rfl,hs',hG⟩
 obtain ⟨e',he',hk⟩:=k v w' (a.put o.dst v) hG a ha (by rw [hdst])
 exact ⟨hs',hk.h _ he'⟩
theorem J3 {G:Value→World→Prop} (hi:ops[i]?=some ⟨some d,op,ty,pos,af,gd⟩) (hg:ZR ops e gd) (hp:OE P n ⟨some d,op,ty,pos,af,gd⟩ e w G) (hG:∀ v w',G v w'→Stp S w w') (hdn:Nat.blt d n=true)
 (k:∀ v w',G v w'→WT P n ops S Lt Q (listed.setIfInBounds i true) fuel ((d,v) :: e) w'):WT1 P n ops S Lt Q i listed fuel e w:=
 Zn1 (G:=G) hi rfl hg (hp.mono fun v w' h=>⟨.inl (hG v w' h),h⟩) (fun v w' a' h a ha e=>⟨_,by rw [e];exact ha.put hdn,k v w' h⟩)
theorem ZgJ (i:Nat) {o:Oper} (hi:ops[i]?=some o) (hd:o.dst=some d) (hY:∀ a,Has n e a→YE P ops (fun _ _=>True) o v a w) (hdn:Nat.blt d n=true) (hs:Region.noSelect ops=true)
 (hB:((Region.ready .any ops listed).contains i && Region.free .any ops listed i)=true)
 (k:WT P n ops S Lt Q (listed.setIfInBounds i true) fuel ((d,v) :: e) w):WT P n ops S Lt Q listed (fuel+1) e w:=by
 refine ⟨fun a ha=>?_⟩
 simp only [Xi] at hB
 have hk:=k.h _ (ha.put (v:=v) hdn)
 rw [← hd] at hk
 exact Z6N (R:=fun _ _=>True) (fun _=>trivial) (fun _ _ _ _ _=>trivial) hi (fun _ _ _ _ _ _ _ _=>trivial) (Region.noSelect_spec hs) _ _ _ _ (Region.free_spec hi hB.2) (fun _=>trivial) (by simpa using hB.1) (hY a ha) hk
theorem ZgK (i:Nat) {o:Oper} (hi:ops[i]?=some o) (hd:o.dst=some d) (hY:∀ a,Has n e a→YE P ops (Stp S) o v a w) (hdn:Nat.blt d n=true) (hs:Region.noSelect ops=true)
 (hB:((Region.ready .any ops listed).contains i && Region.free .any ops listed i && ZcE ops Lt i)=true)
 (k:WT P n ops S Lt Q (listed.setIfInBounds i true) fuel ((d,v) :: e) w):WT P n ops S Lt Q listed (fuel+1) e w:=by
 refine ⟨fun a ha=>?_⟩
 simp only [Xi] at hB
 obtain ⟨⟨h1,h2⟩,hb⟩:=hB
 have hk:=k.h _ (ha.put (v:=v) hdn)
 rw [← hd] at hk
 refine Z6N (R:=Stp S) (fun w=>Stp.refl _ w) (fun _ _ _ h k=>h.trans k) hi (fun j oj hj hn hji w w' hs=>?_) (Region.noSelect_spec hs) _ _ _ _ (Region.free_spec hi h2) (fun _=>trivial) (by simpa using h1) (hY a ha) hk
 rcases hs with hs|hs
 exact hs
 rw [Z4S hb hj hn hji] at hs;cases hs
theorem Jj (i:Nat) (hi:ops[i]?=some ⟨some d,op,ty,pos,af,gd⟩) (hg:ZR ops e gd) (hp:∀ w',PR P n ⟨some d,op,ty,pos,af,gd⟩ e w' v) (hdn:Nat.blt d n=true) (hs:Region.noSelect ops=true)
 (hB:((Region.ready .any ops listed).contains i && Region.free .any ops listed i)=true)
 (k:WT P n ops S Lt Q (listed.setIfInBounds i true) fuel ((d,v) :: e) w):WT P n ops S Lt Q listed (fuel+1) e w:=
 ZgJ i hi rfl (fun a ha=>.inl ⟨Z07 ha hg,fun w' _=>(hp w').h a ha⟩) hdn hs hB k
theorem Z9E (i:Nat) (hi:ops[i]?=some ⟨some d,op,ty,pos,af,gd⟩) (hg:ZR ops e gd) (hp:∀ w',Stp S w w'→PR P n ⟨some d,op,ty,pos,af,gd⟩ e w' v) (hdn:Nat.blt d n=true) (hs:Region.noSelect ops=true)
 (hB:((Region.ready .any ops listed).contains i && Region.free .any ops listed i && ZcE ops Lt i)=true)
 (k:WT P n ops S Lt Q (listed.setIfInBounds i true) fuel ((d,v) :: e) w):WT P n ops S Lt Q listed (fuel+1) e w:=
 ZgK i hi rfl (fun a ha=>.inl ⟨Z07 ha hg,fun w' hw=>(hp w' hw).h a ha⟩) hdn hs hB k
end rules
end Go.Eng
namespace Go.Proofs.YtjdjdoefppebkaaGreatDoor
open Go Go.Eng Go.RowKit
theorem bS1 (a:Str) (w:World):(Instr.buildSlice 119 1 #[(0,str a)]).run Tryz.prog w=.ok (.slice (some ⟨w.heap.size,0,none⟩) 1 1) (w.alloc (.cells #[str a] 9)):=by kernel_rfl
theorem bS2 (a b:Str) (w:World):(Instr.buildSlice 119 2 #[(0,str a),(1,str b)]).run Tryz.prog w=.ok (.slice (some ⟨w.heap.size,0,none⟩) 2 2) (w.alloc (.cells #[str a,str b] 9)):=by kernel_rfl
theorem bS3 (a b c:Str) (w:World):(Instr.buildSlice 119 3 #[(0,str a),(1,str b),(2,str c)]).run Tryz.prog w=.ok (.slice (some ⟨w.heap.size,0,none⟩) 3 3) (w.alloc (.cells #[str a,str b,str c] 9)):=by kernel_rfl
theorem bS5 (a b c d e:Str) (w:World):(Instr.buildSlice 119 5 #[(0,str a),(1,str b),(2,str c),(3,str d),(4,str e)]).run Tryz.prog w=.ok (.slice (some ⟨w.heap.size,0,none⟩) 5 5) (w.alloc (.cells #[str a,str b,str c,str d,str e] 9)):=by kernel_rfl
theorem bS6 (a b c d e f:Str) (w:World):(Instr.buildSlice 119 6 #[(0,str a),(1,str b),(2,str c),(3,str d),(4,str e),(5,str f)]).run Tryz.prog w=.ok (.slice (some ⟨w.heap.size,0,none⟩) 6 6) (w.alloc (.cells #[str a,str b,str c,str d,str e,str f] 9)):=by kernel_rfl
abbrev Mk3 (w:World) (bm:Nat) (lv:Value) (i:Nat):Prop:=Blk w bm 103 [lv,.int .i64 (i:Int)]
theorem ZK (bm:Nat) (lv:Value) (l:List Int) (i:Nat) (n:Int) (w:World) (hn:0<n) (hi:i≤1000000) (hb:Mk3 w bm lv i) (hs:SlV [bm] w lv l) (hl:∀ a∈l,I64 a) :
 CC 96 #[.pointer (some ⟨bm,0,none⟩),.int .i64 n] w fun r w'=>∃ q:Nat,r=.int .i64 (q:Int)∧(q:Int)<n∧Mk3 w' bm lv (i+1)∧Stp [bm] w w':=by
 refine cW2 23 Tryz.func96 ?_
 refine W ?_
 refine Z0 (Zj (u:=.int .i64 ((i:Int)+1)) rfl rfl rfl rfl hb (by simp)) ?_
 rintro _ w1 ⟨hS1',hb1⟩
 replace hb1:Mk3 w1 bm lv (i+1):=hb1
 replace hs:=hs.ext hS1' (fun _ h=>h) (fun _ h=>.inl h)
 replace hs:SlV [] w1 lv l:=hs.wk (by simp)
 refine W ?_
 refine ZDr 12 [] [] [(0,0),(1,0),(2,0),(3,1),(4,0),(5,0),(6,0),(7,1),(8,0),(9,0),(10,2),(11,0)] (fun w1 hS1=>?_)
 replace hb1:=hb1.up hS1
 replace hs:=hs.up hS1
 refine D ?_
 refine Zb rfl trivial (Z5 rfl (ZH rfl rfl rfl) (J9 [] _ l _ n _ hn (by unfold I64;omega) hs hl)) (fun _ _ h=>h.choose_spec.2.2) rfl ?_
 rintro _ w3 ⟨q,rfl,hq,hS3⟩
 replace hb1:=hb1.up hS3
 refine D ?_
 refine W ?_
 refine WR ?_
 exact .mk ⟨q,rfl,hq,hb1,(hS1'.trans (hS1.mono (by simp))).trans (hS3.mono (by simp))⟩
theorem Z69 (bm:Nat) (lv:Value) (l:List Int) (i:Nat) (d:Nat) (z:Int) (w:World) (hz:z=(d:Int)) (hb:Mk3 w bm lv i) (hs:SlV [bm] w lv l) :
 CC 97 #[.pointer (some ⟨bm,0,none⟩),.int .i64 z] w fun r w'=>∃ b:Bool,r=.bool b∧(d=0→b=true)∧Stp [] w w':=by
 subst hz
 refine cW2 19 Tryz.func97 ?_
 refine W ?_
 by_cases h0:d=0
 refine ZDr 15 [] [] [(0,0),(1,0),(2,0),(3,0),(4,0),(5,0),(6,1),(7,0),(8,0),(9,0),(10,1),(11,0),(12,0),(13,0),(14,0)] (fun w1 hS1=>?_)
 refine D ?_
 have e0:((d:Int)≤0):=by omega
 simp only [e0,decide_true]
 refine D ?_
 refine W ?_
 refine WR ?_
 exact .mk ⟨true,rfl,fun _=>rfl,hS1⟩
 refine ZDr 15 [] [] [(0,0),(1,0),(2,0),(3,0),(4,0),(5,0),(6,1),(7,0),(8,0),(9,0),(10,1),(11,0),(12,0),(13,0),(14,0)] (fun w1 hS1=>?_)
 replace hb:=hb.up hS1
 replace hs:=hs.up hS1
 refine D ?_
 have e0:¬ ((d:Int)≤0):=by omega
 simp only [e0,decide_false]
 refine D ?_
 refine W ?_
 refine WR ?_
 exact .mk ⟨_,rfl,fun h=>absurd h h0,hS1⟩
theorem ZF (X:List Nat) (k:Int) (s:Str) (kv:Value) (kids:List Nd) (w:World) (hX:∀ b∈X,b<w.heap.size) (hs:SlV X w kv kids):CC 98 #[.int .i64 k,str s,kv] w fun r w'=>NdV X w' r (.mk k 0 s kids)∧Stp [] w w':=by
 obtain ⟨p,c,rfl,-⟩:=id hs
 refine cW3 11 Tryz.func98 ?_
 refine W ?_
 refine Z3 Z6 rfl ?_
 rintro _ w1 ⟨b,rfl,hb,hblk,hS⟩
 refine W ?_
 apply Ze (vs:=[(0,.int .i64 k),(2,str s),(3,.slice p kids.length c)]) rfl (ZdI _ _ _ _ _) rfl
 refine Z0 (Z1 (us:=ndC (.mk k 0 s kids) (.slice p kids.length c)) rfl rfl rfl rfl (Zk hs) hblk rfl) ?_
 rintro _ w2 ⟨hS2,hblk2⟩
 have hT:=hS.own hS2 (fun c hc=>.inr (by simp at hc;omega))
 refine W ?_
 refine Zu rfl rfl rfl hblk2 rfl ?_
 exact .mk ⟨⟨_,rfl,hs.up hT⟩,hT⟩
def Z5G (k:Int):List Str:=if k=1 then [[111,114]] else if k=2 then [[97,110,100]] else if k=4 then Z25 else if k=5 then [[43],[45]] else [[42]]
theorem Z3Q (X:List Nat) (k:Int) (w:World) (hX:∀ b∈X,b<w.heap.size):CC 187 #[.int .i64 k] w fun r w'=>SlV X w' r (Z5G k)∧Stp [] w w':=by
 refine cW1 17 Tryz.func187 ?_
 have key:∀ (n:Nat) (vs:List Value) (v:Value) (w':World) (ys:List Str),Zc w n ys.length vs v w'→vs=ys.flatMap Zi.enc→ys.length≤maxLen→SlV X w' v ys:=fun n vs v w' ys h e hm=>Zc.slv h hX rfl e hm
 by_cases h1:k=1
 subst h1
 focus repeat'(first|refine W1 ?_|omega|refine VG ?_ ?_<;>intro hg|refine VC ?_ ?_<;>intro hc)
 refine Z3 (Z2 (vs:=[(0,str [111,114])]) rfl (bS1 _)) rfl ?_
 rintro v w1 hN
 have hv:SlV X w1 v ([[111,114]]:List Str):=hN.slv hX rfl rfl (by decide)
 have hT:=Zc.stp hN
 refine W ?_
 refine WR ?_
 exact .mk ⟨hv,hT⟩
 by_cases h2:k=2
 subst h2
 focus repeat'(first|refine W1 ?_|omega|refine VG ?_ ?_<;>intro hg|refine VC ?_ ?_<;>intro hc)
 refine Z3 (Z2 (vs:=[(0,str [97,110,100])]) rfl (bS1 _)) rfl ?_
 rintro v w1 hN
 have hv:SlV X w1 v ([[97,110,100]]:List Str):=hN.slv hX rfl rfl (by decide)
 have hT:=Zc.stp hN
 refine W ?_
 refine WR ?_
 exact .mk ⟨hv,hT⟩
 by_cases h4:k=4
 subst h4
 focus repeat'(first|refine W1 ?_|omega|refine VG ?_ ?_<;>intro hg|refine VC ?_ ?_<;>intro hc)
 refine Z3 (Z2 (vs:=[(0,str [60]),(1,str [60,61]),(2,str [61]),(3,str [33,61]),(4,str [62]),(5,str [62,61])]) rfl (bS6 _ _ _ _ _ _)) rfl ?_
 rintro v w1 hN
 have hv:SlV X w1 v Z25:=hN.slv hX rfl rfl (by decide)
 have hT:=Zc.stp hN
 refine W ?_
 refine WR ?_
 exact .mk ⟨hv,hT⟩
 by_cases h5:k=5
 subst h5
 focus repeat'(first|refine W1 ?_|omega|refine VG ?_ ?_<;>intro hg|refine VC ?_ ?_<;>intro hc)
 refine Z3 (Z2 (vs:=[(0,str [43]),(1,str [45])]) rfl (bS2 _ _)) rfl ?_
 rintro v w1 hN
 have hv:SlV X w1 v ([[43],[45]]:List Str):=hN.slv hX rfl rfl (by decide)
 have hT:=Zc.stp hN
 refine W ?_
 refine WR ?_
 exact .mk ⟨hv,hT⟩
 focus repeat'(first|refine W1 ?_|omega|refine VG ?_ ?_<;>intro hg|refine VC ?_ ?_<;>intro hc)
 refine Z3 (Z2 (vs:=[(0,str [42])]) rfl (bS1 _)) rfl ?_
 rintro v w1 hN
 have hv:SlV X w1 v ([[42]]:List Str):=hN.slv hX rfl rfl (by decide)
 have hT:=Zc.stp hN
 refine W ?_
 refine WR ?_
 exact .mk ⟨by unfold Z5G;rw [if_neg h1,if_neg h2,if_neg h4,if_neg h5];exact hv,hT⟩
theorem Z5H (q:Nat) (w:World) (hq:q<6):CC 99 #[.int .i64 (q:Int)] w fun r w'=>(∃ s∈Z25,r=str s)∧Stp [] w w':=by
 refine cW1 7 Tryz.func99 ?_
 refine W ?_
 refine CL rfl (Zp rfl) rfl (Z3Q [] 4 _ (by simp)) ?_
 rintro v w1 ⟨hv,hS⟩
 replace hv:SlV [] w1 v Z25:=hv
 have hqn:q<Z25.length:=by show q<6;exact hq
 refine W ?_
 refine WR ?_
 exact .mk ⟨⟨_,Xg hqn,rfl⟩,hS⟩
structure G3 (X:List Nat) (w0 w:World) (bm b4:Nat) (lv:Value) (l:List Int) (i:Nat):Prop where
 mkr:Mk3 w bm lv i
 sl:SlV [bm] w lv l
 stp:Stp [bm] w0 w
 blk:∃ cs:List Value,cs.length=4∧Blk w b4 27 cs
 ne:b4≠bm
 hX:∀ b∈X,b<w.heap.size
theorem G3.nxt {X:List Nat} {w0 w w':World} {bm b4:Nat} {lv:Value} {l:List Int} {i i':Nat} (h:G3 X w0 w bm b4 lv l i) (hm:Mk3 w' bm lv i') (hS:Stp [bm] w w'):G3 X w0 w' bm b4 lv l i':=
 ⟨hm,h.sl.ext hS (fun _ h=>h) (fun _ h=>.inl h),h.stp.trans hS,h.blk.imp (fun cs hc=>⟨hc.1,hc.2.ext hS (by simpa using h.ne)⟩),h.ne,fun b hb=>Xa (h.hX b hb) hS.size⟩
theorem G3.up {X:List Nat} {w0 w w':World} {bm b4:Nat} {lv:Value} {l:List Int} {i:Nat} (h:G3 X w0 w bm b4 lv l i) (hS:Stp [] w w'):G3 X w0 w' bm b4 lv l i:=
 h.nxt (h.mkr.up hS) (hS.mono (by simp))
theorem G3.fin {X:List Nat} {w0 w1 w w':World} {bm b4:Nat} {lv:Value} {l:List Int} {i:Nat} {y:Nd} {ky:Value} (h:G3 (b4 :: bm :: X) w1 w bm b4 lv l i) (hw:Stp [] w0 w1) (hb:w0.heap.size≤b4) (hy:SlV (b4 :: bm :: X) w ky y.kids) (hS:Stp [b4] w w') :
 NdV X w' (.agg (ndC y ky).toArray) y∧Mk3 w' bm lv i∧Stp [bm] w0 w':=
 ⟨⟨ky,rfl,(hy.ext (X':=b4 :: bm :: X) hS (by simp) (fun _ h=>.inl h)).wk (fun c hc=>by simp [hc])⟩,h.mkr.ext hS (by simpa using h.ne.symm),((hw.mono (by simp)).trans h.stp).own hS (fun c hc=>.inr (by simp at hc;omega))⟩
def Z2T (f:Nat) (t:Int) (d:Nat):Prop:=∀ (X:List Nat) (w:World) (bm:Nat) (lv:Value) (l:List Int) (i:Nat) (z:Int),z=(d:Int)→Mk3 w bm lv i→SlV [bm] w lv l→(∀ a∈l,I64 a)→i+3 * szD (d+1)≤100000→(∀ b∈X,b<w.heap.size)→
 CC f #[.pointer (some ⟨bm,0,none⟩),.int .i64 z] w fun r w'=>∃ y i',NdV X w' r y∧Gn t d y∧Mk3 w' bm lv i'∧i'≤i+3 * szD (d+1)∧Stp [bm] w w'
theorem JK {w w1 w2:World} {b:Nat} (h:Stp [] w w1) (hb:w.heap.size≤b) (h2:Stp [b] w1 w2):Stp [] w w2:=h.own h2 (fun c hc=>.inr (by simp at hc;omega))
set_option maxHeartbeats 1000000
theorem Z5I (d:Nat) (hd6:d≤6) (ih:∀ e,d=e+1→Z2T 43 1 e∧Z2T 44 2 e∧Z2T 45 3 e):Z2T 43 1 d:=by
 intro X w bm lv l i z hz hmk hsl hl hi hX
 subst hz
 have hsz:szD (d+1)=1+3 * szD d:=rfl
 refine cW2 88 Tryz.func43 ?_
 refine W ?_
 refine Z3 Z6 rfl ?_
 rintro _ w1 ⟨b4,rfl,hb4,hblk4,hS0⟩
 have gm:G3 (b4 :: bm :: X) w1 w1 bm b4 lv l i:=⟨hmk.up hS0,hsl.up hS0,Stp.refl _ _,⟨_,rfl,hblk4⟩,fun h=>by have:=hmk.lt;omega,fun c hc=>by
  simp only [Xf] at hc
  have h1:=hblk4.lt
  have h2:=hmk.lt
  have h3:=hS0.size
  rcases hc with rfl|rfl|hc
  exact h1
  omega
  have:=hX c hc;omega⟩
 clear hblk4 hX hsl hmk
 refine W ?_
 refine CL rfl (Z9 rfl rfl) rfl (ZK bm lv l _ 9 _ (by decide) (by omega) gm.mkr gm.sl hl) ?_
 rintro _ wq ⟨q,rfl,hq,hm,hS⟩
 replace gm:=gm.nxt hm hS
 clear hm hS
 refine W ?_
 refine CL rfl (Z9 rfl rfl) rfl (Z69 bm lv l _ d _ _ rfl gm.mkr gm.sl) ?_
 rintro _ wq ⟨dn,rfl,hdn,hT⟩
 replace gm:=gm.up hT
 clear hT
 refine W ?_
 refine Z1J (σ:=Nat) (fun k=>[(0,.pointer (some ⟨bm,0,none⟩)),(1,.int .i64 (d:Int)),(4,.pointer (some ⟨b4,0,none⟩)),(5,.int .i64 (k:Int))]) (fun k w'=>w'=wq∧k<9∧(d=0→k<4)) ?_ ?_
 · cases dn with
   | true=>
     repeat'(first|refine W1 ?_|omega|refine VG ?_ ?_<;>intro hg|refine VC ?_ ?_<;>intro hc)
     exact ZI (q % 4) ⟨rfl,rfl,rfl,rfl,trivial⟩ ⟨rfl,by omega,fun _=>by omega⟩
   | false=>
     repeat'(first|refine W1 ?_|omega|refine VG ?_ ?_<;>intro hg|refine VC ?_ ?_<;>intro hc)
     exact ZI q ⟨rfl,rfl,rfl,rfl,trivial⟩ ⟨rfl,by omega,fun h=>absurd (hdn h) (by decide)⟩
 rintro k w3 ⟨rfl,hkn,hk1⟩
 clear hq hdn
 by_cases k0:k≤2
 · repeat'(first|refine W1 ?_|omega|refine VG ?_ ?_<;>intro hg|refine VC ?_ ?_<;>intro hc)
   all_goals
    refine CL rfl (Z9 rfl rfl) rfl (ZK bm lv l _ 25 _ (by decide) (by omega) gm.mkr gm.sl hl) ?_
    rintro _ wq ⟨q',rfl,hq',hm,hS⟩
    replace gm:=gm.nxt hm hS
    clear hm hS
    refine W ?_
    apply Ze (vs:=[(0,.int .i64 1),(1,.int .i64 _)]) rfl (Z3Y _ _) rfl
    have hy:SlV (α:=Nd) (b4 :: bm :: X) _ (.slice none 0 0) []:=Jt _ wq
    obtain ⟨cs,hcl,hcb⟩:=gm.blk
    refine Z0 (Z1 (us:=ndC (.mk 1 (q':Int) [] []) _) rfl rfl rfl rfl (Zk (x:=(.mk 1 (q':Int) [] [])) hy) hcb hcl.symm) ?_
    rintro _ wz ⟨hz,hbz⟩
    refine W ?_
    refine Zu rfl rfl rfl hbz rfl ?_
    have hf:=gm.fin (y:=(.mk 1 (q':Int) [] [])) hS0 hb4 hy hz
    exact .mk ⟨_,_,hf.1,.num _ _ (by omega),hf.2.1,by omega,hf.2.2⟩
 by_cases k3:k=3
 focus repeat'(first|refine W1 ?_|omega|refine VG ?_ ?_<;>intro hg|refine VC ?_ ?_<;>intro hc)
 refine Z3 (Z2 (vs:=[(0,str [101,120,116,114,97]),(1,str [98,121]),(2,str [116,111]),(3,str [99,111,117,114,116]),(4,str [97,109,111,117,110,116])]) rfl (bS5 _ _ _ _ _)) rfl ?_
 rintro wv wq hN
 have hws:SlV [bm] wq wv Z8f:=hN.slv (fun c hc=>gm.hX c (by simp at hc;subst hc;simp)) rfl rfl (by decide)
 have hT:=Zc.stp hN
 clear hN
 replace gm:=gm.up hT
 clear hT
 refine W ?_
 refine CL rfl (Z9 rfl rfl) rfl (ZK bm lv l _ 5 _ (by decide) (by omega) gm.mkr gm.sl hl) ?_
 rintro _ wq ⟨q',rfl,hq',hm,hS⟩
 replace gm:=gm.nxt hm hS
 replace hws:=hws.ext hS (by simp) (fun _ h=>.inl h)
 clear hm hS
 have hqn:q'<Z8f.length:=by show q'<5;omega
 refine W ?_
 refine CL rfl (ZH rfl rfl rfl) rfl (ZF (b4 :: bm :: X) 4 Z8f[q'] (.slice none 0 0) [] _ gm.hX (Jt _ _)) ?_
 rintro _ wq ⟨⟨ky,rfl,hy⟩,hT⟩
 replace gm:=gm.up hT
 clear hT
 obtain ⟨cs,hcl,hcb⟩:=gm.blk
 refine Z0 (Z1 (us:=ndC (.mk 4 0 Z8f[q'] []) _) rfl rfl rfl rfl (Zk (x:=(.mk 4 0 Z8f[q'] [])) hy) hcb hcl.symm) ?_
 rintro _ wz ⟨hz,hbz⟩
 refine W ?_
 refine Zu rfl rfl rfl hbz rfl ?_
 have hf:=gm.fin (y:=(.mk 4 0 Z8f[q'] [])) hS0 hb4 hy hz
 exact .mk ⟨_,_,hf.1,.fldN _ _ (Xg hqn),hf.2.1,by omega,hf.2.2⟩
 by_cases k4:k=4
 obtain ⟨e,rfl⟩:∃ e,d=e+1:=⟨d - 1,by omega⟩
 replace ih:=ih e rfl
 have hsp:=Z1R e
 focus repeat'(first|refine W1 ?_|omega|refine VG ?_ ?_<;>intro hg|refine VC ?_ ?_<;>intro hc)
 refine W ?_
 refine CL rfl (Z9 rfl rfl) rfl ((ih.1) (b4 :: bm :: X) _ bm lv l _ _ (by omega) gm.mkr gm.sl hl (by omega) gm.hX) ?_
 rintro _ wq ⟨y0,i0,⟨k0,rfl,s0⟩,g0,hm,hi0,hS⟩
 obtain ⟨p0,c0,rfl,-⟩:=id s0
 replace gm:=gm.nxt hm hS
 clear hm hS
 refine W ?_
 refine Z3 (Z2 (vs:=[(0,.agg #[.int .i64 y0.kind,.int .i64 y0.num,str y0.word,.slice p0 y0.kids.length c0])]) rfl (Z0F _ _ _ _ _ _)) rfl ?_
 rintro bv wq hN
 have hbv:SlV (b4 :: bm :: X) wq bv [y0]:=hN.slvG (css:=[ndC y0 _]) gm.hX rfl rfl rfl (Z3X s0) (by simp [maxLen])
 have hT:=Zc.stp hN
 clear hN
 replace gm:=gm.up hT
 clear hT
 refine W ?_
 refine CL rfl (ZH rfl rfl rfl) rfl (ZF (b4 :: bm :: X) 5 [45] bv [y0] _ gm.hX hbv) ?_
 rintro _ wq ⟨⟨ky,rfl,hy⟩,hT⟩
 replace gm:=gm.up hT
 clear hT hbv
 refine W ?_
 obtain ⟨cs,hcl,hcb⟩:=gm.blk
 refine Z0 (Z1 (us:=ndC (.mk 5 0 [45] [y0]) _) rfl rfl rfl rfl (Zk (x:=(.mk 5 0 [45] [y0])) hy) hcb hcl.symm) ?_
 rintro _ wz ⟨hz,hbz⟩
 refine W ?_
 refine Zu rfl rfl rfl hbz rfl ?_
 have hf:=gm.fin (y:=(.mk 5 0 [45] [y0])) hS0 hb4 hy hz
 exact .mk ⟨_,_,hf.1,.neg _ _ g0,hf.2.1,by omega,hf.2.2⟩
 by_cases k5:k=5
 obtain ⟨e,rfl⟩:∃ e,d=e+1:=⟨d - 1,by omega⟩
 replace ih:=ih e rfl
 have hsp:=Z1R e
 focus repeat'(first|refine W1 ?_|omega|refine VG ?_ ?_<;>intro hg|refine VC ?_ ?_<;>intro hc)
 refine W ?_
 refine CL rfl (Z9 rfl rfl) rfl ((ih.2.2) (b4 :: bm :: X) _ bm lv l _ _ (by omega) gm.mkr gm.sl hl (by omega) gm.hX) ?_
 rintro _ wq ⟨y0,i0,⟨k0,rfl,s0⟩,g0,hm,hi0,hS⟩
 obtain ⟨p0,c0,rfl,-⟩:=id s0
 replace gm:=gm.nxt hm hS
 clear hm hS
 refine Z3 Z6 rfl ?_
 rintro _ wq ⟨b0',rfl,hb0',e0,hT⟩
 refine Z0 (Z1 (us:=ndC y0 _) rfl rfl rfl rfl (Zk s0) e0 rfl) ?_
 rintro _ wq ⟨hT2,e0⟩
 replace hT:=JK hT hb0' hT2
 clear hT2
 have n0:b0'≠bm:=fun h=>by have:=gm.mkr.lt;omega
 have n0':b0'≠b4:=fun h=>by obtain ⟨_,_,hc⟩:=gm.blk;have:=hc.lt;omega
 replace gm:=gm.up hT
 replace s0:=s0.up hT
 clear hT hb0'
 refine W ?_
 refine ZDr 8 ([b4,bm]) [] [(0,1),(1,0),(2,0),(3,0),(4,2),(5,2),(6,2),(7,2)] (fun w1 hS1=>?_)
 have hT:=hS1
 replace gm:=gm.up hT
 replace s0:=s0.up hT
 replace e0:=e0.up hT
 clear hT hS1
 refine ZN rfl trivial (fun w' hS'=>J8 rfl rfl (e0.ext hS' (by simp;exact ⟨n0',n0⟩)) rfl) rfl ?_
 refine D ?_
 refine Zb rfl trivial (Z5 rfl (Z9 rfl rfl) ((ih.2.2) (b4 :: bm :: X) _ bm lv l _ _ (by omega) gm.mkr gm.sl hl (by omega) gm.hX)) (fun _ _ h=>by obtain ⟨_,_,_,_,_,_,h⟩:=h;exact h.mono (by simp)) rfl ?_
 rintro _ wq ⟨y1,i1,⟨k1,rfl,s1⟩,g1,hm,hi1,hS⟩
 obtain ⟨p1,c1,rfl,-⟩:=id s1
 replace gm:=gm.nxt hm hS
 replace s0:=s0.ext hS (by simp) (fun _ h=>.inl h)
 replace e0:=e0.ext hS (by simp;exact n0)
 clear hm hS
 refine D ?_
 refine Zb rfl trivial (Z2 (vs:=[(0,.agg #[.int .i64 y0.kind,.int .i64 y0.num,str y0.word,.slice p0 y0.kids.length c0]),(1,.agg #[.int .i64 y1.kind,.int .i64 y1.num,str y1.word,.slice p1 y1.kids.length c1])]) rfl (Jw _ _ _ _ _ _ _ _ _ _ _ _)) (fun _ _ h=>(Zc.stp h).mono (by simp)) rfl ?_
 rintro bv wq hN
 have hbv:SlV (b4 :: bm :: X) wq bv [y0,y1]:=hN.slvG (css:=[ndC y0 _,ndC y1 _]) gm.hX rfl rfl rfl (Z1V s0 s1) (by simp [maxLen])
 have hT:=Zc.stp hN
 clear hN
 replace gm:=gm.up hT
 clear hT
 refine D ?_
 refine Zb rfl trivial (Z5 rfl (ZH rfl rfl rfl) (ZF (b4 :: bm :: X) 10 [98,101,116,119,101,101,110] bv [y0,y1] _ gm.hX hbv)) (fun _ _ h=>h.2.mono (by simp)) rfl ?_
 rintro _ wq ⟨⟨ky,rfl,hy⟩,hT⟩
 replace gm:=gm.up hT
 clear hT hbv
 refine D ?_
 obtain ⟨cs,hcl,hcb⟩:=gm.blk
 refine ZG rfl trivial (Z1 (us:=ndC (.mk 10 0 [98,101,116,119,101,101,110] [y0,y1]) _) rfl rfl rfl rfl (Zk (x:=(.mk 10 0 [98,101,116,119,101,101,110] [y0,y1])) hy) hcb hcl.symm) (fun _ _ h=>h.1.mono (by simp)) ?_
 rintro _ wz ⟨hz,hbz⟩
 refine D ?_
 refine W ?_
 refine Zu rfl rfl rfl hbz rfl ?_
 have hf:=gm.fin (y:=(.mk 10 0 [98,101,116,119,101,101,110] [y0,y1])) hS0 hb4 hy hz
 exact .mk ⟨_,_,hf.1,.btw _ _ _ g0 g1,hf.2.1,by omega,hf.2.2⟩
 by_cases k6:k=6
 obtain ⟨e,rfl⟩:∃ e,d=e+1:=⟨d - 1,by omega⟩
 replace ih:=ih e rfl
 have hsp:=Z1R e
 focus repeat'(first|refine W1 ?_|omega|refine VG ?_ ?_<;>intro hg|refine VC ?_ ?_<;>intro hc)
 refine W ?_
 refine CL rfl (Z9 rfl rfl) rfl ((ih.2.1) (b4 :: bm :: X) _ bm lv l _ _ (by omega) gm.mkr gm.sl hl (by omega) gm.hX) ?_
 rintro _ wq ⟨y0,i0,⟨k0,rfl,s0⟩,g0,hm,hi0,hS⟩
 obtain ⟨p0,c0,rfl,-⟩:=id s0
 replace gm:=gm.nxt hm hS
 clear hm hS
 refine Z3 Z6 rfl ?_
 rintro _ wq ⟨b0',rfl,hb0',e0,hT⟩
 refine Z0 (Z1 (us:=ndC y0 _) rfl rfl rfl rfl (Zk s0) e0 rfl) ?_
 rintro _ wq ⟨hT2,e0⟩
 replace hT:=JK hT hb0' hT2
 clear hT2
 have n0:b0'≠bm:=fun h=>by have:=gm.mkr.lt;omega
 have n0':b0'≠b4:=fun h=>by obtain ⟨_,_,hc⟩:=gm.blk;have:=hc.lt;omega
 replace gm:=gm.up hT
 replace s0:=s0.up hT
 clear hT hb0'
 refine W ?_
 refine CL rfl (Z9 rfl rfl) rfl ((ih.1) (b4 :: bm :: X) _ bm lv l _ _ (by omega) gm.mkr gm.sl hl (by omega) gm.hX) ?_
 rintro _ wq ⟨y1,i1,⟨k1,rfl,s1⟩,g1,hm,hi1,hS⟩
 obtain ⟨p1,c1,rfl,-⟩:=id s1
 replace gm:=gm.nxt hm hS
 replace s0:=s0.ext hS (by simp) (fun _ h=>.inl h)
 replace e0:=e0.ext hS (by simp;exact n0)
 clear hm hS
 refine Z3 Z6 rfl ?_
 rintro _ wq ⟨b1',rfl,hb1',e1,hT⟩
 refine Z0 (Z1 (us:=ndC y1 _) rfl rfl rfl rfl (Zk s1) e1 rfl) ?_
 rintro _ wq ⟨hT2,e1⟩
 replace hT:=JK hT hb1' hT2
 clear hT2
 have n1:b1'≠bm:=fun h=>by have:=gm.mkr.lt;omega
 have n1':b1'≠b4:=fun h=>by obtain ⟨_,_,hc⟩:=gm.blk;have:=hc.lt;omega
 replace gm:=gm.up hT
 replace s0:=s0.up hT
 replace e0:=e0.up hT
 replace s1:=s1.up hT
 clear hT hb1'
 refine W ?_
 refine ZDr 9 ([b4,bm]) [] [(0,1),(1,1),(2,0),(3,0),(4,0),(5,2),(6,2),(7,2),(8,2)] (fun w1 hS1=>?_)
 have hT:=hS1
 replace gm:=gm.up hT
 replace s0:=s0.up hT
 replace e0:=e0.up hT
 replace s1:=s1.up hT
 replace e1:=e1.up hT
 clear hT hS1
 refine ZN rfl trivial (fun w' hS'=>J8 rfl rfl (e0.ext hS' (by simp;exact ⟨n0',n0⟩)) rfl) rfl ?_
 refine ZN rfl trivial (fun w' hS'=>J8 rfl rfl (e1.ext hS' (by simp;exact ⟨n1',n1⟩)) rfl) rfl ?_
 refine D ?_
 refine Zb rfl trivial (Z5 rfl (Z9 rfl rfl) ((ih.1) (b4 :: bm :: X) _ bm lv l _ _ (by omega) gm.mkr gm.sl hl (by omega) gm.hX)) (fun _ _ h=>by obtain ⟨_,_,_,_,_,_,h⟩:=h;exact h.mono (by simp)) rfl ?_
 rintro _ wq ⟨y2,i2,⟨k2,rfl,s2⟩,g2,hm,hi2,hS⟩
 obtain ⟨p2,c2,rfl,-⟩:=id s2
 replace gm:=gm.nxt hm hS
 replace s0:=s0.ext hS (by simp) (fun _ h=>.inl h)
 replace e0:=e0.ext hS (by simp;exact n0)
 replace s1:=s1.ext hS (by simp) (fun _ h=>.inl h)
 replace e1:=e1.ext hS (by simp;exact n1)
 clear hm hS
 refine D ?_
 refine Zb rfl trivial (Z2 (vs:=[(0,.agg #[.int .i64 y0.kind,.int .i64 y0.num,str y0.word,.slice p0 y0.kids.length c0]),(1,.agg #[.int .i64 y1.kind,.int .i64 y1.num,str y1.word,.slice p1 y1.kids.length c1]),(2,.agg #[.int .i64 y2.kind,.int .i64 y2.num,str y2.word,.slice p2 y2.kids.length c2])]) rfl (Zah _ _ _ _ _ _ _ _ _ _ _ _ _ _ _ _ _ _)) (fun _ _ h=>(Zc.stp h).mono (by simp)) rfl ?_
 rintro bv wq hN
 have hbv:SlV (b4 :: bm :: X) wq bv [y0,y1,y2]:=hN.slvG (css:=[ndC y0 _,ndC y1 _,ndC y2 _]) gm.hX rfl rfl rfl (Zj4 s0 s1 s2) (by simp [maxLen])
 have hT:=Zc.stp hN
 clear hN
 replace gm:=gm.up hT
 clear hT
 refine D ?_
 refine Zb rfl trivial (Z5 rfl (ZH rfl rfl rfl) (ZF (b4 :: bm :: X) 9 [] bv [y0,y1,y2] _ gm.hX hbv)) (fun _ _ h=>h.2.mono (by simp)) rfl ?_
 rintro _ wq ⟨⟨ky,rfl,hy⟩,hT⟩
 replace gm:=gm.up hT
 clear hT hbv
 refine D ?_
 obtain ⟨cs,hcl,hcb⟩:=gm.blk
 refine ZG rfl trivial (Z1 (us:=ndC (.mk 9 0 [] [y0,y1,y2]) _) rfl rfl rfl rfl (Zk (x:=(.mk 9 0 [] [y0,y1,y2])) hy) hcb hcl.symm) (fun _ _ h=>h.1.mono (by simp)) ?_
 rintro _ wz ⟨hz,hbz⟩
 refine D ?_
 refine W ?_
 refine Zu rfl rfl rfl hbz rfl ?_
 have hf:=gm.fin (y:=(.mk 9 0 [] [y0,y1,y2])) hS0 hb4 hy hz
 exact .mk ⟨_,_,hf.1,.cond _ _ _ _ _ (by decide) g0 g1 g2,hf.2.1,by omega,hf.2.2⟩
 obtain ⟨e,rfl⟩:∃ e,d=e+1:=⟨d - 1,by omega⟩
 replace ih:=ih e rfl
 have hsp:=Z1R e
 repeat'(first|refine W1 ?_|omega|refine VG ?_ ?_<;>intro hg|refine VC ?_ ?_<;>intro hc)
 refine W ?_
 refine CL rfl (Z9 rfl rfl) rfl ((ih.1) (b4 :: bm :: X) _ bm lv l _ _ (by omega) gm.mkr gm.sl hl (by omega) gm.hX) ?_
 rintro _ wq ⟨y0,i0,⟨k0,rfl,s0⟩,g0,hm,hi0,hS⟩
 obtain ⟨p0,c0,rfl,-⟩:=id s0
 replace gm:=gm.nxt hm hS
 clear hm hS
 refine Z3 Z6 rfl ?_
 rintro _ wq ⟨b0',rfl,hb0',e0,hT⟩
 refine Z0 (Z1 (us:=ndC y0 _) rfl rfl rfl rfl (Zk s0) e0 rfl) ?_
 rintro _ wq ⟨hT2,e0⟩
 replace hT:=JK hT hb0' hT2
 clear hT2
 have n0:b0'≠bm:=fun h=>by have:=gm.mkr.lt;omega
 have n0':b0'≠b4:=fun h=>by obtain ⟨_,_,hc⟩:=gm.blk;have:=hc.lt;omega
 replace gm:=gm.up hT
 replace s0:=s0.up hT
 clear hT hb0'
 refine W ?_
 refine Z2e 13 [b4,bm] [] rfl mixed (fun w1 hS1=>?_)
 have hT:=hS1
 replace gm:=gm.up hT
 replace s0:=s0.up hT
 replace e0:=e0.up hT
 clear hT hS1
 refine Jj 1 rfl trivial (fun w'=>ZU rfl) rfl (by kernel_rfl) (by kernel_rfl) ?_
 refine Z9E 5 rfl trivial (fun w' hS'=>J8 rfl rfl (e0.ext hS' (by simp;exact ⟨n0',n0⟩)) rfl) rfl (by kernel_rfl) (by kernel_rfl) ?_
 refine Jj 6 rfl trivial (fun w'=>ZU rfl) rfl (by kernel_rfl) (by kernel_rfl) ?_
 refine Jj 7 rfl trivial (fun w'=>ZU rfl) rfl (by kernel_rfl) (by kernel_rfl) ?_
 refine Jj 8 rfl trivial (fun w'=>Z3R rfl rfl (by unfold I64;omega)) rfl (by kernel_rfl) (by kernel_rfl) ?_
 refine Z1t 0 2 (by kernel_rfl) ?_ ?_
 refine J3 rfl trivial (Z2 (vs:=[(0,str [43]),(1,str [45]),(2,str [42])]) rfl (bS3 _ _ _)) (fun _ _ h=>(Zc.stp h).mono (by simp)) rfl ?_
 rintro wv wq hN
 have hws:SlV [b4,bm] wq wv Z0f:=hN.slv (fun c hc=>gm.hX c (by simp at hc;rcases hc with rfl|rfl<;>simp)) rfl rfl (by decide)
 have hT:=Zc.stp hN
 clear hN
 replace gm:=gm.up hT
 replace s0:=s0.up hT
 replace e0:=e0.up hT
 clear hT
 refine Z3k [(2,2),(3,0),(4,1),(9,2),(10,2),(11,2),(12,2)] (by kernel_rfl) (by kernel_rfl) (by kernel_rfl) ?_
 refine Zb rfl trivial (Z5 rfl (Z9 rfl rfl) (ZK bm lv l _ 3 _ (by decide) (by omega) gm.mkr gm.sl hl)) (fun _ _ h=>h.choose_spec.2.2.2.mono (by simp)) rfl ?_
 rintro _ wq ⟨q,rfl,hq,hm,hS⟩
 replace gm:=gm.nxt hm hS
 replace s0:=s0.ext hS (by simp) (fun _ h=>.inl h)
 replace e0:=e0.ext hS (by simp;exact n0)
 replace hws:=hws.ext hS (by simp) (fun _ h=>.inl h)
 clear hm hS
 have hqn:q<Z0f.length:=by show q<3;omega
 refine D ?_
 refine Zb rfl trivial (Z5 rfl (Z9 rfl rfl) ((ih.1) (b4 :: bm :: X) _ bm lv l _ _ (by omega) gm.mkr gm.sl hl (by omega) gm.hX)) (fun _ _ h=>by obtain ⟨_,_,_,_,_,_,h⟩:=h;exact h.mono (by simp)) rfl ?_
 rintro _ wq ⟨y1,i1,⟨k1,rfl,s1⟩,g1,hm,hi1,hS⟩
 obtain ⟨p1,c1,rfl,-⟩:=id s1
 replace gm:=gm.nxt hm hS
 replace s0:=s0.ext hS (by simp) (fun _ h=>.inl h)
 replace e0:=e0.ext hS (by simp;exact n0)
 replace hws:=hws.ext hS (by simp) (fun _ h=>.inl h)
 clear hm hS
 refine D ?_
 refine Zb rfl trivial (Z2 (vs:=[(0,.agg #[.int .i64 y0.kind,.int .i64 y0.num,str y0.word,.slice p0 y0.kids.length c0]),(1,.agg #[.int .i64 y1.kind,.int .i64 y1.num,str y1.word,.slice p1 y1.kids.length c1])]) rfl (Jw _ _ _ _ _ _ _ _ _ _ _ _)) (fun _ _ h=>(Zc.stp h).mono (by simp)) rfl ?_
 rintro bv wq hN
 have hbv:SlV (b4 :: bm :: X) wq bv [y0,y1]:=hN.slvG (css:=[ndC y0 _,ndC y1 _]) gm.hX rfl rfl rfl (Z1V s0 s1) (by simp [maxLen])
 have hT:=Zc.stp hN
 clear hN
 replace gm:=gm.up hT
 replace hws:=hws.up hT
 clear hT
 refine D ?_
 refine Zb rfl trivial (Z5 rfl (ZH rfl rfl rfl) (ZF (b4 :: bm :: X) 6 Z0f[q] bv [y0,y1] _ gm.hX hbv)) (fun _ _ h=>h.2.mono (by simp)) rfl ?_
 rintro _ wq ⟨⟨ky,rfl,hy⟩,hT⟩
 replace gm:=gm.up hT
 clear hT hbv
 refine D ?_
 obtain ⟨cs,hcl,hcb⟩:=gm.blk
 refine ZG rfl trivial (Z1 (us:=ndC (.mk 6 0 Z0f[q] [y0,y1]) _) rfl rfl rfl rfl (Zk (x:=(.mk 6 0 Z0f[q] [y0,y1])) hy) hcb hcl.symm) (fun _ _ h=>h.1.mono (by simp)) ?_
 rintro _ wz ⟨hz,hbz⟩
 refine D ?_
 refine W ?_
 refine Zu rfl rfl rfl hbz rfl ?_
 have hf:=gm.fin (y:=(.mk 6 0 Z0f[q] [y0,y1])) hS0 hb4 hy hz
 exact .mk ⟨_,_,hf.1,.arith _ _ _ _ (Xg hqn) g0 g1,hf.2.1,by omega,hf.2.2⟩
 refine J3 rfl trivial (Z5 rfl (Z9 rfl rfl) (ZK bm lv l _ 3 _ (by decide) (by omega) gm.mkr gm.sl hl)) (fun _ _ h=>h.choose_spec.2.2.2.mono (by simp)) rfl ?_
 rintro _ wq ⟨q,rfl,hq,hm,hS⟩
 replace gm:=gm.nxt hm hS
 replace s0:=s0.ext hS (by simp) (fun _ h=>.inl h)
 replace e0:=e0.ext hS (by simp;exact n0)
 clear hm hS
 have hqn:q<Z0f.length:=by show q<3;omega
 refine Z1t 0 9 (by kernel_rfl) ?_ ?_
 refine J3 rfl trivial (Z2 (vs:=[(0,str [43]),(1,str [45]),(2,str [42])]) rfl (bS3 _ _ _)) (fun _ _ h=>(Zc.stp h).mono (by simp)) rfl ?_
 rintro wv wq hN
 have hws:SlV [b4,bm] wq wv Z0f:=hN.slv (fun c hc=>gm.hX c (by simp at hc;rcases hc with rfl|rfl<;>simp)) rfl rfl (by decide)
 have hT:=Zc.stp hN
 clear hN
 replace gm:=gm.up hT
 replace s0:=s0.up hT
 replace e0:=e0.up hT
 clear hT
 refine Z3k [(3,0),(4,1),(9,2),(10,2),(11,2),(12,2)] (by kernel_rfl) (by kernel_rfl) (by kernel_rfl) ?_
 refine D ?_
 refine Zb rfl trivial (Z5 rfl (Z9 rfl rfl) ((ih.1) (b4 :: bm :: X) _ bm lv l _ _ (by omega) gm.mkr gm.sl hl (by omega) gm.hX)) (fun _ _ h=>by obtain ⟨_,_,_,_,_,_,h⟩:=h;exact h.mono (by simp)) rfl ?_
 rintro _ wq ⟨y1,i1,⟨k1,rfl,s1⟩,g1,hm,hi1,hS⟩
 obtain ⟨p1,c1,rfl,-⟩:=id s1
 replace gm:=gm.nxt hm hS
 replace s0:=s0.ext hS (by simp) (fun _ h=>.inl h)
 replace e0:=e0.ext hS (by simp;exact n0)
 replace hws:=hws.ext hS (by simp) (fun _ h=>.inl h)
 clear hm hS
 refine D ?_
 refine Zb rfl trivial (Z2 (vs:=[(0,.agg #[.int .i64 y0.kind,.int .i64 y0.num,str y0.word,.slice p0 y0.kids.length c0]),(1,.agg #[.int .i64 y1.kind,.int .i64 y1.num,str y1.word,.slice p1 y1.kids.length c1])]) rfl (Jw _ _ _ _ _ _ _ _ _ _ _ _)) (fun _ _ h=>(Zc.stp h).mono (by simp)) rfl ?_
 rintro bv wq hN
 have hbv:SlV (b4 :: bm :: X) wq bv [y0,y1]:=hN.slvG (css:=[ndC y0 _,ndC y1 _]) gm.hX rfl rfl rfl (Z1V s0 s1) (by simp [maxLen])
 have hT:=Zc.stp hN
 clear hN
 replace gm:=gm.up hT
 replace hws:=hws.up hT
 clear hT
 refine D ?_
 refine Zb rfl trivial (Z5 rfl (ZH rfl rfl rfl) (ZF (b4 :: bm :: X) 6 Z0f[q] bv [y0,y1] _ gm.hX hbv)) (fun _ _ h=>h.2.mono (by simp)) rfl ?_
 rintro _ wq ⟨⟨ky,rfl,hy⟩,hT⟩
 replace gm:=gm.up hT
 clear hT hbv
 refine D ?_
 obtain ⟨cs,hcl,hcb⟩:=gm.blk
 refine ZG rfl trivial (Z1 (us:=ndC (.mk 6 0 Z0f[q] [y0,y1]) _) rfl rfl rfl rfl (Zk (x:=(.mk 6 0 Z0f[q] [y0,y1])) hy) hcb hcl.symm) (fun _ _ h=>h.1.mono (by simp)) ?_
 rintro _ wz ⟨hz,hbz⟩
 refine D ?_
 refine W ?_
 refine Zu rfl rfl rfl hbz rfl ?_
 have hf:=gm.fin (y:=(.mk 6 0 Z0f[q] [y0,y1])) hS0 hb4 hy hz
 exact .mk ⟨_,_,hf.1,.arith _ _ _ _ (Xg hqn) g0 g1,hf.2.1,by omega,hf.2.2⟩
 refine J3 rfl trivial (Z5 rfl (Z9 rfl rfl) ((ih.1) (b4 :: bm :: X) _ bm lv l _ _ (by omega) gm.mkr gm.sl hl (by omega) gm.hX)) (fun _ _ h=>by obtain ⟨_,_,_,_,_,_,h⟩:=h;exact h.mono (by simp)) rfl ?_
 rintro _ wq ⟨y1,i1,⟨k1,rfl,s1⟩,g1,hm,hi1,hS⟩
 obtain ⟨p1,c1,rfl,-⟩:=id s1
 replace gm:=gm.nxt hm hS
 replace s0:=s0.ext hS (by simp) (fun _ h=>.inl h)
 replace e0:=e0.ext hS (by simp;exact n0)
 clear hm hS
 refine Z1t 0 10 (by kernel_rfl) ?_ ?_
 refine J3 rfl trivial (Z2 (vs:=[(0,str [43]),(1,str [45]),(2,str [42])]) rfl (bS3 _ _ _)) (fun _ _ h=>(Zc.stp h).mono (by simp)) rfl ?_
 rintro wv wq hN
 have hws:SlV [b4,bm] wq wv Z0f:=hN.slv (fun c hc=>gm.hX c (by simp at hc;rcases hc with rfl|rfl<;>simp)) rfl rfl (by decide)
 have hT:=Zc.stp hN
 clear hN
 replace gm:=gm.up hT
 replace s0:=s0.up hT
 replace e0:=e0.up hT
 replace s1:=s1.up hT
 clear hT
 refine Z3k [(3,0),(4,1),(10,2),(11,2),(12,2)] (by kernel_rfl) (by kernel_rfl) (by kernel_rfl) ?_
 refine D ?_
 refine D ?_
 refine Zb rfl trivial (Z2 (vs:=[(0,.agg #[.int .i64 y0.kind,.int .i64 y0.num,str y0.word,.slice p0 y0.kids.length c0]),(1,.agg #[.int .i64 y1.kind,.int .i64 y1.num,str y1.word,.slice p1 y1.kids.length c1])]) rfl (Jw _ _ _ _ _ _ _ _ _ _ _ _)) (fun _ _ h=>(Zc.stp h).mono (by simp)) rfl ?_
 rintro bv wq hN
 have hbv:SlV (b4 :: bm :: X) wq bv [y0,y1]:=hN.slvG (css:=[ndC y0 _,ndC y1 _]) gm.hX rfl rfl rfl (Z1V s0 s1) (by simp [maxLen])
 have hT:=Zc.stp hN
 clear hN
 replace gm:=gm.up hT
 replace hws:=hws.up hT
 clear hT
 refine D ?_
 refine Zb rfl trivial (Z5 rfl (ZH rfl rfl rfl) (ZF (b4 :: bm :: X) 6 Z0f[q] bv [y0,y1] _ gm.hX hbv)) (fun _ _ h=>h.2.mono (by simp)) rfl ?_
 rintro _ wq ⟨⟨ky,rfl,hy⟩,hT⟩
 replace gm:=gm.up hT
 clear hT hbv
 refine D ?_
 obtain ⟨cs,hcl,hcb⟩:=gm.blk
 refine ZG rfl trivial (Z1 (us:=ndC (.mk 6 0 Z0f[q] [y0,y1]) _) rfl rfl rfl rfl (Zk (x:=(.mk 6 0 Z0f[q] [y0,y1])) hy) hcb hcl.symm) (fun _ _ h=>h.1.mono (by simp)) ?_
 rintro _ wz ⟨hz,hbz⟩
 refine D ?_
 refine W ?_
 refine Zu rfl rfl rfl hbz rfl ?_
 have hf:=gm.fin (y:=(.mk 6 0 Z0f[q] [y0,y1])) hS0 hb4 hy hz
 exact .mk ⟨_,_,hf.1,.arith _ _ _ _ (Xg hqn) g0 g1,hf.2.1,by omega,hf.2.2⟩
 refine J3 rfl trivial (Z2 (vs:=[(0,.agg #[.int .i64 y0.kind,.int .i64 y0.num,str y0.word,.slice p0 y0.kids.length c0]),(1,.agg #[.int .i64 y1.kind,.int .i64 y1.num,str y1.word,.slice p1 y1.kids.length c1])]) rfl (Jw _ _ _ _ _ _ _ _ _ _ _ _)) (fun _ _ h=>(Zc.stp h).mono (by simp)) rfl ?_
 rintro bv wq hN
 have hbv:SlV (b4 :: bm :: X) wq bv [y0,y1]:=hN.slvG (css:=[ndC y0 _,ndC y1 _]) gm.hX rfl rfl rfl (Z1V s0 s1) (by simp [maxLen])
 have hT:=Zc.stp hN
 clear hN
 replace gm:=gm.up hT
 clear hT
 refine Z3k [(0,2),(3,0),(4,1),(11,2),(12,2)] (by kernel_rfl) (by kernel_rfl) (by kernel_rfl) ?_
 refine Zb rfl trivial (Z2 (vs:=[(0,str [43]),(1,str [45]),(2,str [42])]) rfl (bS3 _ _ _)) (fun _ _ h=>(Zc.stp h).mono (by simp)) rfl ?_
 rintro wv wq hN
 have hws:SlV [b4,bm] wq wv Z0f:=hN.slv (fun c hc=>gm.hX c (by simp at hc;rcases hc with rfl|rfl<;>simp)) rfl rfl (by decide)
 have hT:=Zc.stp hN
 clear hN
 replace gm:=gm.up hT
 replace hbv:=hbv.up hT
 clear hT
 refine D ?_
 refine D ?_
 refine D ?_
 refine Zb rfl trivial (Z5 rfl (ZH rfl rfl rfl) (ZF (b4 :: bm :: X) 6 Z0f[q] bv [y0,y1] _ gm.hX hbv)) (fun _ _ h=>h.2.mono (by simp)) rfl ?_
 rintro _ wq ⟨⟨ky,rfl,hy⟩,hT⟩
 replace gm:=gm.up hT
 clear hT hbv
 refine D ?_
 obtain ⟨cs,hcl,hcb⟩:=gm.blk
 refine ZG rfl trivial (Z1 (us:=ndC (.mk 6 0 Z0f[q] [y0,y1]) _) rfl rfl rfl rfl (Zk (x:=(.mk 6 0 Z0f[q] [y0,y1])) hy) hcb hcl.symm) (fun _ _ h=>h.1.mono (by simp)) ?_
 rintro _ wz ⟨hz,hbz⟩
 refine D ?_
 refine W ?_
 refine Zu rfl rfl rfl hbz rfl ?_
 have hf:=gm.fin (y:=(.mk 6 0 Z0f[q] [y0,y1])) hS0 hb4 hy hz
 exact .mk ⟨_,_,hf.1,.arith _ _ _ _ (Xg hqn) g0 g1,hf.2.1,by omega,hf.2.2⟩
set_option maxHeartbeats 1000000
theorem Z7Q (d:Nat) (hd6:d≤6) (ih:∀ e,d=e+1→Z2T 43 1 e∧Z2T 44 2 e∧Z2T 45 3 e):Z2T 44 2 d:=by
 intro X w bm lv l i z hz hmk hsl hl hi hX
 subst hz
 have hsz:szD (d+1)=1+3 * szD d:=rfl
 refine cW2 80 Tryz.func44 ?_
 refine W ?_
 refine Z3 Z6 rfl ?_
 rintro _ w1 ⟨b4,rfl,hb4,hblk4,hS0⟩
 have gm:G3 (b4 :: bm :: X) w1 w1 bm b4 lv l i:=⟨hmk.up hS0,hsl.up hS0,Stp.refl _ _,⟨_,rfl,hblk4⟩,fun h=>by have:=hmk.lt;omega,fun c hc=>by
  simp only [Xf] at hc
  have h1:=hblk4.lt
  have h2:=hmk.lt
  have h3:=hS0.size
  rcases hc with rfl|rfl|hc
  exact h1
  omega
  have:=hX c hc;omega⟩
 clear hblk4 hX hsl hmk
 refine W ?_
 refine CL rfl (Z9 rfl rfl) rfl (ZK bm lv l _ 6 _ (by decide) (by omega) gm.mkr gm.sl hl) ?_
 rintro _ wq ⟨q,rfl,hq,hm,hS⟩
 replace gm:=gm.nxt hm hS
 clear hm hS
 refine W ?_
 refine CL rfl (Z9 rfl rfl) rfl (Z69 bm lv l _ d _ _ rfl gm.mkr gm.sl) ?_
 rintro _ wq ⟨dn,rfl,hdn,hT⟩
 replace gm:=gm.up hT
 clear hT
 cases dn with
 | true=>
   repeat'(first|refine W1 ?_|omega|refine VG ?_ ?_<;>intro hg|refine VC ?_ ?_<;>intro hc)
   apply Ze (vs:=[(0,.int .i64 2),(1,.int .i64 (1 - (q:Int) / 5))]) rfl (Z3Y _ _) rfl
   have hy:SlV (α:=Nd) (b4 :: bm :: X) _ (.slice none 0 0) []:=Jt _ wq
   obtain ⟨cs,hcl,hcb⟩:=gm.blk
   refine Z0 (Z1 (us:=ndC (.mk 2 (1 - (q:Int) / 5) [] []) _) rfl rfl rfl rfl (Zk (x:=(.mk 2 (1 - (q:Int) / 5) [] [])) hy) hcb hcl.symm) ?_
   rintro _ wz ⟨hz,hbz⟩
   refine W ?_
   refine Zu rfl rfl rfl hbz rfl ?_
   have hf:=gm.fin (y:=(.mk 2 (1 - (q:Int) / 5) [] [])) hS0 hb4 hy hz
   exact .mk ⟨_,_,hf.1,.bool _ _ (by omega),hf.2.1,by omega,hf.2.2⟩
 | false=>
   have hd1:d≠0:=fun h=>absurd (hdn h) (by decide)
   obtain ⟨e,rfl⟩:∃ e,d=e+1:=⟨d - 1,by omega⟩
   replace ih:=ih e rfl
   have hsp:=Z1R e
   clear hd1 hdn
   by_cases k0:q=0
   focus repeat'(first|refine W1 ?_|omega|refine VG ?_ ?_<;>intro hg|refine VC ?_ ?_<;>intro hc)
   refine CL rfl (Z9 rfl rfl) rfl (ZK bm lv l _ 2 _ (by decide) (by omega) gm.mkr gm.sl hl) ?_
   rintro _ wq ⟨q',rfl,hq',hm,hS⟩
   replace gm:=gm.nxt hm hS
   clear hm hS
   refine W ?_
   apply Ze (vs:=[(0,.int .i64 2),(1,.int .i64 _)]) rfl (Z3Y _ _) rfl
   have hy:SlV (α:=Nd) (b4 :: bm :: X) _ (.slice none 0 0) []:=Jt _ wq
   obtain ⟨cs,hcl,hcb⟩:=gm.blk
   refine Z0 (Z1 (us:=ndC (.mk 2 (q':Int) [] []) _) rfl rfl rfl rfl (Zk (x:=(.mk 2 (q':Int) [] [])) hy) hcb hcl.symm) ?_
   rintro _ wz ⟨hz,hbz⟩
   refine W ?_
   refine Zu rfl rfl rfl hbz rfl ?_
   have hf:=gm.fin (y:=(.mk 2 (q':Int) [] [])) hS0 hb4 hy hz
   exact .mk ⟨_,_,hf.1,.bool _ _ (by omega),hf.2.1,by omega,hf.2.2⟩
   by_cases k1:q=1
   focus repeat'(first|refine W1 ?_|omega|refine VG ?_ ?_<;>intro hg|refine VC ?_ ?_<;>intro hc)
   refine W ?_
   refine CL rfl (Z9 rfl rfl) rfl ((ih.2.1) (b4 :: bm :: X) _ bm lv l _ _ (by omega) gm.mkr gm.sl hl (by omega) gm.hX) ?_
   rintro _ wq ⟨y0,i0,⟨k0,rfl,s0⟩,g0,hm,hi0,hS⟩
   obtain ⟨p0,c0,rfl,-⟩:=id s0
   replace gm:=gm.nxt hm hS
   clear hm hS
   refine W ?_
   refine Z3 (Z2 (vs:=[(0,.agg #[.int .i64 y0.kind,.int .i64 y0.num,str y0.word,.slice p0 y0.kids.length c0])]) rfl (Z0F _ _ _ _ _ _)) rfl ?_
   rintro bv wq hN
   have hbv:SlV (b4 :: bm :: X) wq bv [y0]:=hN.slvG (css:=[ndC y0 _]) gm.hX rfl rfl rfl (Z3X s0) (by simp [maxLen])
   have hT:=Zc.stp hN
   clear hN
   replace gm:=gm.up hT
   clear hT
   refine W ?_
   refine CL rfl (ZH rfl rfl rfl) rfl (ZF (b4 :: bm :: X) 5 [110,111,116] bv [y0] _ gm.hX hbv) ?_
   rintro _ wq ⟨⟨ky,rfl,hy⟩,hT⟩
   replace gm:=gm.up hT
   clear hT hbv
   refine W ?_
   obtain ⟨cs,hcl,hcb⟩:=gm.blk
   refine Z0 (Z1 (us:=ndC (.mk 5 0 [110,111,116] [y0]) _) rfl rfl rfl rfl (Zk (x:=(.mk 5 0 [110,111,116] [y0])) hy) hcb hcl.symm) ?_
   rintro _ wz ⟨hz,hbz⟩
   refine W ?_
   refine Zu rfl rfl rfl hbz rfl ?_
   have hf:=gm.fin (y:=(.mk 5 0 [110,111,116] [y0])) hS0 hb4 hy hz
   exact .mk ⟨_,_,hf.1,.not _ _ g0,hf.2.1,by omega,hf.2.2⟩
   by_cases k2:q=2
   focus repeat'(first|refine W1 ?_|omega|refine VG ?_ ?_<;>intro hg|refine VC ?_ ?_<;>intro hc)
   refine W ?_
   refine CL rfl (Z9 rfl rfl) rfl ((ih.2.1) (b4 :: bm :: X) _ bm lv l _ _ (by omega) gm.mkr gm.sl hl (by omega) gm.hX) ?_
   rintro _ wq ⟨y0,i0,⟨k0,rfl,s0⟩,g0,hm,hi0,hS⟩
   obtain ⟨p0,c0,rfl,-⟩:=id s0
   replace gm:=gm.nxt hm hS
   clear hm hS
   refine Z3 Z6 rfl ?_
   rintro _ wq ⟨b0',rfl,hb0',e0,hT⟩
   refine Z0 (Z1 (us:=ndC y0 _) rfl rfl rfl rfl (Zk s0) e0 rfl) ?_
   rintro _ wq ⟨hT2,e0⟩
   replace hT:=JK hT hb0' hT2
   clear hT2
   have n0:b0'≠bm:=fun h=>by have:=gm.mkr.lt;omega
   have n0':b0'≠b4:=fun h=>by obtain ⟨_,_,hc⟩:=gm.blk;have:=hc.lt;omega
   replace gm:=gm.up hT
   replace s0:=s0.up hT
   clear hT hb0'
   refine W ?_
   refine Z2e 13 [b4,bm] [] rfl mixed (fun w1 hS1=>?_)
   have hT:=hS1
   replace gm:=gm.up hT
   replace s0:=s0.up hT
   replace e0:=e0.up hT
   clear hT hS1
   refine Jj 1 rfl trivial (fun w'=>ZU rfl) rfl (by kernel_rfl) (by kernel_rfl) ?_
   refine Z9E 5 rfl trivial (fun w' hS'=>J8 rfl rfl (e0.ext hS' (by simp;exact ⟨n0',n0⟩)) rfl) rfl (by kernel_rfl) (by kernel_rfl) ?_
   refine Jj 6 rfl trivial (fun w'=>ZU rfl) rfl (by kernel_rfl) (by kernel_rfl) ?_
   refine Jj 7 rfl trivial (fun w'=>ZU rfl) rfl (by kernel_rfl) (by kernel_rfl) ?_
   refine Jj 8 rfl trivial (fun w'=>Z3R rfl rfl (by unfold I64;omega)) rfl (by kernel_rfl) (by kernel_rfl) ?_
   refine Z1t 0 2 (by kernel_rfl) ?_ ?_
   refine J3 rfl trivial (Z2 (vs:=[(0,str [97,110,100]),(1,str [111,114])]) rfl (bS2 _ _)) (fun _ _ h=>(Zc.stp h).mono (by simp)) rfl ?_
   rintro wv wq hN
   have hws:SlV [b4,bm] wq wv Z0g:=hN.slv (fun c hc=>gm.hX c (by simp at hc;rcases hc with rfl|rfl<;>simp)) rfl rfl (by decide)
   have hT:=Zc.stp hN
   clear hN
   replace gm:=gm.up hT
   replace s0:=s0.up hT
   replace e0:=e0.up hT
   clear hT
   refine Z3k [(2,2),(3,0),(4,1),(9,2),(10,2),(11,2),(12,2)] (by kernel_rfl) (by kernel_rfl) (by kernel_rfl) ?_
   refine Zb rfl trivial (Z5 rfl (Z9 rfl rfl) (ZK bm lv l _ 2 _ (by decide) (by omega) gm.mkr gm.sl hl)) (fun _ _ h=>h.choose_spec.2.2.2.mono (by simp)) rfl ?_
   rintro _ wq ⟨q,rfl,hq,hm,hS⟩
   replace gm:=gm.nxt hm hS
   replace s0:=s0.ext hS (by simp) (fun _ h=>.inl h)
   replace e0:=e0.ext hS (by simp;exact n0)
   replace hws:=hws.ext hS (by simp) (fun _ h=>.inl h)
   clear hm hS
   have hqn:q<Z0g.length:=by show q<2;omega
   refine D ?_
   refine Zb rfl trivial (Z5 rfl (Z9 rfl rfl) ((ih.2.1) (b4 :: bm :: X) _ bm lv l _ _ (by omega) gm.mkr gm.sl hl (by omega) gm.hX)) (fun _ _ h=>by obtain ⟨_,_,_,_,_,_,h⟩:=h;exact h.mono (by simp)) rfl ?_
   rintro _ wq ⟨y1,i1,⟨k1,rfl,s1⟩,g1,hm,hi1,hS⟩
   obtain ⟨p1,c1,rfl,-⟩:=id s1
   replace gm:=gm.nxt hm hS
   replace s0:=s0.ext hS (by simp) (fun _ h=>.inl h)
   replace e0:=e0.ext hS (by simp;exact n0)
   replace hws:=hws.ext hS (by simp) (fun _ h=>.inl h)
   clear hm hS
   refine D ?_
   refine Zb rfl trivial (Z2 (vs:=[(0,.agg #[.int .i64 y0.kind,.int .i64 y0.num,str y0.word,.slice p0 y0.kids.length c0]),(1,.agg #[.int .i64 y1.kind,.int .i64 y1.num,str y1.word,.slice p1 y1.kids.length c1])]) rfl (Jw _ _ _ _ _ _ _ _ _ _ _ _)) (fun _ _ h=>(Zc.stp h).mono (by simp)) rfl ?_
   rintro bv wq hN
   have hbv:SlV (b4 :: bm :: X) wq bv [y0,y1]:=hN.slvG (css:=[ndC y0 _,ndC y1 _]) gm.hX rfl rfl rfl (Z1V s0 s1) (by simp [maxLen])
   have hT:=Zc.stp hN
   clear hN
   replace gm:=gm.up hT
   replace hws:=hws.up hT
   clear hT
   refine D ?_
   refine Zb rfl trivial (Z5 rfl (ZH rfl rfl rfl) (ZF (b4 :: bm :: X) 6 Z0g[q] bv [y0,y1] _ gm.hX hbv)) (fun _ _ h=>h.2.mono (by simp)) rfl ?_
   rintro _ wq ⟨⟨ky,rfl,hy⟩,hT⟩
   replace gm:=gm.up hT
   clear hT hbv
   refine D ?_
   obtain ⟨cs,hcl,hcb⟩:=gm.blk
   refine ZG rfl trivial (Z1 (us:=ndC (.mk 6 0 Z0g[q] [y0,y1]) _) rfl rfl rfl rfl (Zk (x:=(.mk 6 0 Z0g[q] [y0,y1])) hy) hcb hcl.symm) (fun _ _ h=>h.1.mono (by simp)) ?_
   rintro _ wz ⟨hz,hbz⟩
   refine D ?_
   refine W ?_
   refine Zu rfl rfl rfl hbz rfl ?_
   have hf:=gm.fin (y:=(.mk 6 0 Z0g[q] [y0,y1])) hS0 hb4 hy hz
   exact .mk ⟨_,_,hf.1,.logic _ _ _ _ (Xg hqn) g0 g1,hf.2.1,by omega,hf.2.2⟩
   refine J3 rfl trivial (Z5 rfl (Z9 rfl rfl) (ZK bm lv l _ 2 _ (by decide) (by omega) gm.mkr gm.sl hl)) (fun _ _ h=>h.choose_spec.2.2.2.mono (by simp)) rfl ?_
   rintro _ wq ⟨q,rfl,hq,hm,hS⟩
   replace gm:=gm.nxt hm hS
   replace s0:=s0.ext hS (by simp) (fun _ h=>.inl h)
   replace e0:=e0.ext hS (by simp;exact n0)
   clear hm hS
   have hqn:q<Z0g.length:=by show q<2;omega
   refine Z1t 0 9 (by kernel_rfl) ?_ ?_
   refine J3 rfl trivial (Z2 (vs:=[(0,str [97,110,100]),(1,str [111,114])]) rfl (bS2 _ _)) (fun _ _ h=>(Zc.stp h).mono (by simp)) rfl ?_
   rintro wv wq hN
   have hws:SlV [b4,bm] wq wv Z0g:=hN.slv (fun c hc=>gm.hX c (by simp at hc;rcases hc with rfl|rfl<;>simp)) rfl rfl (by decide)
   have hT:=Zc.stp hN
   clear hN
   replace gm:=gm.up hT
   replace s0:=s0.up hT
   replace e0:=e0.up hT
   clear hT
   refine Z3k [(3,0),(4,1),(9,2),(10,2),(11,2),(12,2)] (by kernel_rfl) (by kernel_rfl) (by kernel_rfl) ?_
   refine D ?_
   refine Zb rfl trivial (Z5 rfl (Z9 rfl rfl) ((ih.2.1) (b4 :: bm :: X) _ bm lv l _ _ (by omega) gm.mkr gm.sl hl (by omega) gm.hX)) (fun _ _ h=>by obtain ⟨_,_,_,_,_,_,h⟩:=h;exact h.mono (by simp)) rfl ?_
   rintro _ wq ⟨y1,i1,⟨k1,rfl,s1⟩,g1,hm,hi1,hS⟩
   obtain ⟨p1,c1,rfl,-⟩:=id s1
   replace gm:=gm.nxt hm hS
   replace s0:=s0.ext hS (by simp) (fun _ h=>.inl h)
   replace e0:=e0.ext hS (by simp;exact n0)
   replace hws:=hws.ext hS (by simp) (fun _ h=>.inl h)
   clear hm hS
   refine D ?_
   refine Zb rfl trivial (Z2 (vs:=[(0,.agg #[.int .i64 y0.kind,.int .i64 y0.num,str y0.word,.slice p0 y0.kids.length c0]),(1,.agg #[.int .i64 y1.kind,.int .i64 y1.num,str y1.word,.slice p1 y1.kids.length c1])]) rfl (Jw _ _ _ _ _ _ _ _ _ _ _ _)) (fun _ _ h=>(Zc.stp h).mono (by simp)) rfl ?_
   rintro bv wq hN
   have hbv:SlV (b4 :: bm :: X) wq bv [y0,y1]:=hN.slvG (css:=[ndC y0 _,ndC y1 _]) gm.hX rfl rfl rfl (Z1V s0 s1) (by simp [maxLen])
   have hT:=Zc.stp hN
   clear hN
   replace gm:=gm.up hT
   replace hws:=hws.up hT
   clear hT
   refine D ?_
   refine Zb rfl trivial (Z5 rfl (ZH rfl rfl rfl) (ZF (b4 :: bm :: X) 6 Z0g[q] bv [y0,y1] _ gm.hX hbv)) (fun _ _ h=>h.2.mono (by simp)) rfl ?_
   rintro _ wq ⟨⟨ky,rfl,hy⟩,hT⟩
   replace gm:=gm.up hT
   clear hT hbv
   refine D ?_
   obtain ⟨cs,hcl,hcb⟩:=gm.blk
   refine ZG rfl trivial (Z1 (us:=ndC (.mk 6 0 Z0g[q] [y0,y1]) _) rfl rfl rfl rfl (Zk (x:=(.mk 6 0 Z0g[q] [y0,y1])) hy) hcb hcl.symm) (fun _ _ h=>h.1.mono (by simp)) ?_
   rintro _ wz ⟨hz,hbz⟩
   refine D ?_
   refine W ?_
   refine Zu rfl rfl rfl hbz rfl ?_
   have hf:=gm.fin (y:=(.mk 6 0 Z0g[q] [y0,y1])) hS0 hb4 hy hz
   exact .mk ⟨_,_,hf.1,.logic _ _ _ _ (Xg hqn) g0 g1,hf.2.1,by omega,hf.2.2⟩
   refine J3 rfl trivial (Z5 rfl (Z9 rfl rfl) ((ih.2.1) (b4 :: bm :: X) _ bm lv l _ _ (by omega) gm.mkr gm.sl hl (by omega) gm.hX)) (fun _ _ h=>by obtain ⟨_,_,_,_,_,_,h⟩:=h;exact h.mono (by simp)) rfl ?_
   rintro _ wq ⟨y1,i1,⟨k1,rfl,s1⟩,g1,hm,hi1,hS⟩
   obtain ⟨p1,c1,rfl,-⟩:=id s1
   replace gm:=gm.nxt hm hS
   replace s0:=s0.ext hS (by simp) (fun _ h=>.inl h)
   replace e0:=e0.ext hS (by simp;exact n0)
   clear hm hS
   refine Z1t 0 10 (by kernel_rfl) ?_ ?_
   refine J3 rfl trivial (Z2 (vs:=[(0,str [97,110,100]),(1,str [111,114])]) rfl (bS2 _ _)) (fun _ _ h=>(Zc.stp h).mono (by simp)) rfl ?_
   rintro wv wq hN
   have hws:SlV [b4,bm] wq wv Z0g:=hN.slv (fun c hc=>gm.hX c (by simp at hc;rcases hc with rfl|rfl<;>simp)) rfl rfl (by decide)
   have hT:=Zc.stp hN
   clear hN
   replace gm:=gm.up hT
   replace s0:=s0.up hT
   replace e0:=e0.up hT
   replace s1:=s1.up hT
   clear hT
   refine Z3k [(3,0),(4,1),(10,2),(11,2),(12,2)] (by kernel_rfl) (by kernel_rfl) (by kernel_rfl) ?_
   refine D ?_
   refine D ?_
   refine Zb rfl trivial (Z2 (vs:=[(0,.agg #[.int .i64 y0.kind,.int .i64 y0.num,str y0.word,.slice p0 y0.kids.length c0]),(1,.agg #[.int .i64 y1.kind,.int .i64 y1.num,str y1.word,.slice p1 y1.kids.length c1])]) rfl (Jw _ _ _ _ _ _ _ _ _ _ _ _)) (fun _ _ h=>(Zc.stp h).mono (by simp)) rfl ?_
   rintro bv wq hN
   have hbv:SlV (b4 :: bm :: X) wq bv [y0,y1]:=hN.slvG (css:=[ndC y0 _,ndC y1 _]) gm.hX rfl rfl rfl (Z1V s0 s1) (by simp [maxLen])
   have hT:=Zc.stp hN
   clear hN
   replace gm:=gm.up hT
   replace hws:=hws.up hT
   clear hT
   refine D ?_
   refine Zb rfl trivial (Z5 rfl (ZH rfl rfl rfl) (ZF (b4 :: bm :: X) 6 Z0g[q] bv [y0,y1] _ gm.hX hbv)) (fun _ _ h=>h.2.mono (by simp)) rfl ?_
   rintro _ wq ⟨⟨ky,rfl,hy⟩,hT⟩
   replace gm:=gm.up hT
   clear hT hbv
   refine D ?_
   obtain ⟨cs,hcl,hcb⟩:=gm.blk
   refine ZG rfl trivial (Z1 (us:=ndC (.mk 6 0 Z0g[q] [y0,y1]) _) rfl rfl rfl rfl (Zk (x:=(.mk 6 0 Z0g[q] [y0,y1])) hy) hcb hcl.symm) (fun _ _ h=>h.1.mono (by simp)) ?_
   rintro _ wz ⟨hz,hbz⟩
   refine D ?_
   refine W ?_
   refine Zu rfl rfl rfl hbz rfl ?_
   have hf:=gm.fin (y:=(.mk 6 0 Z0g[q] [y0,y1])) hS0 hb4 hy hz
   exact .mk ⟨_,_,hf.1,.logic _ _ _ _ (Xg hqn) g0 g1,hf.2.1,by omega,hf.2.2⟩
   refine J3 rfl trivial (Z2 (vs:=[(0,.agg #[.int .i64 y0.kind,.int .i64 y0.num,str y0.word,.slice p0 y0.kids.length c0]),(1,.agg #[.int .i64 y1.kind,.int .i64 y1.num,str y1.word,.slice p1 y1.kids.length c1])]) rfl (Jw _ _ _ _ _ _ _ _ _ _ _ _)) (fun _ _ h=>(Zc.stp h).mono (by simp)) rfl ?_
   rintro bv wq hN
   have hbv:SlV (b4 :: bm :: X) wq bv [y0,y1]:=hN.slvG (css:=[ndC y0 _,ndC y1 _]) gm.hX rfl rfl rfl (Z1V s0 s1) (by simp [maxLen])
   have hT:=Zc.stp hN
   clear hN
   replace gm:=gm.up hT
   clear hT
   refine Z3k [(0,2),(3,0),(4,1),(11,2),(12,2)] (by kernel_rfl) (by kernel_rfl) (by kernel_rfl) ?_
   refine Zb rfl trivial (Z2 (vs:=[(0,str [97,110,100]),(1,str [111,114])]) rfl (bS2 _ _)) (fun _ _ h=>(Zc.stp h).mono (by simp)) rfl ?_
   rintro wv wq hN
   have hws:SlV [b4,bm] wq wv Z0g:=hN.slv (fun c hc=>gm.hX c (by simp at hc;rcases hc with rfl|rfl<;>simp)) rfl rfl (by decide)
   have hT:=Zc.stp hN
   clear hN
   replace gm:=gm.up hT
   replace hbv:=hbv.up hT
   clear hT
   refine D ?_
   refine D ?_
   refine D ?_
   refine Zb rfl trivial (Z5 rfl (ZH rfl rfl rfl) (ZF (b4 :: bm :: X) 6 Z0g[q] bv [y0,y1] _ gm.hX hbv)) (fun _ _ h=>h.2.mono (by simp)) rfl ?_
   rintro _ wq ⟨⟨ky,rfl,hy⟩,hT⟩
   replace gm:=gm.up hT
   clear hT hbv
   refine D ?_
   obtain ⟨cs,hcl,hcb⟩:=gm.blk
   refine ZG rfl trivial (Z1 (us:=ndC (.mk 6 0 Z0g[q] [y0,y1]) _) rfl rfl rfl rfl (Zk (x:=(.mk 6 0 Z0g[q] [y0,y1])) hy) hcb hcl.symm) (fun _ _ h=>h.1.mono (by simp)) ?_
   rintro _ wz ⟨hz,hbz⟩
   refine D ?_
   refine W ?_
   refine Zu rfl rfl rfl hbz rfl ?_
   have hf:=gm.fin (y:=(.mk 6 0 Z0g[q] [y0,y1])) hS0 hb4 hy hz
   exact .mk ⟨_,_,hf.1,.logic _ _ _ _ (Xg hqn) g0 g1,hf.2.1,by omega,hf.2.2⟩
   by_cases k3:q=3
   focus repeat'(first|refine W1 ?_|omega|refine VG ?_ ?_<;>intro hg|refine VC ?_ ?_<;>intro hc)
   refine W ?_
   refine CL rfl (Z9 rfl rfl) rfl ((ih.2.2) (b4 :: bm :: X) _ bm lv l _ _ (by omega) gm.mkr gm.sl hl (by omega) gm.hX) ?_
   rintro _ wq ⟨y0,i0,⟨k0,rfl,s0⟩,g0,hm,hi0,hS⟩
   obtain ⟨p0,c0,rfl,-⟩:=id s0
   replace gm:=gm.nxt hm hS
   clear hm hS
   refine Z3 Z6 rfl ?_
   rintro _ wq ⟨b0',rfl,hb0',e0,hT⟩
   refine Z0 (Z1 (us:=ndC y0 _) rfl rfl rfl rfl (Zk s0) e0 rfl) ?_
   rintro _ wq ⟨hT2,e0⟩
   replace hT:=JK hT hb0' hT2
   clear hT2
   have n0:b0'≠bm:=fun h=>by have:=gm.mkr.lt;omega
   have n0':b0'≠b4:=fun h=>by obtain ⟨_,_,hc⟩:=gm.blk;have:=hc.lt;omega
   replace gm:=gm.up hT
   replace s0:=s0.up hT
   clear hT hb0'
   refine W ?_
   refine ZDr 11 ([b4,bm]) [] [(0,0),(3,1),(4,0),(5,0),(6,0),(1,2),(2,2),(7,2),(8,2),(9,2),(10,2)] (fun w1 hS1=>?_)
   have hT:=hS1
   replace gm:=gm.up hT
   replace s0:=s0.up hT
   replace e0:=e0.up hT
   clear hT hS1
   refine D ?_
   refine Zb rfl trivial (Z5 rfl (Z9 rfl rfl) (ZK bm lv l _ 6 _ (by decide) (by omega) gm.mkr gm.sl hl)) (fun _ _ h=>h.choose_spec.2.2.2.mono (by simp)) rfl ?_
   rintro _ wq ⟨q',rfl,hq',hm,hS⟩
   replace gm:=gm.nxt hm hS
   replace s0:=s0.ext hS (by simp) (fun _ h=>.inl h)
   replace e0:=e0.ext hS (by simp;exact n0)
   clear hm hS
   refine D ?_
   refine Zb rfl trivial (Z5 rfl (Zp rfl) (Z5H q' _ (by omega))) (fun _ _ h=>h.2.mono (by simp)) rfl ?_
   rintro _ wq ⟨⟨op,hop,rfl⟩,hT⟩
   replace gm:=gm.up hT
   replace s0:=s0.up hT
   replace e0:=e0.up hT
   clear hT
   refine D ?_
   refine Zb rfl trivial (Z5 rfl (Z9 rfl rfl) ((ih.2.2) (b4 :: bm :: X) _ bm lv l _ _ (by omega) gm.mkr gm.sl hl (by omega) gm.hX)) (fun _ _ h=>by obtain ⟨_,_,_,_,_,_,h⟩:=h;exact h.mono (by simp)) rfl ?_
   rintro _ wq ⟨y1,i1,⟨k1,rfl,s1⟩,g1,hm,hi1,hS⟩
   obtain ⟨p1,c1,rfl,-⟩:=id s1
   replace gm:=gm.nxt hm hS
   replace s0:=s0.ext hS (by simp) (fun _ h=>.inl h)
   replace e0:=e0.ext hS (by simp;exact n0)
   clear hm hS
   refine D ?_
   refine Zb rfl trivial (Z2 (vs:=[(0,.agg #[.int .i64 y0.kind,.int .i64 y0.num,str y0.word,.slice p0 y0.kids.length c0]),(1,.agg #[.int .i64 y1.kind,.int .i64 y1.num,str y1.word,.slice p1 y1.kids.length c1])]) rfl (Jw _ _ _ _ _ _ _ _ _ _ _ _)) (fun _ _ h=>(Zc.stp h).mono (by simp)) rfl ?_
   rintro bv wq hN
   have hbv:SlV (b4 :: bm :: X) wq bv [y0,y1]:=hN.slvG (css:=[ndC y0 _,ndC y1 _]) gm.hX rfl rfl rfl (Z1V s0 s1) (by simp [maxLen])
   have hT:=Zc.stp hN
   clear hN
   replace gm:=gm.up hT
   clear hT
   refine D ?_
   refine Zb rfl trivial (Z5 rfl (ZH rfl rfl rfl) (ZF (b4 :: bm :: X) 6 op bv [y0,y1] _ gm.hX hbv)) (fun _ _ h=>h.2.mono (by simp)) rfl ?_
   rintro _ wq ⟨⟨ky,rfl,hy⟩,hT⟩
   replace gm:=gm.up hT
   clear hT hbv
   refine D ?_
   obtain ⟨cs,hcl,hcb⟩:=gm.blk
   refine ZG rfl trivial (Z1 (us:=ndC (.mk 6 0 op [y0,y1]) _) rfl rfl rfl rfl (Zk (x:=(.mk 6 0 op [y0,y1])) hy) hcb hcl.symm) (fun _ _ h=>h.1.mono (by simp)) ?_
   rintro _ wz ⟨hz,hbz⟩
   refine D ?_
   refine W ?_
   refine Zu rfl rfl rfl hbz rfl ?_
   have hf:=gm.fin (y:=(.mk 6 0 op [y0,y1])) hS0 hb4 hy hz
   exact .mk ⟨_,_,hf.1,.cmp _ 3 _ _ _ (by decide) hop g0 g1,hf.2.1,by omega,hf.2.2⟩
   repeat'(first|refine W1 ?_|omega|refine VG ?_ ?_<;>intro hg|refine VC ?_ ?_<;>intro hc)
   refine W ?_
   refine CL rfl (Z9 rfl rfl) rfl ((ih.1) (b4 :: bm :: X) _ bm lv l _ _ (by omega) gm.mkr gm.sl hl (by omega) gm.hX) ?_
   rintro _ wq ⟨y0,i0,⟨k0,rfl,s0⟩,g0,hm,hi0,hS⟩
   obtain ⟨p0,c0,rfl,-⟩:=id s0
   replace gm:=gm.nxt hm hS
   clear hm hS
   refine Z3 Z6 rfl ?_
   rintro _ wq ⟨b0',rfl,hb0',e0,hT⟩
   refine Z0 (Z1 (us:=ndC y0 _) rfl rfl rfl rfl (Zk s0) e0 rfl) ?_
   rintro _ wq ⟨hT2,e0⟩
   replace hT:=JK hT hb0' hT2
   clear hT2
   have n0:b0'≠bm:=fun h=>by have:=gm.mkr.lt;omega
   have n0':b0'≠b4:=fun h=>by obtain ⟨_,_,hc⟩:=gm.blk;have:=hc.lt;omega
   replace gm:=gm.up hT
   replace s0:=s0.up hT
   clear hT hb0'
   refine W ?_
   refine ZDr 11 ([b4,bm]) [] [(0,0),(3,1),(4,0),(5,0),(6,0),(1,2),(2,2),(7,2),(8,2),(9,2),(10,2)] (fun w1 hS1=>?_)
   have hT:=hS1
   replace gm:=gm.up hT
   replace s0:=s0.up hT
   replace e0:=e0.up hT
   clear hT hS1
   refine D ?_
   refine Zb rfl trivial (Z5 rfl (Z9 rfl rfl) (ZK bm lv l _ 6 _ (by decide) (by omega) gm.mkr gm.sl hl)) (fun _ _ h=>h.choose_spec.2.2.2.mono (by simp)) rfl ?_
   rintro _ wq ⟨q',rfl,hq',hm,hS⟩
   replace gm:=gm.nxt hm hS
   replace s0:=s0.ext hS (by simp) (fun _ h=>.inl h)
   replace e0:=e0.ext hS (by simp;exact n0)
   clear hm hS
   refine D ?_
   refine Zb rfl trivial (Z5 rfl (Zp rfl) (Z5H q' _ (by omega))) (fun _ _ h=>h.2.mono (by simp)) rfl ?_
   rintro _ wq ⟨⟨op,hop,rfl⟩,hT⟩
   replace gm:=gm.up hT
   replace s0:=s0.up hT
   replace e0:=e0.up hT
   clear hT
   refine D ?_
   refine Zb rfl trivial (Z5 rfl (Z9 rfl rfl) ((ih.1) (b4 :: bm :: X) _ bm lv l _ _ (by omega) gm.mkr gm.sl hl (by omega) gm.hX)) (fun _ _ h=>by obtain ⟨_,_,_,_,_,_,h⟩:=h;exact h.mono (by simp)) rfl ?_
   rintro _ wq ⟨y1,i1,⟨k1,rfl,s1⟩,g1,hm,hi1,hS⟩
   obtain ⟨p1,c1,rfl,-⟩:=id s1
   replace gm:=gm.nxt hm hS
   replace s0:=s0.ext hS (by simp) (fun _ h=>.inl h)
   replace e0:=e0.ext hS (by simp;exact n0)
   clear hm hS
   refine D ?_
   refine Zb rfl trivial (Z2 (vs:=[(0,.agg #[.int .i64 y0.kind,.int .i64 y0.num,str y0.word,.slice p0 y0.kids.length c0]),(1,.agg #[.int .i64 y1.kind,.int .i64 y1.num,str y1.word,.slice p1 y1.kids.length c1])]) rfl (Jw _ _ _ _ _ _ _ _ _ _ _ _)) (fun _ _ h=>(Zc.stp h).mono (by simp)) rfl ?_
   rintro bv wq hN
   have hbv:SlV (b4 :: bm :: X) wq bv [y0,y1]:=hN.slvG (css:=[ndC y0 _,ndC y1 _]) gm.hX rfl rfl rfl (Z1V s0 s1) (by simp [maxLen])
   have hT:=Zc.stp hN
   clear hN
   replace gm:=gm.up hT
   clear hT
   refine D ?_
   refine Zb rfl trivial (Z5 rfl (ZH rfl rfl rfl) (ZF (b4 :: bm :: X) 6 op bv [y0,y1] _ gm.hX hbv)) (fun _ _ h=>h.2.mono (by simp)) rfl ?_
   rintro _ wq ⟨⟨ky,rfl,hy⟩,hT⟩
   replace gm:=gm.up hT
   clear hT hbv
   refine D ?_
   obtain ⟨cs,hcl,hcb⟩:=gm.blk
   refine ZG rfl trivial (Z1 (us:=ndC (.mk 6 0 op [y0,y1]) _) rfl rfl rfl rfl (Zk (x:=(.mk 6 0 op [y0,y1])) hy) hcb hcl.symm) (fun _ _ h=>h.1.mono (by simp)) ?_
   rintro _ wz ⟨hz,hbz⟩
   refine D ?_
   refine W ?_
   refine Zu rfl rfl rfl hbz rfl ?_
   have hf:=gm.fin (y:=(.mk 6 0 op [y0,y1])) hS0 hb4 hy hz
   exact .mk ⟨_,_,hf.1,.cmp _ 1 _ _ _ (by decide) hop g0 g1,hf.2.1,by omega,hf.2.2⟩
end Go.Proofs.YtjdjdoefppebkaaGreatDoor
