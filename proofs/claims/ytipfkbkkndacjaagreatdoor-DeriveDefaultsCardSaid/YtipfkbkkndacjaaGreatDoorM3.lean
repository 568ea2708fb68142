/-
Contracts and plain laws, merged out of own texts.
-/
import Derived.Test.YtipfkbkkndacjaaGreatDoorM2
import Derived.Deep.Slices
import Derived.Deep.Fields
import Derived.ChangeSame
import Derived.Below
import Derived.Carry
import Derived.ChangeOld
import Derived.ProofKit
import Derived.OpenShut
import Derived.SizedLaws
import Derived.HandedShaped
import Derived.LaidMore
import Derived.Stop.Joined
import Derived.SevenTiedAt
import Derived.MakeChecks
import Derived.Lib.ConvBytes
import Derived.Laws.AppendOwn
import Derived.Laws.BitsAllLaws
import Derived.Laws.Bits64
import Derived.Lib.SlBytesRow
import Derived.Lib.AppendStr
import Derived.Laws.BytesArg
import Derived.Laws.Cover3
import Derived.Shelf.Strings.Builder1
import Derived.Shelf.Strings.Builder2
import Derived.Shelf.Small.Utf8
import Derived.Shelf.Small.Bits
import Derived.Shelf.Small.Strs
import Derived.Shelf.Small.Wraps
import Derived.Shelf.Strings.BuilderF
import Derived.Shelf.Strconv.Atoi
import Derived.Shelf.Strconv.Itoa0
import Derived.Shelf.Strconv.Itoa1
import Derived.Shelf.LaysM
import Derived.Shelf.Strconv.Itoa2
import Derived.Shelf.Strconv.Itoa3
import Derived.Shelf.Strconv.AtoiErrFast
import Derived.Shelf.Strconv.ParseIntEmpty
import Derived.Shelf.Strconv.AtoiFail
import Derived.Shelf.Strconv.Clone
import Derived.Shelf.Strconv.SyntaxError
import Derived.Shelf.LaysC
import Derived.Shelf.Strconv.ToError
import Derived.Shelf.Strconv.Lower
import Derived.Shelf.Strconv.ParseUint10
import Derived.Shelf.Strconv.ParseUint10Empty
import Derived.Shelf.Strconv.ParseUint10Any
import Derived.Shelf.Strconv.ParseInt10
import Derived.Shelf.Strconv.AtoiLong
import Derived.Shelf.Strconv.AtoiInnerAll
import Derived.Shelf.Strconv.RangeError
import Derived.Shelf.Strconv.ToErrorRange
import Derived.Shelf.Strconv.AtoiAll
import Derived.Shelf.Strconv.ErrVarAll
import Derived.Shelf.Strings.Search1
import Derived.Shelf.Strings.Search2
import Derived.Shelf.Strings.Search3
import Derived.Shelf.Strings.Shaped
import Derived.Shelf.Sort.Plain
import Derived.Shelf.Strings.Prefix
import Derived.Shelf.Strings.Runes
import Derived.Shelf.Bits.Mul64
import Derived.Shelf.Strings.Repeat
import Derived.Shelf.Slices.Turned
import Derived.Ground.Names2Prog
import Derived.Shelf.Slices.CompactI
import Derived.Shelf.Slices.SearchI
import Derived.Shelf.Slices.Cells
import Derived.Shelf.Slices.In.SortNone
import Derived.Test.YtipfkbkkndacjaaGreatDoorProg
import Derived.Scope
import Derived.Laws.Runes
import Derived.Lib.IndexLaws
import Derived.Lib.AtoiAll
set_option linter.unusedVariables false
set_option linter.unusedSimpArgs false
set_option maxHeartbeats 4000000
set_option maxRecDepth 20000
namespace Go.Eng
open Go Go.RowKit Go.Proofs
section
variable {P:Program} {n:Nat} {e:Env} {d:Option Nat} {ty:TypeId} {pos:String} {af:Array Edge} {g:Option (Nat×Bool)}
variable {α:Type} [Z6 α] {X:List Nat} {w w':World} {base T:Nat} {v:Value} {xs:List α}
theorem Z40 {i k:Nat} {t:TypeId} {x y:Operand} {u:Value} {y':α} [bH:Siz P t k] (hx:ev e x=some (.pointer (some (ZH v i k 0)))) (hy:ev e y=some u) (hk:k=Z6.k α)
 (bE:Z6.rep (ob v++X) w y' u.cells.toList) (ab:Row X w base T v xs) (hi:i<xs.length) :
 OE P n ⟨d,.store t x y,ty,pos,af,g⟩ e w (λ_ w'=>Row X w' base T v (xs.set i y')/\Stp (ob v) w w'):=by
 have dz:=ab;obtain ⟨css,hl,hr,ho⟩:=ab;have ai:∀ c∈css,c.length=Z6.k α:=by
  intro c hc;obtain ⟨q,hq,rfl⟩:=Xr hc;exact Z6.len (hr q (by omega) hq)
 rcases ho.2 with ⟨rfl,hn⟩|⟨q,cap,cur,rfl,hb,hg,cO,bQ,aO,ht⟩
 omega;subst hk;have eF:u.cells.toList.length=Z6.k α:=Z6.len bE;have cC:i * Z6.k α+u.cells.toList.length<=cur.size:=by
  rw [eF,aO,<- X9];exact Xq _ (by omega)
 have ax:=run_storeCells_at P q (i * Z6.k α) T u.cells.toList 0 cur w hg (by simpa using cC) (Z6.one bE);simp only [Ybp] at ax;have eq:u.cells.size=Z6.k α:=by simpa using eF
 have js:Stp [q] w (w.setRow q (cur.toList.take (i * Z6.k α)++u.cells.toList++cur.toList.drop (i * Z6.k α+u.cells.toList.length)).toArray):=Z1W _ _ _;refine Z4p (w':=w.setRow q (cur.toList.take (i * Z6.k α)++u.cells.toList++cur.toList.drop (i * Z6.k α+u.cells.toList.length)).toArray) (λa ha=>?_) ⟨⟨css.set i u.cells.toList,by simp [hl],λj hj gz=>?_,?_,.inr ⟨q,cap,_,by simp,hb,setRow_heap w q cur _ T (0,0) hg,by simpa using cO,bQ,?_,?_⟩⟩,js⟩;have dB:ZH (.slice (some ⟨q,0,none⟩) xs.length cap) i (Z6.k α) 0=⟨q,i * Z6.k α,none⟩:=by simp [ZH]
 rw [dB] at hx;simp [execOp,ha.ev hx,ha.ev hy,Instr.storeAt,Instr.sureAddr,storeVar,Siz.run,eq,ax];have ae:∀ b∈[q],b∈ob (.slice (some ⟨q,0,none⟩) xs.length cap)++X:=by simp [ob]
 by_cases dJ:i=j;subst dJ;simp only [Ybg];exact Z6.ext bE js ae (λb hb=>.inl hb);simp only [YaN dJ];exact Z6.ext (hr j (by simpa using hj) (by simpa using gz)) js ae (λb hb=>.inl hb);rw [Z1t css ai i (by omega)];have h1:=ho.1;simp only [Xd,Xx,Yar,X4,eF,h1];have:(i+1) * Z6.k α<=xs.length * Z6.k α:=Xq _ (by omega);rw [X9] at this;omega;simp only [Yaw,Xd,Xx,Yar,Yak,eF,aO];rw [eF,aO] at cC;omega;rw [Z1t css ai i (by omega),<- ht];have h2:(i+1) * Z6.k α<=xs.length * Z6.k α:=Xq _ (by omega);rw [X9] at h2;have h3:i * Z6.k α<=cur.toList.length:=by simp [aO];exact Xh (by omega) (Xq _ cO)
 simp only [X4,eF];rw [YaE,YaE,YaI,YaI,Ybs];simp only [Xd,Xx,eF];rw [Yae h3,XJ (l:=u.cells.toList) (by rw [eF];omega)];rw [YbB (by omega:i * Z6.k α<=xs.length * Z6.k α),Yae (by omega:i * Z6.k α<=xs.length * Z6.k α)]
end
section
variable {P:Program} {n:Nat} {Q:Exit->Act->World->Prop} {e:Env} {w:World}
theorem Zgs {id:Nat} {l:List Oper} (m:Nat) (S:List Nat) (Lt:List Nat) (ord:List (Nat×Nat)) (cI:l.length=m) (hm:P.follows .mixedOrders=true) (hs:Region.noSelect l.toArray=true) (hl:Nat.beq (wt ord) l.length=true)
 (hB:J6 l.toArray Lt ord (Array.replicate m false)=true)
 (h:∀ w',Stp [] w w'->w'.heap.size=w.heap.size->WD P n l.toArray S Lt Q ord e w'):WC P n (.region id l.toArray true) Q e w:=by
 subst cI;refine ⟨λa ha=>wp_region_any hm ?_⟩;have h1:=(h { w with drawn:=w.drawn+1 } (Stp.drew [] w) rfl).h _ hs hB a ha;have h2:=Z12 (Q:=Q) (λa w hz=>hz) _ _ _ _ h1;rw [XS hl] at h2;simpa using h2
def Zna (w:World) (T:TypeId) (cs:List Value) (v:Value) (w':World):Prop:=v=.pointer (some ⟨w.heap.size,0,none⟩)/\Blk w' w.heap.size T cs/\Stp [] w w'
theorem Zgt {d:Option Nat} {ty:TypeId} {pos:String} {af:Array Edge} {g:Option (Nat×Bool)} {t:TypeId} {z:Value} [hz:Zer P t z]:OE P n ⟨d,.alloc t,ty,pos,af,g⟩ e w (Zna w t z.cells.toList):=by
 refine Jd (v:=.pointer (some ⟨w.heap.size,0,none⟩)) (w':=w.alloc (.cells z.cells t)) (λa ha=>?_) ?_;simp [execOp,Instr.alloc,Zer.run,newVar,newRow,newObj];rfl;have h:=ZaE w t z.cells.toList;obtain ⟨b,hb,bV,h1,h2⟩:=h;simp only [Value.pointer.injEq,XK,Addr.mk.injEq] at hb;obtain ⟨rfl,-⟩:=hb;exact ⟨rfl,by simpa using h1,by simpa using h2⟩
theorem Zej {o:Oper} {a:Act} {w} {K K':Act->World->Prop} {Q':Exit->Act->World->Prop} (h:∀ a w,K a w->K' a w) (hq:∀ ex a w,Q' ex a w->Q ex a w)
 (hh:o.wp P a w K Q'):o.wp P a w K' Q:=by
 unfold Oper.wp at *;generalize (execOp a.eval o).run P w=r at *;cases r with
 | ok n w'=>
   cases n<;>simp only [Oper.upon] at hh ⊢ <;>
    first
     | exact h _ _ hh
     | exact Calls.mono hh (λe w'' he=>by cases e<;>first|exact h _ _ he|exact hq _ _ _ he|exact he.elim (λa h=>h.elim (λw h=>⟨a,w,hq _ _ _ h⟩)))
     | exact Rows.mono hh (λ_ _ he=>h _ _ he)
 | halt x w'=>cases x<;>simp only [Oper.upon] at hh ⊢<;>first|exact hq _ _ _ hh|exact hh
theorem Z3j {ops:Array Oper} {Q':Exit->Act->World->Prop} (hq:∀ ex a w,Q' ex a w->Q ex a w):∀ (l:List Oper) (a:Act) (w),wpList P ops Q' l a w->wpList P ops Q l a w
 | [],a,w,h=>hq _ _ _ h
 | o :: rest, a, w, h => by
   unfold wpList at h ⊢;split;rename_i hw;rw [if_pos hw] at h;rcases h with h|⟨h1,a',w',h2⟩
   exact .inl (Zej (λa w h=>Z3j hq rest a w h) hq h);exact .inr ⟨h1,a',w',hq _ _ _ h2⟩;rename_i hw;rw [if_neg hw] at h;exact Z3j hq rest _ _ h
theorem Z5K {y:Code} {σ:Type} {ops:Array Oper} {l:List Oper} (env:σ->Env) (I:σ->World->Prop)
 (h:WL P n ops (Exit.then (λa w=>∃ s,Has n (env s) a/\I s w) Q) l e w) (k:∀ s w,I s w->WC P n y Q (env s) w):WL P n ops (Exit.then (λa w=>y.wp P Q a w) Q) l e w:=
 ⟨λa ha => Z3j (λex a w hq => by
   cases ex with
   | normal=>obtain ⟨s,h1,h2⟩:=hq;exact (k s w h2).h a h1
   | _=>exact hq) l a w (h.h a ha)⟩
end
open Go Go.RowKit Go.Proofs Go.ChangeShapes Go.WideShapes Go.Deep
section
variable {H:Type} {enc:TypeId×Value->H} {P:Program} {w:World} {base:Nat} {spare:Nat->Bool} {gU:Bool}
theorem Zcp (b o n:Nat):(⟨b,o,none⟩:Addr).add n=⟨b,o+n,none⟩:=by
 unfold Addr.add;split;rename_i h;subst h;rfl;rfl
def Znb:DataW H->Nat
 | .slice els _=>els.length
 | _=>0
theorem Zcq {α:Type} [Z3 α] {ok:α->Prop} {t e:TypeId} {fuel:Nat} {cs:List Value} {x:DataW H×List MemPlace} (ht:P.underlying t=some (.slice e)) (hC:P.cellsOf e=Z3.k α) (bj:0<Z3.k α)
 (dR:∀ n cs' y,cs'.length=Z3.k α->DataW.trod enc P w base spare gU n e cs'=some y->∃ a:α,cs'=Z3.enc a/\ok a)
 (h:DataW.trod enc P w base spare gU fuel t cs=some x):∃ (v:Value) (xs:List α),cs=[v]/\SlV [] w v xs/\(∀ a∈xs,ok a)/\Znb x.1=xs.length:=by
 rcases open_slice ht h with ⟨rfl,rfl⟩|⟨a,len,cap,m,n,D,Pl,rfl,hb,hl,hm,ey,hx,hi⟩
 exact ⟨_,[],rfl,⟨none,0,rfl,Xn _,by simp [maxLen],λ_=>rfl,λi h=>absurd h (Xw _)⟩,by simp,rfl⟩;have cI:len<=m:=by rw [ey];split<;>omega
 have aS:∀ y:α,∃ u,(Z3.enc y)[0]?=some u:=λy=>⟨_,XV (by rw [Z3.len y];exact bj)⟩
 have aB:∀ i:Fin len,∃ y:α,ok y/\∀ j u,(Z3.enc y)[j]?=some u->w.cell? (a.add (i * Z3.k α+j))=some u:=by
  intro i;obtain ⟨cs',hc,ve⟩:=hi i (by omega);rw [hC] at hc;obtain ⟨_,cE,jq⟩:=World.cells?_some hc;obtain ⟨y,rfl,aP⟩:=dR n cs' _ cE ve;refine ⟨y,aP,λj u hu=>?_⟩;have hj:j<Z3.k α:=by
   have:=(Xz.1 hu).1;rw [Z3.len] at this;exact this
  have:=jq j hj;rw [hu] at this;rw [<- this,Go.Deep.add_add]
 let f:Fin len->α:=λi=>(aB i).choose
 have hf:∀ i:Fin len,ok (f i)/\∀ j u,(Z3.enc (f i))[j]?=some u->w.cell? (a.add (i * Z3.k α+j))=some u:=λi=>(aB i).choose_spec;refine ⟨_,List.ofFn f,rfl,⟨some a,cap,by simp,by simpa using hl,hm,by simp,λi cH=>?_⟩,λy hy=>?_,by rw [hx];simp [Znb]⟩;have kZ:i<len:=by simpa using cH
 have oY:=(hf ⟨i,kZ⟩).2;obtain ⟨u1,tk⟩:∃ u,(Z3.enc (f ⟨0,by omega⟩))[0]?=some u:=aS _;have bY:=(hf ⟨0,by omega⟩).2 0 u1 tk;obtain ⟨u0,qD⟩:∃ u,(Z3.enc (f ⟨i,kZ⟩))[0]?=some u:=aS _;have iA:=oY 0 u0 qD;have bC:a.spot=none:=by
  have e0:a.add ((⟨0,by omega⟩:Fin len).val * Z3.k α+0)=a:=by simp [Addr.add]
  rw [e0] at bY;unfold World.cell? at bY;split at bY
  . cases hs:a.spot with
    | none=>rfl
    | some s=>simp [hs] at bY
  cases bY
 obtain ⟨b,o,sp⟩:=a;cases bC;refine ⟨b,o,Z3.enc (f ⟨i,kZ⟩),rfl,?_,by simp,?_,λj u hu=>?_⟩;have:=block_lt_of_cell (a:=(⟨b,o,none⟩:Addr).add (i * Z3.k α+0)) iA;simpa [Zcp] using this;simp;rfl;have:=oY j u hu;rw [Zcp] at this;rw [show o+i * Z6.k α+j=o+(i * Z3.k α+j) from Yau _ _ _];exact this;obtain ⟨i,rfl⟩:=List.mem_ofFn.1 hy;exact (hf i).1
theorem ZjY {t e:TypeId} {fuel:Nat} {cs:List Value} {x:DataW H×List MemPlace} (ht:P.underlying t=some (.slice e)) (hC:P.cellsOf e=1) (he:P.underlying e=some (.int .i64))
 (h:DataW.trod enc P w base spare gU fuel t cs=some x):∃ (v:Value) (xs:List Int),cs=[v]/\SlV [] w v xs/\(∀ a∈xs,I64 a)/\Znb x.1=xs.length:=
 Zcq (α:=Int) ht hC (by decide) (λn cs' y hl hy=>by
  obtain ⟨z,rfl,_,hw⟩:=DataW.trod_int he hy;exact ⟨z,rfl,by simpa [I64,Lit.wf,IntKind.min,IntKind.max,IntKind.signed,IntKind.bits] using hw⟩) h
end
section
variable {H:Type} {enc:TypeId×Value->H} {P:Program}
def Zfp (P:Program) (ts:List TypeId):Bool:=ts.all λt=>P.readableRec t && decide (t<P.types.size)
theorem Z50 (hl:laidOutB P=true) {W W':World} (hb:Below W.heap.size W W') {sp:Nat->Bool}:∀ {ts:List TypeId} {vs:List Value} {ds:List (DataW H)} {ps:List MemPlace},Zfp P ts=true->
 DataW.TrodAll enc P W 0 (λ_=>true) true ts vs ds ps->(∀ x∈ps,x.block<W.heap.size)->(∀ x∈ps,sp x.block=true)->DataW.TrodAll enc P W' 0 sp true ts vs ds ps
 | [],[],[],_,_,h,_,_=>h
 | t :: ts, v :: vs, d :: ds, ps, hr, h, hlt, hs => by
   obtain ⟨p,q,h1,h2,rfl⟩:=h;simp only [Zfp,YaT,Xl,decide_eq_true_eq] at hr;obtain ⟨⟨r1,r2⟩,r3⟩:=hr;exact ⟨p,q,WideElems.Trod_stays hl r1 r2 h1 (λx hx=>hb.same (hlt x (by simp [hx]))) (λx hx=>hs x (by simp [hx])),Z50 hl hb (by simpa [Zfp] using r3) h2 (λx hx=>hlt x (by simp [hx])) (λx hx=>hs x (by simp [hx])),rfl⟩
 | [],_ :: _,_,_,_,h,_,_=>h.elim
 | [],[],_ :: _,_,_,h,_,_=>h.elim
 | _ :: _,[],_,_,_,h,_,_=>h.elim
 | _ :: _,_ :: _,[],_,_,h,_,_=>h.elim
section
variable {f:Func} {s:ChangeSpec} {apart fresh handsOn again:Bool} {W W':World} {args:Array Value} {v:Value} {ds gs:List (DataW H)} {before pa pv:List MemPlace}
theorem Z9m
 (hW:DataW.Whole enc P f.params.toList s.vars apart W args.toList ds gs before)
 (aA:∀ (b:Nat) (sp:Nat->Bool) (hd:Bool),DataW.TrodAll enc P W' b sp hd f.resultTypes.toList (v.resultList f.resultTypes.size) (s.fn H (ds++gs)).results [])
 (kh:∀ sp:Nat->Bool,(∀ p∈before,sp p.block=true)->DataW.TrodAll enc P W' 0 sp true f.params.toList args.toList (s.fn H (ds++gs)).args pa)
 (kj:∀ sp:Nat->Bool,(∀ p∈before,sp p.block=true)->DataW.TrodVars enc P W' sp s.vars (s.fn H (ds++gs)).vars pv)
 (bA:before=pa++pv) (hb:Below W.heap.size W W')
 (aP:∀ (j:Nat) (t:TypeId) (r:Value),f.resultTypes[j]?=some t->(v.resultList f.resultTypes.size)[j]?=some r->Value.okWide P W' .any 0 t r) :
 s.post enc P f apart fresh handsOn again W args v W':=by
 have hlt:∀ p∈before,p.block<W.heap.size:=λp hp=>hW.lt p hp;have ni:∀ p∈before,(λb=>decide (b<W.heap.size)) p.block=true:=λp hp=>by simpa using hlt p hp
 refine ⟨ds,gs,before,[],pa,pv,hW,aA _ _ _,kh _ ni,kj _ ni,World.keptBut_mono (λp hp=>⟨hp,?_⟩) (hb.frame (·∈before)),λ_=>?_⟩;rw [bA,Xg] at hp;exact Or.inr hp;obtain ⟨_,_,_,_,_,hz,hn⟩:=hW;refine ⟨aP,_,_,([]++pa)++pv,⟨[]++pa,pv,trodAll_append (kh _ (λ_ _=>rfl)) (aA _ _ _),kj _ (λ_ _=>rfl),rfl,?_,?_⟩,?_⟩;intro b off hp;have bJ:MemPlace.cell b off∈before:=by rw [bA];simpa using hp
 rw [hb.frozen (hlt _ bJ)];exact hz b off bJ;intro ha;have:=hn ha;rw [bA] at this;simpa using this;intro p hp _;rw [bA];simpa using hp
end
def Znc (s:ChangeSpec) (k:Nat):Prop:=s.vars=[]/\∀ (H:Type) (ds:List (DataW H)),ds.length=k->(s.fn H ds).results=[.lit (.bool true)]/\(s.fn H ds).args=ds/\(s.fn H ds).vars=[]
theorem Z78 {W:World} {base:Nat} {sp:Nat->Bool} {hd:Bool}:∀ {ts:List TypeId} {vs:List Value} {ds:List (DataW H)} {ps:List MemPlace},DataW.TrodAll enc P W base sp hd ts vs ds ps->ds.length=ts.length
 | [],[],[],_,_=>rfl
 | t :: ts, v :: vs, d :: ds, ps, h => by
   obtain ⟨p,q,h1,h2,rfl⟩:=h;simp [Z78 h2]
 | [],_ :: _,_,_,h=>h.elim
 | [],[],_ :: _,_,h=>h.elim
 | _ :: _,[],_,_,h=>h.elim
 | _ :: _,_ :: _,[],_,h=>h.elim
theorem ZwP {fn:Func} {K tb:Nat} {s:ChangeSpec} {fresh handsOn again:Bool} {W:World} {args:Array Value} {ds gs:List (DataW H)} {before:List MemPlace} (hl:laidOutB P=true) (hr:Zfp P fn.params.toList=true)
 (aA:fn.resultTypes=#[tb]) (hb:P.underlying tb=some .bool) (hs:Znc s fn.params.size)
 (hW:DataW.Whole enc P fn.params.toList s.vars false W args.toList ds gs before) (hc:Calls P K args W (Ret λr w'=>r=.bool true/\Stp [] W w')) :
 Calls P K args W λe W'=>∃ v,e=.returned v/\s.post enc P fn false fresh handsOn again W args v W':=by
 refine hc.mono ?_;rintro _ w' ⟨_,rfl,rfl,hS⟩;refine ⟨_,rfl,?_⟩;have tm:=hW;obtain ⟨p,q,hA,hV,qE,yf,gA⟩:=hW;rw [hs.1] at hV;obtain ⟨rfl,rfl⟩:=trodVars_none hV;have ai:(ds++[]).length=fn.params.size:=by simpa using Z78 hA
 obtain ⟨s1,s2,s3⟩:=hs.2 H (ds++[]) ai;have hlt:∀ x∈before,x.block<W.heap.size:=λx hx=>tm.lt x hx;refine Z9m (pa:=p) (pv:=[]) tm (λb sp hd=>?_) (λsp bC=>?_) (λsp _=>?_) qE hS.below ?_;rw [s1,aA];exact trodAll_mk1 ⟨1,by simp [DataW.trod,Value.cells,hb]⟩;rw [s2];simp only [XG] at qE ⊢;subst qE;exact Z50 hl hS.below hr hA hlt bC;rw [s3,hs.1];rfl;exact ok_one aA rfl (by simp [Value.okWide,hb,Cell.okWide,Cell.ok])
end
section
variable {H:Type} {enc:TypeId×Value->H}
theorem ZjZ {a:Assume} {C:Checked} {os:Os} {f:FuncId} {fn:Func} {s:ChangeSpec} {conds:List PathCond} {apart fresh handsOn again:Bool} {X:World->Array Value->Prop}
 (hX:∀ (w w':World) (args:Array Value),w.heap=w'.heap->X w args->X w' args)
 (own:ownKnob C.prog.godebug=none) (started:os.Started) (noInit:C.prog.inits.idxOf? f=none) (qF:C.prog.funcs[f]?=some fn)
 (witness : ∃ (w : World) (tape : Tape) (i : Input), w.os = os /\ (w.forCall tape i).Shaped C.prog /\ i.vars = [] /\ Input.okWide C.prog (w.forCall tape i) .any w.heap.size f i/\
   ((s.pre enc C.prog fn conds apart (w.forCall tape i).memory i.args/\X (w.forCall tape i).memory i.args)/\sizedMet enc C.prog fn (OpenSpec.ofChange s) apart (w.forCall tape i).memory i.args)/\a.holds C.prog (lone (Frame.enter C.prog f i.args .normal) [] (w.forCall tape i)))
 (contract : ∀ (W : World) (base : Nat) (args : Array Value) (ds gs : List (DataW H)) (before : List MemPlace),
   (∀ (j:Nat) t v,fn.params[j]?=some t->args[j]?=some v->Value.okWide C.prog W .any base t v)->
   DataW.Whole enc C.prog fn.params.toList s.vars apart W args.toList ds gs before->
   (DataW.weightsEach C.prog (fn.params.toList++s.plain.varTypes C.prog) (ds++gs)).all (·<=reachBytes)=true->X W args->W.ShapedOpen C.prog->
   Calls C.prog f args W λe W'=>∃ v,e=.returned v/\s.post enc C.prog fn apart fresh handsOn again W args v W') :
 ReturnsInHanded a C os f .any (λw args=>(s.pre enc C.prog fn conds apart w args/\X w args)/\sizedMet enc C.prog fn (OpenSpec.ofChange s) apart w args) (s.post enc C.prog fn apart fresh handsOn again):=by
 refine returnsInHanded_of_calls own started noInit witness ?_;intro w tape i _ dQ _ aP cw hholds;obtain ⟨_,_,_,fn',qG,_,_,_,_,qH⟩:=aP;have e:fn'=fn:=X2 (qG.symm.trans qF);subst e;obtain ⟨⟨⟨ds,gs,before,hw,hc⟩,hx⟩,hz⟩:=cw;have vf:=DataW.Whole.of_heap (w':=w.forCall tape i) (by rfl) hw;refine (contract (w.forCall tape i) w.heap.size i.args ds gs before qH vf (hz.weights hw) (hX _ _ _ (by rfl) hx) dQ).mono λe W' ⟨v,he,hp⟩=>?_
 subst he;exact ChangeSpec.post_blind hp
end
instance:Z3 UInt8 where
 k:=1
 enc:=λb=>[.int .u8 (b.toNat:Int)]
 len:=λ_=>rfl
 one:=by intro x u hu;simp at hu;subst hu;rfl
section
variable {P:Program} {n:Nat} {e:Env} {w:World} {d:Option Nat} {ty:TypeId} {pos:String} {af:Array Edge} {g:Option (Nat×Bool)}
theorem Zcr {src dst el:TypeId} {x:Operand} {s:Str} [hs:Und P src .string] [hd:Und P dst (.slice el)] [he:Und P el (.int .u8)] (hx:ev e x=some (str s)) (hl:s.length<=1000000) :
 OE P n ⟨d,.convert src dst x,ty,pos,af,g⟩ e w (λv w'=>(∀ X:List Nat,(∀ b∈X,b<w.heap.size)->SlV X w' v s)/\Stp [] w w'):=by
 refine Jd (v:=.slice (some ⟨w.heap.size,0,none⟩) s.length (grownCap w s.length 0 el)) (w':=Go.Lib.bytesWorld w el ⟨s.toArray⟩) (λa ha=>?_) ⟨λX hX=>?_,?_⟩;have h:=Go.Lib.run_convert_string_bytes (P:=P) w src dst el ⟨s.toArray⟩ hs.h hd.h he.h;simp only [Z0x] at h;simp [execOp,ha.ev hx,h];refine ⟨some ⟨w.heap.size,0,none⟩,_,rfl,grownCap_ge w _ _ _,grownCap_le_maxLen w _ _ _ (by simp [maxLen];omega),(λh=>by cases h),λi hi=>⟨w.heap.size,0,Z3.enc s[i],rfl,?_,λh=>by have:=hX _ h;omega,rfl,λj u hu=>?_⟩⟩;rw [Go.Lib.bytesWorld_size];omega;have hj:j=0:=by
  have:=(Xz.1 hu).1;simp [Z3.enc] at this;exact this
 subst hj;have hc:=Go.Lib.bytesWorld_cell w el ⟨s.toArray⟩ i (by rw [Z0x];exact hi);simp only [Z3.enc,List.getElem?_cons_zero,XK] at hu;subst hu;have e1:(0+i * Z6.k UInt8+0)=i:=by show 0+i * 1+0=i;omega
 rw [e1,hc];simp [List.getD,hi];refine ⟨rfl,rfl,rfl,?_,λb hb _=>Go.Lib.bytesWorld_at_old w el _ b hb⟩;rw [Go.Lib.bytesWorld_size];omega
end
section
variable {P:Program} {n:Nat} {e:Env} {w:World} {d:Option Nat} {ty:TypeId} {pos:String} {af:Array Edge} {g:Option (Nat×Bool)}
theorem Znd {src dst:TypeId} {k k':IntKind} {x:Operand} {a:Int} {D:TypeDesc} [hs:Und P src D] [hd:Und P dst (.int k)] (hx:ev e x=some (.int k' a)) :
 PR P n ⟨d,.convert src dst x,ty,pos,af,g⟩ e w (.int k (k.wrap a)):=
 ⟨λc ha => by
   have hk:P.intKind dst=k:=by simp [Program.intKind,hd.h]
   have:=run_convert_int (P:=P) w src dst k' a (by rw [hs.h];rfl) (by rw [hk];exact hd.h);simp [execOp,ha.ev hx,this,hk]⟩
theorem Z4A {src dst:TypeId} {k k':IntKind} {x:Operand} {a b:Int} {D:TypeDesc} [hs:Und P src D] [hd:Und P dst (.int k)] (hx:ev e x=some (.int k' a)) (hb:k.wrap a=b) :
 PR P n ⟨d,.convert src dst x,ty,pos,af,g⟩ e w (.int k b):=hb ▸ Znd hx
end
end Go.Eng
namespace Go.Proofs.YtipfkbkkndacjaaGreatDoor
open Go Go.Eng Go.RowKit Go.Proofs
def Z5L:List Int:=[0,31,28,31,30,31,30,31,31,30,31,30,31]
def Z0z (w:World):Prop:=∀ i u,Z5L[i]?=some u->w.cell? ⟨3,i,none⟩=some (.I u)
theorem Z0z.ext {S:List Nat} {w w':World} (h:Z0z w) (hS:Stp S w w') (hb:3∉S):Z0z w':=λi u hu=>hS.cell hb (h i u hu)
theorem Z0z.up {w w':World} (h:Z0z w) (hS:Stp [] w w'):Z0z w':=h.ext hS (by simp)
theorem Zk0 (y:Int) (w) (h0:0<=y) (h1:y<=100000):CC 314 #[.I y] w λr w'=>r=.B (Z1c y)/\w'=w:=by
 unfold Z1c;refine cW1 16 Tryz.func314 ?_;repeat'(first|refine W1 ?_|omega|refine VG ?_ ?_<;>intro hg|refine VC ?_ ?_<;>intro hc)
 all_goals refine WR ?_
 all_goals refine .mk ⟨?_,rfl⟩
 all_goals congr 1
 all_goals (first|done|(rw [Yad];simp;omega)|(simp [*]))
theorem Z3k (y m:Int) (w) (hL:Z0z w) (h0:0<=y) (h1:y<=100000):CC 262 #[.I y,.I m] w λr w'=>r=.I (ZI y m)/\w'=w:=by
 unfold ZI;refine cW2 22 Tryz.func262 ?_;by_cases hm:m<1\/12<m
 . rw [if_pos hm]
   repeat'(first|refine W1 ?_|omega|refine VG ?_ ?_<;>intro hg|refine VC ?_ ?_<;>intro hc)
   all_goals refine WR ?_
   all_goals exact .mk ⟨rfl,rfl⟩
 rw [if_neg hm];obtain ⟨k,rfl⟩:∃ k:Nat,m=(k:Int):=⟨m.toNat,by omega⟩
 have hk:k<13:=by omega
 have aq:w.cell? ⟨3,0+k * 1,none⟩=some (.I (Z5L.getD k 0)):=hL _ _ (by
  have:k<Z5L.length:=hk;simp [List.getD,this])
 by_cases h2:(k:Int)=2;rw [if_pos h2];refine QO ?_;refine CL (Zk0 y _ h0 h1) ?_;rintro _ _ ⟨rfl,rfl⟩;cases hl:Z1c y;refine W ?_;refine Z8 (JC rfl rfl aq) rfl ?_;refine W ?_;refine WR ?_;obtain rfl:k=2:=by omega
 exact .mk ⟨rfl,rfl⟩;refine RT ?_;exact ⟨rfl,rfl⟩;rw [if_neg h2];refine QO ?_;refine Z8 (JC rfl rfl aq) rfl ?_;refine W ?_;refine WR ?_;refine .mk ⟨?_,rfl⟩;congr 1;have:k=1\/k=3\/k=4\/k=5\/k=6\/k=7\/k=8\/k=9\/k=10\/k=11\/k=12:=by omega
 rcases this with rfl|rfl|rfl|rfl|rfl|rfl|rfl|rfl|rfl|rfl|rfl<;>rfl
abbrev Zk1 (y m d:Int):Value:=.agg #[.I y,.I m,.I d]
def Z28 (y m d:Int):Prop:=y<1\/9999<y\/m<1\/12<m\/d<1\/ZI y m<d
instance (y m d:Int):Decidable (Z28 y m d):=by unfold Z28;infer_instance
theorem Zek (y m d:Int) (w) (hL:Z0z w):CC 336 #[Zk1 y m d] w λr w'=>r=.I (if Z28 y m d then 5 else 0)/\Stp [] w w':=by
 refine cW1 36 Tryz.func336 ?_;refine W ?_;refine Z0 (Zq rfl) rfl ?_;rintro _ w1 ⟨b,rfl,hb,ac,hS⟩;replace ac:Blk w1 b 132 [.I y,.I m,.I d]:=ac;replace hL:=hL.up hS;refine W ?_;refine ZDr 33 [] [] [(0,0),(1,1),(2,0),(3,0),(4,0),(5,1),(6,0),(7,0),(8,0),(9,0),(10,1),(11,0),(12,0),(13,0),(14,0),(15,1),(16,0),(17,0),(18,0),(19,0),(20,1),(21,0),(22,0),(23,0),(24,0),(25,1),(26,0),(27,1),(28,0),(29,1),(30,2),(31,0),(32,0)] (λw1 ae=>?_);replace ac:=ac.up ae;replace hL:=hL.up ae;replace hS:=hS.trans ae;clear ae;by_cases hg:y<1\/9999<y\/m<1\/12<m\/d<1
 . have fX:Z28 y m d:=by unfold Z28;omega
   rw [if_pos fX];repeat'(first|refine D1 ?_|omega|refine Zk rfl rfl rfl rfl (λhg=>?_) (λhg=>?_)|(refine Zi rfl rfl rfl rfl (λhg=>?_) (λhg=>?_)<;>refine D1 ?_)|fail)
   all_goals refine QO ?_
   all_goals refine WR ?_
   all_goals exact .mk ⟨rfl,hS⟩
 . refine QD ?_
   refine Za rfl rfl (Z4 rfl (Zf rfl rfl) (Z3k y m _ hL (by omega) (by omega))) (λ_ _ h=>by rw [h.2];exact Stp.refl _ _) rfl ?_;rintro _ w3 ⟨rfl,rfl⟩;refine QD ?_;all_goals (refine QP ?_ ?_<;>intro hc)
   refine RU ?_;exact ⟨by rw [if_pos (by unfold Z28;omega)],hS⟩;refine RU ?_;exact ⟨by rw [if_neg (by unfold Z28;omega)],hS⟩
theorem Z5n (y m d:Int) (w) (hy:0<=y) (eH:y<=100000) (hm:1<=m) (eG:m<=12) (hd:0<=d) (dw:d<=100000) (h1:m - 3<0->1<=y):CC 263 #[Zk1 y m d] w λr w'=>r=.I (Z0c y m d)/\Stp [] w w':=by
 refine cW1 36 Tryz.func263 ?_;refine W ?_;refine Z0 (Zq rfl) rfl ?_;rintro _ w1 ⟨b,rfl,hb,ac,hS⟩;replace ac:Blk w1 b 132 [.I y,.I m,.I d]:=ac;refine W ?_;refine ZDr 7 [] [] [(0,0),(1,1),(2,0),(3,1),(4,0),(5,0),(6,0)] (λw1 ae=>?_);replace ac:=ac.up ae;replace hS:=hS.trans ae;clear ae;refine D ?_
 (refine QP ?_ ?_<;>intro hc)
 all_goals refine WR ?_
 all_goals refine .mk ⟨?_,hS⟩
 all_goals unfold Z0c
 rw [if_pos (by assumption)];congr 1;dsimp only;omega;rw [if_neg (by assumption)]
theorem Z8j (y m d:Int) (w) (hL:Z0z w):CC 304 #[Zk1 y m d] w λr w'=>r=.tuple #[.I (if Z28 y m d then 0 else Z0c y m d),.I (if Z28 y m d then 5 else 0)]/\Stp [] w w':=by
 refine cW1 12 Tryz.func304 ?_;refine W ?_;refine Z0 (Zq rfl) rfl ?_;rintro _ w1 ⟨b,rfl,hb,ac,hS⟩;replace ac:Blk w1 b 132 [.I y,.I m,.I d]:=ac;replace hL:=hL.up hS;refine W ?_;refine CL (Zek y m d _ hL) ?_;rintro _ w2 ⟨rfl,hT⟩;replace ac:=ac.up hT;replace hS:=hS.trans hT;clear hT;by_cases fX:Z28 y m d;rw [if_pos fX,if_pos fX];refine RT ?_;exact ⟨rfl,hS⟩;rw [if_neg fX,if_neg fX];refine W ?_;have qw:=Z1l y m;unfold Z28 at fX;refine CM (ZN rfl) (Z5n y m d _ (by omega) (by omega) (by omega) (by omega) (by omega) (by omega) (by omega)) ?_;rintro _ w3 ⟨rfl,hT⟩;refine RT ?_;exact ⟨rfl,hS.trans hT⟩
end Go.Proofs.YtipfkbkkndacjaaGreatDoor
namespace Go.Eng
open Go Go.RowKit Go.Proofs
def Z5o (s:Str):Int:=s.foldl (λn c=>10 * n+(c.toNat:Int) - 48) 0
theorem Z8k (a:Str) (c:UInt8):Z5o (a++[c])=10 * Z5o a+(c.toNat:Int) - 48:=by simp [Z5o,Yax]
theorem Z8l {s:Str} (h:s.all ZO=true):Z5o s=(Z0u s:Int):=by
 have key:∀ (s:Str) (z:Int) (n:Nat),z=(n:Int)->s.all ZO=true->s.foldl (λn c=>10 * n+(c.toNat:Int) - 48) z=((s.foldl (λn c=>10 * n+(c.toNat - 48)) n:Nat):Int):=by
  intro s
  induction s with
  | nil=>intro z n hz _;exact hz
  | cons c r ih=>
    intro z n hz h;simp only [YaT,Xl] at h;have hc:48<=c.toNat/\c.toNat<=57:=by simpa [ZO] using h.1
    exact ih _ _ (by dsimp only;omega) h.2
 exact key s 0 0 rfl h
def Zgu:Nat->Int
 | 0=>0
 | k+1=>10 * Zgu k+300
theorem Zcs:∀ (k:Nat) (s:Str),s.length=k->-Zgu k<=Z5o s/\Z5o s<=Zgu k
 | 0, s, h => by
   have:s=[]:=Xy.1 h;subst this;simp [Z5o,Zgu]
 | k + 1, s, h => by
   have aS:s≠[]:=by rintro rfl;simp at h
   obtain ⟨a,c,rfl⟩:∃ a c,s=a++[c]:=⟨s.dropLast,s.getLast aS,(List.dropLast_concat_getLast aS).symm⟩
   have ih:=Zcs k a (by simpa using h);have hc:=c.toNat_lt;rw [Z8k];simp only [Zgu];omega
theorem Zne {k:Nat} (h:k<=4):Zgu k<=400000:=by
 have:k=0\/k=1\/k=2\/k=3\/k=4:=by omega
 rcases this with rfl|rfl|rfl|rfl|rfl<;>decide
end Go.Eng
namespace Go.Proofs.YtipfkbkkndacjaaGreatDoor
open Go Go.Eng Go.RowKit Go.Proofs
theorem Z8m (s:Str) (f u bs be:Nat) (e0:Int) (w) (vg:f<=u) (hu:u<=s.length) (h4:u<=f+4) (aS:bs≠be) (hs:Blk w bs 9 [str s]) (he:Blk w be 92 [.I e0]) :
 CC 326 #[.I (f:Int),.I (u:Int),pQ bs,pQ be] w
  λr w'=>r=.I (Z5o ((s.take u).drop f))/\Blk w' bs 9 [str s]/\Blk w' be 92 [.I (if ((s.take u).drop f).all ZO then e0 else 7)]/\Stp [be] w w':=by
 refine cW4 34 Tryz.func326 ?_;refine W ?_;refine Z5z rfl rfl rfl rfl rfl vg hu rfl ?_;have ai:((s.take u).drop f).length=u - f:=by simp;omega
 generalize (s.take u).drop f=t at *;refine Z0 (Zcr rfl (by omega)) rfl ?_;rintro bv w1 ⟨hb,hS⟩;have oZ:be<w.heap.size:=he.lt;have an:=hb [be] (by simpa using oZ);clear hb;replace hs:=hs.up hS;replace he:=he.up hS;replace hS:=hS.mono (S':=[be]) (by simp);refine W ?_
 refine Zt (σ:=Nat) (λq=>[(2,pQ bs),(3,pQ be),(7,.I (Z5o (t.take q))),(14,bv),(15,.I (t.length:Int)),(16,.I (q:Int))])
  (λq w'=>q<=t.length/\SlV [be] w' bv t/\Blk w' bs 9 [str s]/\Blk w' be 92 [.I (if (t.take q).all ZO then e0 else 7)]/\Stp [be] w w')
  (λq=>t.length - q) 0 ⟨rfl,rfl,rfl,rfl,rfl,rfl,trivial⟩ ⟨Xp _,an,hs,he,hS⟩ ?_
 clear an hs he hS;rintro q w2 ⟨hq,an,hs,he,hS⟩;have mm:=Zcs q (t.take q) (by simp;omega);have bz:=Zne (k:=q) (by omega);by_cases hlt:q<t.length;have fJ:t.take (q+1)=t.take q++[t[q]]:=(List.take_append_getElem hlt).symm;have hc:=(t[q]).toNat_lt;have jj:ZO t[q]=true↔48<=(t[q]).toNat/\(t[q]).toNat<=57:=by simp [ZO]
 have fin:∀ w3,SlV [be] w3 bv t->Blk w3 bs 9 [str s]->Blk w3 be 92 [.I (if ZO t[q]=true then (if (t.take q).all ZO then e0 else 7) else 7)]->Stp [be] w w3->
  (q+1<=t.length/\SlV [be] w3 bv t/\Blk w3 bs 9 [str s]/\Blk w3 be 92 [.I (if (t.take (q+1)).all ZO then e0 else 7)]/\Stp [be] w w3):=by
  intro w3 h1 h2 h3 h4;refine ⟨hlt,h1,h2,?_,h4⟩;rw [fJ];have:((t.take q++[t[q]]).all ZO)=((t.take q).all ZO && ZO t[q]):=by rw [YbH];simp only [YaT,List.all_nil,Ya3]
  rw [this];by_cases hd:ZO t[q]=true;rw [if_pos hd] at h3;rw [hd,Ya3];exact h3;rw [if_neg hd] at h3;rw [Bool.not_eq_true] at hd;rw [hd,YbJ];exact h3
 by_cases hd:ZO t[q]=true;have o0:=jj.1 hd;refine QO ?_;refine Z8 (Z4A (b:=((t[q]).toNat:Int)) rfl (Z0e (by unfold I64;omega))) rfl ?_;refine W ?_;refine Zs (q+1) ⟨rfl,rfl,?_,rfl,rfl,rfl,trivial⟩ (fin _ an hs (by rw [if_pos hd];exact he) hS) (by omega);rw [fJ,Z8k];rfl
 . have o0:(t[q]).toNat<48\/57<(t[q]).toNat:=by
    rcases YaC (t[q]).toNat 48 with h|h
    exact .inl h;rcases YaC 57 (t[q]).toNat with h'|h'
    exact .inr h';exact absurd (jj.2 ⟨h,h'⟩) hd
   repeat'(first|refine W1 ?_|omega|refine VG ?_ ?_<;>intro hg|refine VC ?_ ?_<;>intro hc)
   all_goals
    refine SB (us:=[.I 7]) (by simp;rfl) he ?_;rintro _ w3 ⟨hT,vh⟩;refine W ?_;refine Z8 (Z4A (b:=((t[q]).toNat:Int)) rfl (Z0e (by unfold I64;omega))) rfl ?_;refine W ?_;refine Zs (q+1) ⟨rfl,rfl,?_,rfl,rfl,rfl,trivial⟩ (fin _ (an.ext hT (λ_ h=>h) (λ_ h=>.inl h)) (hs.ext hT (by simpa using aS)) (by rw [if_neg hd];exact vh) (hS.trans hT)) (by omega);rw [fJ,Z8k];rfl
 have:q=t.length:=by omega
 subst this;rw [Xo] at *;refine RT ?_;exact ⟨rfl,hs,he,hS⟩
theorem Z5M (y m d:Int) (w):(Instr.build 132 #[(0,.I y),(1,.I m),(2,.I d)]).run Tryz.prog w=.ok (Zk1 y m d) w:=by kernel_rfl
theorem Zel (s:Str) (w) (hL:Z0z w) (hl:s.length=10):CC 277 #[str s] w λr w'=>r=.tuple #[.I (Z1k s).1,.I (Z1k s).2]/\Stp [] w w':=by
 have h5:3<w.heap.size:=by have:=block_lt_of_cell (hL 0 0 rfl);simpa using this
 refine cW1 35 Tryz.func277 ?_;refine W ?_;refine Z0 (Zq rfl) rfl ?_;rintro _ w1 ⟨bs,rfl,dK,es,hS⟩;replace es:Blk w1 bs 9 [str s]:=es;replace hL:=hL.up hS;have b45:∀ i,i<10->(Jg s i=45↔s.getD i 0=45):=λi hi=>by
  unfold Jg;constructor;intro h;have pb:(45:UInt8).toNat=45:=rfl;have:(s.getD i 0).toNat=(45:UInt8).toNat:=by omega
  exact UInt8.toNat_inj.1 this;intro h;rw [h];rfl
 by_cases pb:Jg s 4=45/\Jg s 7=45;obtain ⟨h4,h7⟩:=pb;refine QO ?_;refine J9 (i:=4) rfl rfl rfl (by omega) rfl ?_;refine QO ?_;refine J9 (i:=7) rfl rfl rfl (by omega) rfl ?_;refine QO ?_;refine Z0 Z2 rfl ?_;rintro _ w2 ⟨be,rfl,lZ,ee,hT⟩;have nbe:bs≠be:=by have:=es.lt;omega
 replace es:=es.up hT;refine SB (us:=[.I 0]) (by simp;rfl) ee ?_;rintro _ w3 ⟨ar,ee'⟩;have vi:w.heap.size<=be:=Xh hS.size lZ;replace es:=es.ext ar (by simpa using nbe);replace hT:=hT.ow ar;replace hL:=hL.up hT;replace hS:=hS.trans hT;clear hT ar ee lZ;refine W ?_;refine Z0 (Z0l rfl (Zf rfl rfl) rfl (Z8m s 0 4 bs be 0 _ (by omega) (by omega) (by omega) nbe es ee')) rfl ?_;rintro _ w4 ⟨rfl,es4,ee4,hT⟩;replace hL:=hL.ext hT (by simp only [Xk];omega);replace hS:=hS.ow hT;clear hT;refine W ?_;refine Z0 (Z0l rfl (Zf rfl rfl) rfl (Z8m s 5 7 bs be _ _ (by omega) (by omega) (by omega) nbe es4 ee4)) rfl ?_;rintro _ w5 ⟨rfl,es5,ee5,hT⟩;replace hL:=hL.ext hT (by simp only [Xk];omega);replace hS:=hS.ow hT;clear hT es4 ee4;refine W ?_;refine Z0 (Z0l rfl (Zf rfl rfl) rfl (Z8m s 8 10 bs be _ _ (by omega) (by omega) (by omega) nbe es5 ee5)) rfl ?_;rintro _ w6 ⟨rfl,es6,ee6,hT⟩;replace hL:=hL.ext hT (by simp only [Xk];omega);replace hS:=hS.ow hT;clear hT es5 ee5;have e0:(s.take 4).drop 0=s.take 4:=rfl;have e1:(s.take 7).drop 5=(s.drop 5).take 2:=by rw [Ybs]
 have e2:(s.take 10).drop 8=s.drop 8:=by rw [XJ (by omega)]
 rw [e0,e1,e2] at ee6;rw [e0,e1,e2];refine Z7 (vs:=[(0,.I (Z5o (s.take 4))),(1,.I (Z5o ((s.drop 5).take 2))),(2,.I (Z5o (s.drop 8)))]) rfl (Z5M _ _ _) rfl ?_;refine Z0 Z2 rfl ?_;rintro _ w7 ⟨bd,rfl,ko,ed,hT⟩;have nbd:be≠bd:=by have:=ee6.lt;omega
 replace ee6:=ee6.up hT;refine Z5 (Zm (us:=[.I (Z5o (s.take 4)),.I (Z5o ((s.drop 5).take 2)),.I (Z5o (s.drop 8))]) rfl rfl rfl rfl (by intro c hc;simp at hc;rcases hc with rfl|rfl|rfl<;>rfl) ed rfl) ?_;rintro _ w8 ⟨ar,ed'⟩;replace ee6:=ee6.ext ar (by simpa using nbd);replace hT:=hT.ow ar;replace hL:=hL.up hT;replace hS:=hS.trans hT;clear hT ar ed ko es6;by_cases aB:(s.take 4).all ZO=true/\((s.drop 5).take 2).all ZO=true/\(s.drop 8).all ZO=true;obtain ⟨a1,a2,a3⟩:=aB;have hP:Z1k s=(let y:Int:=Z0u (s.take 4);let m:Int:=Z0u ((s.drop 5).take 2);let d:Int:=Z0u (s.drop 8);if Z28 y m d then (0,5) else (Z0c y m d,0)):=by
  unfold Z1k;rw [if_pos ⟨hl,(b45 4 (by omega)).1 h4,(b45 7 (by omega)).1 h7,a1,a2,a3⟩];rfl
 rw [if_pos a1,if_pos a2,if_pos a3] at ee6;rw [Z8l a1,Z8l a2,Z8l a3] at ed';refine W ?_;refine CL (Z8j _ _ _ _ hL) ?_;rintro _ w9 ⟨rfl,hT⟩;replace hS:=hS.trans hT;refine W ?_;refine WR ?_;refine .mk ⟨?_,hS⟩;rw [hP];dsimp only;split<;>rfl
 have hP:Z1k s=(0,7):=by
  unfold Z1k;rw [if_neg (λh=>aB h.2.2.2)]
 have hE:(if (s.drop 8).all ZO=true then (if ((s.drop 5).take 2).all ZO=true then (if (s.take 4).all ZO=true then (0:Int) else 7) else 7) else 7)=7:=by
  by_cases g3:(s.drop 8).all ZO=true;rw [if_pos g3];by_cases g2:((s.drop 5).take 2).all ZO=true;rw [if_pos g2];by_cases g1:(s.take 4).all ZO=true;exact absurd ⟨g1,g2,g3⟩ aB;rw [if_neg g1];rw [if_neg g2];rw [if_neg g3]
 rw [hE] at ee6;refine W ?_;refine ZDr 3 [] [] [(0,1),(1,0),(2,0)] (λw1 ae=>?_);replace ee6:=ee6.up ae;replace hS:=hS.trans ae;refine D ?_;refine W ?_;refine WR ?_;rw [hP];exact .mk ⟨rfl,hS⟩;have hP:Z1k s=(0,7):=by
  unfold Z1k;rw [if_neg (λh=>pb ⟨(b45 4 (by omega)).2 h.2.1,(b45 7 (by omega)).2 h.2.2.1⟩)]
 by_cases h4:Jg s 4=45;have h7:¬ Jg s 7=45:=λh=>pb ⟨h4,h⟩;refine QO ?_;refine J9 (i:=4) rfl rfl rfl (by omega) rfl ?_;refine QO ?_;refine J9 (i:=7) rfl rfl rfl (by omega) rfl ?_;refine QO ?_;refine WR ?_;rw [hP];exact .mk ⟨rfl,hS⟩;refine QO ?_;refine J9 (i:=4) rfl rfl rfl (by omega) rfl ?_;refine QO ?_;refine WR ?_;rw [hP];exact .mk ⟨rfl,hS⟩
end Go.Proofs.YtipfkbkkndacjaaGreatDoor
namespace Go.Proofs
theorem fxT {P:Go.Program} {f:Nat} {a b:Go.Func} (h:P.funcs[f]?=some a) (e:a=b:=by kernel_rfl):P.funcs[f]?=some b:=h.trans (congrArg some e)
open Go.Shelf
def Tryz.lays119_ren:Go.Shelf.Ren:=⟨fun|119=>321|n=>n,fun|21=>21|4=>4|n=>n,fun|n=>n⟩
theorem Tryz.lays119:Go.Proofs.Lays.n119 Tryz.prog Tryz.lays119_ren:={
 mixed:=by kernel_rfl
 f119:=fxT Tryz.func321
 t4:=Tryz.underlying4
 a4:=Tryz.isAgg4
 z4:=Tryz.sizeOf4
 v4:=Tryz.zeroValue4
 t21:=Tryz.underlying21
 a21:=Tryz.isAgg21
 z21:=Tryz.sizeOf21
 v21:=Tryz.zeroValue21 }
theorem Tryz.utf8_ValidRune (r:Int) (w:World) :
 Calls Tryz.prog 321 #[.int .i32 r] w λe w'=>e=.returned (.bool (Lib.validRune r))/\w'=w:=Any.utf8_ValidRune Tryz.lays119 r w
def Tryz.lays137_ren:Go.Shelf.Ren:=⟨fun|137=>273|217=>320|266=>348|n=>n,fun|9=>9|5=>5|3=>3|n=>n,fun|n=>n⟩
theorem Tryz.lays137:Go.Proofs.Lays.n137 Tryz.prog Tryz.lays137_ren:={
 mixed:=by kernel_rfl
 f137:=fxT Tryz.func273
 f217:=fxT Tryz.func320
 f266:=fxT Tryz.func348
 t3:=Tryz.underlying3
 a3:=Tryz.isAgg3
 z3:=Tryz.sizeOf3
 v3:=Tryz.zeroValue3
 t5:=Tryz.underlying5
 a5:=Tryz.isAgg5
 z5:=Tryz.sizeOf5
 v5:=Tryz.zeroValue5
 t9:=Tryz.underlying9
 a9:=Tryz.isAgg9
 z9:=Tryz.sizeOf9
 v9:=Tryz.zeroValue9 }
open Go.RowKit in
theorem Tryz.strings_IndexByte (s:ByteArray) (c:Int) (w:World) :
 Calls Tryz.prog 273 #[.string s,.int .u8 c] w λe w'=>e=.returned (.int .i64 (Lib.indexByte s.data.toList c.toNat.toUInt8))/\w'=w:=Any.strings_IndexByte Tryz.lays137 s c w
def Tryz.lays215_ren:Go.Shelf.Ren:=⟨fun|215=>125|n=>n,fun|3=>3|4=>4|n=>n,fun|n=>n⟩
def Tryz.lays122_ren:Go.Shelf.Ren:=⟨fun|122=>75|215=>125|n=>n,fun|3=>3|4=>4|n=>n,fun|n=>n⟩
theorem Tryz.lays122:Go.Proofs.Lays.n122 Tryz.prog Tryz.lays122_ren:={
 mixed:=by kernel_rfl
 f122:=fxT Tryz.func75
 f215:=fxT Tryz.func125
 t3:=Tryz.underlying3
 a3:=Tryz.isAgg3
 z3:=Tryz.sizeOf3
 v3:=Tryz.zeroValue3
 t4:=Tryz.underlying4
 a4:=Tryz.isAgg4
 z4:=Tryz.sizeOf4
 v4:=Tryz.zeroValue4 }
open Go.RowKit in
theorem Tryz.cmp_Compare_int (x y:Int) (w:World) :
 Calls Tryz.prog 75 #[.int .i64 x,.int .i64 y] w λe w'=>e=.returned (.int .i64 (Lib.compareInt x y))/\w'=w:=Any.cmp_Compare_int Tryz.lays122 x y w
def Tryz.lays172_ren:Go.Shelf.Ren:=⟨fun|172=>276|244=>324|245=>325|247=>349|279=>350|280=>351|281=>352|282=>353|287=>362|316=>363|171=>62|205=>364|321=>368|322=>369|243=>94|246=>172|283=>235|284=>236|285=>237|286=>238|129=>124|317=>291|318=>292|319=>293|320=>294|337=>331|338=>332|n=>n,fun|9=>9|3=>3|75=>197|76=>198|4=>4|5=>5|167=>389|37=>192|0=>0|85=>390|2=>2|168=>392|53=>222|175=>401|46=>157|210=>405|127=>251|145=>412|143=>410|21=>21|171=>301|173=>303|212=>360|51=>220|20=>20|213=>361|232=>395|233=>396|80=>200|n=>n,fun|15=>7|16=>8|17=>1|18=>5|19=>6|n=>n⟩
def Tryz.laysM246_ren:Go.Shelf.Ren:=⟨fun|246=>172|283=>235|284=>236|285=>237|286=>238|129=>124|317=>291|318=>292|319=>293|320=>294|337=>331|338=>332|n=>n,fun|2=>2|3=>3|9=>9|4=>4|171=>301|0=>0|53=>222|37=>192|5=>5|173=>303|212=>360|51=>220|20=>20|213=>361|46=>157|232=>395|233=>396|n=>n,fun|17=>1|18=>5|19=>6|n=>n⟩
def Tryz.laysM243_ren:Go.Shelf.Ren:=⟨fun|243=>94|246=>172|283=>235|284=>236|285=>237|286=>238|129=>124|317=>291|318=>292|319=>293|320=>294|337=>331|338=>332|n=>n,fun|3=>3|9=>9|2=>2|4=>4|171=>301|0=>0|53=>222|37=>192|5=>5|173=>303|212=>360|51=>220|20=>20|213=>361|46=>157|232=>395|233=>396|n=>n,fun|17=>1|18=>5|19=>6|n=>n⟩
def Tryz.laysM171_ren:Go.Shelf.Ren:=⟨fun|171=>62|243=>94|246=>172|283=>235|284=>236|285=>237|286=>238|129=>124|317=>291|318=>292|319=>293|320=>294|337=>331|338=>332|n=>n,fun|3=>3|9=>9|2=>2|4=>4|171=>301|0=>0|53=>222|37=>192|5=>5|173=>303|212=>360|51=>220|20=>20|213=>361|46=>157|232=>395|233=>396|n=>n,fun|17=>1|18=>5|19=>6|n=>n⟩
theorem Tryz.laysM171:Go.Proofs.LaysM.n171 Tryz.prog Tryz.laysM171_ren:={
 mixed:=by kernel_rfl
 f129:=fxT Tryz.func124
 f171:=fxT Tryz.func62
 f243:=fxT Tryz.func94
 f246:=fxT Tryz.func172
 f283:=fxT Tryz.func235
 f284:=fxT Tryz.func236
 f285:=fxT Tryz.func237
 f286:=fxT Tryz.func238
 f317:=fxT Tryz.func291
 f318:=fxT Tryz.func292
 f319:=fxT Tryz.func293
 f320:=fxT Tryz.func294
 f337:=fxT Tryz.func331
 f338:=fxT Tryz.func332
 t0:=Tryz.underlying0
 a0:=Tryz.isAgg0
 z0:=Tryz.sizeOf0
 v0:=Tryz.zeroValue0
 t2:=Tryz.underlying2
 a2:=Tryz.isAgg2
 z2:=Tryz.sizeOf2
 v2:=Tryz.zeroValue2
 t3:=Tryz.underlying3
 a3:=Tryz.isAgg3
 z3:=Tryz.sizeOf3
 v3:=Tryz.zeroValue3
 t4:=Tryz.underlying4
 a4:=Tryz.isAgg4
 z4:=Tryz.sizeOf4
 v4:=Tryz.zeroValue4
 t5:=Tryz.underlying5
 a5:=Tryz.isAgg5
 z5:=Tryz.sizeOf5
 v5:=Tryz.zeroValue5
 t9:=Tryz.underlying9
 a9:=Tryz.isAgg9
 z9:=Tryz.sizeOf9
 v9:=Tryz.zeroValue9
 t20:=Tryz.underlying20
 a20:=Tryz.isAgg20
 z20:=Tryz.sizeOf20
 v20:=Tryz.zeroValue20
 t37:=Tryz.underlying192
 a37:=Tryz.isAgg192
 z37:=Tryz.sizeOf192
 v37:=Tryz.zeroValue192
 t46:=Tryz.underlying157
 a46:=Tryz.isAgg157
 z46:=Tryz.sizeOf157
 v46:=Tryz.zeroValue157
 t51:=Tryz.underlying220
 a51:=Tryz.isAgg220
 z51:=Tryz.sizeOf220
 v51:=Tryz.zeroValue220
 t53:=Tryz.underlying222
 a53:=Tryz.isAgg222
 z53:=Tryz.sizeOf222
 v53:=Tryz.zeroValue222
 t171:=Tryz.underlying301
 a171:=Tryz.isAgg301
 z171:=Tryz.sizeOf301
 v171:=Tryz.zeroValue301
 t173:=Tryz.underlying303
 a173:=Tryz.isAgg303
 z173:=Tryz.sizeOf303
 v173:=Tryz.zeroValue303
 t212:=Tryz.underlying360
 a212:=Tryz.isAgg360
 z212:=Tryz.sizeOf360
 v212:=Tryz.zeroValue360
 t213:=Tryz.underlying361
 a213:=Tryz.isAgg361
 z213:=Tryz.sizeOf361
 t232:=Tryz.underlying395
 a232:=Tryz.isAgg395
 z232:=Tryz.sizeOf395
 v232:=Tryz.zeroValue395
 t233:=Tryz.underlying396
 a233:=Tryz.isAgg396
 z233:=Tryz.sizeOf396
 v233:=Tryz.zeroValue396
 g17:=by kernel_rfl
 g18:=by kernel_rfl
 g19:=by kernel_rfl
 i0:=by kernel_rfl
 i2:=by kernel_rfl
 i3:=by kernel_rfl
 i4:=by kernel_rfl
 i5:=by kernel_rfl
 i9:=by kernel_rfl
 i20:=by kernel_rfl
 i37:=by kernel_rfl
 i46:=by kernel_rfl
 i51:=by kernel_rfl
 i53:=by kernel_rfl
 i171:=by kernel_rfl
 i173:=by kernel_rfl
 i212:=by kernel_rfl
 i232:=by kernel_rfl
 i233:=by kernel_rfl
 m17:=by kernel_rfl
 m18:=by kernel_rfl
 m19:=by kernel_rfl }
open Go.RowKit Go.Sort Go.Lib in
theorem Tryz.strconv_Itoa (n:Int) (h0:-9223372036854775808<=n) (h1:n<=9223372036854775807) (w:World) (la:Lib.TabIs Tryz.prog w "internal/strconv.uint64pow10" .u64 Lib.pow10Tab) :
 Calls Tryz.prog 62 #[.int .i64 n] w λe w'=>e=.returned (.string ⟨(Lib.itoa n).toArray⟩)/\∃ k os,w'=grow (w.drewN k) os:=Any.strconv_Itoa Tryz.laysM171 n h0 h1 w la
def Tryz.laysC172_ren:Go.Shelf.Ren:=⟨fun|172=>276|244=>324|245=>325|247=>349|279=>350|280=>351|281=>352|282=>353|287=>362|316=>363|171=>62|205=>364|321=>368|322=>369|243=>94|246=>172|283=>235|284=>236|285=>237|286=>238|129=>124|317=>291|318=>292|319=>293|320=>294|337=>331|338=>332|n=>n,fun|9=>9|3=>3|75=>197|76=>198|4=>4|5=>5|167=>389|37=>192|0=>0|85=>390|2=>2|168=>392|53=>222|175=>401|46=>157|210=>405|127=>251|145=>412|143=>410|21=>21|171=>301|173=>303|212=>360|51=>220|20=>20|213=>361|232=>395|233=>396|80=>200|n=>n,fun|15=>7|16=>8|17=>1|18=>5|19=>6|n=>n⟩
theorem Tryz.laysC172:Go.Proofs.LaysC.n172 Tryz.prog Tryz.laysC172_ren:={
 mixed:=by kernel_rfl
 f129:=fxT Tryz.func124
 f171:=fxT Tryz.func62
 f172:=fxT Tryz.func276
 f205:=fxT Tryz.func364
 f243:=fxT Tryz.func94
 f244:=fxT Tryz.func324
 f245:=fxT Tryz.func325
 f246:=fxT Tryz.func172
 f247:=fxT Tryz.func349
 f279:=fxT Tryz.func350
 f280:=fxT Tryz.func351
 f281:=fxT Tryz.func352
 f282:=fxT Tryz.func353
 f283:=fxT Tryz.func235
 f284:=fxT Tryz.func236
 f285:=fxT Tryz.func237
 f286:=fxT Tryz.func238
 f287:=fxT Tryz.func362
 f316:=fxT Tryz.func363
 f317:=fxT Tryz.func291
 f318:=fxT Tryz.func292
 f319:=fxT Tryz.func293
 f320:=fxT Tryz.func294
 f321:=fxT Tryz.func368
 f322:=fxT Tryz.func369
 f337:=fxT Tryz.func331
 f338:=fxT Tryz.func332
 t0:=Tryz.underlying0
 a0:=Tryz.isAgg0
 z0:=Tryz.sizeOf0
 v0:=Tryz.zeroValue0
 t2:=Tryz.underlying2
 a2:=Tryz.isAgg2
 z2:=Tryz.sizeOf2
 v2:=Tryz.zeroValue2
 t3:=Tryz.underlying3
 a3:=Tryz.isAgg3
 z3:=Tryz.sizeOf3
 v3:=Tryz.zeroValue3
 t4:=Tryz.underlying4
 a4:=Tryz.isAgg4
 z4:=Tryz.sizeOf4
 v4:=Tryz.zeroValue4
 t5:=Tryz.underlying5
 a5:=Tryz.isAgg5
 z5:=Tryz.sizeOf5
 v5:=Tryz.zeroValue5
 t9:=Tryz.underlying9
 a9:=Tryz.isAgg9
 z9:=Tryz.sizeOf9
 v9:=Tryz.zeroValue9
 t20:=Tryz.underlying20
 a20:=Tryz.isAgg20
 z20:=Tryz.sizeOf20
 v20:=Tryz.zeroValue20
 t21:=Tryz.underlying21
 a21:=Tryz.isAgg21
 z21:=Tryz.sizeOf21
 v21:=Tryz.zeroValue21
 t37:=Tryz.underlying192
 a37:=Tryz.isAgg192
 z37:=Tryz.sizeOf192
 v37:=Tryz.zeroValue192
 t46:=Tryz.underlying157
 a46:=Tryz.isAgg157
 z46:=Tryz.sizeOf157
 v46:=Tryz.zeroValue157
 t51:=Tryz.underlying220
 a51:=Tryz.isAgg220
 z51:=Tryz.sizeOf220
 v51:=Tryz.zeroValue220
 t53:=Tryz.underlying222
 a53:=Tryz.isAgg222
 z53:=Tryz.sizeOf222
 v53:=Tryz.zeroValue222
 t75:=Tryz.underlying197
 a75:=Tryz.isAgg197
 z75:=Tryz.sizeOf197
 v75:=Tryz.zeroValue197
 t76:=Tryz.underlying198
 a76:=Tryz.isAgg198
 z76:=Tryz.sizeOf198
 v76:=Tryz.zeroValue198
 t85:=Tryz.underlying390
 a85:=Tryz.isAgg390
 z85:=Tryz.sizeOf390
 v85:=Tryz.zeroValue390
 t127:=Tryz.underlying251
 a127:=Tryz.isAgg251
 z127:=Tryz.sizeOf251
 v127:=Tryz.zeroValue251
 t143:=Tryz.underlying410
 a143:=Tryz.isAgg410
 z143:=Tryz.sizeOf410
 v143:=Tryz.zeroValue410
 t145:=Tryz.underlying412
 a145:=Tryz.isAgg412
 z145:=Tryz.sizeOf412
 v145:=Tryz.zeroValue412
 t167:=Tryz.underlying389
 a167:=Tryz.isAgg389
 z167:=Tryz.sizeOf389
 v167:=Tryz.zeroValue389
 t168:=Tryz.underlying392
 a168:=Tryz.isAgg392
 z168:=Tryz.sizeOf392
 v168:=Tryz.zeroValue392
 t171:=Tryz.underlying301
 a171:=Tryz.isAgg301
 z171:=Tryz.sizeOf301
 v171:=Tryz.zeroValue301
 t173:=Tryz.underlying303
 a173:=Tryz.isAgg303
 z173:=Tryz.sizeOf303
 v173:=Tryz.zeroValue303
 t175:=Tryz.underlying401
 a175:=Tryz.isAgg401
 z175:=Tryz.sizeOf401
 v175:=Tryz.zeroValue401
 t210:=Tryz.underlying405
 a210:=Tryz.isAgg405
 z210:=Tryz.sizeOf405
 v210:=Tryz.zeroValue405
 t212:=Tryz.underlying360
 a212:=Tryz.isAgg360
 z212:=Tryz.sizeOf360
 v212:=Tryz.zeroValue360
 t213:=Tryz.underlying361
 a213:=Tryz.isAgg361
 z213:=Tryz.sizeOf361
 t232:=Tryz.underlying395
 a232:=Tryz.isAgg395
 z232:=Tryz.sizeOf395
 v232:=Tryz.zeroValue395
 t233:=Tryz.underlying396
 a233:=Tryz.isAgg396
 z233:=Tryz.sizeOf396
 v233:=Tryz.zeroValue396
 g15:=by kernel_rfl
 g16:=by kernel_rfl
 g17:=by kernel_rfl
 g18:=by kernel_rfl
 g19:=by kernel_rfl
 t80:=Tryz.underlying200
 a80:=Tryz.isAgg200
 z80:=Tryz.sizeOf200
 v80:=Tryz.zeroValue200
 i0:=by kernel_rfl
 i2:=by kernel_rfl
 i3:=by kernel_rfl
 i4:=by kernel_rfl
 i5:=by kernel_rfl
 i9:=by kernel_rfl
 i20:=by kernel_rfl
 i21:=by kernel_rfl
 i37:=by kernel_rfl
 i46:=by kernel_rfl
 i51:=by kernel_rfl
 i53:=by kernel_rfl
 i75:=by kernel_rfl
 i76:=by kernel_rfl
 i80:=by kernel_rfl
 i85:=by kernel_rfl
 i127:=by kernel_rfl
 i143:=by kernel_rfl
 i145:=by kernel_rfl
 i167:=by kernel_rfl
 i168:=by kernel_rfl
 i171:=by kernel_rfl
 i173:=by kernel_rfl
 i175:=by kernel_rfl
 i210:=by kernel_rfl
 i212:=by kernel_rfl
 i232:=by kernel_rfl
 i233:=by kernel_rfl
 m15:=by kernel_rfl
 m16:=by kernel_rfl
 m17:=by kernel_rfl
 m18:=by kernel_rfl
 m19:=by kernel_rfl
 c0:=by kernel_rfl
 c2:=by kernel_rfl
 c3:=by kernel_rfl
 c4:=by kernel_rfl
 c5:=by kernel_rfl
 c9:=by kernel_rfl
 c20:=by kernel_rfl
 c21:=by kernel_rfl
 c37:=by kernel_rfl
 c46:=by kernel_rfl
 c51:=by kernel_rfl
 c53:=by kernel_rfl
 c75:=by kernel_rfl
 c76:=by kernel_rfl
 c80:=by kernel_rfl
 c85:=by kernel_rfl
 c127:=by kernel_rfl
 c143:=by kernel_rfl
 c145:=by kernel_rfl
 c167:=by kernel_rfl
 c168:=by kernel_rfl
 c171:=by kernel_rfl
 c173:=by kernel_rfl
 c175:=by kernel_rfl
 c210:=by kernel_rfl
 c212:=by kernel_rfl
 c213:=by kernel_rfl
 c232:=by kernel_rfl
 c233:=by kernel_rfl }
open Go.RowKit in
theorem Tryz.strconv_Atoi_ok (s:ByteArray) (aU:s.size<=9223372036854775806) (v:Int) (h:Lib.atoiAll s.data.toList=.ok v) (w:World) :
 Calls Tryz.prog 276 #[.string s] w λe w'=>e=.returned (.tuple #[.int .i64 v,.nilIface])/\(w'=w\/∃ t,w'=Lib.bytesWorld w 5 t):=Any.strconv_Atoi_ok Tryz.laysC172 s aU v h w
open Go.RowKit in
theorem Tryz.strconv_Atoi_range (s:ByteArray) (qI:s.size<=281474976710656) (h:Lib.atoiAll s.data.toList=.range) (ev:Value) (w:World) (hv:w.cell? ⟨8,0,none⟩=some ev) (bD:ev=.nilIface\/∃ te pe,ev=.iface te pe) :
 Calls Tryz.prog 276 #[.string s] w λe w'=>∃ N,e=.returned (.tuple #[.int .i64 (Lib.atoiSat s.data.toList),.iface 392 (.pointer (some ⟨N,0,none⟩))])/\w.heap.size<=N/\w'.heap[N]?=some (.cells #[.string ⟨#[65,116,111,105]⟩,.string s,ev] 405 (0,0))/\Below w.heap.size w w':=Any.strconv_Atoi_range Tryz.laysC172 s qI h ev w hv bD
def Tryz.lays219_ren:Go.Shelf.Ren:=⟨fun|219=>330|217=>320|225=>323|224=>322|267=>355|266=>348|314=>365|n=>n,fun|9=>9|3=>3|4=>4|5=>5|46=>157|146=>247|51=>220|n=>n,fun|1=>2|n=>n⟩
def Tryz.lays144_ren:Go.Shelf.Ren:=⟨fun|144=>227|143=>281|219=>330|217=>320|225=>323|224=>322|267=>355|266=>348|314=>365|n=>n,fun|9=>9|4=>4|3=>3|5=>5|46=>157|146=>247|51=>220|n=>n,fun|1=>2|n=>n⟩
theorem Tryz.lays144:Go.Proofs.Lays.n144 Tryz.prog Tryz.lays144_ren:={
 mixed:=by kernel_rfl
 f143:=fxT Tryz.func281
 f144:=fxT Tryz.func227
 f217:=fxT Tryz.func320
 f219:=fxT Tryz.func330
 f224:=fxT Tryz.func322
 f225:=fxT Tryz.func323
 f266:=fxT Tryz.func348
 f267:=fxT Tryz.func355
 f314:=fxT Tryz.func365
 t3:=Tryz.underlying3
 a3:=Tryz.isAgg3
 z3:=Tryz.sizeOf3
 v3:=Tryz.zeroValue3
 t4:=Tryz.underlying4
 a4:=Tryz.isAgg4
 z4:=Tryz.sizeOf4
 v4:=Tryz.zeroValue4
 t5:=Tryz.underlying5
 a5:=Tryz.isAgg5
 z5:=Tryz.sizeOf5
 v5:=Tryz.zeroValue5
 t9:=Tryz.underlying9
 a9:=Tryz.isAgg9
 z9:=Tryz.sizeOf9
 v9:=Tryz.zeroValue9
 t46:=Tryz.underlying157
 a46:=Tryz.isAgg157
 z46:=Tryz.sizeOf157
 v46:=Tryz.zeroValue157
 t51:=Tryz.underlying220
 a51:=Tryz.isAgg220
 z51:=Tryz.sizeOf220
 v51:=Tryz.zeroValue220
 t146:=Tryz.underlying247
 a146:=Tryz.isAgg247
 z146:=Tryz.sizeOf247
 v146:=Tryz.zeroValue247
 g1:=by kernel_rfl }
open Go.RowKit Go.Lib in
theorem Tryz.strings_Contains (s sub:ByteArray) (m:Int) (w:World) (hs:s.size<4294967281) (hm:w.cell? ⟨2,0,none⟩=some (.int .i64 m)) :
 Calls Tryz.prog 227 #[.string s,.string sub] w λe w'=>e=.returned (.bool (Lib.contains s.data.toList sub.data.toList))/\w'=w:=Any.strings_Contains Tryz.lays144 s sub m w hs hm
def Tryz.laysM144_ren:Go.Shelf.Ren:=⟨fun|144=>227|143=>281|219=>330|217=>320|225=>323|224=>322|267=>355|266=>348|314=>365|n=>n,fun|9=>9|4=>4|3=>3|5=>5|46=>157|146=>247|51=>220|n=>n,fun|1=>2|n=>n⟩
theorem Tryz.laysM144:Go.Proofs.LaysM.n144 Tryz.prog Tryz.laysM144_ren:={
 mixed:=by kernel_rfl
 f143:=fxT Tryz.func281
 f144:=fxT Tryz.func227
 f217:=fxT Tryz.func320
 f219:=fxT Tryz.func330
 f224:=fxT Tryz.func322
 f225:=fxT Tryz.func323
 f266:=fxT Tryz.func348
 f267:=fxT Tryz.func355
 f314:=fxT Tryz.func365
 t3:=Tryz.underlying3
 a3:=Tryz.isAgg3
 z3:=Tryz.sizeOf3
 v3:=Tryz.zeroValue3
 t4:=Tryz.underlying4
 a4:=Tryz.isAgg4
 z4:=Tryz.sizeOf4
 v4:=Tryz.zeroValue4
 t5:=Tryz.underlying5
 a5:=Tryz.isAgg5
 z5:=Tryz.sizeOf5
 v5:=Tryz.zeroValue5
 t9:=Tryz.underlying9
 a9:=Tryz.isAgg9
 z9:=Tryz.sizeOf9
 v9:=Tryz.zeroValue9
 t46:=Tryz.underlying157
 a46:=Tryz.isAgg157
 z46:=Tryz.sizeOf157
 v46:=Tryz.zeroValue157
 t51:=Tryz.underlying220
 a51:=Tryz.isAgg220
 z51:=Tryz.sizeOf220
 v51:=Tryz.zeroValue220
 t146:=Tryz.underlying247
 a146:=Tryz.isAgg247
 z146:=Tryz.sizeOf247
 v146:=Tryz.zeroValue247
 g1:=by kernel_rfl
 i3:=by kernel_rfl
 i4:=by kernel_rfl
 i5:=by kernel_rfl
 i9:=by kernel_rfl
 i46:=by kernel_rfl
 i51:=by kernel_rfl
 i146:=by kernel_rfl
 m1:=by kernel_rfl
 s1_3:=λw h=>Go.Proofs.cell_of_shapedOpen_int (zero:=#[.int .i64 0]) (t:=3) h (of_decide_eq_true (by kernel_rfl)) (by kernel_rfl) rfl (by kernel_rfl) (by kernel_rfl) Tryz.underlying3 }
def Tryz.lays189_ren:Go.Shelf.Ren:=⟨fun|189=>259|125=>73|257=>313|128=>123|129=>124|294=>337|295=>338|296=>339|297=>340|298=>341|299=>342|216=>343|300=>344|301=>345|328=>357|329=>197|330=>198|331=>358|332=>359|215=>125|343=>366|n=>n,fun|28=>23|3=>3|46=>157|0=>0|51=>220|53=>222|4=>4|183=>214|182=>213|131=>57|5=>5|9=>9|218=>271|222=>275|228=>327|229=>283|n=>n,fun|n=>n⟩
theorem Tryz.lays189:Go.Proofs.Lays.n189 Tryz.prog Tryz.lays189_ren:={
 mixed:=by kernel_rfl
 f125:=fxT Tryz.func73
 f128:=fxT Tryz.func123
 f129:=fxT Tryz.func124
 f189:=fxT Tryz.func259
 f215:=fxT Tryz.func125
 f216:=fxT Tryz.func343
 f257:=fxT Tryz.func313
 f294:=fxT Tryz.func337
 f295:=fxT Tryz.func338
 f296:=fxT Tryz.func339
 f297:=fxT Tryz.func340
 f298:=fxT Tryz.func341
 f299:=fxT Tryz.func342
 f300:=fxT Tryz.func344
 f301:=fxT Tryz.func345
 f328:=fxT Tryz.func357
 f329:=fxT Tryz.func197
 f330:=fxT Tryz.func198
 f331:=fxT Tryz.func358
 f332:=fxT Tryz.func359
 f343:=fxT Tryz.func366
 t0:=Tryz.underlying0
 a0:=Tryz.isAgg0
 z0:=Tryz.sizeOf0
 v0:=Tryz.zeroValue0
 t3:=Tryz.underlying3
 a3:=Tryz.isAgg3
 z3:=Tryz.sizeOf3
 v3:=Tryz.zeroValue3
 t4:=Tryz.underlying4
 a4:=Tryz.isAgg4
 z4:=Tryz.sizeOf4
 v4:=Tryz.zeroValue4
 t5:=Tryz.underlying5
 a5:=Tryz.isAgg5
 z5:=Tryz.sizeOf5
 v5:=Tryz.zeroValue5
 t9:=Tryz.underlying9
 a9:=Tryz.isAgg9
 z9:=Tryz.sizeOf9
 v9:=Tryz.zeroValue9
 t28:=Tryz.underlying23
 a28:=Tryz.isAgg23
 z28:=Tryz.sizeOf23
 v28:=Tryz.zeroValue23
 t46:=Tryz.underlying157
 a46:=Tryz.isAgg157
 z46:=Tryz.sizeOf157
 v46:=Tryz.zeroValue157
 t51:=Tryz.underlying220
 a51:=Tryz.isAgg220
 z51:=Tryz.sizeOf220
 v51:=Tryz.zeroValue220
 t53:=Tryz.underlying222
 a53:=Tryz.isAgg222
 z53:=Tryz.sizeOf222
 v53:=Tryz.zeroValue222
 t131:=Tryz.underlying57
 a131:=Tryz.isAgg57
 z131:=Tryz.sizeOf57
 v131:=Tryz.zeroValue57
 t182:=Tryz.underlying213
 a182:=Tryz.isAgg213
 z182:=Tryz.sizeOf213
 v182:=Tryz.zeroValue213
 t183:=Tryz.underlying214
 a183:=Tryz.isAgg214
 z183:=Tryz.sizeOf214
 v183:=Tryz.zeroValue214
 t218:=Tryz.underlying271
 a218:=Tryz.isAgg271
 z218:=Tryz.sizeOf271
 v218:=Tryz.zeroValue271
 t222:=Tryz.underlying275
 a222:=Tryz.isAgg275
 z222:=Tryz.sizeOf275
 v222:=Tryz.zeroValue275
 t228:=Tryz.underlying327
 a228:=Tryz.isAgg327
 z228:=Tryz.sizeOf327
 v228:=Tryz.zeroValue327
 t229:=Tryz.underlying283
 a229:=Tryz.isAgg283
 z229:=Tryz.sizeOf283
 v229:=Tryz.zeroValue283 }
open Go.Sort Go.RowKit in
theorem Tryz.slices_Sort_int (blk off cap:Nat) (zs:List Int) (w:World) (hH:Holds (Value.int .i64) w blk off zs.toArray) (ac:blk<w.heap.size) (bH:zs.length<4611686018427387904) :
 Calls Tryz.prog 259 #[.slice (some ⟨blk,off,none⟩) zs.length cap] w λe w'=>
  e=.returned (.tuple #[])/\∃ n os,w'=grow (putRow (Value.int .i64) (Sort.ahead w n) blk off (zs.mergeSort λx y=>decide (x<=y)).toArray) os:=Any.slices_Sort_int Tryz.lays189 blk off cap zs w hH ac bH
def Tryz.lays206_ren:Go.Shelf.Ren:=⟨fun|206=>175|n=>n,fun|9=>9|4=>4|3=>3|n=>n,fun|n=>n⟩
def Tryz.lays99_ren:Go.Shelf.Ren:=⟨fun|99=>96|206=>175|n=>n,fun|9=>9|4=>4|3=>3|n=>n,fun|n=>n⟩
theorem Tryz.lays99:Go.Proofs.Lays.n99 Tryz.prog Tryz.lays99_ren:={
 mixed:=by kernel_rfl
 f99:=fxT Tryz.func96
 f206:=fxT Tryz.func175
 t3:=Tryz.underlying3
 a3:=Tryz.isAgg3
 z3:=Tryz.sizeOf3
 v3:=Tryz.zeroValue3
 t4:=Tryz.underlying4
 a4:=Tryz.isAgg4
 z4:=Tryz.sizeOf4
 v4:=Tryz.zeroValue4
 t9:=Tryz.underlying9
 a9:=Tryz.isAgg9
 z9:=Tryz.sizeOf9
 v9:=Tryz.zeroValue9 }
open Go.RowKit Go.Lib in
theorem Tryz.strings_HasPrefix (s p:ByteArray) (w:World) :
 Calls Tryz.prog 96 #[.string s,.string p] w λe w'=>e=.returned (.bool (Lib.hasPrefix s.data.toList p.data.toList))/\w'=w:=Any.strings_HasPrefix Tryz.lays99 s p w
def Tryz.lays151_ren:Go.Shelf.Ren:=⟨fun|151=>216|152=>274|137=>273|119=>321|224=>322|225=>323|217=>320|266=>348|n=>n,fun|9=>9|21=>21|4=>4|3=>3|5=>5|0=>0|46=>157|n=>n,fun|n=>n⟩
theorem Tryz.lays151:Go.Proofs.Lays.n151 Tryz.prog Tryz.lays151_ren:={
 mixed:=by kernel_rfl
 f119:=fxT Tryz.func321
 f137:=fxT Tryz.func273
 f151:=fxT Tryz.func216
 f152:=fxT Tryz.func274
 f217:=fxT Tryz.func320
 f224:=fxT Tryz.func322
 f225:=fxT Tryz.func323
 f266:=fxT Tryz.func348
 t0:=Tryz.underlying0
 a0:=Tryz.isAgg0
 z0:=Tryz.sizeOf0
 v0:=Tryz.zeroValue0
 t3:=Tryz.underlying3
 a3:=Tryz.isAgg3
 z3:=Tryz.sizeOf3
 v3:=Tryz.zeroValue3
 t4:=Tryz.underlying4
 a4:=Tryz.isAgg4
 z4:=Tryz.sizeOf4
 v4:=Tryz.zeroValue4
 t5:=Tryz.underlying5
 a5:=Tryz.isAgg5
 z5:=Tryz.sizeOf5
 v5:=Tryz.zeroValue5
 t9:=Tryz.underlying9
 a9:=Tryz.isAgg9
 z9:=Tryz.sizeOf9
 v9:=Tryz.zeroValue9
 t21:=Tryz.underlying21
 a21:=Tryz.isAgg21
 z21:=Tryz.sizeOf21
 v21:=Tryz.zeroValue21
 t46:=Tryz.underlying157
 a46:=Tryz.isAgg157
 z46:=Tryz.sizeOf157
 v46:=Tryz.zeroValue157 }
open Go.RowKit Go.Lib in
theorem Tryz.strings_ContainsRune_ascii (s:ByteArray) (r:Int) (w:World) (h0:0<=r) (h1:r<128) :
 Calls Tryz.prog 216 #[.string s,.int .i32 r] w λe w'=>e=.returned (.bool (decide (0<=Lib.indexByte s.data.toList r.toNat.toUInt8)))/\w'=w:=Any.strings_ContainsRune_ascii Tryz.lays151 s r w h0 h1
def Tryz.lays105_ren:Go.Shelf.Ren:=⟨fun|105=>63|212=>95|99=>96|165=>97|166=>98|170=>99|169=>100|263=>173|264=>174|206=>175|240=>176|241=>177|276=>239|277=>240|n=>n,fun|9=>9|3=>3|4=>4|20=>20|0=>0|46=>157|109=>188|5=>5|72=>194|76=>198|51=>220|146=>247|53=>222|148=>249|70=>191|37=>192|75=>197|127=>251|164=>305|80=>200|n=>n,fun|n=>n⟩
theorem Tryz.lays105:Go.Proofs.Lays.n105 Tryz.prog Tryz.lays105_ren:={
 mixed:=by kernel_rfl
 f99:=fxT Tryz.func96
 f105:=fxT Tryz.func63
 f165:=fxT Tryz.func97
 f166:=fxT Tryz.func98
 f169:=fxT Tryz.func100
 f170:=fxT Tryz.func99
 f206:=fxT Tryz.func175
 f212:=fxT Tryz.func95
 f240:=fxT Tryz.func176
 f241:=fxT Tryz.func177
 f263:=fxT Tryz.func173
 f264:=fxT Tryz.func174
 f276:=fxT Tryz.func239
 f277:=fxT Tryz.func240
 t0:=Tryz.underlying0
 a0:=Tryz.isAgg0
 z0:=Tryz.sizeOf0
 v0:=Tryz.zeroValue0
 t3:=Tryz.underlying3
 a3:=Tryz.isAgg3
 z3:=Tryz.sizeOf3
 v3:=Tryz.zeroValue3
 t4:=Tryz.underlying4
 a4:=Tryz.isAgg4
 z4:=Tryz.sizeOf4
 v4:=Tryz.zeroValue4
 t5:=Tryz.underlying5
 a5:=Tryz.isAgg5
 z5:=Tryz.sizeOf5
 v5:=Tryz.zeroValue5
 t9:=Tryz.underlying9
 a9:=Tryz.isAgg9
 z9:=Tryz.sizeOf9
 v9:=Tryz.zeroValue9
 t20:=Tryz.underlying20
 a20:=Tryz.isAgg20
 z20:=Tryz.sizeOf20
 v20:=Tryz.zeroValue20
 t37:=Tryz.underlying192
 a37:=Tryz.isAgg192
 z37:=Tryz.sizeOf192
 v37:=Tryz.zeroValue192
 t46:=Tryz.underlying157
 a46:=Tryz.isAgg157
 z46:=Tryz.sizeOf157
 v46:=Tryz.zeroValue157
 t51:=Tryz.underlying220
 a51:=Tryz.isAgg220
 z51:=Tryz.sizeOf220
 v51:=Tryz.zeroValue220
 t53:=Tryz.underlying222
 a53:=Tryz.isAgg222
 z53:=Tryz.sizeOf222
 v53:=Tryz.zeroValue222
 t70:=Tryz.underlying191
 a70:=Tryz.isAgg191
 z70:=Tryz.sizeOf191
 v70:=Tryz.zeroValue191
 t72:=Tryz.underlying194
 a72:=Tryz.isAgg194
 z72:=Tryz.sizeOf194
 v72:=Tryz.zeroValue194
 t75:=Tryz.underlying197
 a75:=Tryz.isAgg197
 z75:=Tryz.sizeOf197
 v75:=Tryz.zeroValue197
 t76:=Tryz.underlying198
 a76:=Tryz.isAgg198
 z76:=Tryz.sizeOf198
 v76:=Tryz.zeroValue198
 t109:=Tryz.underlying188
 a109:=Tryz.isAgg188
 z109:=Tryz.sizeOf188
 v109:=Tryz.zeroValue188
 t127:=Tryz.underlying251
 a127:=Tryz.isAgg251
 z127:=Tryz.sizeOf251
 v127:=Tryz.zeroValue251
 t146:=Tryz.underlying247
 a146:=Tryz.isAgg247
 z146:=Tryz.sizeOf247
 v146:=Tryz.zeroValue247
 t148:=Tryz.underlying249
 a148:=Tryz.isAgg249
 z148:=Tryz.sizeOf249
 v148:=Tryz.zeroValue249
 t164:=Tryz.underlying305
 a164:=Tryz.isAgg305
 z164:=Tryz.sizeOf305
 v164:=Tryz.zeroValue305 }
theorem Tryz.Builder_Extra_105:Builder.Extra Tryz.prog Tryz.lays105_ren:={
 sizeBuilder:=by kernel_rfl
 liesBuilder:=by kernel_rfl
 t5:=Tryz.underlying5
 a5:=Tryz.isAgg5
 z5:=Tryz.sizeOf5
 v5:=Tryz.zeroValue5
 infoByte:=by kernel_rfl
 cellsByte:=by kernel_rfl
 sizeByte:=by kernel_rfl
 neB5:=by decide }
open Go.RowKit Go.Lib in
theorem Tryz.strings_Repeat (s:ByteArray) (c:Nat) (w:World) (hc:c<=9223372036854775807) (ai:s.size * c<=140737488355328) :
 Calls Tryz.prog 63 #[.string s,.int .i64 c] w λe w'=>e=.returned (.string ⟨(Lib.repeatL s.data.toList c).toArray⟩)/\Below w.heap.size w w':=Any.strings_Repeat Tryz.lays105 Tryz.Builder_Extra_105 s c w hc ai
def Tryz.laysNm220_ren:Go.Shelf.Ren:=⟨fun|20=>260|n=>n,fun|22=>23|3=>3|4=>4|0=>0|n=>n,fun|n=>n⟩
theorem Tryz.laysNm220:Go.Proofs.Lays2.n20 Tryz.prog Tryz.laysNm220_ren:={
 mixed:=by kernel_rfl
 f20:=fxT Tryz.func260
 t0:=Tryz.underlying0
 a0:=Tryz.isAgg0
 z0:=Tryz.sizeOf0
 v0:=Tryz.zeroValue0
 t3:=Tryz.underlying3
 a3:=Tryz.isAgg3
 z3:=Tryz.sizeOf3
 v3:=Tryz.zeroValue3
 t4:=Tryz.underlying4
 a4:=Tryz.isAgg4
 z4:=Tryz.sizeOf4
 v4:=Tryz.zeroValue4
 t22:=Tryz.underlying23
 a22:=Tryz.isAgg23
 z22:=Tryz.sizeOf23
 v22:=Tryz.zeroValue23
 i3:=by kernel_rfl }
open Go.RowKit Go.Lib Go.Sort in
theorem Tryz.slices_Compact_int (blk off cap:Nat) (zs:List Int) (w:World) (hH:Holds (Value.int .i64) w blk off zs.toArray) (bH:zs.length<=9223372036854775807) (qJ:zs.length<=cap) :
 Calls Tryz.prog 260 #[.slice (some ⟨blk,off,none⟩) zs.length cap] w λe w'=>e=.returned (.slice (some ⟨blk,off,none⟩) (Lib.compact zs).length cap)/\∃ q,w'=putRow (Value.int .i64) (Sort.ahead w q) blk off (Lib.compact zs++List.replicate (zs.length - (Lib.compact zs).length) 0).toArray:=Any.slices_Compact_int Tryz.laysNm220 blk off cap zs w hH bH qJ
open Go.RowKit Go.Lib Go.Sort in
theorem Tryz.slices_Compact_int_empty (a:Option Addr) (cap:Nat) (w:World) :
 Calls Tryz.prog 260 #[.slice a 0 cap] w λe w'=>e=.returned (.slice a 0 cap)/\w'=w:=Any.slices_Compact_int_empty Tryz.laysNm220 a cap w
open Go.RowKit Go.Sort in
theorem Tryz.slices_Sort_int_none (p:Option Addr) (cap:Nat) (w:World) :
 Calls Tryz.prog 259 #[.slice p 0 cap] w λe w'=>e=.returned (.tuple #[])/\w'=w:=Any.slices_Sort_int_none Tryz.lays189 p cap w
end Go.Proofs
namespace Go.Eng
open Go Go.RowKit Go.Proofs
structure Fl where
 i:Nat
 d:Nat
 T:Nat
 z:Value
section
variable {P:Program} {n:Nat} {Q:Exit->Act->World->Prop} {e:Env} {w:World}
theorem Z8n {c:Code} (h:WC P n c (Exit.noGoto Q) e w):WC P n (.scope c) Q e w:=⟨λa ha=>wp_scope_straight (h.h a ha)⟩
theorem Zk2 {l:Nat} (h:WQ n Q .normal e w):WC P n (.label l) Q e w:=⟨λa ha=>wp_label (h.h a ha)⟩
theorem JW (h:WQ n Q .ret e w):WQ n (Exit.noGoto Q) .ret e w:=⟨λa ha=>h.h a ha⟩
theorem Z06 {i:Nat} (h:WQ n Q (.exit i) e w):WQ n (Exit.noGoto Q) (.exit i) e w:=⟨λa ha=>h.h a ha⟩
end
def Z0i:Str:=[9,10,13,32]
theorem Z8o (c:UInt8):Z1E c=decide (c∈Z0i):=by
 unfold Z1E Z0i;rw [Yad];simp [or_assoc]
theorem Z8p (l:Str) (c:UInt8):decide (0<=Lib.indexByte l c)=decide (c∈l):=by
 rw [decide_eq_decide]
 induction l with
 | nil=>simp [Lib.indexByte]
 | cons a r ih=>
   unfold Lib.indexByte;by_cases h:a=c;subst h;simp;have hb:(a == c)=false:=by simpa using h
   rw [hb];simp only [XQ,if_false,Xb];have kY:=Lib.indexByte_ge r c;have h':¬ c=a:=λe=>h e.symm;split;rename_i h1;have:Lib.indexByte r c=-1:=by simpa using h1
   rw [<- ih];simp [h'];omega;rename_i h1;have h2:¬ Lib.indexByte r c=-1:=by simpa using h1
   have:0<=Lib.indexByte r c:=by omega
   simp [h',ih.1 this];omega
theorem ZwQ (s:Str) (a b:UInt8):Lib.hasPrefix s [a,b]=decide (s.take 2=[a,b]):=by
 unfold Lib.hasPrefix
 match s with
 | []=>rfl
 | [x]=>simp [List.isPrefixOf]
 | x :: y :: r=>
   rw [Yad];simp only [List.isPrefixOf,Ya3,Xl,beq_iff_eq,decide_eq_true_eq,Yaz,Ybu,Ya5,and_true];constructor;rintro ⟨rfl,rfl⟩;exact ⟨rfl,rfl⟩;rintro ⟨rfl,rfl⟩;exact ⟨rfl,rfl⟩
theorem Zct {s:Str} (aS:s≠[]) (h:s.all ZO=true):Lib.atoiAll s=if Z0u s<=9223372036854775807 then .ok (Z0u s:Int) else .range:=by
 have key:∀ (s:Str) (acc N:Nat),acc<18446744073709551616->s.all ZO=true->s.foldl (λn c=>10 * n+(c.toNat - 48)) acc=N->Lib.parseUint10 acc s=if N<18446744073709551616 then .ok N else .range:=by
  intro s
  induction s with
  | nil=>
    intro acc N ha _ hN;have:acc=N:=hN;subst this;rw [if_pos ha];rfl
  | cons c r ih=>
    intro acc N ha h hN;simp only [YaT,Xl] at h;have hc:48<=c.toNat/\c.toNat<=57:=by simpa [ZO] using h.1
    have nj:∀ (r:Str) (a:Nat),a<=r.foldl (λn c=>10 * n+(c.toNat - 48)) a:=by
     intro r
     induction r with
     | nil=>intro a;exact Xn _
     | cons x q ihq=>intro a;have:=ihq (10 * a+(x.toNat - 48));simp only [XX];omega
    have h1:=nj r (10 * acc+(c.toNat - 48));have tq:r.foldl (λn c=>10 * n+(c.toNat - 48)) (10 * acc+(c.toNat - 48))=N:=hN;rw [tq] at h1;simp only [Lib.parseUint10];rw [if_pos hc];split;rw [if_neg (by omega)];split;rw [if_neg (by omega)];rw [show acc * 10+(c.toNat - 48)=10 * acc+(c.toNat - 48) by omega];exact ih _ _ (by omega) h.2 tq
 obtain ⟨c,r,rfl⟩:∃ c r,s=c :: r:=by cases s with|nil=>exact absurd rfl aS|cons c r=>exact ⟨c,r,rfl⟩
 have hk:=key (c :: r) 0 (Z0u (c :: r)) (by omega) h rfl;have cY:48<=c.toNat/\c.toNat<=57:=by
  simp only [YaT,Xl] at h;simpa [ZO] using h.1
 unfold Lib.atoiAll;simp only;rw [if_neg (by omega)];unfold Lib.parseMag;rw [if_neg (by simp),hk];by_cases h1:Z0u (c :: r)<18446744073709551616;rw [if_pos h1];simp only;by_cases h2:Z0u (c :: r)<=9223372036854775807;rw [if_pos h2,if_neg (by omega),if_neg (by omega),if_neg (by omega)];rw [if_neg h2,if_pos (by omega)];rw [if_neg h1,if_neg (by omega)]
end Go.Eng
namespace Go.Proofs.YtipfkbkkndacjaaGreatDoor
open Go Go.Eng Go.RowKit Go.Proofs
theorem Zcu (c:UInt8):((c.toNat:Int)).toNat.toUInt8=c:=by
 rw [Ybx];exact UInt8.ofNat_toNat
theorem Z79 (s:Str) (c:UInt8) (w):CC 273 #[str s,.int .u8 (c.toNat:Int)] w λr w'=>r=.I (Lib.indexByte s c)/\w'=w:=by
 refine (Tryz.strings_IndexByte ⟨s.toArray⟩ (c.toNat:Int) w).mono ?_;rintro e w' ⟨rfl,rfl⟩;refine .mk ⟨?_,rfl⟩;rw [Zcu]
theorem Z2G (s:Str) (a b:UInt8) (w):CC 96 #[str s,str [a,b]] w λr w'=>r=.B (decide (s.take 2=[a,b]))/\w'=w:=by
 refine (Tryz.strings_HasPrefix ⟨s.toArray⟩ ⟨([a,b]:Str).toArray⟩ w).mono ?_;rintro e w' ⟨rfl,rfl⟩;refine .mk ⟨?_,rfl⟩;rw [<- ZwQ]
theorem Zcv {P:Program} {n:Nat} {Q:Exit->Act->World->Prop} {e:Env} {w} {ops:Array Oper} {rest:List Oper} {ak:Nat} {ty:TypeId} {pos:String} {af:Array Edge} {src dst:TypeId} {x:Operand} {k:IntKind} {z:Int} {D:TypeDesc} [hs:Und P src D] [hd:Und P dst .string]
 (hx:ev e x=some (.int k z)) (aw:Nat.blt ak n=true) (kk:WL P n ops Q rest ((ak,str (Utf8.encode z).data.toList) :: e) w):WL P n ops Q (⟨some ak,.convert src dst x,ty,pos,af,none⟩ :: rest) e w:=by
 refine Z8 (v:=str (Utf8.encode z).data.toList) ⟨λa ha=>?_⟩ aw kk;have:=run_convert_int_string (P:=P) w src dst k z (by rw [hs.h];rfl) hd.h;simp [execOp,ha.ev hx,this]
theorem ZxY (c:Nat) (h1:128<=c) (h2:c<256):(Utf8.encode (c:Int)).data.toList=[UInt8.ofNat (192+c / 64),UInt8.ofNat (128+c % 64)]:=by
 have hv:Utf8.valid (c:Int)=true:=by
  unfold Utf8.valid;simp only [Yay,Xl,decide_eq_true_eq];omega
 unfold Utf8.encode;simp only [hv,if_true,Ybx];rw [if_neg (by omega),if_pos (by omega)]
theorem ZoJ:∀ c∈Z0i,c.toNat<128:=by decide
theorem Zb0 (c:Nat) (w) (h1:128<=c) (h2:c<256):CC 274 #[str Z0i,.int .i32 (c:Int)] w λr w'=>r=.I (-1)/\Stp [] w w':=by
 have he:=ZxY c h1 h2;have hb:128<=(UInt8.ofNat (128+c % 64)).toNat:=by simp;omega
 generalize UInt8.ofNat (192+c / 64)=b0 at he;generalize UInt8.ofNat (128+c % 64)=b1 at he hb;have pd:Lib.validRune (c:Int)=true:=decide_eq_true (by omega);refine cW2 187 Tryz.func274 ?_;refine QO ?_;refine Z0 (Z4 rfl (ZN rfl) ((Tryz.utf8_ValidRune (c:Int) _).mono (λe w' h=>(show Ret (λr w'=>r=.B true/\w'=_) e w' from by
  obtain ⟨rfl,rfl⟩:=h;exact .mk ⟨by rw [pd],rfl⟩)))) rfl ?_
 rintro _ wv ⟨rfl,jz⟩;subst wv;refine W ?_;refine Z8n ?_;refine W ?_;refine Zcv rfl rfl ?_;rw [he];have d8:([b0,b1]:Str).length=2:=rfl;have pg:Z0i.length=4:=rfl;refine W ?_;refine Zt (σ:=Unit) (λ_=>[(0,str Z0i),(7,str [b0,b1]),(8,.I ((([b0,b1]:Str).length:Int) - 1)),(9,.I ((([b0,b1]:Str).length:Int) - 1))]) (λ_ w'=>Stp [] w w') (λ_=>0) () ⟨rfl,rfl,rfl,rfl,trivial⟩ (Stp.refl _ _) ?_;rintro _ w1 hS;refine QO ?_;refine Z8n ?_;refine QO ?_;refine ZDr 7 [] [] [(0,0),(1,0),(2,0),(3,0),(4,0),(5,0),(6,0)] (λw1 ae=>?_);replace hS:=hS.trans ae;clear ae;refine D ?_;have hx:¬ Jg Z0i (([b0,b1]:Str).length - Nat.succ 0)=Jg [b0,b1] (([b0,b1]:Str).length - Nat.succ 0):=by
  show ¬ (10:Int)=(b1.toNat:Int)
  omega
 (refine QP ?_ ?_<;>intro hc)
 rotate_left
 exact absurd hx (by assumption);have kp:Jg [b0,b1] (([b0,b1]:Str).length - Nat.succ 0)=(b1.toNat:Int):=rfl;have fK:b1∉(Z0i.drop 2):=λh=>by
  have:=ZoJ b1 (YaL h);omega
 have lc:Lib.indexByte (Z0i.drop 2) b1<0:=by
  have:=Z8p (Z0i.drop 2) b1;rw [decide_eq_decide] at this;have h0:¬ 0<=Lib.indexByte (Z0i.drop 2) b1:=λh=>fK (this.1 h);omega
 refine ZDr 9 [] [] [(0,0),(1,0),(2,0),(3,0),(4,0),(5,0),(6,0),(7,2),(8,0)] (λw1 ae=>?_);replace hS:=hS.trans ae;clear ae;refine D ?_;refine ZbW (l:=2) rfl trivial rfl rfl (by omega) (by omega) rfl ?_;refine D ?_;rw [kp];refine DC (Z79 (Z0i.drop 2) b1 _) (λ_ _ h=>by rw [h.2];exact Stp.refl _ _) ?_;rintro _ w5 ⟨rfl,tg⟩;subst w5;refine D ?_;refine QO ?_
 repeat (first|refine JW ?_|refine W1 ?_)
 refine RU ?_;exact ⟨rfl,hS⟩
theorem Zb1 (c:UInt8) (w):CC 216 #[str Z0i,.int .i32 (c.toNat:Int)] w λr w'=>r=.B (Z1E c)/\Stp [] w w':=by
 by_cases h:c.toNat<128;refine (Tryz.strings_ContainsRune_ascii ⟨Z0i.toArray⟩ (c.toNat:Int) w (by omega) (by omega)).mono ?_;rintro e w' ⟨rfl,rfl⟩;refine .mk ⟨?_,Stp.refl _ _⟩;rw [Zcu,Z8o];exact congrArg Value.bool (Z8p Z0i c);have hc:=c.toNat_lt;have bC:Z1E c=false:=by
  rw [Z8o,decide_eq_false_iff_not];intro hm;exact h (ZoJ c hm)
 refine cW2 9 Tryz.func216 ?_;refine W ?_;refine CM (Zf rfl rfl) (Zb0 c.toNat _ (by omega) (by omega)) ?_;rintro _ w1 ⟨rfl,hS⟩;refine RT ?_;exact ⟨by rw [bC];rfl,hS⟩
def Z7y:Str:=[32,114,117,108,101,32,102,114,111,109,32,111,110,32,105,102,32,100,117,101,32,117,110,108,101,115,115,32,101,108,115,101,32,111,114,32,97,110,100,32,110,111,116,32,116,114,117,101,32,102,97,108,115,101,32,116,104,101,110,32,101,110,100,32,100,97,121,115,32,119,101,101,107,115,32,109,111,110,116,104,115,32,99,111,117,114,116,100,97,121,115,32,110,101,120,116,32,112,114,101,118,32,108,97,116,101,114,32,101,97,114,108,105,101,114,32,98,101,116,119,101,101,110,32]
def Zb2:List Str:=[[114,117,108,101],[102,114,111,109],[111,110],[105,102],[100,117,101],[117,110,108,101,115,115],[101,108,115,101],[111,114],[97,110,100],[110,111,116],[116,114,117,101],[102,97,108,115,101],[116,104,101,110],[101,110,100],[100,97,121,115],[119,101,101,107,115],[109,111,110,116,104,115],[99,111,117,114,116,100,97,121,115],[110,101,120,116],[112,114,101,118],[108,97,116,101,114],[101,97,114,108,105,101,114],[98,101,116,119,101,101,110]]
theorem Z6u:∀ (s sub:List UInt8),0<=Lib.index s sub↔∃ i,i<=s.length/\sub.isPrefixOf (s.drop i)=true
 | [], sub => by
   unfold Lib.index;cases sub with
   | nil=>simp
   | cons a l=>simp
 | b :: l, sub => by
   have ih:=Z6u l sub;have kY:=Lib.index_ge l sub;unfold Lib.index;by_cases hp:sub.isPrefixOf (b :: l)=true;rw [if_pos hp];exact ⟨λ_=>⟨0,by omega,hp⟩,λ_=>by omega⟩;rw [if_neg hp];have e:(0:Int)<=(if (Lib.index l sub == -1)=true then -1 else Lib.index l sub+1)↔0<=Lib.index l sub:=by
    by_cases h1:Lib.index l sub=-1;rw [if_pos (by simpa using h1)];omega;rw [if_neg (by simpa using h1)];omega
   rw [e,ih];constructor;rintro ⟨i,hi,h⟩;exact ⟨i+1,by simpa using hi,h⟩
   . rintro ⟨i,hi,h⟩
     cases i with
     | zero=>exact absurd h hp
     | succ i=>exact ⟨i,by simpa using hi,h⟩
theorem Z6v:∀ (t r:List UInt8),(∀ c∈t,c≠32)->(t++[32]).isPrefixOf r=true->r.takeWhile (λc=>decide (c≠32))=t
 | [], r, _, h => by
   cases r with
   | nil=>simp at h
   | cons a l=>
     simp [List.isPrefixOf] at h;subst h;rfl
 | c :: t, r, hc, h => by
   cases r with
   | nil=>simp at h
   | cons a l=>
     simp only [XC,List.isPrefixOf,Xl,beq_iff_eq] at h;obtain ⟨rfl,h⟩:=h;have h1:=hc c (by simp);rw [List.takeWhile_cons_of_pos (by simpa using h1),Z6v t l (λx hx=>hc x (by simp [hx])) h]
theorem Zgv:∀ i∈List.range (Z7y.length+1),(Z7y.drop i).head?=some 32->(Z7y.drop (i+1)).takeWhile (λc=>decide (c≠32))∈Zb2\/(Z7y.drop (i+1)).takeWhile (λc=>decide (c≠32))=[]:=by decide +kernel
theorem Znf:∀ t∈Zb2,Lib.contains Z7y (32 :: t++[32])=true:=by decide +kernel
theorem Zng {t:Str} (h0:t≠[]) (hc:∀ c∈t,c≠32):Lib.contains Z7y (32 :: t++[32])=decide (t∈Zb2):=by
 by_cases ht:t∈Zb2;rw [Znf t ht,decide_eq_true ht]
 . rw [decide_eq_false ht]
   unfold Lib.contains;rw [decide_eq_false_iff_not,Z6u];rintro ⟨i,hi,h⟩;cases hd:Z7y.drop i with
   | nil=>rw [hd] at h;simp at h
   | cons a l=>
     rw [hd] at h;simp only [XC,List.isPrefixOf,Xl,beq_iff_eq] at h;obtain ⟨rfl,h⟩:=h;have hl:Z7y.drop (i+1)=l:=by
      have:=congrArg List.tail hd;simpa [List.tail_drop] using this
     have hw:=Z6v t l hc h;have:=Zgv i (YbK.2 (by omega)) (by rw [hd];rfl);rw [hl,hw] at this;exact this.elim ht h0
abbrev Zk3 (c:Int):Prop:=(97<=c/\c<=122)\/(48<=c/\c<=57)
def Z41 (s:Str):Bool:=decide (0<s.length/\s.length<=12/\97<=Jg s 0/\Jg s 0<=122/\∀ i,i<s.length->Zk3 (Jg s i))
def ZB (s:Str):Bool:=Z41 s && decide (s∉Zb2/\s∉Ze)
theorem Z5N (a b:Str) (m:Int) (w:World) (ha:a.length<4294967281) (hm:w.cell? ⟨2,0,none⟩=some (.I m)) :
 CC 227 #[str a,str b] w λr w'=>r=.B (Lib.contains a b)/\Stp [] w w':=by
 refine (Tryz.strings_Contains ⟨a.toArray⟩ ⟨b.toArray⟩ m w (by rw [Z0x];exact ha) hm).mono ?_;rintro e w' ⟨rfl,rfl⟩;exact .mk ⟨rfl,Stp.refl _ _⟩
theorem Zcw {l:List Str} {s:Str}:0<=idx (isS s) l↔s∈l:=by
 unfold idx;cases h:l.findIdx? (isS s) with
 | none=>
   rw [Yab] at h;simp only;constructor;intro h1;omega;intro h1;have:=h s h1;simp [isS] at this
 | some i=>
   obtain ⟨hi,hp,_⟩:=X7.1 h;simp only;constructor;intro _;have:l[i]=s:=by simpa [isS] using hp
   rw [<- this];exact Xc hi;intro _;omega
theorem Z9n (X:List Nat) (v:Value) (l:List Str) (a:Str) (w) (hs:SlV X w v l) :
 CC 228 #[v,str a] w λr w'=>r=.B (decide (a∈l))/\Stp [] w w':=by
 refine cW2 9 Tryz.func228 ?_;refine W ?_;refine CL (Z9B X v l a _ hs) ?_;rintro _ w1 ⟨rfl,hS⟩;refine RT ?_;exact ⟨by congr 1;exact decide_eq_decide.2 Zcw,hS⟩
theorem Z2N (s:Str) (m:Int) (w) (hF:SlV [] w Z21 Ze) (hm:w.cell? ⟨2,0,none⟩=some (.I m)) :
 CC 167 #[str s] w λr w'=>r=.B (ZB s)/\Stp [] w w':=by
 refine cW1 55 Tryz.func167 ?_;refine W ?_;by_cases h0:s.length≠0/\s.length<=12/\97<=Jg s 0/\Jg s 0<=122
 case neg=>
  have hn:ZB s=false:=by
   unfold ZB Z41;rw [decide_eq_false (λh=>h0 ⟨by omega,h.2.1,h.2.2.1,h.2.2.2.1⟩)];rfl
  by_cases hl:s.length≠0;focus repeat'(first|refine W1 ?_|omega|refine VG ?_ ?_<;>intro hg|refine VC ?_ ?_<;>intro hc)
  refine RU ?_;exact ⟨by rw [hn],Stp.refl _ _⟩;refine RU ?_;exact ⟨by rw [hn],Stp.refl _ _⟩;refine J9 (i:=0) rfl rfl rfl (by omega) rfl ?_
  (refine QP ?_ ?_<;>intro hg)
  refine RU ?_;exact ⟨by rw [hn],Stp.refl _ _⟩;refine J9 (i:=0) rfl rfl rfl (by omega) rfl ?_;refine RT ?_;exact ⟨by rw [hn],Stp.refl _ _⟩;obtain rfl:s=[]:=Xy.1 (by omega);refine RT ?_;exact ⟨by rw [hn],Stp.refl _ _⟩
 obtain ⟨h1,h2,h3,h4⟩:=h0;have aS:¬ s=[]:=λh=>by rw [h] at h1;exact h1 rfl
 (refine QP ?_ ?_<;>intro hg)
 exact absurd (by assumption) aS;refine J9 (i:=0) rfl rfl rfl (by omega) rfl ?_;refine QO ?_;refine J9 (i:=0) rfl rfl rfl (by omega) rfl ?_;refine QO ?_;refine Z0 (Zcr rfl (by omega)) rfl ?_;rintro bv w1 ⟨hb,hS⟩;replace hb:=hb [] (by simp);have lf:=hb.max;refine QO ?_;refine LP (σ:=Nat) (λi=>[(0,str s),(23,bv),(24,.I (s.length:Int)),(25,.I (i:Int))]) (λi w'=>i<=s.length/\Stp [] w1 w'/\∀ j,j<i->Zk3 (Jg s j)) (λi=>s.length - i) 0 ⟨Xp _,Stp.refl _ _,λj hj=>absurd hj (Xw _)⟩ ?_;rintro i w2 ⟨hi,ah,aB⟩
 try dsimp only at hi aB ⊢
 replace hb:=hb.up ah;replace hS:=hS.trans ah;by_cases hlt:i<s.length;have pi:Jg s i=(s[i].toNat:Int):=Go.Eng.byte_at hlt;by_cases cT:(97<=(s[i].toNat:Int)/\(s[i].toNat:Int)<=122)\/(48<=(s[i].toNat:Int)/\(s[i].toNat:Int)<=57)
 . have eI:∀ j,j<i+1->Zk3 (Jg s j):=λj hj=>by
    by_cases e:j=i;subst e;rw [pi];exact cT;exact aB j (by omega)
   repeat'(first|refine W1 ?_|omega|refine VG ?_ ?_<;>intro hg|refine VC ?_ ?_<;>intro hc)
   all_goals exact QL (i+1) ⟨hlt,ah,eI⟩ (Xs hlt (Xv i))
 . have hn:ZB s=false:=by
    unfold ZB Z41;rw [decide_eq_false (λh=>cT (by have:=h.2.2.2.2 i hlt;rw [pi] at this;exact this))];rfl
   repeat'(first|refine W1 ?_|omega|refine VG ?_ ?_<;>intro hg|refine VC ?_ ?_<;>intro hc)
   all_goals
    refine RU ?_;exact ⟨by rw [hn],hS⟩
 obtain rfl:i=s.length:=by omega
 have aP:Z41 s=true:=decide_eq_true ⟨by omega,h2,h3,h4,aB⟩;have bC:∀ c∈s,c≠32:=λc hc h=>by
  obtain ⟨j,hj,rfl⟩:=Xr hc;have h5:=aB j hj;rw [Go.Eng.byte_at hj,h] at h5;exact absurd h5 (by decide)
 have jk:Z7y.length<4294967281:=by
  have:Z7y.length<=200:=by decide +kernel
  omega
 have aA:Lib.contains Z7y ([32]++s++[32])=decide (s∈Zb2):=Zng aS bC;refine QO ?_;refine Z0C rfl rfl (by simp;omega) rfl ?_;repeat'(first|refine W1 ?_|omega|refine VG ?_ ?_<;>intro hg|refine VC ?_ ?_<;>intro hc)
 refine Z0C rfl rfl (by simp;omega) rfl ?_;repeat'(first|refine W1 ?_|omega|refine VG ?_ ?_<;>intro hg|refine VC ?_ ?_<;>intro hc)
 refine CM (Zf rfl rfl) (Z5N Z7y ([32]++s++[32]) m _ jk (hS.cell (by simp) hm)) ?_;rintro _ w3 ⟨rfl,am⟩;rw [aA];replace hS:=hS.trans am;by_cases hr:s∈Zb2;have hn:ZB s=false:=by
  unfold ZB;rw [decide_eq_false (λh=>h.1 hr),YbJ]
 rw [decide_eq_true hr];refine RT ?_;exact ⟨by rw [hn],hS⟩;rw [decide_eq_false hr];refine QO ?_;refine Zg8 rfl rfl ?_;refine W ?_;refine CL (Z9n [] _ Ze s _ (hF.up hS)) ?_;rintro _ w4 ⟨rfl,aI⟩;refine QO ?_;refine WR ?_;refine .mk ⟨?_,hS.trans aI⟩;unfold ZB;rw [aP];by_cases hf:s∈Ze<;>simp [hr,hf]
theorem Z6w {l:List Tkn} {i:Nat} (h:i<l.length):cur l i=l[i]:=by simp [cur,List.getD,h]
def Pd (w:World) (b:Nat) (tv:Value) (l:List Tkn) (i o:Nat):Prop:=Blk w b 186 [tv,.I i,.I o]/\SlV [b] w tv l/\i<l.length/\l.length<=1000000/\o<=12
theorem Pd.up {w w':World} {b i o:Nat} {tv:Value} {l:List Tkn} (h:Pd w b tv l i o) (hS:Stp [] w w'):Pd w' b tv l i o:=by
 obtain ⟨h1,h2,h3⟩:=h;exact ⟨h1.up hS,h2.up hS,h3⟩
theorem Pd.lt {w} {b i o:Nat} {tv:Value} {l:List Tkn} (h:Pd w b tv l i o):b<w.heap.size:=by
 obtain ⟨h1,_⟩:=h;exact h1.lt
theorem Pd.i_lt {w} {b i o:Nat} {tv:Value} {l:List Tkn} (h:Pd w b tv l i o):i<l.length:=by
 obtain ⟨_,_,h1,_⟩:=h;exact h1
def Z51 (a c:Int):Value:=.iface 235 (.agg #[.I a,.I c])
def PE {α:Type} (r:Out α) (G:α->Nat->Nat->Value->World->Prop) (F:World->Prop) (e:Ending) (w':World):Prop:=
 match r with
 | .err a c=>e=.panicked [⟨Z51 a c,false,false⟩]/\F w'
 | .ok x i o=>Ret (G x i o) e w'
theorem ZV {P:Program} {n:Nat} {Q:Exit->Act->World->Prop} {e:Env} {w} {ops:Array Oper} {rest:List Oper} {d:Nat} {ty:TypeId} {pos:String} {af:Array Edge} {f:Nat} {fn:Func} {xs:Array Operand} {ts:Array TypeId} {vs:Array Value} {c:Operand} {ch:List PanicEntry} {F:World->Prop} [hf:Fun P f fn]
 (hc:ev e c=some (.func (.func f) #[] #[])) (hv:∀ a,Has n e a->xs.map a.eval=vs) (h:Calls P f vs w (λe w'=>e=.panicked ch/\F w')) (hd:Nat.blt d n=true) (k:∀ w',F w'->WQ n Q (.panic ch) [] w') :
 WL P n ops Q (⟨some d,.call { callee:=.value c,args:=xs,argTypes:=ts },ty,pos,af,none⟩ :: rest) e w:=
 ZaV (G:=λ_ _=>False) (F:=λch' w'=>ch'=ch/\F w') (Z89 hc hv (h.mono λe w' ⟨h1,h2⟩=>by rw [h1];exact .pan ⟨rfl,h2⟩)) hd (λch' w' ⟨h1,h2⟩=>by subst h1;exact Z9H (k w' h2)) (λ_ _ h=>h.elim)
theorem Ztp (a c:Int) (w):(Instr.build 235 #[(0,.I a),(1,.I c)]).run Tryz.prog w=.ok (.agg #[.I a,.I c]) w:=by kernel_rfl
theorem Z0X (b:Nat) (tv:Value) (l:List Tkn) (i o:Nat) (w) (hp:Pd w b tv l i o) :
 CC 163 #[pQ b] w λr w'=>r=str (cur l i).text/\Stp [] w w':=by
 obtain ⟨hb,hs,hi,hl,ho⟩:=hp;rw [Z6w hi];refine cW1 14 Tryz.func163 ?_;refine W ?_;refine ZDr 12 [] [] [(0,0),(1,0),(2,0),(3,1),(4,0),(5,0),(6,0),(7,1),(8,0),(9,0),(10,1),(11,0)] (λw1 ae=>?_);replace hb:=hb.up ae;replace hs:=hs.up ae;refine D ?_;refine RT ?_;exact ⟨rfl,ae⟩
theorem Zk4 (b:Nat) (tv:Value) (l:List Tkn) (i o:Nat) (c:Int) (w) (hp:Pd w b tv l i o) :
 Calls Tryz.prog 159 #[pQ b,.I c] w (λe w'=>e=.panicked [⟨Z51 (cur l i).pos c,false,false⟩]/\Stp [] w w'):=by
 obtain ⟨hb,hs,hi,hl,ho⟩:=hp;rw [Z6w hi];refine cW2 18 Tryz.func159 ?_;refine W ?_;refine Z9G 15 ([]) [] [(0,0),(1,0),(2,0),(3,1),(4,0),(5,0),(6,0),(7,1),(8,0),(9,0),(10,1),(11,0),(12,0),(13,0),(14,2)] rfl mixed (by kernel_rfl) (by kernel_rfl) (by kernel_rfl) (λw1 ae=>?_);replace hb:=hb.up ae;replace hs:=hs.up ae;refine JJ rfl trivial (λ_=>ZX rfl) rfl ?_;refine JJ rfl trivial (λ_=>Z3L rfl) rfl ?_;refine JJ rfl trivial (λ_=>Z1J rfl) rfl ?_;refine Z5F rfl trivial (λw' hw=>Jq rfl rfl (hb.up hw) rfl) rfl ?_;refine JJ rfl trivial (λ_=>ZX rfl) rfl ?_;refine JJ rfl trivial (λ_=>Z3L rfl) rfl ?_;refine JJ rfl trivial (λ_=>Z1J rfl) rfl ?_;refine Z5F rfl trivial (λw' hw=>Jq rfl rfl (hb.up hw) rfl) rfl ?_;refine JJ rfl trivial (λ_=>Z32 rfl hs rfl rfl hi) rfl ?_;refine JJ rfl trivial (λ_=>Z6Y rfl (SlV.isSome hs hi)) rfl ?_;refine Z5F rfl trivial (λw' hw=>Z1V (u:=.I l[i].pos) rfl rfl (hs.up hw) hi rfl rfl) rfl ?_;refine JJ rfl trivial (λ_=>ZX rfl) rfl ?_;refine JJ rfl trivial (λ_=>Z0P (vs:=[(0,.I l[i].pos),(1,.I c)]) rfl (Ztp _ _)) rfl ?_;refine JJ rfl trivial (λ_=>Z6m rfl) rfl ?_;refine Zgl rfl trivial (Zgk rfl) ?_;refine ZE ?_;exact ⟨rfl,ae⟩
theorem Z42 (b:Nat) (tv:Value) (l:List Tkn) (s:Str) (i o:Nat) (w) (hp:Pd w b tv l i o) (hn:(cur l i).text=s->i+1<l.length) :
 CC 224 #[pQ b,str s] w λr w'=>r=.B (decide ((cur l i).text=s))/\Pd w' b tv l (if (cur l i).text=s then i+1 else i) o/\Stp [b] w w':=by
 refine cW2 16 Tryz.func224 ?_;refine W ?_;refine CL (Z0X b tv l i o _ hp) ?_;rintro _ w1 ⟨rfl,ae⟩;replace hp:=hp.up ae;obtain ⟨hb,hs,hi,hl,ho⟩:=hp;have aU:=hs.max;by_cases h:(cur l i).text=s;have bM:=hn h
 (refine QP ?_ ?_<;>intro hc)
 exact absurd h (by assumption);refine Z5 (Zb (u:=.I ((i+1:Nat):Int)) rfl (by show some _=some _;simp) rfl rfl hb (by simp)) ?_;rintro _ w2 ⟨hT,bV⟩;refine W ?_;refine WR ?_;rw [decide_eq_true h,if_pos h];exact .mk ⟨rfl,⟨bV,hs.ext hT (λc hc=>hc) (λc hc=>.inl hc),bM,hl,ho⟩,ae.mn.trans hT⟩
 (refine QP ?_ ?_<;>intro hc)
 refine WR ?_;rw [decide_eq_false h,if_neg h];exact .mk ⟨rfl,⟨hb,hs,hi,hl,ho⟩,ae.mn⟩;exact absurd h (by assumption)
def PC {α:Type} (b:Nat) (w:World) (tv:Value) (l:List Tkn) (r:Out α) (G:α->Value->World->Prop) (e:Ending) (w':World):Prop:=
 PE r (λx i o v w'=>G x v w'/\Pd w' b tv l i o/\Stp [b] w w') (λw'=>Stp [b] w w') e w'
theorem PC.ok {α:Type} {b:Nat} {w w':World} {tv:Value} {l:List Tkn} {x:α} {i o:Nat} {G:α->Value->World->Prop} {v:Value} (hG:G x v w') (hp:Pd w' b tv l i o) (hS:Stp [b] w w'):PC b w tv l (.ok x i o) G (.returned v) w':=⟨v,rfl,hG,hp,hS⟩
theorem PC.err {α:Type} {b:Nat} {w w':World} {tv:Value} {l:List Tkn} {a c:Int} {G:α->Value->World->Prop} (hS:Stp [b] w w'):PC b w tv l (.err a c) G (.panicked [⟨Z51 a c,false,false⟩]) w':=⟨rfl,hS⟩
theorem PC.fail {α:Type} {b:Nat} {w w':World} {tv:Value} {l:List Tkn} {i:Nat} {c:Int} {G:α->Value->World->Prop} (hS:Stp [b] w w'):PC b w tv l (Z1j l i c) G (.panicked [⟨Z51 (cur l i).pos c,false,false⟩]) w':=⟨rfl,hS⟩
theorem Z9S (b:Nat) (tv:Value) (l:List Tkn) (i o:Nat) (c:Int) (w w0:World) (hp:Pd w b tv l i o) (hS:Stp [b] w0 w) :
 Calls Tryz.prog 159 #[pQ b,.I c] w (λe w'=>e=.panicked [⟨Z51 (cur l i).pos c,false,false⟩]/\Stp [b] w0 w'):=
 (Zk4 b tv l i o c w hp).mono λe w' ⟨h1,h2⟩=>⟨h1,hS.trans h2.mn⟩
theorem PC.goes {α:Type} {b f:Nat} {args:Array Value} {w} {tv:Value} {l:List Tkn} {x:α} {i o:Nat} {r:Out α} {G:α->Value->World->Prop} (h:Calls Tryz.prog f args w (PC b w tv l r G)) (hr:r=.ok x i o):CC f args w λv w'=>G x v w'/\Pd w' b tv l i o/\Stp [b] w w':=by
 subst hr;exact h
theorem PC.falls {α:Type} {b f:Nat} {args:Array Value} {w w0:World} {tv:Value} {l:List Tkn} {a c:Int} {r:Out α} {G:α->Value->World->Prop} (h:Calls Tryz.prog f args w (PC b w tv l r G)) (hr:r=.err a c) (hS:Stp [b] w0 w):Calls Tryz.prog f args w (λe w'=>e=.panicked [⟨Z51 a c,false,false⟩]/\Stp [b] w0 w'):=by
 subst hr;exact h.mono λe w' ⟨h1,h2⟩=>⟨h1,hS.trans h2⟩
theorem JP (b:Nat) (tv:Value) (l:List Tkn) (hL:Z3X l) (s:Str) (ba:s≠[]) (i o:Nat) (w) (hp:Pd w b tv l i o) :
 Calls Tryz.prog 160 #[pQ b,str s] w (PC b w tv l (Z0U l s i o) (λ_ v _=>v=.tuple #[])):=by
 have hn:(cur l i).text=s->i+1<l.length:=λh=>hL.end_of hp.i_lt (by rw [h];exact ba)
 unfold Z0U;refine cW2 10 Tryz.func160 ?_;refine W ?_;refine CL (Z42 b tv l s i o _ hp hn) ?_;rintro _ w1 ⟨rfl,fa,ae⟩;by_cases h:(cur l i).text=s;rw [if_pos h] at fa ⊢;rw [decide_eq_true h];refine W ?_;refine WR ?_;exact PC.ok rfl fa ae;rw [if_neg h] at fa ⊢;rw [decide_eq_false h];refine W ?_;refine ZV rfl (Zf rfl rfl) (Z9S b tv l i o 20 _ w fa ae) rfl ?_;intro w2 j6;focus repeat'(first|refine Zh ?_|refine Zg ?_)
 refine ZE ?_;exact PC.fail j6
theorem Z4B (C:Str) (W:List Str) (h1:∀ i∈List.range (C.length+1),(C.drop i).head?=some 32->(C.drop (i+1)).takeWhile (λc=>decide (c≠32))∈W\/(C.drop (i+1)).takeWhile (λc=>decide (c≠32))=[])
 (h2:∀ t∈W,Lib.contains C (32 :: t++[32])=true) {t:Str} (h0:t≠[]) (hc:∀ c∈t,c≠32):Lib.contains C (32 :: t++[32])=decide (t∈W):=by
 by_cases ht:t∈W;rw [h2 t ht,decide_eq_true ht]
 . rw [decide_eq_false ht]
   unfold Lib.contains;rw [decide_eq_false_iff_not,Z6u];rintro ⟨i,hi,h⟩;cases hd:C.drop i with
   | nil=>rw [hd] at h;simp at h
   | cons a l=>
     rw [hd] at h;simp only [XC,List.isPrefixOf,Xl,beq_iff_eq] at h;obtain ⟨rfl,h⟩:=h;have hl:C.drop (i+1)=l:=by
      have:=congrArg List.tail hd;simpa [List.tail_drop] using this
     have hw:=Z6v t l hc h;have:=h1 i (YbK.2 (by omega)) (by rw [hd];rfl);rw [hl,hw] at this;exact this.elim ht h0
def Ztq:Str:=[32,114,117,108,101,32,102,114,111,109,32,111,110,32,105,102,32,100,117,101,32,117,110,108,101,115,115,32,101,108,115,101,32,116,114,117,101,32,102,97,108,115,101,32,110,111,116,32,97,110,100,32,111,114,32,116,104,101,110,32,101,110,100,32,32,100,97,121,115,32,119,101,101,107,115,32,109,111,110,116,104,115,32,99,111,117,114,116,100,97,121,115,32,32,100,97,121,32,115,101,114,118,101,100,32,101,120,116,114,97,32,98,121,32,116,111,32,99,111,117,114,116,32,97,109,111,117,110,116,32,32,110,101,120,116,32,112,114,101,118,32,108,97,116,101,114,32,101,97,114,108,105,101,114,32,98,101,116,119,101,101,110,32]
def Zcx:Str:=[32,100,97,121,115,32,119,101,101,107,115,32,109,111,110,116,104,115,32,99,111,117,114,116,100,97,121,115,32]
def Zb3:Str:=[32,100,97,121,32,115,101,114,118,101,100,32,101,120,116,114,97,32,98,121,32,116,111,32,99,111,117,114,116,32,97,109,111,117,110,116,32]
def Zfq:Str:=[32,110,101,120,116,32,112,114,101,118,32,108,97,116,101,114,32,101,97,114,108,105,101,114,32,98,101,116,119,101,101,110,32]
theorem Znh {t:Str} (h0:t≠[]) (hc:∀ c∈t,c≠32):Lib.contains Ztq (32 :: t++[32])=decide (t∈Zfl++Z4W++Z3c++Z4X):=Z4B Ztq _ (by decide +kernel) (by decide +kernel) h0 hc
theorem Zk5 {t:Str} (h0:t≠[]) (hc:∀ c∈t,c≠32):Lib.contains Zcx (32 :: t++[32])=decide (t∈Z4W):=Z4B Zcx _ (by decide +kernel) (by decide +kernel) h0 hc
theorem Zgw {t:Str} (h0:t≠[]) (hc:∀ c∈t,c≠32):Lib.contains Zb3 (32 :: t++[32])=decide (t∈Z3c):=Z4B Zb3 _ (by decide +kernel) (by decide +kernel) h0 hc
theorem Zk6 {t:Str} (h0:t≠[]) (hc:∀ c∈t,c≠32):Lib.contains Zfq (32 :: t++[32])=decide (t∈Z4X):=Z4B Zfq _ (by decide +kernel) (by decide +kernel) h0 hc
theorem Z3l (C:Str) (ws:List Str) (hW:[]∉ws) (t:Str) (m:Int) (w:World) (hm:w.cell? ⟨2,0,none⟩=some (.I m)) (hC:C.length<=1000000) (pj:t.length<=4000)
 (qK:t≠[]->Lib.contains C (32 :: t++[32])=decide (t∈ws)) :
 CC 225 #[str C,str t] w λr w'=>r=.B (decide (t∈ws))/\Stp [] w w':=by
 refine cW2 14 Tryz.func225 ?_;by_cases h:t=[]
 . subst h
   refine QO ?_
   all_goals
    refine WR ?_;rw [decide_eq_false hW];exact .mk ⟨rfl,Stp.refl _ _⟩
 . have e1:Lib.contains C ([32]++t++[32])=decide (t∈ws):=qK h
   (refine QP ?_ ?_<;>intro hg)
   rotate_left
   exact absurd h (by assumption);refine Z0C rfl rfl (by simp;omega) rfl ?_;refine QO ?_;refine Z0C rfl rfl (by simp;omega) rfl ?_;refine QO ?_;refine CM (Zf rfl rfl) (Z5N C ([32]++t++[32]) m _ (by omega) hm) ?_;rintro _ w1 ⟨rfl,ae⟩;rw [e1];refine RT ?_;exact ⟨rfl,ae⟩
theorem Z4C (b:Nat) (tv:Value) (l:List Tkn) (hL:Z3X l) (k:Int) (hk:k≠0) (i o:Nat) (w) (hp:Pd w b tv l i o) :
 Calls Tryz.prog 162 #[pQ b,.I k] w (PC b w tv l (Z3b l k i o) (λt v _=>v=aG t)):=by
 obtain ⟨hb,hs,hi,hl,ho⟩:=id hp;have hn:(cur l i).kind=k->i+1<l.length:=λh=>hL.end_of_kind hi (by rw [h];exact hk)
 have aU:=hs.max;have ba:=hs;unfold Z3b;rw [Z6w hi] at hn ⊢;refine cW2 30 Tryz.func162 ?_;refine W ?_;refine Z0 Z2 rfl ?_;rintro _ w0 ⟨b4,rfl,bz,e4,br⟩;have n4:b4≠b:=by have:=hb.lt;omega
 replace hb:=hb.up br;replace hs:=hs.up br;refine W ?_;refine ZDr 12 [] [11] [(0,0),(1,0),(2,0),(3,1),(4,0),(5,0),(6,0),(7,1),(8,0),(9,1),(10,2),(11,2)] (λw1 ae=>?_);replace hb:=hb.up ae;replace hs:=hs.up ae;replace e4:=e4.up ae;replace br:=br.trans ae;clear ae;refine D ?_;refine Za rfl trivial Z2 (λ_ _ ⟨_,_,_,_,h⟩=>h) rfl ?_;rintro _ w2 ⟨b5,rfl,jA,e5,ah⟩;have n5:b5≠b:=by have:=hb.lt;omega
 have n54:b5≠b4:=by have:=e4.lt;omega
 refine Jr rfl trivial (Zm (us:=Z3.enc l[i]) rfl rfl rfl rfl (Z3.one _) e5 rfl) rfl ?_;rintro _ w3 ⟨hT,e5⟩;have dS:=ah.ow hT;clear hT ah;replace hb:=hb.up dS;replace hs:=hs.up dS;replace e4:=e4.up dS;replace br:=br.trans dS;clear dS jA;refine D ?_;refine W ?_;have fY:Pd w3 b tv l i o:=⟨hb,hs,hi,hl,ho⟩
 by_cases h:l[i].kind=k;rw [if_pos h];have bM:=hn h;refine QO ?_;refine Z5 (Zb (u:=.I ((i+1:Nat):Int)) rfl (by show some _=some _;simp) rfl rfl hb (by simp)) ?_;rintro _ w4 ⟨hT,bV⟩;replace e4:=e4.ext hT (by simpa using n4);replace e5:=e5.ext hT (by simpa using n5);replace hs:=hs.ext (X':=[b]) hT (λc hc=>hc) (λc hc=>.inl hc);refine W ?_;refine SA (us:=Z3.enc l[i]) e4 ?_;rintro _ w5 ⟨ec,e4⟩;refine W ?_;refine J3 (cs:=Z3.enc l[i]) rfl rfl rfl e4 rfl ?_;have jl:=(br.mn.trans hT).ow ec;exact PC.ok rfl ⟨bV.ext ec (by simpa using n4.symm),ba.ext jl (λc hc=>hc) (λc hc=>.inl hc),bM,hl,ho⟩ jl;rw [if_neg h];refine QO ?_;refine ZV rfl (Zf rfl rfl) (Z9S b tv l i o 20 _ w fY br.mn) rfl ?_;intro w2 j6;focus repeat'(first|refine Zh ?_|refine Zg ?_)
 refine ZE ?_;exact PC.fail j6
theorem Jy {w w':World} {b:Nat} {m:Int} (hm:w.cell? ⟨2,0,none⟩=some (.I m)) (hb:b≠2) (hS:Stp [b] w w'):w'.cell? ⟨2,0,none⟩=some (.I m):=
 hS.cell (by simpa using λh=>hb h.symm) hm
theorem Zni (t:Tkn) (w):(Instr.field 183 (aG t) 2).run Tryz.prog w=.ok (str t.text) w:=by kernel_rfl
theorem Ztr (t:Tkn) (w):(Instr.field 183 (aG t) 3).run Tryz.prog w=.ok (.I t.num) w:=by kernel_rfl
theorem Z5O (b:Nat) (tv:Value) (l:List Tkn) (hL:Z3X l) (i o:Nat) (m:Int) (w:World) (hm:w.cell? ⟨2,0,none⟩=some (.I m)) (hp:Pd w b tv l i o) :
 Calls Tryz.prog 161 #[pQ b] w (PC b w tv l (Z2r l i o) (λs v _=>v=str s)):=by
 unfold Z2r;refine cW1 11 Tryz.func161 ?_;refine W ?_;refine CL (Z0X b tv l i o _ hp) ?_;rintro _ w1 ⟨rfl,ae⟩;have fa:=hp.up ae;refine W ?_;refine CM (Zf rfl rfl) (Z3l Ztq (Zfl++Z4W++Z3c++Z4X) (by decide +kernel) (cur l i).text m _ (ae.cell (by simp) hm) (by decide +kernel) (hL.tl i) (λh=>Znh h (hL.sp i))) ?_;rintro _ w2 ⟨rfl,ah⟩;have fZ:=fa.up ah;have hS:=(ae.trans ah).mono (S':=[b]) (by simp);by_cases h:(cur l i).text∈Zfl++Z4W++Z3c++Z4X;rw [if_pos h,decide_eq_true h];refine W ?_;refine ZV rfl (Zf rfl rfl) (Z9S b tv l i o 20 _ w fZ hS) rfl ?_;intro w3 np;focus repeat'(first|refine Zh ?_|refine Zg ?_)
 refine ZE ?_;exact PC.fail np
 . rw [if_neg h,decide_eq_false h]
   refine W ?_;cases hr:Z3b l 1 i o with
   | err a c=>
     refine ZV rfl (Zf rfl rfl) (PC.falls (Z4C b tv l hL 1 (by decide) i o _ fZ) hr hS) rfl ?_;intro w3 np;repeat'(first|refine Zh ?_|refine Zg ?_)
     refine ZE ?_;exact PC.err np
   | ok t i1 o1=>
     refine CM (Zf rfl rfl) (PC.goes (Z4C b tv l hL 1 (by decide) i o _ fZ) hr) ?_;rintro _ w3 ⟨rfl,fY,am⟩;refine Z8 (Zci rfl (Zni t)) rfl ?_;refine W ?_;refine WR ?_;exact PC.ok rfl fY (hS.trans am)
theorem Zcy (s:Str) (w):CC 280 #[str s] w λr w'=>r=.I (Z6o s:Int)/\w'=w:=by
 unfold Z6o;refine cW1 20 Tryz.func280 ?_;repeat'(first|refine W1 ?_|omega|refine VG ?_ ?_<;>intro hg|refine VC ?_ ?_<;>intro hc)
 all_goals refine WR ?_
 all_goals refine .mk ⟨?_,rfl⟩
 all_goals simp_all
abbrev Zcz (w:World):Prop:=Lib.TabIs Tryz.prog w "internal/strconv.uint64pow10" .u64 Lib.pow10Tab
theorem Zcz.up {w w':World} (h:Zcz w) (hS:Stp [] w w'):Zcz w':=by
 unfold Zcz Lib.TabIs World.var? at *;cases hg:Program.globalNamed Tryz.prog "internal/strconv.uint64pow10" with
 | none=>rw [hg] at h;simp at h
 | some g=>
   rw [hg] at h;simp only [XT] at h ⊢;have hlt:g<w.heap.size:=by
    by_cases hl:g<w.heap.size;exact hl;rw [Yai (by omega)] at h;simp at h
   rw [hS.block g hlt (by simp)];exact h
theorem Zk7 (n:Int) (w) (h0:-9223372036854775808<=n) (h1:n<=9223372036854775807) (hT:Zcz w):CC 62 #[.I n] w λr w'=>r=str (Lib.itoa n)/\Stp [] w w':=by
 refine (Tryz.strconv_Itoa n h0 h1 w hT).mono ?_;rintro e w' ⟨rfl,k,os,rfl⟩;refine .mk ⟨rfl,?_⟩;exact Stp.of_below ⟨rfl,rfl,rfl,by simp [Go.Sort.grow,World.drewN],λi hi=>by simp [Go.Sort.grow,World.drewN,Array.getElem?_append,hi]⟩
theorem Z7a (c:UInt8):∀ k:Nat,Lib.repeatL [c] k=List.replicate k c
 | 0=>rfl
 | k+1=>by rw [Lib.repeatL,Z7a c k,YaB];rfl
theorem Zem (c:UInt8) (k:Int) (w) (h0:0<=k) (h1:k<=140737488355328):CC 63 #[str [c],.I k] w λr w'=>r=str (List.replicate k.toNat c)/\Stp [] w w':=by
 obtain ⟨m,rfl⟩:∃ m:Nat,k=(m:Int):=⟨k.toNat,by omega⟩
 refine (Tryz.strings_Repeat ⟨#[c]⟩ m w (by omega) (by simp [ByteArray.size];omega)).mono ?_;rintro e w' ⟨rfl,hB⟩;refine .mk ⟨?_,Stp.of_below hB⟩;show Value.string ⟨_⟩=Value.string ⟨_⟩;rw [show ([c]:List UInt8)=(⟨#[c]⟩:ByteArray).data.toList from rfl,Z7a];rfl
theorem Zb4 (n wd:Int) (w) (h0:0<=n) (h1:n<=9999) (hw:0<=wd) (j6:wd<=4) (hl:((Lib.itoa n).length:Int)<=wd) (hT:Zcz w):CC 61 #[.I n,.I wd] w λr w'=>r=str (Z6t wd.toNat (Lib.itoa n))/\Stp [] w w':=by
 refine cW2 15 Tryz.func61 ?_;refine W ?_;refine Z0 (Z4 rfl (ZN rfl) (Zk7 n _ (by omega) (by omega) hT)) rfl ?_;rintro _ w1 ⟨rfl,hS⟩;refine W ?_;refine Z0 (Z4 rfl (Zf rfl rfl) (Zem 48 _ _ (by omega) (by omega))) rfl ?_;rintro _ w2 ⟨rfl,ah⟩;refine W ?_;refine Z0C rfl rfl (by simp;omega) rfl ?_;refine W ?_;refine WR ?_;refine .mk ⟨?_,hS.trans ah⟩;unfold Z6t;congr 3;omega
theorem Z7K (n:Int) (w) (h0:0<=n) (h1:n<=3652058):CC 60 #[.I n] w λr w'=>r=.tuple #[Zk1 (ofM n).y (ofM n).m (ofM n).d,.I 0]/\Stp [] w w':=by
 refine cW1 73 Tryz.func60 ?_;refine W ?_;refine Z0 Z2 rfl ?_;rintro _ w1 ⟨b2,rfl,bV,e2',hS⟩;have s5:=hS.size;refine QO ?_;unfold ofM;simp only;have lg:=Ya4 (n+306) (b:=146097) (by decide);have fG:=YaR (n+306) (b:=146097) (by decide);have he:(n+306) / 146097<=25/\0<=(n+306) / 146097:=by omega
 generalize (n+306) % 146097=doe at *;generalize (n+306) / 146097=era at *;obtain ⟨yoe,doy,e1,e2,hy,hd,-⟩:=ZjW doe lg fG;simp only [e1,e2];have tr:0<=(5 * (doy:Int)+2) / 153/\(5 * (doy:Int)+2) / 153<=11:=by omega
 refine QO ?_;refine Z7 (vs:=[(0,.I _),(1,.I _),(2,.I _)]) rfl (Z5M _ _ _) rfl ?_;refine Z0 Z2 rfl ?_;rintro _ w2 ⟨b10,rfl,dG,e10,hT⟩;have n2:b10≠b2:=by have:=e2'.lt;omega
 replace e2':=e2'.up hT;replace hS:=hS.trans hT;refine SB (us:=[.I _,.I _,.I _]) (by simp;exact ⟨rfl,rfl,rfl⟩) e10 ?_;rintro _ w3 ⟨hT,e10'⟩;replace e2':=e2'.ext hT (by simpa using n2.symm);replace hS:=hS.own hT (λc hc=>.inr (by simp at hc;have:=hS.size;omega));clear e10 hT
 (refine QP ?_ ?_<;>intro hc)
 rename_i hc;refine Z5 (Zb (u:=.I ((yoe:Int)+400 * era+1)) rfl rfl rfl rfl e10' (by simp)) ?_;rintro _ w4 ⟨hT,e10⟩;replace e10:Blk w4 b10 132 [.I ((yoe:Int)+400 * era+1),.I ((5 * (doy:Int)+2) / 153+3),.I ((doy:Int) - (153 * ((5 * (doy:Int)+2) / 153)+2) / 5+1)]:=e10;replace e2':=e2'.ext hT (by simpa using n2.symm);replace hS:=hS.ow hT;clear e10' hT;refine W ?_;refine Z5 (Zb (u:=.I ((5 * (doy:Int)+2) / 153 - 9)) rfl rfl rfl rfl e10 (by simp)) ?_;rintro _ w5 ⟨hT,e10'⟩;replace e10':Blk w5 b10 132 [.I ((yoe:Int)+400 * era+1),.I ((5 * (doy:Int)+2) / 153 - 9),.I ((doy:Int) - (153 * ((5 * (doy:Int)+2) / 153)+2) / 5+1)]:=e10';replace e2':=e2'.ext hT (by simpa using n2.symm);replace hS:=hS.ow hT;clear e10 hT;refine W ?_;refine Z5 (Zm (us:=[.I _,.I _,.I _]) rfl rfl rfl rfl (by simp;exact ⟨rfl,rfl,rfl⟩) e2' rfl) ?_;rintro _ w6 ⟨hT,e2⟩;replace hS:=hS.ow hT;refine W ?_;refine Zn rfl rfl rfl e2 rfl rfl ?_;refine .mk ⟨?_,hS⟩;rw [if_pos (by omega)];rename_i hc;refine Z5 (Zm (us:=[.I _,.I _,.I _]) rfl rfl rfl rfl (by simp;exact ⟨rfl,rfl,rfl⟩) e2' rfl) ?_;rintro _ w6 ⟨hT,e2⟩;replace hS:=hS.ow hT;refine W ?_;refine Zn rfl rfl rfl e2 rfl rfl ?_;refine .mk ⟨?_,hS⟩;rw [if_neg (by omega)]
theorem Zen (n:Int) (w) (h0:0<=n) (h1:n<=3652058) (hT:Zcz w):CC 30 #[.I n] w λr w'=>r=str (Z2L n)/\Stp [] w w':=by
 obtain ⟨g1,g2,g3,g4,g5,g6,g7⟩:=Z5m h0 h1;have g8:=Z1l (ofM n).y (ofM n).m;have bW:∀ (z:Int) (k:Nat),0<=z->z<((10 ^ (k+1):Nat):Int)->(Lib.itoa z).length<=k+1:=λz k hz h=>by
  unfold Lib.itoa;rw [if_neg (by omega)];exact Z0W k z.toNat (by omega)
 have ly:=bW (ofM n).y 3 (by omega) (by omega);have lm:=bW (ofM n).m 1 (by omega) (by omega);have ld:=bW (ofM n).d 1 (by omega) (by omega);clear bW g7;unfold Z2L;have vj:=Z7K n w h0 h1;generalize ofM n=dd at *;refine cW1 29 Tryz.func30 ?_;refine W ?_;refine Z0 (Z4 rfl (ZN rfl) vj) rfl ?_;rintro _ w1 ⟨rfl,hS⟩;refine W ?_;refine Z0 Z2 rfl ?_;rintro _ w2 ⟨b3,rfl,dN,e3,ca⟩;have hw:=hS.size;replace hS:=hS.trans ca;clear ca;refine SB (us:=[.I dd.y,.I dd.m,.I dd.d]) (by simp;exact ⟨rfl,rfl,rfl⟩) e3 ?_;rintro _ w3 ⟨ca,e3'⟩;replace hS:=hS.ow ca;clear e3 ca;refine QO ?_;refine ZDr 17 [] [] [(0,0),(1,0),(2,1),(5,0),(6,0),(7,1),(11,0),(12,0),(13,1),(3,2),(4,0),(8,2),(9,0),(10,0),(14,2),(15,0),(16,0)] (λw1 ae=>?_);replace e3':=e3'.up ae;replace hS:=hS.trans ae;clear ae;refine D ?_;have hp:=Zb4 dd.y 4 w1 (by omega) (by omega) (by omega) (by omega) (by omega) (hT.up hS);refine DC hp (λ_ _ h=>h.2) ?_;clear hp;rintro _ w5 ⟨rfl,ca⟩;replace e3':=e3'.up ca;replace hS:=hS.trans ca;clear ca;refine JL rfl trivial (λ_=>Z4t rfl rfl (by simp [Z6t];omega)) rfl ?_;refine D ?_;have hp:=Zb4 dd.m 2 w5 (by omega) (by omega) (by omega) (by omega) (by omega) (hT.up hS);refine DC hp (λ_ _ h=>h.2) ?_;clear hp;rintro _ w6 ⟨rfl,ca⟩;replace e3':=e3'.up ca;replace hS:=hS.trans ca;clear ca;refine JL rfl trivial (λ_=>Z4t rfl rfl (by simp [Z6t];omega)) rfl ?_;refine JL rfl trivial (λ_=>Z4t rfl rfl (by simp [Z6t];omega)) rfl ?_;refine D ?_;have hp:=Zb4 dd.d 2 w6 (by omega) (by omega) (by omega) (by omega) (by omega) (hT.up hS);refine DC hp (λ_ _ h=>h.2) ?_;clear hp;rintro _ w7 ⟨rfl,ca⟩;replace e3':=e3'.up ca;replace hS:=hS.trans ca;clear ca;refine JL rfl trivial (λ_=>Z4t rfl rfl (by simp [Z6t];omega)) rfl ?_;refine D ?_;refine RT ?_;exact ⟨rfl,hS⟩
theorem Z52 (n:Int) (w) (h0:0<=n) (h1:n<=9223372036854775807):CC 31 #[.I n] w λr w'=>r=str (Lib.itoa n)/\Stp [] w w':=by
 obtain ⟨u,rfl⟩:∃ u:Nat,n=(u:Int):=⟨n.toNat,by omega⟩
 have pl:Lib.itoa (u:Int)=Lib.decDigits u:=by unfold Lib.itoa;rw [if_neg (by omega)];rfl
 rw [pl];have ai:(Lib.decDigits u).length<=19:=Z0W 18 u (by omega);refine cW1 32 Tryz.func31 ?_;by_cases hz:(u:Int)=0;obtain rfl:u=0:=by omega
 focus repeat'(first|refine W1 ?_|omega|refine VG ?_ ?_<;>intro hg|refine VC ?_ ?_<;>intro hc)
 refine RU ?_;exact ⟨by rw [Lib.decDigits];rfl,Stp.refl _ _⟩;focus repeat'(first|refine W1 ?_|omega|refine VG ?_ ?_<;>intro hg|refine VC ?_ ?_<;>intro hc)
 refine Zt (σ:=Nat×Str) (λq=>[(0,.I (u:Int)),(3,str [48,49,50,51,52,53,54,55,56,57]),(4,str q.2),(5,.I (q.1:Int))]) (λq w'=>w'=w/\q.1<=u/\(if q.1=0 then [] else Lib.decDigits q.1)++q.2=Lib.decDigits u) (λq=>q.1) (u,[]) ⟨rfl,rfl,rfl,rfl,trivial⟩ ⟨rfl,Xn _,by simp only;rw [if_neg (by omega)];simp⟩ ?_;rintro ⟨k,s⟩ w1 ⟨rfl,hk,he⟩;dsimp only at hk he ⊢;have ay:s.length<=19:=by
  have:=congrArg List.length he;simp only [Xd] at this;omega
 by_cases fw:(k:Int)=0;obtain rfl:k=0:=by omega
 focus repeat'(first|refine W1 ?_|omega|refine VG ?_ ?_<;>intro hg|refine VC ?_ ?_<;>intro hc)
 refine RU ?_;exact ⟨by simpa using congrArg str he,Stp.refl _ _⟩;have ax:=ZjX k (by omega);rw [if_neg (by omega),ax,XA] at he;focus repeat'(first|refine W1 ?_|omega|refine VG ?_ ?_<;>intro hg|refine VC ?_ ?_<;>intro hc)
 refine Z8 (Z35 (l:=k % 10) (r:=k % 10+1) rfl rfl rfl (by omega) (by omega) (by omega) (by show k % 10+1<=10;omega)) rfl ?_;rw [Zgr (k % 10) (by omega)];refine W ?_;refine Z0C rfl rfl (by simp;omega) rfl ?_;refine W ?_;refine Zs (k / 10,[UInt8.ofNat (48+k % 10)]++s) ⟨rfl,rfl,rfl,by simp only [Int.natCast_ediv];rfl,trivial⟩ ⟨rfl,by dsimp only;omega,by dsimp only;exact he⟩ (by dsimp only;omega)
end Go.Proofs.YtipfkbkkndacjaaGreatDoor
namespace Go.Eng
open Go Go.RowKit Go.Proofs
section
variable {P:Program} {n:Nat} {Q:Exit->Act->World->Prop} {e:Env} {w:World} {ops:Array Oper} {S:List Nat} {Lt:List Nat} {rest:List (Nat×Nat)}
theorem Zgx {i d:Nat} {ty:TypeId} {pos:String} {af:Array Edge} {gd:Option (Nat×Bool)} {f:Nat} {fn:Func} {xs:Array Operand} {ts:Array TypeId} {vs:Array Value} {c:Operand} {ch:List PanicEntry} {F:World->Prop} [hf:Fun P f fn]
 (hi:ops[i]?=some ⟨some d,.call { callee:=.value c,args:=xs,argTypes:=ts },ty,pos,af,gd⟩) (hg:Z0b ops e gd)
 (hc:ev e c=some (.func (.func f) #[] #[])) (hv:∀ a,Has n e a->xs.map a.eval=vs) (h:Calls P f vs w (λe w'=>e=.panicked ch/\F w')) (aw:Nat.blt d n=true) (k:∀ w',F w'->WQ n Q (.panic ch) [] w'):WDq P n ops S Lt Q ((i,2) :: rest) e w:=
 ZjK (G:=λ_ _=>False) (F:=λch' w'=>ch'=ch/\F w') hi hg (Z89 hc hv (h.mono λe w' ⟨h1,h2⟩=>by rw [h1];exact .pan ⟨rfl,h2⟩)) (λ_ _ h=>h.elim) aw (λch' w' ⟨h1,h2⟩=>by subst h1;exact k w' h2) (λ_ _ h=>h.elim)
end
end Go.Eng
namespace Go.Proofs.YtipfkbkkndacjaaGreatDoor
open Go Go.Eng Go.RowKit Go.Proofs
def Zk8 (f:Nat):Prop:=∀ (l:List Tkn) (hL:Z3X l) (m:Int) (c:Eng.Call) (i o:Nat) (r:Out Nd),J8 l f c i o=some r->
 ∀ (X:List Nat) (b:Nat) (tv:Value) (w:World),b≠2->b∈X->(∀ c∈X,c<w.heap.size)->w.cell? ⟨2,0,none⟩=some (.I m)->Pd w b tv l i o->
 match c with
 | .expr k=>1<=k->k<=8->Calls Tryz.prog 226 #[pQ b,.I (k:Int)] w (PC b w tv l r (λx v w'=>NdV X w' v x))
 | .prim=>Calls Tryz.prog 279 #[pQ b] w (PC b w tv l r (λx v w'=>NdV X w' v x))
 | .loop _ _=>True
theorem Zts (s:Str) (p:Option Addr) (l c:Nat) (w):(Instr.build 97 #[(0,.I 6),(2,str s),(3,.slice p l c)]).run Tryz.prog w=.ok (.agg #[.I 6,.I 0,str s,.slice p l c]) w:=by kernel_rfl
theorem Z9T:([]:Str)∉Z4W:=by decide
theorem Zgy:Zcx.length<=1000000:=by decide
theorem ZcA (t:Str) (m:Int) (w:World) (hm:w.cell? ⟨2,0,none⟩=some (.I m)) (pj:t.length<=4000) (bC:∀ c∈t,c≠32) :
 CC 225 #[str Zcx,str t] w λr w'=>r=.B (decide (t∈Z4W))/\Stp [] w w':=
 Z3l Zcx Z4W Z9T t m w hm Zgy pj (λh=>Zk5 h bC)
theorem ZwR (f:Nat) (IH:∀ f'≤f,Zk8 f') (l:List Tkn) (hL:Z3X l) (m:Int) (k i o:Nat) (r:Out Nd) (bG:1<=k) (hk:k<=7) (bC:¬ ((k=3/\(cur l i).text=[110,111,116])\/(k=7/\(cur l i).text=[45])))
 (h : (match J8 l f (.expr (k + 1)) i o with
   | none=>none
   | some (.err a c)=>some (.err a c)
   | some (.ok x i' o')=>J8 l f (.loop k x) i' o')=some r) (X:List Nat) (b:Nat) (tv:Value) (w:World) (aW:b≠2) (bP:b∈X) (hX:∀ c∈X,c<w.heap.size) (hm:w.cell? ⟨2,0,none⟩=some (.I m)) (hp:Pd w b tv l i o) :
 Calls Tryz.prog 226 #[pQ b,.I (k:Int)] w (PC b w tv l r (λx v w'=>NdV X w' v x)):=by
 have ba:=hp.2.1;refine cW2 98 Tryz.func226 ?_;refine W ?_;refine Z0 Z2 rfl ?_;rintro _ w1 ⟨b4,rfl,bz,e4,hS⟩;have n4:b4≠b:=by have:=hp.lt;omega
 replace hm:=hS.cell (by simp) hm;replace hp:=hp.up hS;have ip:∀ c∈X,c<w1.heap.size:=λc hc=>Xa (hX c hc) hS.size;refine Z30 ?_;refine Z4o ?_
 refine Zi0 (σ:=Unit) (λ_=>[(0,pQ b),(1,.I (k:Int)),(4,pQ b4)])
  (λ_ w'=>Pd w' b tv l i o/\(∃ cs:List Value,cs.length=4/\Blk w' b4 97 cs)/\w'.cell? ⟨2,0,none⟩=some (.I m)/\Stp [] w w') ?_ ?_
 by_cases k3:k=3
 . subst k3
   have ht:¬ (cur l i).text=[110,111,116]:=λe=>bC (.inl ⟨rfl,e⟩);refine W ?_;refine CL (Z0X b tv l i o _ hp) ?_;rintro _ w2 ⟨rfl,hT⟩;replace hp:=hp.up hT;replace e4:=e4.up hT;replace hm:=hT.cell (by simp) hm;replace hS:=hS.trans hT;repeat'(first|refine W1 ?_|omega|refine VG ?_ ?_<;>intro hg|refine VC ?_ ?_<;>intro hc)
   all_goals try exact absurd (by assumption) ht
   exact QT () ⟨hp,⟨_,rfl,e4⟩,hm,hS⟩
 by_cases k7:k=7
 . subst k7
   have ht:¬ (cur l i).text=[45]:=λe=>bC (.inr ⟨rfl,e⟩);refine W ?_;refine CL (Z0X b tv l i o _ hp) ?_;rintro _ w2 ⟨rfl,hT⟩;replace hp:=hp.up hT;replace e4:=e4.up hT;replace hm:=hT.cell (by simp) hm;replace hS:=hS.trans hT
   (refine QP ?_ ?_<;>intro hc)
   all_goals try exact absurd (by assumption) ht
   exact QT () ⟨hp,⟨_,rfl,e4⟩,hm,hS⟩
 refine QO ?_;exact QT () ⟨hp,⟨_,rfl,e4⟩,hm,hS⟩;clear hp e4 hm hS;rintro _ w2 ⟨hp,⟨cs4,fy,e4⟩,hm,hS⟩;have l4:=e4.lt;have qL:∀ c∈b4 :: X,c<w2.heap.size:=λc hc=>by
  rcases Xb.1 hc with rfl|h
  exact l4;exact Xa (hX c h) hS.size
 refine W ?_;cases hE:J8 l f (.expr (k+1)) i o with
 | none=>rw [hE] at h;simp at h
 | some r1=>
   rw [hE] at h;have bF:=IH f (Xn _) l hL m (.expr (k+1)) i o r1 hE (b4 :: X) b tv w2 aW (XL _ bP) qL hm hp (by omega) (by omega);cases r1 with
   | err a c=>
     simp only [XK] at h;subst h;refine ZV rfl (Zf rfl rfl) (PC.falls bF rfl hS.mn) rfl ?_;intro w3 np;repeat'(first|refine Zh ?_|refine Zg ?_)
     refine ZE ?_;exact PC.err np
   | ok x i1 o1=>
     simp only at h;refine CL (PC.goes bF rfl) ?_;rintro _ w3 ⟨⟨kx,rfl,hx⟩,fY,hT⟩;replace e4:=e4.ext hT (by simpa using n4);replace hm:=Jy hm aW hT;have tt:∀ c∈b4 :: X,c<w3.heap.size:=λc hc=>Xa (qL c hc) hT.size;have am:=(hS.mono (S':=[b]) (by simp)).trans hT;clear hT hS hp qL bF;refine Z0 Z2 rfl ?_;rintro _ w4 ⟨b7,rfl,fu,e7,hT⟩;have n74:b7≠b4:=by have:=e4.lt;omega
     have n7b:b7≠b:=by have:=fY.lt;omega
     have n71:b7≠2:=by have:=block_lt_of_cell hm;simp at this;omega
     refine SB (us:=ndC x kx) (ZC hx) e7 ?_;rintro _ w5 ⟨ar,e7'⟩;replace hT:=hT.ow ar;clear ar e7;have qM:w.heap.size<=b7:=Xh am.size fu;have jB:w.heap.size<=b4:=bz;replace e4:=e4.up hT;replace fY:=fY.up hT;replace hm:=hT.cell (by simp) hm;replace hx:SlV (b7 :: b4 :: X) w5 kx x.kids:=hx.ext hT (by simp) (λc hc=>by
      rcases Xb.1 hc with rfl|h
      exact .inr fu;exact .inl h)
     have aD:=am.trans hT.mn;clear hT am;have l7:=e7'.lt;have tu:∀ c∈b7 :: b4 :: X,c<w5.heap.size:=λc hc=>by
      rcases Xb.1 hc with rfl|h
      exact l7;have:=tt c h;omega
     refine W ?_;clear tt hE
     refine Zt (σ:=Nat×Nd×Value×Nat×Nat) (λq=>[(0,pQ b),(1,.I (k:Int)),(4,pQ b4),(7,pQ b7)])
      (λq w'=>J8 l q.1 (.loop k q.2.1) q.2.2.2.1 q.2.2.2.2=some r/\q.1<=f/\Pd w' b tv l q.2.2.2.1 q.2.2.2.2/\Blk w' b7 97 (ndC q.2.1 q.2.2.1)/\SlV (b7 :: b4 :: X) w' q.2.2.1 q.2.1.kids/\(∃ cs:List Value,cs.length=4/\Blk w' b4 97 cs)/\w'.cell? ⟨2,0,none⟩=some (.I m)/\Stp [b] w w'/\w5.heap.size<=w'.heap.size)
      (λq=>q.1) (f,x,kx,i1,o1) ⟨rfl,rfl,rfl,rfl,trivial⟩ ⟨h,Xn _,fY,e7',hx,⟨cs4,fy,e4⟩,hm,aD,Xn _⟩ ?_
     clear h fY e7' hx e4 hm aD l4 l7 fy cs4;rintro ⟨f1,y,ky,i2,o2⟩ w6 ⟨h,nq,hp,e7,hy,⟨cs4,fy,e4⟩,hm,hS,jC⟩;dsimp only at h nq hp e7 hy ⊢
     match cs4,fy with
     | [q0,q1,q2,q3],_=>
     cases f1 with
     | zero=>simp [J8] at h
     | succ f1=>
     rw [J8] at h;refine W ?_;refine CL (Z0X b tv l i2 o2 _ hp) ?_;rintro _ w7 ⟨rfl,hT⟩;replace hp:=hp.up hT;replace e4:=e4.up hT;replace e7:=e7.up hT;replace hy:=hy.up hT;replace hm:=hT.cell (by simp) hm;replace hS:=hS.trans hT.mn;replace jC:=Xh jC hT.size;clear hT;refine W ?_;refine CL (Zcy _ _) ?_;rintro _ _ ⟨rfl,rfl⟩;by_cases kU:Z6o (cur l i2).text=k
     . rw [if_pos kU] at h
       have bM:=hL.end_of hp.i_lt (Z8c kU bG);refine QO ?_;refine CL (Z0X b tv l i2 o2 _ hp) ?_;rintro _ w8 ⟨rfl,hT⟩;replace hp:=hp.up hT;replace e4:=e4.up hT;replace e7:=e7.up hT;replace hy:=hy.up hT;replace hm:=hT.cell (by simp) hm;replace hS:=hS.trans hT.mn;replace jC:=Xh jC hT.size;clear hT;obtain ⟨dq,bA,gV,bZ,fz⟩:=id hp;refine W ?_;refine Z5 (Zb (u:=.I ((i2+1:Nat):Int)) rfl (by show some _=some _;simp) rfl rfl dq (by simp)) ?_;rintro _ w9 ⟨hT,dx⟩;replace bA:=bA.ext (X':=[b]) hT (λc hc=>hc) (λc hc=>.inl hc);replace e4:=e4.ext hT (by simpa using n4);replace e7:=e7.ext hT (by simpa using n7b);replace hy:=hy.ext (X':=b7 :: b4 :: X) hT (λc hc=>by simp at hc;subst hc;simp [bP]) (λc hc=>.inl hc);replace hm:=Jy hm aW hT;replace hS:=hS.trans hT;replace jC:=Xh jC hT.size;replace hp:Pd w9 b tv l (i2+1) o2:=⟨dx,bA,bM,bZ,fz⟩
       clear hT dx bA gV bZ fz dq;refine W ?_;have qN:∀ c∈b7 :: b4 :: X,c<w9.heap.size:=λc hc=>Xa (tu c hc) jC;cases hE:J8 l f1 (.expr (k+1)) (i2+1) o2 with
       | none=>rw [hE] at h;simp at h
       | some r2=>
         rw [hE] at h;cases r2 with
         | err a c=>
           simp only [XK] at h;subst h;refine Z9G 9 ([b]) [8] [(0,0),(1,1),(2,0),(3,0),(4,0),(5,2),(6,2),(7,0),(8,2)] rfl mixed (by kernel_rfl) (by kernel_rfl) (by kernel_rfl) (λw1 ae=>?_);replace hp:=hp.up ae;replace e7:=e7.up ae;replace hm:=ae.cell (by simp) hm;replace hS:=hS.trans ae.mn;have bF:=IH f1 (by omega) l hL m (.expr (k+1)) (i2+1) o2 _ hE (b7 :: b4 :: X) b tv w1 aW (by simp [bP]) (λc hc=>Xa (qN c hc) ae.size) hm hp (by omega) (by omega);refine JJ rfl trivial (λ_=>ZX rfl) rfl ?_;refine Z5F rfl trivial (λw' hw=>J0 rfl rfl (e7.ext hw (by simpa using n7b)) rfl) rfl ?_;refine JJ rfl trivial (λ_=>ZX rfl) rfl ?_;refine JJ rfl trivial (λ_=>ZX rfl) rfl ?_;refine JJ rfl trivial (λ_=>ZdN rfl rfl (by unfold I64;omega)) rfl ?_;refine Zgx rfl trivial rfl (Zf rfl rfl) (PC.falls bF rfl hS) rfl ?_;intro wz bR;repeat'(first|refine Zh ?_|refine Zg ?_)
           refine ZE ?_;exact PC.err bR
         | ok z i3 o3=>
           simp only at h;refine ZDr 9 ([b]) [8] [(0,0),(1,1),(2,0),(3,0),(4,0),(5,2),(6,2),(7,0),(8,2)] (λw1 ae=>?_);replace hp:=hp.up ae;replace e7:=e7.up ae;replace hy:=hy.up ae;replace e4:=e4.up ae;replace hm:=ae.cell (by simp) hm;replace hS:=hS.trans ae.mn;have tx:=Xh jC ae.size;have ip:∀ c∈b7 :: b4 :: X,c<w1.heap.size:=λc hc=>Xa (qN c hc) ae.size;have bF:=IH f1 (by omega) l hL m (.expr (k+1)) (i2+1) o2 _ hE (b7 :: b4 :: X) b tv w1 aW (by simp [bP]) ip hm hp (by omega) (by omega);clear ae qN jC;refine D ?_;refine DC (PC.goes bF rfl) (λ_ _ h=>h.2.2) ?_;rintro _ w10 ⟨⟨kz,rfl,hz⟩,bT,hT⟩;replace e4:=e4.ext hT (by simpa using n4);replace e7:=e7.ext hT (by simpa using n7b);replace hy:=hy.ext (X':=b7 :: b4 :: X) hT (λc hc=>by simp at hc;subst hc;simp [bP]) (λc hc=>.inl hc);replace hm:=Jy hm aW hT;replace hS:=hS.trans hT;have nr:=Xh tx hT.size;have nu:∀ c∈b7 :: b4 :: X,c<w10.heap.size:=λc hc=>Xa (ip c hc) hT.size;clear hT hp ip tx bF;obtain ⟨py,cy,rfl,-⟩:=id hy;obtain ⟨pz,cz,rfl,-⟩:=id hz;refine Za rfl trivial (Z1 (vs:=[(0,.agg (ndC y (.slice py y.kids.length cy)).toArray),(1,.agg (ndC z (.slice pz z.kids.length cz)).toArray)]) rfl (Zca _ _ _ _ _ _ _ _ _ _ _ _)) (λ_ _ h=>(Z9.stp h).mn) rfl ?_;intro bv w11 hN;have an:SlV (b7 :: b4 :: X) w11 bv [y,z]:=hN.slvG (css:=[ndC y _,ndC z _]) nu rfl rfl rfl (ZoH hy hz) (by simp [maxLen]);obtain ⟨bn,rfl,mm,-,hT⟩:=id hN;replace bT:=bT.up hT;replace e4:=e4.up hT;replace e7:=e7.up hT;replace hm:=hT.cell (by simp) hm;replace hS:=hS.trans hT.mn;have nw:=Xh nr hT.size;clear hT hN nu nr hy hz;refine Z1Z rfl trivial (vs:=[(0,.I 6),(2,str (cur l i2).text),(3,.slice (some ⟨bn,0,none⟩) 2 2)]) rfl (Zts _ _ _ _) rfl ?_;refine Jr rfl trivial (Zm (us:=ndC (.mk 6 0 (cur l i2).text [y,z]) (.slice (some ⟨bn,0,none⟩) 2 2)) rfl rfl rfl rfl (ZC an) e7 rfl) rfl ?_;rintro _ w12 ⟨hT,e7'⟩;have gW:∀ S:List Nat,S=[b7]->∀ c∈S,w.heap.size<=c:=λS hS c hc=>by subst hS;simp at hc;subst hc;exact qM
           replace e4:=e4.ext hT (by simpa using n74.symm);replace bT:Pd w12 b tv l i3 o3:=by
            obtain ⟨g1,g2,g3,g4,g5⟩:=bT;have cG:=hS.own hT (λc hc=>.inr (gW _ rfl c hc));exact ⟨g1.ext hT (by simpa using n7b.symm),ba.ext cG (λc hc=>hc) (λc hc=>.inl hc),g3,g4,g5⟩
           replace an:=an.ext (X':=b7 :: b4 :: X) hT (λc hc=>by simp at hc;simp [hc]) (λc hc=>.inl hc);replace hm:=hT.cell (by simpa using n71.symm) hm;replace hS:=hS.own hT (λc hc=>.inr (gW _ rfl c hc));have cZ:=Xh nw hT.size;clear hT nw;refine D ?_;by_cases k5:k=5;subst k5;refine W ?_;refine CL (Z0X b tv l i3 o3 _ bT) ?_;rintro _ w13 ⟨rfl,hT⟩;replace bT:=bT.up hT;replace e4:=e4.up hT;replace e7':=e7'.up hT;replace an:=an.up hT;replace hm:=hT.cell (by simp) hm;replace hS:=hS.trans hT.mn;replace cZ:=Xh cZ hT.size;clear hT;refine W ?_;refine CL (ZcA (cur l i3).text m _ hm (hL.tl i3) (hL.sp i3)) ?_;rintro _ w14 ⟨rfl,hT⟩;replace bT:=bT.up hT;replace e4:=e4.up hT;replace e7':=e7'.up hT;replace an:=an.up hT;replace hm:=hT.cell (by simp) hm;replace hS:=hS.trans hT.mn;replace cZ:=Xh cZ hT.size;clear hT;by_cases hu:(cur l i3).text∈Z4W;rw [if_pos ⟨rfl,hu⟩] at h;rw [decide_eq_true hu];have fE:=hL.end_of bT.i_lt (λe=>Z9T (e ▸ hu));refine W ?_;refine CL (Z0X b tv l i3 o3 _ bT) ?_;rintro _ w15 ⟨rfl,hT⟩;replace bT:=bT.up hT;replace e4:=e4.up hT;replace e7':=e7'.up hT;replace an:=an.up hT;replace hm:=hT.cell (by simp) hm;replace hS:=hS.trans hT.mn;replace cZ:=Xh cZ hT.size;clear hT;refine W ?_;refine Z5 (Zb (u:=.I 7) rfl rfl rfl rfl e7' (by simp)) ?_;rintro _ w16 ⟨hT,e7''⟩;refine W ?_;refine Z5 (Zb (u:=str (cur l i3).text) rfl rfl rfl rfl e7'' (by simp)) ?_;rintro _ w17 ⟨ny,e7q⟩;replace hT:=hT.trans ny;replace e7q:Blk w17 b7 97 (ndC (.mk 7 0 (cur l i3).text [y,z]) (.slice (some ⟨bn,0,none⟩) 2 2)):=e7q;clear ny e7' e7'';replace e4:=e4.ext hT (by simpa using n74.symm);replace bT:Pd w17 b tv l i3 o3:=by
            obtain ⟨g1,g2,g3,g4,g5⟩:=bT;have cG:=hS.own hT (λc hc=>.inr (gW _ rfl c hc));exact ⟨g1.ext hT (by simpa using n7b.symm),ba.ext cG (λc hc=>hc) (λc hc=>.inl hc),g3,g4,g5⟩
           replace an:=an.ext (X':=b7 :: b4 :: X) hT (λc hc=>by simp at hc;simp [hc]) (λc hc=>.inl hc);replace hm:=hT.cell (by simpa using n71.symm) hm;replace hS:=hS.own hT (λc hc=>.inr (gW _ rfl c hc));replace cZ:=Xh cZ hT.size;clear hT;refine W ?_
           refine JK (σ:=Unit) (λ_=>[(0,pQ b),(1,.I (5:Int)),(4,pQ b4),(7,pQ b7)])
            (λ_ w'=>Blk w' b7 97 (ndC (.mk (if (cur l i2).text=[45] then 8 else 7) 0 (cur l i3).text [y,z]) (.slice (some ⟨bn,0,none⟩) 2 2))/\Stp [b7] w17 w') ?_ ?_
           by_cases jD:(cur l i2).text=[45]
           rw [if_pos jD]
           (refine QP ?_ ?_<;>intro hc)
           refine S1 (u:=.I 8) e7q ?_;rintro _ w18 ⟨hT,e8⟩;refine W ?_;exact QT () ⟨e8,hT⟩;exact absurd jD (by assumption);rw [if_neg jD]
           (refine QP ?_ ?_<;>intro hc)
           exact absurd (by assumption) jD;exact QT () ⟨e7q,Stp.refl _ _⟩;rintro _ w18 ⟨e8,hT⟩;replace e4:=e4.ext hT (by simpa using n74.symm);replace bT:Pd w18 b tv l i3 o3:=by
            obtain ⟨g1,g2,g3,g4,g5⟩:=bT;have cG:=hS.own hT (λc hc=>.inr (gW _ rfl c hc));exact ⟨g1.ext hT (by simpa using n7b.symm),ba.ext cG (λc hc=>hc) (λc hc=>.inl hc),g3,g4,g5⟩
           replace an:=an.ext (X':=b7 :: b4 :: X) hT (λc hc=>by simp at hc;simp [hc]) (λc hc=>.inl hc);replace hm:=hT.cell (by simpa using n71.symm) hm;replace hS:=hS.own hT (λc hc=>.inr (gW _ rfl c hc));replace cZ:=Xh cZ hT.size;clear hT e7q;obtain ⟨dq,bA,gV,bZ,fz⟩:=id bT;refine W ?_;refine Z5 (Zb (u:=.I ((i3+1:Nat):Int)) rfl (by show some _=some _;simp) rfl rfl dq (by simp)) ?_;rintro _ w19 ⟨hT,dx⟩;replace bA:=bA.ext (X':=[b]) hT (λc hc=>hc) (λc hc=>.inl hc);replace e4:=e4.ext hT (by simpa using n4);replace e8:=e8.ext hT (by simpa using n7b);replace an:=an.ext (X':=b7 :: b4 :: X) hT (λc hc=>by simp at hc;subst hc;simp [bP]) (λc hc=>.inl hc);replace hm:=Jy hm aW hT;replace hS:=hS.trans hT;replace cZ:=Xh cZ hT.size;refine W ?_;exact Zs (f1,.mk (if (cur l i2).text=[45] then 8 else 7) 0 (cur l i3).text [y,z],.slice (some ⟨bn,0,none⟩) 2 2,i3+1,o3) ⟨rfl,rfl,rfl,rfl,trivial⟩ ⟨h,by omega,⟨dx,bA,fE,bZ,fz⟩,e8,an,⟨_,rfl,e4⟩,hm,hS,cZ⟩ (by omega);rw [if_neg (λh=>hu h.2),if_neg (by omega)] at h;rw [decide_eq_false hu];refine W ?_;exact Zs (f1,.mk 6 0 (cur l i2).text [y,z],.slice (some ⟨bn,0,none⟩) 2 2,i3,o3) ⟨rfl,rfl,rfl,rfl,trivial⟩ ⟨h,by omega,bT,e7',an,⟨_,rfl,e4⟩,hm,hS,cZ⟩ (by omega);rw [if_neg (λh=>k5 h.1)] at h;by_cases k4:k=4;rw [if_pos k4] at h;subst k4;simp only [XK] at h;subst h;have e7:=e7';replace hp:=bT
           skip
           refine W ?_;refine SB (us:=ndC (.mk 6 0 (cur l i2).text [y,z]) (.slice (some ⟨bn,0,none⟩) 2 2)) (ZC an) e4 ?_;rintro _ wz ⟨hT,e4'⟩;refine W ?_;refine J3 rfl rfl rfl e4' rfl ?_;obtain ⟨dq,bA,gV,bZ,fz⟩:=id hp;have cG:=hS.own hT (λc hc=>by simp at hc;subst hc;exact .inr jB);refine PC.ok ⟨_,rfl,?_⟩ ⟨dq.ext hT (by simpa using n4.symm),ba.ext cG (λc hc=>hc) (λc hc=>.inl hc),gV,bZ,fz⟩ cG;exact (an.ext (X':=b7 :: b4 :: X) hT (λc hc=>by simp at hc;simp [hc]) (λc hc=>.inl hc)).wk (λc hc=>by simp [hc]);rw [if_neg k4] at h;refine QO ?_;exact Zs (f1,.mk 6 0 (cur l i2).text [y,z],.slice (some ⟨bn,0,none⟩) 2 2,i3,o3) ⟨rfl,rfl,rfl,rfl,trivial⟩ ⟨h,by omega,bT,e7',an,⟨_,rfl,e4⟩,hm,hS,cZ⟩ (by omega)
     rw [if_neg kU] at h;simp only [XK] at h;subst h;refine QO ?_
     skip
     refine W ?_;refine SB (us:=ndC y ky) (ZC hy) e4 ?_;rintro _ wz ⟨hT,e4'⟩;refine W ?_;refine J3 rfl rfl rfl e4' rfl ?_;obtain ⟨dq,bA,gV,bZ,fz⟩:=id hp;have cG:=hS.own hT (λc hc=>by simp at hc;subst hc;exact .inr jB);refine PC.ok ⟨_,rfl,?_⟩ ⟨dq.ext hT (by simpa using n4.symm),ba.ext cG (λc hc=>hc) (λc hc=>.inl hc),gV,bZ,fz⟩ cG;exact (hy.ext (X':=b7 :: b4 :: X) hT (λc hc=>by simp at hc;simp [hc]) (λc hc=>.inl hc)).wk (λc hc=>by simp [hc])
end Go.Proofs.YtipfkbkkndacjaaGreatDoor
namespace Go.Eng
open Go Go.RowKit Go.Proofs
end Go.Eng
namespace Go.Proofs.YtipfkbkkndacjaaGreatDoor
open Go Go.Eng Go.RowKit Go.Proofs
theorem ZY {α:Type} [Z6 α] (X:List Nat) (w:World):SlV (α:=α) X w (.N) []:=⟨none,0,rfl,Xn _,by simp [maxLen],λ_=>rfl,λi hi=>absurd hi (Xw _)⟩
theorem Zgz:([]:Str)∉Z4X:=by decide
theorem Zb5 (k n:Int) (w):(Instr.build 97 #[(0,.I k),(1,.I n)]).run Tryz.prog w=.ok (.agg #[.I k,.I n,str [],.N]) w:=by kernel_rfl
theorem Znj (k:Int) (s:Str) (w):(Instr.build 97 #[(0,.I k),(2,str s)]).run Tryz.prog w=.ok (.agg #[.I k,.I 0,str s,.N]) w:=by kernel_rfl
theorem Zeo:Zb3.length<=1000000:=by decide
theorem ZgA:Zfq.length<=1000000:=by decide
theorem Z8q:([]:Str)∉Z3c:=by decide
theorem ZwS (f:Nat) (IH:Zk8 f) (l:List Tkn) (hL:Z3X l) (m:Int) (i o:Nat) (r:Out Nd) (h:J8 l (f+1) .prim i o=some r) (X:List Nat) (b:Nat) (tv:Value) (w:World) (aW:b≠2) (bP:b∈X) (hX:∀ c∈X,c<w.heap.size) (hm:w.cell? ⟨2,0,none⟩=some (.I m)) (hp:Pd w b tv l i o) :
 Calls Tryz.prog 279 #[pQ b] w (PC b w tv l r (λx v w'=>NdV X w' v x)):=by
 have ba:=hp.2.1;have hi:=hp.i_lt;have jE:=Z6w hi;rw [J8] at h;refine cW1 91 Tryz.func279 ?_;refine W ?_;refine Z0 Z2 rfl ?_;rintro _ w0 ⟨b2,rfl,bV,e2,hS⟩;have n2:b2≠b:=by have:=hp.lt;omega
 have ga:w.heap.size<=b2:=bV;obtain ⟨dq,bA,gV,bZ,fz⟩:=id hp;replace dq:=dq.up hS;replace bA:=bA.up hS;replace hm:=hS.cell (by simp) hm;refine W ?_;refine ZDr 12 [] [11] [(0,0),(1,0),(2,0),(3,1),(4,0),(5,0),(6,0),(7,1),(8,0),(9,1),(10,2),(11,2)] (λw1 ae=>?_);replace dq:=dq.up ae;replace bA:=bA.up ae;replace e2:=e2.up ae;replace hm:=ae.cell (by simp) hm;replace hS:=hS.trans ae;clear ae;refine D ?_;refine Za rfl trivial Z2 (λ_ _ ⟨_,_,_,_,h⟩=>h) rfl ?_;rintro _ w2 ⟨b3,rfl,dN,e3,ah⟩;have n3:b3≠b:=by have:=dq.lt;omega
 have n32:b3≠b2:=by have:=e2.lt;omega
 have n31:b3≠2:=by have:=block_lt_of_cell hm;simp at this;omega
 have eQ:w.heap.size<=b3:=Xh hS.size dN;refine Jr rfl trivial (Zm (us:=Z3.enc l[i]) rfl rfl rfl rfl (Z3.one _) e3 rfl) rfl ?_;rintro _ w3 ⟨hT,e3⟩;have dS:=ah.ow hT;clear hT ah;replace dq:=dq.up dS;replace bA:=bA.up dS;replace e2:=e2.up dS;replace hm:=dS.cell (by simp) hm;replace hS:=hS.trans dS;clear dS dN;refine D ?_;rw [<- jE] at e3;clear hp;have hp:Pd w3 b tv l i o:=⟨dq,bA,gV,bZ,fz⟩
 have fin:∀ (nd:Nd) (i' o':Nat) (w4 w5:World) (kv:Value),nd.kids=[]->kv=.N->Pd w4 b tv l i' o'->Stp [b] w w4->Stp [b2] w4 w5->PC b w tv l (.ok nd i' o') (λx v w'=>NdV X w' v x) (.returned (.agg (ndC nd kv).toArray)) w5:=by
  intro nd i' o' w4 w5 kv hk vk fb h1 h2;subst vk;obtain ⟨g1,g2,g3,g4,g5⟩:=fb;have cG:=h1.own h2 (λc hc=>by simp at hc;subst hc;exact .inr ga);refine PC.ok ⟨_,rfl,?_⟩ ⟨g1.ext h2 (by simpa using n2.symm),ba.ext cG (λc hc=>hc) (λc hc=>.inl hc),g3,g4,g5⟩ cG;rw [hk];exact ZY _ _
 by_cases c1:(cur l i).kind=2
 . rw [if_pos c1] at h
   simp only [XK] at h;subst h;refine QO ?_;all_goals try exact absurd c1 (by assumption)
   obtain ⟨dq,bA,gV,bZ,fz⟩:=id hp;have bM:=hL.end_of_kind hp.i_lt (by rw [c1];decide);refine W ?_;refine Z5 (Zb (u:=.I ((i+1:Nat):Int)) rfl (by show some _=some _;simp) rfl rfl dq (by simp)) ?_;rintro _ w4 ⟨hT,dx⟩;replace bA:=bA.ext (X':=[b]) hT (λc hc=>hc) (λc hc=>.inl hc);replace e2:=e2.ext hT (by simpa using n2);replace e3:=e3.ext hT (by simpa using n3);replace hS:=(hS.mono (S':=[b]) (by simp)).trans hT;replace hp:Pd w4 b tv l (i+1) o:=⟨dx,bA,bM,bZ,fz⟩
   clear hT dx dq bA;refine W ?_;apply Z7 (vs:=[(0,.I 1),(1,.I (cur l i).num)]) rfl (Zb5 _ _) rfl;refine SB (us:=ndC (.mk 1 (cur l i).num [] []) (.N)) (ZC (x:=(.mk 1 (cur l i).num [] [])) (ZY [] w)) e2 ?_;rintro _ w5 ⟨hT,e2'⟩;refine W ?_;refine J3 rfl rfl rfl e2' rfl ?_;exact fin _ _ _ _ _ _ rfl rfl hp hS hT
 rw [if_neg c1] at h;by_cases c2:(cur l i).kind=3
 . rw [if_pos c2] at h
   simp only [XK] at h;subst h;refine QO ?_;all_goals try exact absurd (by assumption) c1
   all_goals try exact absurd c2 (by assumption)
   obtain ⟨dq,bA,gV,bZ,fz⟩:=id hp;have bM:=hL.end_of_kind hp.i_lt (by rw [c2];decide);refine W ?_;refine Z5 (Zb (u:=.I ((i+1:Nat):Int)) rfl (by show some _=some _;simp) rfl rfl dq (by simp)) ?_;rintro _ w4 ⟨hT,dx⟩;replace bA:=bA.ext (X':=[b]) hT (λc hc=>hc) (λc hc=>.inl hc);replace e2:=e2.ext hT (by simpa using n2);replace e3:=e3.ext hT (by simpa using n3);replace hS:=(hS.mono (S':=[b]) (by simp)).trans hT;replace hp:Pd w4 b tv l (i+1) o:=⟨dx,bA,bM,bZ,fz⟩
   clear hT dx dq bA;refine W ?_;apply Z7 (vs:=[(0,.I 3),(1,.I (cur l i).num)]) rfl (Zb5 _ _) rfl;refine SB (us:=ndC (.mk 3 (cur l i).num [] []) (.N)) (ZC (x:=(.mk 3 (cur l i).num [] [])) (ZY [] w)) e2 ?_;rintro _ w5 ⟨hT,e2'⟩;refine W ?_;refine J3 rfl rfl rfl e2' rfl ?_;exact fin _ _ _ _ _ _ rfl rfl hp hS hT
 rw [if_neg c2] at h;refine QO ?_;all_goals try exact absurd (by assumption) c1
 all_goals try exact absurd (by assumption) c2
 refine CM (Zf rfl rfl) (Z42 b tv l [116,114,117,101] i o _ hp (λh=>hL.end_of hp.i_lt (by rw [h];decide))) ?_;rintro _ w4 ⟨rfl,fb,hT⟩;replace e2:=e2.ext hT (by simpa using n2);replace e3:=e3.ext hT (by simpa using n3);replace hm:=Jy hm aW hT;replace hS:=(hS.mono (S':=[b]) (by simp)).trans hT;clear hT hp;have c3:¬ (cur l i).text=[116,114,117,101]:=λh=>hL.plain i (by rw [h];decide)
 rw [if_neg c3] at h fb;rw [decide_eq_false c3];refine W ?_;refine CM (Zf rfl rfl) (Z42 b tv l [102,97,108,115,101] i o _ fb (λh=>hL.end_of fb.i_lt (by rw [h];decide))) ?_;rintro _ w5 ⟨rfl,gX,hT⟩;replace e2:=e2.ext hT (by simpa using n2);replace e3:=e3.ext hT (by simpa using n3);replace hm:=Jy hm aW hT;replace hS:=hS.trans hT;clear hT fb;have c4:¬ (cur l i).text=[102,97,108,115,101]:=λh=>hL.plain i (by rw [h];decide)
 rw [if_neg c4] at h gX;rw [decide_eq_false c4];have hp:=gX;clear gX;have c5:¬ (cur l i).text=[40]:=λh=>hL.plain i (by rw [h];decide)
 rw [if_neg c5] at h;have c6:¬ (cur l i).text=[105,102]:=λh=>hL.plain i (by rw [h];decide)
 rw [if_neg c6] at h;repeat'(first|refine W1 ?_|omega|refine VG ?_ ?_<;>intro hg|refine VC ?_ ?_<;>intro hc)
 all_goals try exact absurd (by assumption) c5
 all_goals try exact absurd (by assumption) c6
 refine CL (Z3l Zfq Z4X Zgz (cur l i).text m _ hm ZgA (hL.tl i) (λh=>Zk6 h (hL.sp i))) ?_;rintro _ w6 ⟨rfl,hT⟩;replace hp:=hp.up hT;replace e2:=e2.up hT;replace e3:=e3.up hT;replace hm:=hT.cell (by simp) hm;replace hS:=hS.trans hT.mn;clear hT;have c7:¬ ((cur l i).text∈Z4X):=λh=>hL.plain i (Xg.2 (.inr h));rw [if_neg c7] at h;rw [decide_eq_false c7];refine W ?_;refine CL (Z3l Zb3 Z3c Z8q (cur l i).text m _ hm Zeo (hL.tl i) (λh=>Zgw h (hL.sp i))) ?_;rintro _ w7 ⟨rfl,hT⟩;replace hp:=hp.up hT;replace e2:=e2.up hT;replace e3:=e3.up hT;replace hm:=hT.cell (by simp) hm;replace hS:=hS.trans hT.mn;clear hT;by_cases c8:(cur l i).text∈Z3c;rw [if_pos c8] at h;simp only [XK] at h;subst h;rw [decide_eq_true c8];obtain ⟨dq,bA,gV,bZ,fz⟩:=id hp;have bM:=hL.end_of hp.i_lt (λe=>Z8q (e ▸ c8));refine W ?_;refine Z5 (Zb (u:=.I ((i+1:Nat):Int)) rfl (by show some _=some _;simp) rfl rfl dq (by simp)) ?_;rintro _ w8 ⟨hT,dx⟩;replace bA:=bA.ext (X':=[b]) hT (λc hc=>hc) (λc hc=>.inl hc);replace e2:=e2.ext hT (by simpa using n2);replace e3:=e3.ext hT (by simpa using n3);replace hS:=hS.trans hT;replace hp:Pd w8 b tv l (i+1) o:=⟨dx,bA,bM,bZ,fz⟩
 clear hT dx dq bA;refine W ?_;apply Z7 (vs:=[(0,.I 4),(2,str (cur l i).text)]) rfl (Znj _ _) rfl;refine SB (us:=ndC (.mk 4 0 (cur l i).text []) (.N)) (ZC (x:=(.mk 4 0 (cur l i).text [])) (ZY [] w)) e2 ?_;rintro _ w9 ⟨hT,e2'⟩;refine W ?_;refine J3 rfl rfl rfl e2' rfl ?_;exact fin _ _ _ _ _ _ rfl rfl hp hS hT;rw [if_neg c8] at h;simp only [XK] at h;subst h;rw [decide_eq_false c8];refine W ?_;refine ZV rfl (Zf rfl rfl) (Z9S b tv l i o 20 _ w hp hS) rfl ?_;intro wz bR;repeat'(first|refine Zh ?_|refine Zg ?_)
 refine ZE ?_;exact PC.fail bR
theorem ZwT {l:List Tkn} {m:Int} {i o:Nat} {r:Out Nd} (IH:∀ (X:List Nat) (b:Nat) (tv:Value) (w:World),b≠2->b∈X->(∀ c∈X,c<w.heap.size)->w.cell? ⟨2,0,none⟩=some (.I m)->Pd w b tv l i o->
 Calls Tryz.prog 279 #[pQ b] w (PC b w tv l r (λx v w'=>NdV X w' v x))) (X:List Nat) (b:Nat) (tv:Value) (w:World) (aW:b≠2) (bP:b∈X) (hX:∀ c∈X,c<w.heap.size) (hm:w.cell? ⟨2,0,none⟩=some (.I m)) (hp:Pd w b tv l i o) :
 Calls Tryz.prog 226 #[pQ b,.I ((8:Nat):Int)] w (PC b w tv l r (λx v w'=>NdV X w' v x)):=by
 have ba:=hp.2.1;refine cW2 98 Tryz.func226 ?_;refine W ?_;refine Z0 Z2 rfl ?_;rintro _ w1 ⟨b4,rfl,bz,e4,hS⟩;have n4:b4≠b:=by have:=hp.lt;omega
 have jB:w.heap.size<=b4:=bz;replace hm:=hS.cell (by simp) hm;replace hp:=hp.up hS;have l4:=e4.lt;have ip:∀ c∈b4 :: X,c<w1.heap.size:=λc hc=>by
  rcases Xb.1 hc with rfl|hc
  exact l4;have:=hX c hc;have:=hS.size;omega
 refine QO ?_;have bF:=IH (b4 :: X) b tv _ aW (by simp [bP]) ip hm hp;cases r with
 | err a c=>
   refine ZV rfl (ZN rfl) (PC.falls bF rfl hS.mn) rfl ?_;intro wz bR;repeat'(first|refine Zh ?_|refine Zg ?_)
   refine ZE ?_;exact PC.err bR
 | ok x i3 o3=>
   refine CL (PC.goes bF rfl) ?_;rintro _ wE ⟨⟨kx,rfl,hx⟩,qO,hT⟩;replace e4:=e4.ext hT (by simpa using n4);replace hS:=(hS.mono (S':=[b]) (by simp)).trans hT;clear hT hp;refine SB (us:=ndC x kx) (ZC hx) e4 ?_;rintro _ wz ⟨hT,e4'⟩;refine W ?_;refine J3 rfl rfl rfl e4' rfl ?_;obtain ⟨g1,g2,g3,g4,g5⟩:=qO;have cG:=hS.own hT (λc hc=>by simp at hc;subst hc;exact .inr jB);refine PC.ok ⟨_,rfl,?_⟩ ⟨g1.ext hT (by simpa using n4.symm),ba.ext cG (λc hc=>hc) (λc hc=>.inl hc),g3,g4,g5⟩ cG;exact (hx.ext (X':=b4 :: X) hT (λc hc=>by simp at hc;simp [hc]) (λc hc=>.inl hc)).wk (λc hc=>by simp [hc])
theorem ZgB:∀ f,Zk8 f:=by
 intro f
 induction f using Nat.strongRecOn with
 | _ f ih=>
   intro l hL m c i o r h X b tv w aW bP hX hm hp;cases f with
   | zero=>simp [J8] at h
   | succ f=>
     have IH:=ih f (Xv f);cases c with
     | loop k x=>trivial
     | prim=>exact ZwS f IH l hL m i o r h X b tv w aW bP hX hm hp
     | expr k=>
       intro bG yg;rw [J8] at h;split at h;rename_i bC;rcases bC with ⟨_,ht⟩|⟨_,ht⟩<;>exact absurd (by rw [ht];decide) (hL.plain i)
       rename_i bC;split at h;rename_i h8;subst h8;exact ZwT (IH l hL m .prim i o r h) X b tv w aW bP hX hm hp;exact ZwR f (λf' tz=>ih f' (by omega)) l hL m k i o r bG (by omega) bC h X b tv w aW bP hX hm hp
theorem Z8r:Z1K [114,117,108,101,32,102,114,111,109,32,111,110,32,105,102,32,100,117,101,32,117,110,108,101,115,115,32,101,108,115,101,32,111,114,32,97,110,100,32,110,111,116,32,116,114,117,101,32,102,97,108,115,101,32,116,104,101,110,32,101,110,100,32,100,97,121,115,32,119,101,101,107,115,32,109,111,110,116,104,115,32,99,111,117,114,116,100,97,121,115,32,110,101,120,116,32,112,114,101,118,32,108,97,116,101,114,32,101,97,114,108,105,101,114,32,98,101,116,119,101,101,110,32,100,97,121,32,115,101,114,118,101,100,32,101,120,116,114,97,32,98,121,32,116,111,32,99,111,117,114,116,32,97,109,111,117,110,116]=Zb2++Ze:=by decide +kernel
theorem Zb6 (X:List Nat) (w:World) (hX:∀ b∈X,b<w.heap.size):CC 183 #[] w λr w'=>Row X w' w.heap.size 9 r (Zb2++Ze)/\Stp [] w w':=by
 refine cW0 2 Tryz.func183 ?_;refine W ?_;refine CM (ZN rfl) (Z1a X [114,117,108,101,32,102,114,111,109,32,111,110,32,105,102,32,100,117,101,32,117,110,108,101,115,115,32,101,108,115,101,32,111,114,32,97,110,100,32,110,111,116,32,116,114,117,101,32,102,97,108,115,101,32,116,104,101,110,32,101,110,100,32,100,97,121,115,32,119,101,101,107,115,32,109,111,110,116,104,115,32,99,111,117,114,116,100,97,121,115,32,110,101,120,116,32,112,114,101,118,32,108,97,116,101,114,32,101,97,114,108,105,101,114,32,98,101,116,119,101,101,110,32,100,97,121,32,115,101,114,118,101,100,32,101,120,116,114,97,32,98,121,32,116,111,32,99,111,117,114,116,32,97,109,111,117,110,116] _ hX (by decide +kernel)) ?_;rintro v w1 ⟨hr,hS⟩;rw [Z8r] at hr;refine RT ?_;exact ⟨hr,hS⟩
theorem Z1v (s:Str) (w):CC 106 #[str s] w λr w'=>r=.B (ZB s)/\Stp [] w w':=by
 refine cW1 60 Tryz.func106 ?_;refine W ?_;by_cases h0:s.length≠0/\s.length<=12/\97<=Jg s 0/\Jg s 0<=122
 case neg=>
  have hn:ZB s=false:=by
   unfold ZB Z41;rw [decide_eq_false (λh=>h0 ⟨by omega,h.2.1,h.2.2.1,h.2.2.2.1⟩)];rfl
  by_cases hl:s.length≠0
  (refine QP ?_ ?_<;>intro hg)
  refine RU ?_;exact ⟨by rw [hn],Stp.refl _ _⟩;refine J9 (i:=0) rfl rfl rfl (by omega) rfl ?_
  (refine QP ?_ ?_<;>intro hg)
  refine RU ?_;exact ⟨by rw [hn],Stp.refl _ _⟩;refine J9 (i:=0) rfl rfl rfl (by omega) rfl ?_;refine RT ?_;exact ⟨by rw [hn],Stp.refl _ _⟩;refine RT ?_;exact ⟨by rw [hn],Stp.refl _ _⟩
 obtain ⟨h1,h2,h3,h4⟩:=h0;refine QO ?_;refine J9 (i:=0) rfl rfl rfl (by omega) rfl ?_;refine QO ?_;refine J9 (i:=0) rfl rfl rfl (by omega) rfl ?_;refine QO ?_;refine LP (σ:=Nat) (λi=>[(0,str s),(3,.I (i:Int))]) (λi w'=>i<=s.length/\w'=w/\∀ j,j<i->Zk3 (Jg s j)) (λi=>s.length - i) 0 ⟨Xp _,rfl,λj hj=>absurd hj (Xw _)⟩ ?_;rintro i w2 ⟨hi,rfl,aB⟩
 try dsimp only at hi aB ⊢
 by_cases hlt:¬ s.length<=i;by_cases cT:(97<=Jg s i/\Jg s i<=122)\/(48<=Jg s i/\Jg s i<=57)
 . have eI:∀ j,j<i+1->Zk3 (Jg s j):=λj hj=>by
    by_cases e:j=i;subst e;exact cT;exact aB j (by omega)
   repeat'(first|refine W1 ?_|omega|refine VG ?_ ?_<;>intro hg|refine VC ?_ ?_<;>intro hc)
   all_goals exact QL (i+1) ⟨by omega,rfl,eI⟩ (by omega)
 . have hn:ZB s=false:=by
    unfold ZB Z41;rw [decide_eq_false (λh=>cT (h.2.2.2.2 i (by omega)))];rfl
   repeat'(first|refine W1 ?_|omega|refine VG ?_ ?_<;>intro hg|refine VC ?_ ?_<;>intro hc)
   all_goals
    refine RU ?_;exact ⟨by rw [hn],Stp.refl _ _⟩
 obtain rfl:i=s.length:=by omega
 have aP:Z41 s=true:=decide_eq_true ⟨by omega,h2,h3,h4,aB⟩;refine QO ?_;refine CM Z6g (Zb6 [] _ (by simp)) ?_;rintro rv w3 ⟨hr,hS⟩;refine W ?_;refine CL (Z0f [] rv _ s _ hr.slv0) ?_;rintro _ w4 ⟨rfl,aI⟩;refine W ?_;refine WR ?_;refine .mk ⟨?_,hS.trans aI⟩;unfold ZB;rw [aP,Bool.true_and];congr 1;refine decide_eq_decide.2 ?_;rw [<- Int.not_le,Zcw,Xg,not_or]
def Z1H (x:Nd) (want:Int):Int:=if Zw x<=12 then (if Zd x=0 then 21 else if Zd x=want then 0 else 21) else 2
theorem ZcB (v:Value) (x:Nd) (want:Int) (w) (hx:NdV [] w v x) (hF:SlV [] w Z21 Ze):CC 168 #[v,.I want] w λr w'=>r=.I (Z1H x want)/\Stp [] w w':=by
 obtain ⟨kv,rfl,hs⟩:=hx;refine cW2 20 Tryz.func168 ?_;refine W ?_;refine Z0 (Zq rfl) rfl ?_;rintro _ w1 ⟨b,rfl,hb,ac,hS⟩;replace ac:Blk w1 b _ (ndC x kv):=ac;refine W ?_;refine CL (Zjq [] [] _ x _ ⟨kv,rfl,hs.up hS⟩ (hF.up hS)) ?_;rintro _ w2 ⟨rfl,ah⟩;replace hS:=hS.trans ah;unfold Z1H;by_cases hn:Zw x<=12;rw [if_pos hn,if_pos hn,if_pos hn];by_cases ht:Zd x=0;rw [if_pos ht,if_pos ht];refine RT ?_;exact ⟨rfl,hS⟩;rw [if_neg ht,if_neg ht];by_cases hw:Zd x=want;rw [if_pos hw];refine RT ?_;exact ⟨rfl,hS⟩;rw [if_neg hw];refine RT ?_;exact ⟨rfl,hS⟩;rw [if_neg hn,if_neg hn,if_neg hn];refine RT ?_;exact ⟨rfl,hS⟩
structure Rul where
 name:Str
 frm:Int
 on:Str
 cnd:Nd
 due:Nd
 unl:Str
 els:Str
abbrev rlC (r:Rul) (ki kd:Value):List Value:=[str r.name,.I r.frm,str r.on,.I r.cnd.kind,.I r.cnd.num,str r.cnd.word,ki,.I r.due.kind,.I r.due.num,str r.due.word,kd,str r.unl,str r.els]
def ZgC (X:List Nat) (w:World) (v:Value) (r:Rul):Prop:=∃ ki kd,v=.agg (rlC r ki kd).toArray/\SlV X w ki r.cnd.kids/\SlV X w kd r.due.kids
def Je (r:Rul):Bool:=ZB r.name && ZB r.on && (decide (r.unl=[]) || ZB r.unl) && (decide (r.els=[]) || ZB r.els)
def Z0M (r:Rul):Int:=if Je r=false then 7 else if r.frm<0\/r.frm > 3652058 then 5 else if Z1H r.cnd 2≠0 then Z1H r.cnd 2 else Z1H r.due 3
theorem Z7b (v:Value) (r:Rul) (m:Int) (w) (hv:ZgC [] w v r) (hF:SlV [] w Z21 Ze) (hm:w.cell? ⟨2,0,none⟩=some (.I m)) :
 CC 92 #[v] w λr' w'=>r'=.I (Z0M r)/\Stp [] w w':=by
 obtain ⟨ki,kd,rfl,hi,hd⟩:=hv;refine cW1 55 Tryz.func92 ?_;refine W ?_;refine Z0 (Zq rfl) rfl ?_;rintro _ w1 ⟨b,rfl,hb,ac,hS⟩;replace ac:Blk w1 b _ (rlC r ki kd):=ac;refine W ?_;refine CM (ZN rfl) (Z2N r.name m _ (hF.up hS) (hS.cell (by simp) hm)) ?_;rintro _ w2 ⟨rfl,hT⟩;replace ac:=ac.up hT;replace hS:=hS.trans hT;clear hT;refine Z5K (σ:=Bool) (λq=>[(1,pQ b),(2,.I 0),(4,.B q)]) (λq w'=>Blk w' b 99 (rlC r ki kd)/\Stp [] w w'/\q=!Je r) ?_ ?_
 . cases hA:ZB r.name with
   | false=>
     refine W ?_;exact QT true ⟨ac,hS,by simp [Je, *]⟩
   | true=>
     refine W ?_;refine CM (ZN rfl) (Z2N r.on m _ (hF.up hS) (hS.cell (by simp) hm)) ?_;rintro _ w2 ⟨rfl,hT⟩;replace ac:=ac.up hT;replace hS:=hS.trans hT;clear hT;cases hB:ZB r.on with
     | false=>
       refine W ?_;exact QT true ⟨ac,hS,by simp [Je, *]⟩
     | true=>
       repeat'(first|refine W1 ?_|omega|refine VG ?_ ?_<;>intro hg|refine VC ?_ ?_<;>intro hc)
       . refine CM (ZN rfl) (Z2N r.unl m _ (hF.up hS) (hS.cell (by simp) hm)) ?_
         rintro _ w2 ⟨rfl,hT⟩;replace ac:=ac.up hT;replace hS:=hS.trans hT;clear hT;cases hC:ZB r.unl with
         | false=>
           refine W ?_;exact QT true ⟨ac,hS,by simp [Je, *]⟩
         | true=>
           (refine QP ?_ ?_<;>intro hg)
           . refine CM (ZN rfl) (Z2N r.els m _ (hF.up hS) (hS.cell (by simp) hm)) ?_
             rintro _ w2 ⟨rfl,hT⟩;replace ac:=ac.up hT;replace hS:=hS.trans hT;clear hT;cases hD:ZB r.els with
             | false=>
               refine W ?_;exact QT true ⟨ac,hS,by simp [Je, *]⟩
             | true=>
               refine W ?_;exact QT false ⟨ac,hS,by simp [Je, *]⟩
           exact QT false ⟨ac,hS,by simp [Je, *]⟩
       . refine CM (ZN rfl) (Z2N r.els m _ (hF.up hS) (hS.cell (by simp) hm)) ?_
         rintro _ w2 ⟨rfl,hT⟩;replace ac:=ac.up hT;replace hS:=hS.trans hT;clear hT;cases hD:ZB r.els with
         | false=>
           refine W ?_;exact QT true ⟨ac,hS,by simp [Je, *]⟩
         | true=>
           refine W ?_;exact QT false ⟨ac,hS,by simp [Je, *]⟩
       exact QT false ⟨ac,hS,by simp [Je, *]⟩
 rintro q w3 ⟨ac,hS,hq⟩
 try dsimp only at hq ⊢
 unfold Z0M;cases fK:Je r with
 | false=>
   rw [fK] at hq;subst hq;refine RT ?_;exact ⟨rfl,hS⟩
 | true=>
   rw [fK] at hq;subst hq;refine W ?_;by_cases hr:r.frm<0\/r.frm > 3652058
   . repeat'(first|refine W1 ?_|omega|refine VG ?_ ?_<;>intro hg|refine VC ?_ ?_<;>intro hc)
     all_goals
      refine RU ?_;exact ⟨by rw [if_neg (by decide),if_pos hr],hS⟩
   refine QO ?_;apply Z8 (Zl (us:=ndC r.cnd ki) rfl rfl ac rfl rfl) rfl;refine W ?_;refine CL (ZcB _ r.cnd 2 _ ⟨ki,rfl,hi.up hS⟩ (hF.up hS)) ?_;rintro _ w4 ⟨rfl,hT⟩;replace ac:=ac.up hT;replace hS:=hS.trans hT;clear hT;by_cases h2:Z1H r.cnd 2=0;refine QO ?_;apply Z8 (Zl (us:=ndC r.due kd) rfl rfl ac rfl rfl) rfl;refine W ?_;refine CL (ZcB _ r.due 3 _ ⟨kd,rfl,hd.up hS⟩ (hF.up hS)) ?_;rintro _ w5 ⟨rfl,hT⟩;refine RT ?_;exact ⟨by rw [if_neg (by decide),if_neg hr,if_neg (by simpa using h2)],hS.trans hT⟩;refine RT ?_;exact ⟨by rw [if_neg (by decide),if_neg hr,if_pos h2],hS⟩
end Go.Proofs.YtipfkbkkndacjaaGreatDoor
namespace Go.Eng
open Go Go.RowKit Go.Proofs
section
variable {P:Program} {n:Nat} {Q:Exit->Act->World->Prop} {e:Env} {w:World} {ops:Array Oper} {rest:List Oper} {ty:TypeId} {pos:String} {af:Array Edge}
theorem ZcC {d:Option Nat} {g:Option (Nat×Bool)} {f:Nat} {fn:Func} {xs:Array Operand} {ts:Array TypeId} {vs bd cap us:Array Value} {G:Value->World->Prop} {c:Operand} [hf:Fun P f fn] (hc:ev e c=some (.func (.func f) bd cap))
 (hv:∀ a,Has n e a->xs.map a.eval=vs) (hu:bd++vs++cap=us) (h:Calls P f us w (Ret G)) :
 OE P n ⟨d,.call { callee:=.value c,args:=xs,argTypes:=ts },ty,pos,af,g⟩ e w G:=
 ⟨λa ha Q => by
   have he:(execOp a.eval ⟨d,.call { callee:=.value c,args:=xs,argTypes:=ts },ty,pos,af,g⟩).run P w=.ok (.enter f us) w:=by
    simp only [execOp,resolve,ha.ev hc,Deferred.ofValue,hv a ha];simp [invoke];rw [<- Array.append_assoc,hu];exact hf.enters us w
   unfold Oper.wp;rw [he];simp only [Oper.upon];refine h.mono ?_;rintro r w' ⟨v,rfl,hg⟩;exact ⟨v,rfl,hg⟩⟩
theorem Z9U {d:Nat} {f:Nat} {fn:Func} {xs:Array Operand} {ts:Array TypeId} {vs bd cap us:Array Value} {c:Operand} {ch:List PanicEntry} {F:World->Prop} [hf:Fun P f fn]
 (hc:ev e c=some (.func (.func f) bd cap)) (hv:∀ a,Has n e a->xs.map a.eval=vs) (hu:bd++vs++cap=us) (h:Calls P f us w (λe w'=>e=.panicked ch/\F w')) (hd:Nat.blt d n=true) (k:∀ w',F w'->WQ n Q (.panic ch) [] w') :
 WL P n ops Q (⟨some d,.call { callee:=.value c,args:=xs,argTypes:=ts },ty,pos,af,none⟩ :: rest) e w:=
 ZaV (G:=λ_ _=>False) (F:=λch' w'=>ch'=ch/\F w') (Zgj hc hv hu (h.mono λe w' ⟨h1,h2⟩=>by rw [h1];exact .pan ⟨rfl,h2⟩)) hd (λch' w' ⟨h1,h2⟩=>by subst h1;exact Z9H (k w' h2)) (λ_ _ h=>h.elim)
theorem Z0Y {d:Option Nat} {g:Option (Nat×Bool)} {f:Nat} {x:Operand} {v:Value} (hx:ev e x=some v):PR P n ⟨d,.makeFunc (.func f) #[x] #[],ty,pos,af,g⟩ e w (.func (.func f) #[v] #[]):=
 ⟨λa ha=>by simp [execOp,Instr.makeFunc,ha.ev hx]⟩
end
end Go.Eng
namespace Go.Proofs.YtipfkbkkndacjaaGreatDoor
open Go Go.Eng Go.RowKit Go.Proofs
def _root_.Go.Eng.RuleM.rul (r:RuleM):Rul:=⟨r.name,r.frm,r.on,r.cond,r.due,r.unl,r.els⟩
instance:Z6 Rul where
 k:=13
 rep:=λX w r cs=>∃ ki kd,cs=rlC r ki kd/\SlV X w ki r.cnd.kids/\SlV X w kd r.due.kids
 len:=by rintro X w r cs ⟨ki,kd,rfl,_⟩;rfl
 one:=by
  rintro X w r cs ⟨ki,kd,rfl,h1,h2⟩ c hc;have e1:=h1.one;have e2:=h2.one;simp only [rlC,Xb,Xj,or_false] at hc;rcases hc with rfl|rfl|rfl|rfl|rfl|rfl|rfl|rfl|rfl|rfl|rfl|rfl|rfl<;>first|rfl|exact e1|exact e2
 ext:=by
  rintro X S X' w w' r cs ⟨ki,kd,rfl,h1,h2⟩ hS g1 g2;exact ⟨ki,kd,rfl,h1.ext hS g1 g2,h2.ext hS g1 g2⟩
theorem ZoK (r:Rul) {X Y:List Nat} {w w':World} {ki kd:Value} (h1:SlV X w ki r.cnd.kids) (h2:SlV Y w' kd r.due.kids):∀ c∈rlC r ki kd,c.oneCell'=true:=by
 intro c hc;have e1:=h1.one;have e2:=h2.one;simp only [rlC,Xb,Xj,or_false] at hc;rcases hc with rfl|rfl|rfl|rfl|rfl|rfl|rfl|rfl|rfl|rfl|rfl|rfl|rfl<;>first|rfl|exact e1|exact e2
theorem ZgD (X:List Nat) (b:Nat) (tv:Value) (l:List Tkn) (hL:Z3X l) (m:Int) (i o:Nat) (w:World) (aW:b≠2) (bP:b∈X) (hX:∀ c∈X,c<w.heap.size) (hm:w.cell? ⟨2,0,none⟩=some (.I m)) (hp:Pd w b tv l i o) :
 Calls Tryz.prog 166 #[pQ b] w (PC b w tv l (Z24 l i o) (λx v w'=>NdV X w' v x)):=by
 have ba:=hp.2.1;have hE:=Z9K l i o;generalize Z24 l i o=r at *;refine cW1 5 Tryz.func166 ?_;refine W ?_;refine Z0 Z2 rfl ?_;rintro _ w1 ⟨b2,rfl,bV,e2,hS⟩;have n2:b2≠b:=by have:=hp.lt;omega
 have ga:w.heap.size<=b2:=bV;replace hm:=hS.cell (by simp) hm;replace hp:=hp.up hS;have l2:=e2.lt;have ip:∀ c∈b2 :: X,c<w1.heap.size:=λc hc=>by
  rcases Xb.1 hc with rfl|hc
  exact l2;have:=hX c hc;have:=hS.size;omega
 refine W ?_;have bF:=ZgB _ l hL m (.expr 1) i o r hE (b2 :: X) b tv _ aW (by simp [bP]) ip hm hp (by omega) (by omega);cases r with
 | err a c=>
   refine ZV rfl (Zf rfl rfl) (PC.falls bF rfl hS.mn) rfl ?_;intro wz bR;repeat'(first|refine Zh ?_|refine Zg ?_)
   refine ZE ?_;exact PC.err bR
 | ok x i3 o3=>
   refine CL (PC.goes bF rfl) ?_;rintro _ wE ⟨⟨kx,rfl,hx⟩,qO,hT⟩;replace e2:=e2.ext hT (by simpa using n2);replace hS:=(hS.mono (S':=[b]) (by simp)).trans hT;clear hT hp;refine SB (us:=ndC x kx) (ZC hx) e2 ?_;rintro _ wz ⟨hT,e2'⟩;refine W ?_;refine J3 rfl rfl rfl e2' rfl ?_;obtain ⟨g1,g2,g3,g4,g5⟩:=qO;have cG:=hS.own hT (λc hc=>by simp at hc;subst hc;exact .inr ga);refine PC.ok ⟨_,rfl,?_⟩ ⟨g1.ext hT (by simpa using n2.symm),ba.ext cG (λc hc=>hc) (λc hc=>.inl hc),g3,g4,g5⟩ cG;exact (hx.ext (X':=b2 :: X) hT (λc hc=>by simp at hc;simp [hc]) (λc hc=>.inl hc)).wk (λc hc=>by simp [hc])
theorem Z1S (b:Nat) (tv:Value) (l:List Tkn) (hL:Z3X l) (wd:Str) (qP:wd≠[]) (m:Int) (i o:Nat) (w:World) (aW:b≠2) (hm:w.cell? ⟨2,0,none⟩=some (.I m)) (hp:Pd w b tv l i o) :
 Calls Tryz.prog 164 #[pQ b,str wd,.func (.func 161) #[pQ b] #[]] w (PC b w tv l (Z1G l wd [] (Z2r l) i o) (λs v _=>v=str s)):=by
 unfold Z1G;refine cW3 19 Tryz.func164 ?_;refine W ?_;refine CM (Zf rfl rfl) (Z42 b tv l wd i o _ hp (λh=>hL.end_of hp.i_lt (by rw [h];exact qP))) ?_;rintro _ w4 ⟨rfl,fb,hS⟩;replace hm:=Jy hm aW hS;by_cases c3:(cur l i).text=wd;rw [if_pos c3] at fb ⊢;rw [decide_eq_true c3];refine W ?_;rcases hN:Z2r l (i+1) o with ⟨a,c⟩|⟨s,i1,o1⟩
 refine Z9U rfl Z6g rfl (PC.falls (Z5O b tv l hL _ _ m _ hm fb) hN hS) rfl ?_;intro wz bR;focus repeat'(first|refine Zh ?_|refine Zg ?_)
 refine ZE ?_;exact PC.err bR;refine Z0 (ZcC rfl Z6g rfl (PC.goes (Z5O b tv l hL _ _ m _ hm fb) hN)) rfl ?_;rintro _ w5 ⟨rfl,gX,hT⟩;replace hS:=hS.trans hT;refine W ?_;simp only [Out.bind];rcases hU:Z0U l [59] i1 o1 with ⟨a,c⟩|⟨u,i2,o2⟩
 refine ZV rfl (Zf rfl rfl) (PC.falls (JP b tv l hL _ (by decide) i1 o1 _ gX) hU hS) rfl ?_;intro wz bR;focus repeat'(first|refine Zh ?_|refine Zg ?_)
 refine ZE ?_;exact PC.err bR;refine CM (Zf rfl rfl) (PC.goes (JP b tv l hL _ (by decide) i1 o1 _ gX) hU) ?_;rintro _ w6 ⟨rfl,qQ,hT⟩;replace hS:=hS.trans hT;refine W ?_;refine WR ?_;exact PC.ok rfl qQ hS;rw [if_neg c3] at fb ⊢;rw [decide_eq_false c3];refine W ?_;refine WR ?_;exact PC.ok rfl fb hS
theorem Z4D (X:List Nat) (b:Nat) (tv:Value) (l:List Tkn) (hL:Z3X l) (wd:Str) (qP:wd≠[]) (m:Int) (i o:Nat) (w:World) (aW:b≠2) (bP:b∈X) (hX:∀ c∈X,c<w.heap.size) (hm:w.cell? ⟨2,0,none⟩=some (.I m)) (hp:Pd w b tv l i o) :
 Calls Tryz.prog 165 #[pQ b,str wd,.func (.func 166) #[pQ b] #[]] w (PC b w tv l (Z1G l wd JU (Z24 l) i o) (λx v w'=>NdV X w' v x)):=by
 have ba:=hp.2.1;unfold Z1G;refine cW3 19 Tryz.func165 ?_;refine W ?_;refine Z0 Z2 rfl ?_;rintro _ w1 ⟨b6,rfl,ez,e6,hS⟩;have n6:b6≠b:=by have:=hp.lt;omega
 have lh:w.heap.size<=b6:=ez;refine W ?_;refine Z0 Z2 rfl ?_;rintro _ w2 ⟨b7,rfl,fu,e7,hT⟩;have n7:b7≠b:=by have:=hp.lt;have:=hS.size;omega
 have n76:b7≠b6:=by have:=e6.lt;omega
 replace e6:=e6.up hT;replace hS:=hS.trans hT;clear hT;replace hm:=hS.cell (by simp) hm;replace hp:=hp.up hS;refine W ?_;refine CM (Zf rfl rfl) (Z42 b tv l wd i o _ hp (λh=>hL.end_of hp.i_lt (by rw [h];exact qP))) ?_;rintro _ w4 ⟨rfl,fb,hT⟩;replace hm:=Jy hm aW hT;replace e6:=e6.ext hT (by simpa using n6);replace e7:=e7.ext hT (by simpa using n7);replace hS:=(hS.mono (S':=[b]) (by simp)).trans hT;clear hT hp;by_cases c3:(cur l i).text=wd;rw [if_pos c3] at fb ⊢;rw [decide_eq_true c3];refine W ?_;have l6:=e6.lt;have qR:∀ c∈b6 :: X,c<w4.heap.size:=λc hc=>by
  rcases Xb.1 hc with rfl|hc
  exact l6;have:=hX c hc;have:=hS.size;omega
 have bF:=ZgD (b6 :: X) b tv l hL m (i+1) o w4 aW (by simp [bP]) qR hm fb;rcases hN:Z24 l (i+1) o with ⟨a,c⟩|⟨x,i1,o1⟩
 refine Z9U rfl Z6g rfl (PC.falls bF hN hS) rfl ?_;intro wz bR;focus repeat'(first|refine Zh ?_|refine Zg ?_)
 refine ZE ?_;exact PC.err bR;refine Z0 (ZcC rfl Z6g rfl (PC.goes bF hN)) rfl ?_;rintro _ w5 ⟨⟨kx,rfl,hx⟩,gX,hT⟩;replace e6:=e6.ext hT (by simpa using n6);replace hS:=hS.trans hT;have tu:∀ c∈b6 :: X,c<w5.heap.size:=λc hc=>Xa (qR c hc) hT.size;clear hT fb qR l6 bF;refine Z0 Z2 rfl ?_;rintro _ w6 ⟨b8,rfl,fL,e8,hT⟩;have n86:b8≠b6:=by have:=e6.lt;omega
 have n8:b8≠b:=by have:=gX.lt;omega
 refine SB (us:=ndC x kx) (ZC hx) e8 ?_;rintro _ w7 ⟨ar,e8'⟩;replace hT:=hT.ow ar;clear ar e8;replace gX:=gX.up hT;replace e6:=e6.up hT;replace hx:=hx.up hT;replace hS:=hS.trans hT.mn;clear hT;refine W ?_;simp only [Out.bind];rcases hU:Z0U l [59] i1 o1 with ⟨a,c⟩|⟨u,i2,o2⟩
 refine ZV rfl (Zf rfl rfl) (PC.falls (JP b tv l hL _ (by decide) i1 o1 _ gX) hU hS) rfl ?_;intro wz bR;focus repeat'(first|refine Zh ?_|refine Zg ?_)
 refine ZE ?_;exact PC.err bR;refine CM (Zf rfl rfl) (PC.goes (JP b tv l hL _ (by decide) i1 o1 _ gX) hU) ?_;rintro _ w8 ⟨rfl,qQ,hT⟩;replace e6:=e6.ext hT (by simpa using n6);replace e8':=e8'.ext hT (by simpa using n8);replace hx:=hx.ext (X':=b6 :: X) hT (λc hc=>by simp at hc;subst hc;simp [bP]) (λc hc=>.inl hc);replace hS:=hS.trans hT;clear hT gX;refine W ?_;refine SB (us:=ndC x kx) (ZC hx) e6 ?_;rintro _ wz ⟨hT,e6'⟩;refine W ?_;refine J3 rfl rfl rfl e6' rfl ?_;obtain ⟨g1,g2,g3,g4,g5⟩:=qQ;have cG:=hS.own hT (λc hc=>by simp at hc;subst hc;exact .inr lh);refine PC.ok ⟨_,rfl,?_⟩ ⟨g1.ext hT (by simpa using n6.symm),ba.ext cG (λc hc=>hc) (λc hc=>.inl hc),g3,g4,g5⟩ cG;exact (hx.ext (X':=b6 :: X) hT (λc hc=>by simp at hc;simp [hc]) (λc hc=>.inl hc)).wk (λc hc=>by simp [hc]);rw [if_neg c3] at fb ⊢;rw [decide_eq_false c3];refine W ?_;refine SB (us:=ndC JU (.N)) (ZC (x:=JU) (ZY [] w)) e6 ?_;rintro _ wz ⟨hT,e6'⟩;refine W ?_;refine J3 rfl rfl rfl e6' rfl ?_;obtain ⟨g1,g2,g3,g4,g5⟩:=fb;have cG:=hS.own hT (λc hc=>by simp at hc;subst hc;exact .inr lh);refine PC.ok ⟨_,rfl,?_⟩ ⟨g1.ext hT (by simpa using n6.symm),ba.ext cG (λc hc=>hc) (λc hc=>.inl hc),g3,g4,g5⟩ cG;exact ZY _ _
theorem Znk (s:Str) (w):(Instr.build 99 #[(0,str s)]).run Tryz.prog w=.ok (.agg (rlC ⟨s,0,[],JU,JU,[],[]⟩ (.N) (.N)).toArray) w:=by kernel_rfl
theorem Zk9 (X:List Nat) (b:Nat) (tv:Value) (l:List Tkn) (hL:Z3X l) (m:Int) (i o:Nat) (w:World) (aW:b≠2) (bP:b∈X) (hX:∀ c∈X,c<w.heap.size) (hm:w.cell? ⟨2,0,none⟩=some (.I m)) (hp:Pd w b tv l i o) :
 Calls Tryz.prog 91 #[pQ b] w (PC b w tv l (Z9I l i o) (λr v w'=>ZgC X w' v r.rul)):=by
 have ba:=hp.2.1;unfold Z9I;refine cW1 61 Tryz.func91 ?_;refine W ?_;refine Z0 Z2 rfl ?_;rintro _ w1 ⟨b2,rfl,bV,e2,hS⟩;have n2:b2≠b:=by have:=hp.lt;omega
 have ga:w.heap.size<=b2:=bV;replace hm:=hS.cell (by simp) hm;replace hp:=hp.up hS;replace hS:=hS.mono (S':=[b]) (by simp);refine W ?_;rcases hU:Z0U l [114,117,108,101] i o with ⟨a,c⟩|⟨u1,i1,o1⟩
 refine ZV rfl (Zf rfl rfl) (PC.falls (JP b tv l hL [114,117,108,101] (by decide) i o _ hp) hU hS) rfl ?_;intro wz bR;focus repeat'(first|refine Zh ?_|refine Zg ?_)
 refine ZE ?_;exact PC.err bR;refine CM (Zf rfl rfl) (PC.goes (JP b tv l hL [114,117,108,101] (by decide) i o _ hp) hU) ?_;rintro _ wn1 ⟨rfl,cM,hT⟩;replace hm:=Jy hm aW hT;replace e2:=e2.ext hT (by simpa using n2);replace hS:=hS.trans hT;clear hT hp;have hp:=cM;clear cM hU;refine W ?_;simp only [Out.bind];rcases hU:Z2r l i1 o1 with ⟨a,c⟩|⟨u2,i2,o2⟩
 refine ZV rfl (ZN rfl) (PC.falls (Z5O b tv l hL i1 o1 m _ hm hp) hU hS) rfl ?_;intro wz bR;focus repeat'(first|refine Zh ?_|refine Zg ?_)
 refine ZE ?_;exact PC.err bR;refine CL (PC.goes (Z5O b tv l hL i1 o1 m _ hm hp) hU) ?_;rintro _ wn2 ⟨rfl,cM,hT⟩;replace hm:=Jy hm aW hT;replace e2:=e2.ext hT (by simpa using n2);replace hS:=hS.trans hT;clear hT hp;have hp:=cM;clear cM hU;apply Z7 (vs:=[(0,str u2)]) rfl (Znk _) rfl;refine Z0 Z2 rfl ?_;rintro _ wa ⟨b3,rfl,dN,e3,hT⟩;have n32:b3≠b2:=by have:=e2.lt;omega
 have n3:b3≠b:=by have:=hp.lt;omega
 have n31:b3≠2:=by have:=block_lt_of_cell hm;simp at this;omega
 have eQ:w.heap.size<=b3:=Xh hS.size dN;refine SB (us:=rlC ⟨u2,0,[],JU,JU,[],[]⟩ (.N) (.N)) (ZoK ⟨u2,0,[],JU,JU,[],[]⟩ (ZY [] w) (ZY [] w)) e3 ?_;rintro _ wb ⟨ar,e3'⟩;replace hT:=hT.ow ar;clear ar e3;have e3:=e3';clear e3';replace hp:=hp.up hT;replace e2:=e2.up hT;replace hm:=hT.cell (by simp) hm;replace hS:=hS.trans hT.mn;clear hT;have bU:∀ c∈b3 :: b2 :: X,c<wb.heap.size:=λc hc=>by
  rcases Xb.1 hc with rfl|hc
  exact e3.lt;rcases Xb.1 hc with rfl|hc
  exact e2.lt;have:=hX c hc;have:=hS.size;omega
 have cA:SlV (α:=Nd) (b3 :: b2 :: X) wb (.N) JU.kids:=ZY _ _;have cq:SlV (α:=Nd) (b3 :: b2 :: X) wb (.N) JU.kids:=ZY _ _;refine W ?_;simp only;rcases hU:Z0U l [102,114,111,109] i2 o2 with ⟨a,c⟩|⟨u3,i3,o3⟩
 refine ZV rfl (Zf rfl rfl) (PC.falls (JP b tv l hL [102,114,111,109] (by decide) i2 o2 _ hp) hU hS) rfl ?_;intro wz bR;focus repeat'(first|refine Zh ?_|refine Zg ?_)
 refine ZE ?_;exact PC.err bR;refine CM (Zf rfl rfl) (PC.goes (JP b tv l hL [102,114,111,109] (by decide) i2 o2 _ hp) hU) ?_;rintro _ wn3 ⟨rfl,cM,hT⟩;replace hm:=Jy hm aW hT;replace e2:=e2.ext hT (by simpa using n2);replace e3:=e3.ext hT (by simpa using n3);replace cA:=cA.ext (X':=b3 :: b2 :: X) hT (λc hc=>by simp at hc;subst hc;simp [bP]) (λc hc=>.inl hc);replace cq:=cq.ext (X':=b3 :: b2 :: X) hT (λc hc=>by simp at hc;subst hc;simp [bP]) (λc hc=>.inl hc);replace hS:=hS.trans hT;replace bU:=λc hc=>Xa (bU c hc) hT.size;clear hT hp;have hp:=cM;clear cM hU;refine W ?_;simp only;rcases hU:Z3b l 3 i3 o3 with ⟨a,c⟩|⟨u4,i4,o4⟩
 refine ZV rfl (Zf rfl rfl) (PC.falls (Z4C b tv l hL 3 (by decide) i3 o3 _ hp) hU hS) rfl ?_;intro wz bR;focus repeat'(first|refine Zh ?_|refine Zg ?_)
 refine ZE ?_;exact PC.err bR;refine CM (Zf rfl rfl) (PC.goes (Z4C b tv l hL 3 (by decide) i3 o3 _ hp) hU) ?_;rintro _ wn4 ⟨rfl,cM,hT⟩;replace hm:=Jy hm aW hT;replace e2:=e2.ext hT (by simpa using n2);replace e3:=e3.ext hT (by simpa using n3);replace cA:=cA.ext (X':=b3 :: b2 :: X) hT (λc hc=>by simp at hc;subst hc;simp [bP]) (λc hc=>.inl hc);replace cq:=cq.ext (X':=b3 :: b2 :: X) hT (λc hc=>by simp at hc;subst hc;simp [bP]) (λc hc=>.inl hc);replace hS:=hS.trans hT;replace bU:=λc hc=>Xa (bU c hc) hT.size;clear hT hp;have hp:=cM;clear cM hU;refine Z8 (Zci rfl (Ztr _)) rfl ?_;refine W ?_;refine S1 (u:=.I u4.num) e3 ?_;rintro _ ws4 ⟨hT,e3'⟩;replace e3:Blk ws4 b3 99 (rlC ⟨u2,u4.num,[],JU,JU,[],[]⟩ (.N) (.N)):=e3';clear e3';replace e2:=e2.ext hT (by simpa using n32.symm);replace hm:=hT.cell (by simpa using n31.symm) hm;replace hS:=hS.own hT (λc hc=>by simp at hc;subst hc;exact .inr eQ);replace hp:Pd ws4 b tv l i4 o4:=by
  obtain ⟨g1,g2,g3,g4,g5⟩:=hp;exact ⟨g1.ext hT (by simpa using n3.symm),ba.ext hS (λc hc=>hc) (λc hc=>.inl hc),g3,g4,g5⟩
 replace bU:=λc hc=>Xa (bU c hc) hT.size;replace cA:=cA.ext (X':=b3 :: b2 :: X) hT (λc hc=>by simp at hc;simp [hc]) (λc hc=>.inl hc);replace cq:=cq.ext (X':=b3 :: b2 :: X) hT (λc hc=>by simp at hc;simp [hc]) (λc hc=>.inl hc);refine W ?_;simp only;rcases hU:Z0U l [123] i4 o4 with ⟨a,c⟩|⟨u5,i5,o5⟩
 refine ZV rfl (Zf rfl rfl) (PC.falls (JP b tv l hL [123] (by decide) i4 o4 _ hp) hU hS) rfl ?_;intro wz bR;focus repeat'(first|refine Zh ?_|refine Zg ?_)
 refine ZE ?_;exact PC.err bR;refine CM (Zf rfl rfl) (PC.goes (JP b tv l hL [123] (by decide) i4 o4 _ hp) hU) ?_;rintro _ wn5 ⟨rfl,cM,hT⟩;replace hm:=Jy hm aW hT;replace e2:=e2.ext hT (by simpa using n2);replace e3:=e3.ext hT (by simpa using n3);replace cA:=cA.ext (X':=b3 :: b2 :: X) hT (λc hc=>by simp at hc;subst hc;simp [bP]) (λc hc=>.inl hc);replace cq:=cq.ext (X':=b3 :: b2 :: X) hT (λc hc=>by simp at hc;subst hc;simp [bP]) (λc hc=>.inl hc);replace hS:=hS.trans hT;replace bU:=λc hc=>Xa (bU c hc) hT.size;clear hT hp;have hp:=cM;clear cM hU;refine W ?_;refine CL (Z0X b tv l i5 o5 _ hp) ?_;rintro _ wx5 ⟨rfl,hT⟩;replace hp:=hp.up hT;replace e2:=e2.up hT;replace e3:=e3.up hT;replace cA:=cA.up hT;replace cq:=cq.up hT;replace hm:=hT.cell (by simp) hm;replace hS:=hS.trans hT.mn;replace bU:=λc hc=>Xa (bU c hc) hT.size;clear hT;simp only;by_cases jF:(cur l i5).text=[111,110]
 rotate_left
 . rw [if_neg jF]
   (refine QP ?_ ?_<;>intro hc)
   refine ZV rfl (Zf rfl rfl) (Z9S b tv l i5 o5 20 _ w hp hS) rfl ?_;intro wz bR;focus repeat'(first|refine Zh ?_|refine Zg ?_)
   refine ZE ?_;exact PC.fail bR;all_goals exact absurd jF (by assumption)
 rw [if_pos jF]
 (refine QP ?_ ?_<;>intro hc)
 exact absurd jF (by assumption);refine Z8 (Z0Y rfl) rfl ?_;rcases hU:Z1G l [111,110] [] (Z2r l) i5 o5 with ⟨a,c⟩|⟨u6,i6,o6⟩
 refine ZV rfl (ZK rfl rfl rfl) (PC.falls (Z1S b tv l hL [111,110] (by decide) m i5 o5 _ aW hm hp) hU hS) rfl ?_;intro wz bR;focus repeat'(first|refine Zh ?_|refine Zg ?_)
 refine ZE ?_;exact PC.err bR;refine CM (ZK rfl rfl rfl) (PC.goes (Z1S b tv l hL [111,110] (by decide) m i5 o5 _ aW hm hp) hU) ?_;rintro _ wn6 ⟨rfl,cM,hT⟩;replace hm:=Jy hm aW hT;replace e2:=e2.ext hT (by simpa using n2);replace e3:=e3.ext hT (by simpa using n3);replace cA:=cA.ext (X':=b3 :: b2 :: X) hT (λc hc=>by simp at hc;subst hc;simp [bP]) (λc hc=>.inl hc);replace cq:=cq.ext (X':=b3 :: b2 :: X) hT (λc hc=>by simp at hc;subst hc;simp [bP]) (λc hc=>.inl hc);replace hS:=hS.trans hT;replace bU:=λc hc=>Xa (bU c hc) hT.size;clear hT hp;have hp:=cM;clear cM hU;refine W ?_;refine S1 (u:=str u6) e3 ?_;rintro _ ws6 ⟨hT,e3'⟩;replace e3:Blk ws6 b3 99 (rlC ⟨u2,u4.num,u6,JU,JU,[],[]⟩ (.N) (.N)):=e3';clear e3';replace e2:=e2.ext hT (by simpa using n32.symm);replace hm:=hT.cell (by simpa using n31.symm) hm;replace hS:=hS.own hT (λc hc=>by simp at hc;subst hc;exact .inr eQ);replace hp:Pd ws6 b tv l i6 o6:=by
  obtain ⟨g1,g2,g3,g4,g5⟩:=hp;exact ⟨g1.ext hT (by simpa using n3.symm),ba.ext hS (λc hc=>hc) (λc hc=>.inl hc),g3,g4,g5⟩
 replace bU:=λc hc=>Xa (bU c hc) hT.size;replace cA:=cA.ext (X':=b3 :: b2 :: X) hT (λc hc=>by simp at hc;simp [hc]) (λc hc=>.inl hc);replace cq:=cq.ext (X':=b3 :: b2 :: X) hT (λc hc=>by simp at hc;simp [hc]) (λc hc=>.inl hc);refine W ?_;refine Z8 (Z0Y rfl) rfl ?_;simp only;rcases hU:Z1G l [105,102] JU (Z24 l) i6 o6 with ⟨a,c⟩|⟨u7,i7,o7⟩
 refine ZV rfl (ZK rfl rfl rfl) (PC.falls (Z4D (b3 :: b2 :: X) b tv l hL [105,102] (by decide) m i6 o6 _ aW (by simp [bP]) bU hm hp) hU hS) rfl ?_;intro wz bR;focus repeat'(first|refine Zh ?_|refine Zg ?_)
 refine ZE ?_;exact PC.err bR;refine CM (ZK rfl rfl rfl) (PC.goes (Z4D (b3 :: b2 :: X) b tv l hL [105,102] (by decide) m i6 o6 _ aW (by simp [bP]) bU hm hp) hU) ?_;rintro _ wn7 ⟨⟨kx7,rfl,nz⟩,cM,hT⟩;replace hm:=Jy hm aW hT;replace e2:=e2.ext hT (by simpa using n2);replace e3:=e3.ext hT (by simpa using n3);replace cA:=cA.ext (X':=b3 :: b2 :: X) hT (λc hc=>by simp at hc;subst hc;simp [bP]) (λc hc=>.inl hc);replace cq:=cq.ext (X':=b3 :: b2 :: X) hT (λc hc=>by simp at hc;subst hc;simp [bP]) (λc hc=>.inl hc);replace hS:=hS.trans hT;replace bU:=λc hc=>Xa (bU c hc) hT.size;clear hT hp;have hp:=cM;clear cM hU;refine W ?_;refine Z5 (Z1e (us:=ndC u7 kx7) rfl rfl rfl rfl (ZC nz) e3 (by simp)) ?_;rintro _ ws7 ⟨hT,e3'⟩;replace e3:Blk ws7 b3 99 (rlC ⟨u2,u4.num,u6,u7,JU,[],[]⟩ kx7 (.N)):=e3';clear e3';replace e2:=e2.ext hT (by simpa using n32.symm);replace hm:=hT.cell (by simpa using n31.symm) hm;replace hS:=hS.own hT (λc hc=>by simp at hc;subst hc;exact .inr eQ);replace hp:Pd ws7 b tv l i7 o7:=by
  obtain ⟨g1,g2,g3,g4,g5⟩:=hp;exact ⟨g1.ext hT (by simpa using n3.symm),ba.ext hS (λc hc=>hc) (λc hc=>.inl hc),g3,g4,g5⟩
 replace bU:=λc hc=>Xa (bU c hc) hT.size;replace nz:=nz.ext (X':=b3 :: b2 :: X) hT (λc hc=>by simp at hc;simp [hc]) (λc hc=>.inl hc);replace cq:=cq.ext (X':=b3 :: b2 :: X) hT (λc hc=>by simp at hc;simp [hc]) (λc hc=>.inl hc);clear hT cA;refine W ?_
 refine JK (σ:=Value) (λ_=>[(0,pQ b),(2,pQ b2),(3,pQ b3)])
  (λq w'=>Blk w' b3 99 (rlC ⟨u2,u4.num,u6,if u7.kind=0 then .mk 2 1 [] [] else u7,JU,[],[]⟩ q (.N))/\SlV (b3 :: b2 :: X) w' q (if u7.kind=0 then Nd.mk 2 1 [] [] else u7).kids/\Stp [b3] ws7 w') ?_ ?_
 by_cases k0:u7.kind=0
 . rw [if_pos k0]
   (refine QP ?_ ?_<;>intro hc)
   all_goals try exact absurd k0 (by assumption)
   apply Z7 (vs:=[(0,.I 2),(1,.I 1)]) rfl (Zb5 _ _) rfl;refine W ?_;refine Z5 (Z1e (us:=ndC (.mk 2 1 [] []) (.N)) rfl rfl rfl rfl (ZC (x:=.mk 2 1 [] []) (ZY [] w)) e3 (by simp)) ?_;rintro _ wy ⟨hT,e3'⟩;refine W ?_;exact QT (.N) ⟨e3',ZY _ _,hT⟩
 . rw [if_neg k0]
   (refine QP ?_ ?_<;>intro hc)
   all_goals try exact absurd (by assumption) k0
   exact QT kx7 ⟨e3,nz,Stp.refl _ _⟩
 clear e3 nz;generalize qS:(if u7.kind=0 then Nd.mk 2 1 [] [] else u7)=cnd;rintro ki ws7 ⟨e3,cA,hT⟩;replace e2:=e2.ext hT (by simpa using n32.symm);replace hm:=hT.cell (by simpa using n31.symm) hm;replace hS:=hS.own hT (λc hc=>by simp at hc;subst hc;exact .inr eQ);replace hp:Pd ws7 b tv l i7 o7:=by
  obtain ⟨g1,g2,g3,g4,g5⟩:=hp;exact ⟨g1.ext hT (by simpa using n3.symm),ba.ext hS (λc hc=>hc) (λc hc=>.inl hc),g3,g4,g5⟩
 replace bU:=λc hc=>Xa (bU c hc) hT.size;replace cq:=cq.ext (X':=b3 :: b2 :: X) hT (λc hc=>by simp at hc;simp [hc]) (λc hc=>.inl hc);clear hT;refine W ?_;refine CL (Z0X b tv l i7 o7 _ hp) ?_;rintro _ wx7 ⟨rfl,hT⟩;replace hp:=hp.up hT;replace e2:=e2.up hT;replace e3:=e3.up hT;replace cA:=cA.up hT;replace cq:=cq.up hT;replace hm:=hT.cell (by simp) hm;replace hS:=hS.trans hT.mn;replace bU:=λc hc=>Xa (bU c hc) hT.size;clear hT;simp only;by_cases ge:(cur l i7).text=[100,117,101]
 rotate_left
 . rw [if_neg ge]
   (refine QP ?_ ?_<;>intro hc)
   refine ZV rfl (Zf rfl rfl) (Z9S b tv l i7 o7 20 _ w hp hS) rfl ?_;intro wz bR;focus repeat'(first|refine Zh ?_|refine Zg ?_)
   refine ZE ?_;exact PC.fail bR;all_goals exact absurd ge (by assumption)
 rw [if_pos ge]
 (refine QP ?_ ?_<;>intro hc)
 exact absurd ge (by assumption);refine Z8 (Z0Y rfl) rfl ?_;rcases hU:Z1G l [100,117,101] JU (Z24 l) i7 o7 with ⟨a,c⟩|⟨u8,i8,o8⟩
 refine ZV rfl (ZK rfl rfl rfl) (PC.falls (Z4D (b3 :: b2 :: X) b tv l hL [100,117,101] (by decide) m i7 o7 _ aW (by simp [bP]) bU hm hp) hU hS) rfl ?_;intro wz bR;focus repeat'(first|refine Zh ?_|refine Zg ?_)
 refine ZE ?_;exact PC.err bR;refine CM (ZK rfl rfl rfl) (PC.goes (Z4D (b3 :: b2 :: X) b tv l hL [100,117,101] (by decide) m i7 o7 _ aW (by simp [bP]) bU hm hp) hU) ?_;rintro _ wn8 ⟨⟨kx8,rfl,qT⟩,cM,hT⟩;replace hm:=Jy hm aW hT;replace e2:=e2.ext hT (by simpa using n2);replace e3:=e3.ext hT (by simpa using n3);replace cA:=cA.ext (X':=b3 :: b2 :: X) hT (λc hc=>by simp at hc;subst hc;simp [bP]) (λc hc=>.inl hc);replace cq:=cq.ext (X':=b3 :: b2 :: X) hT (λc hc=>by simp at hc;subst hc;simp [bP]) (λc hc=>.inl hc);replace hS:=hS.trans hT;replace bU:=λc hc=>Xa (bU c hc) hT.size;clear hT hp;have hp:=cM;clear cM hU;refine W ?_;refine Z5 (Z1e (us:=ndC u8 kx8) rfl rfl rfl rfl (ZC qT) e3 (by simp)) ?_;rintro _ ws8 ⟨hT,e3'⟩;replace e3:Blk ws8 b3 99 (rlC ⟨u2,u4.num,u6,cnd,u8,[],[]⟩ ki kx8):=e3';clear e3';replace e2:=e2.ext hT (by simpa using n32.symm);replace hm:=hT.cell (by simpa using n31.symm) hm;replace hS:=hS.own hT (λc hc=>by simp at hc;subst hc;exact .inr eQ);replace hp:Pd ws8 b tv l i8 o8:=by
  obtain ⟨g1,g2,g3,g4,g5⟩:=hp;exact ⟨g1.ext hT (by simpa using n3.symm),ba.ext hS (λc hc=>hc) (λc hc=>.inl hc),g3,g4,g5⟩
 replace bU:=λc hc=>Xa (bU c hc) hT.size;clear cq;have cq:=qT.ext (X':=b3 :: b2 :: X) hT (λc hc=>by simp at hc;simp [hc]) (λc hc=>.inl hc);replace cA:=cA.ext (X':=b3 :: b2 :: X) hT (λc hc=>by simp at hc;simp [hc]) (λc hc=>.inl hc);clear hT qT;refine W ?_;refine Z8 (Z0Y rfl) rfl ?_;simp only;rcases hU:Z1G l [117,110,108,101,115,115] [] (Z2r l) i8 o8 with ⟨a,c⟩|⟨u9,i9,o9⟩
 refine ZV rfl (ZK rfl rfl rfl) (PC.falls (Z1S b tv l hL [117,110,108,101,115,115] (by decide) m i8 o8 _ aW hm hp) hU hS) rfl ?_;intro wz bR;focus repeat'(first|refine Zh ?_|refine Zg ?_)
 refine ZE ?_;exact PC.err bR;refine CM (ZK rfl rfl rfl) (PC.goes (Z1S b tv l hL [117,110,108,101,115,115] (by decide) m i8 o8 _ aW hm hp) hU) ?_;rintro _ wn9 ⟨rfl,cM,hT⟩;replace hm:=Jy hm aW hT;replace e2:=e2.ext hT (by simpa using n2);replace e3:=e3.ext hT (by simpa using n3);replace cA:=cA.ext (X':=b3 :: b2 :: X) hT (λc hc=>by simp at hc;subst hc;simp [bP]) (λc hc=>.inl hc);replace cq:=cq.ext (X':=b3 :: b2 :: X) hT (λc hc=>by simp at hc;subst hc;simp [bP]) (λc hc=>.inl hc);replace hS:=hS.trans hT;replace bU:=λc hc=>Xa (bU c hc) hT.size;clear hT hp;have hp:=cM;clear cM hU;refine W ?_;refine S1 (u:=str u9) e3 ?_;rintro _ ws9 ⟨hT,e3'⟩;replace e3:Blk ws9 b3 99 (rlC ⟨u2,u4.num,u6,cnd,u8,u9,[]⟩ ki kx8):=e3';clear e3';replace e2:=e2.ext hT (by simpa using n32.symm);replace hm:=hT.cell (by simpa using n31.symm) hm;replace hS:=hS.own hT (λc hc=>by simp at hc;subst hc;exact .inr eQ);replace hp:Pd ws9 b tv l i9 o9:=by
  obtain ⟨g1,g2,g3,g4,g5⟩:=hp;exact ⟨g1.ext hT (by simpa using n3.symm),ba.ext hS (λc hc=>hc) (λc hc=>.inl hc),g3,g4,g5⟩
 replace bU:=λc hc=>Xa (bU c hc) hT.size;replace cA:=cA.ext (X':=b3 :: b2 :: X) hT (λc hc=>by simp at hc;simp [hc]) (λc hc=>.inl hc);replace cq:=cq.ext (X':=b3 :: b2 :: X) hT (λc hc=>by simp at hc;simp [hc]) (λc hc=>.inl hc);refine W ?_;refine Z8 (Z0Y rfl) rfl ?_;simp only;rcases hU:Z1G l [101,108,115,101] [] (Z2r l) i9 o9 with ⟨a,c⟩|⟨u10,i10,o10⟩
 refine ZV rfl (ZK rfl rfl rfl) (PC.falls (Z1S b tv l hL [101,108,115,101] (by decide) m i9 o9 _ aW hm hp) hU hS) rfl ?_;intro wz bR;focus repeat'(first|refine Zh ?_|refine Zg ?_)
 refine ZE ?_;exact PC.err bR;refine CM (ZK rfl rfl rfl) (PC.goes (Z1S b tv l hL [101,108,115,101] (by decide) m i9 o9 _ aW hm hp) hU) ?_;rintro _ wn10 ⟨rfl,cM,hT⟩;replace hm:=Jy hm aW hT;replace e2:=e2.ext hT (by simpa using n2);replace e3:=e3.ext hT (by simpa using n3);replace cA:=cA.ext (X':=b3 :: b2 :: X) hT (λc hc=>by simp at hc;subst hc;simp [bP]) (λc hc=>.inl hc);replace cq:=cq.ext (X':=b3 :: b2 :: X) hT (λc hc=>by simp at hc;subst hc;simp [bP]) (λc hc=>.inl hc);replace hS:=hS.trans hT;replace bU:=λc hc=>Xa (bU c hc) hT.size;clear hT hp;have hp:=cM;clear cM hU;refine W ?_;refine S1 (u:=str u10) e3 ?_;rintro _ ws10 ⟨hT,e3'⟩;replace e3:Blk ws10 b3 99 (rlC ⟨u2,u4.num,u6,cnd,u8,u9,u10⟩ ki kx8):=e3';clear e3';replace e2:=e2.ext hT (by simpa using n32.symm);replace hm:=hT.cell (by simpa using n31.symm) hm;replace hS:=hS.own hT (λc hc=>by simp at hc;subst hc;exact .inr eQ);replace hp:Pd ws10 b tv l i10 o10:=by
  obtain ⟨g1,g2,g3,g4,g5⟩:=hp;exact ⟨g1.ext hT (by simpa using n3.symm),ba.ext hS (λc hc=>hc) (λc hc=>.inl hc),g3,g4,g5⟩
 replace bU:=λc hc=>Xa (bU c hc) hT.size;replace cA:=cA.ext (X':=b3 :: b2 :: X) hT (λc hc=>by simp at hc;simp [hc]) (λc hc=>.inl hc);replace cq:=cq.ext (X':=b3 :: b2 :: X) hT (λc hc=>by simp at hc;simp [hc]) (λc hc=>.inl hc);refine W ?_;simp only;rcases hU:Z0U l [125] i10 o10 with ⟨a,c⟩|⟨u11,i11,o11⟩
 refine ZV rfl (Zf rfl rfl) (PC.falls (JP b tv l hL [125] (by decide) i10 o10 _ hp) hU hS) rfl ?_;intro wz bR;focus repeat'(first|refine Zh ?_|refine Zg ?_)
 refine ZE ?_;exact PC.err bR;refine CM (Zf rfl rfl) (PC.goes (JP b tv l hL [125] (by decide) i10 o10 _ hp) hU) ?_;rintro _ wn11 ⟨rfl,cM,hT⟩;replace hm:=Jy hm aW hT;replace e2:=e2.ext hT (by simpa using n2);replace e3:=e3.ext hT (by simpa using n3);replace cA:=cA.ext (X':=b3 :: b2 :: X) hT (λc hc=>by simp at hc;subst hc;simp [bP]) (λc hc=>.inl hc);replace cq:=cq.ext (X':=b3 :: b2 :: X) hT (λc hc=>by simp at hc;subst hc;simp [bP]) (λc hc=>.inl hc);replace hS:=hS.trans hT;replace bU:=λc hc=>Xa (bU c hc) hT.size;clear hT hp;have hp:=cM;clear cM hU;refine W ?_;simp only;refine SB (us:=rlC ⟨u2,u4.num,u6,cnd,u8,u9,u10⟩ ki kx8) (ZoK ⟨u2,u4.num,u6,cnd,u8,u9,u10⟩ cA cq) e2 ?_;rintro _ wz ⟨hT,e2'⟩;refine W ?_;rw [qS];refine J3 rfl rfl rfl e2' rfl ?_;obtain ⟨g1,g2,g3,g4,g5⟩:=hp;have cG:=hS.own hT (λc hc=>by simp at hc;subst hc;exact .inr ga);refine PC.ok ⟨ki,kx8,rfl,?_,?_⟩ ⟨g1.ext hT (by simpa using n2.symm),ba.ext cG (λc hc=>hc) (λc hc=>.inl hc),g3,g4,g5⟩ cG;exact (cA.ext (X':=b3 :: b2 :: X) hT (λc hc=>by simp at hc;simp [hc]) (λc hc=>.inl hc)).wk (λc hc=>by simp [hc]);exact (cq.ext (X':=b3 :: b2 :: X) hT (λc hc=>by simp at hc;simp [hc]) (λc hc=>.inl hc)).wk (λc hc=>by simp [hc])
end Go.Proofs.YtipfkbkkndacjaaGreatDoor
namespace Go.Eng
open Go Go.RowKit Go.Proofs
end Go.Eng
namespace Go.Proofs.YtipfkbkkndacjaaGreatDoor
open Go Go.Eng Go.RowKit Go.Proofs
theorem Zka {X:List Nat} {w} {v:Value} {l:List Rul} {i:Nat} (h:SlV X w v l) (hi:i<l.length):∃ ki kd,SlV X w ki l[i].cnd.kids/\SlV X w kd l[i].due.kids/\∀ j u,(rlC l[i] ki kd)[j]?=some u->w.cell? (ZH v i 13 j)=some u:=by
 obtain ⟨cs,hr,hc⟩:=h.cell hi;obtain ⟨ki,kd,rfl,h1,h2⟩:=hr;exact ⟨ki,kd,h1,h2,hc⟩
theorem Z8s {P:Program} {n:Nat} {e:Env} {w} {d:Option Nat} {ty:TypeId} {pos:String} {af:Array Edge} {g:Option (Nat×Bool)} {X:List Nat} {v:Value} {l:List Rul} {i:Nat} {ki kd:Value} {x:Operand} {t:TypeId} {D:TypeDesc} [hu:Und P t D] (hA:Z0K D=true) [bH:Siz P t 13] (hx:ev e x=some (.pointer (some (ZH v i 13 0)))) (hs:SlV X w v l) (hi:i<l.length)
 (hc:∀ j u,(rlC l[i] ki kd)[j]?=some u->w.cell? (ZH v i 13 j)=some u) :
 PR P n ⟨d,.load t x,ty,pos,af,g⟩ e w (.agg (rlC l[i] ki kd).toArray):=by
 obtain ⟨p,l',c,rfl⟩:=hs.isSome hi;refine Z3J (cs:=rlC l[i] ki kd) hA hx rfl (λj u hu=>?_);have:=hc j u hu;simpa [ZH] using this
abbrev Z5P:Nd:=.mk 2 1 [] []
theorem Zep (X:List Nat) (w):CC 103 #[] w λr w'=>NdV X w' r Z5P/\Stp [] w w':=by
 refine cW0 2 Tryz.func103 ?_;refine W ?_;refine Z0 Z2 rfl ?_;rintro _ w1 ⟨b,rfl,hb,ac,hS⟩;refine W ?_;apply Z7 (vs:=[(0,.I 2),(1,.I 1)]) rfl (Z3W _ _) rfl;have hy:SlV (α:=Nd) X w1 (.N) []:=Zo _ _;refine SB (us:=ndC Z5P (.N)) (ZC (x:=Z5P) hy) ac ?_;rintro _ w2 ⟨ah,aQ⟩;have hT:=hS.ow ah;refine W ?_;refine J3 rfl rfl rfl aQ rfl ?_;exact .mk ⟨⟨_,rfl,Zo _ _⟩,hT⟩
theorem Zeq (v:Value) (r:Rul) (w) (hv:ZgC [] w v r) (h1:ZD r.cnd<=1000) (h2:ZD r.due<=1000) :
 CC 68 #[v] w λr' w'=>r'=.I (Z0M r)/\Stp [] w w':=by
 obtain ⟨ki,kd,rfl,hi,hd⟩:=hv;have lj:=Z0E r.cnd;have jG:=Z0E r.due;refine cW1 69 Tryz.func68 ?_;refine W ?_;refine Z0 (Zq rfl) rfl ?_;rintro _ w1 ⟨b,rfl,hb,ac,hS⟩;replace ac:Blk w1 b _ (rlC r ki kd):=ac;refine W ?_;refine CL (Z1v r.name _) ?_;rintro _ w2 ⟨rfl,hT⟩;replace ac:=ac.up hT;replace hS:=hS.trans hT;clear hT;refine Z5K (σ:=Bool) (λq=>[(1,pQ b),(2,.I 0),(38,.B q)]) (λq w'=>Blk w' b 99 (rlC r ki kd)/\Stp [] w w'/\q=!Je r) ?_ ?_
 . cases hA:ZB r.name with
   | false=>
     refine W ?_;exact QT true ⟨ac,hS,by simp [Je, *]⟩
   | true=>
     refine W ?_;refine CL (Z1v r.on _) ?_;rintro _ w2 ⟨rfl,hT⟩;replace ac:=ac.up hT;replace hS:=hS.trans hT;clear hT;cases hB:ZB r.on with
     | false=>
       refine W ?_;exact QT true ⟨ac,hS,by simp [Je, *]⟩
     | true=>
       repeat'(first|refine W1 ?_|omega|refine VG ?_ ?_<;>intro hg|refine VC ?_ ?_<;>intro hc)
       . refine CL (Z1v r.unl _) ?_
         rintro _ w2 ⟨rfl,hT⟩;replace ac:=ac.up hT;replace hS:=hS.trans hT;clear hT;cases hC:ZB r.unl with
         | false=>
           refine W ?_;exact QT true ⟨ac,hS,by simp [Je, *]⟩
         | true=>
           (refine QP ?_ ?_<;>intro hg)
           . refine CL (Z1v r.els _) ?_
             rintro _ w2 ⟨rfl,hT⟩;replace ac:=ac.up hT;replace hS:=hS.trans hT;clear hT;cases hD:ZB r.els with
             | false=>
               refine W ?_;exact QT true ⟨ac,hS,by simp [Je, *]⟩
             | true=>
               refine W ?_;exact QT false ⟨ac,hS,by simp [Je, *]⟩
           exact QT false ⟨ac,hS,by simp [Je, *]⟩
       . refine CL (Z1v r.els _) ?_
         rintro _ w2 ⟨rfl,hT⟩;replace ac:=ac.up hT;replace hS:=hS.trans hT;clear hT;cases hD:ZB r.els with
         | false=>
           refine W ?_;exact QT true ⟨ac,hS,by simp [Je, *]⟩
         | true=>
           refine W ?_;exact QT false ⟨ac,hS,by simp [Je, *]⟩
       exact QT false ⟨ac,hS,by simp [Je, *]⟩
 rintro q w3 ⟨ac,hS,hq⟩
 try dsimp only at hq ⊢
 unfold Z0M;cases fK:Je r with
 | false=>
   rw [fK] at hq;subst hq;refine RT ?_;exact ⟨rfl,hS⟩
 | true=>
   rw [fK] at hq;subst hq;rw [if_neg (by decide)];refine W ?_;by_cases hr:r.frm<0\/r.frm > 3652058
   . rw [if_pos hr]
     repeat'(first|refine W1 ?_|omega|refine VG ?_ ?_<;>intro hg|refine VC ?_ ?_<;>intro hc)
     all_goals
      refine RU ?_;exact ⟨rfl,hS⟩
   rw [if_neg hr];refine QO ?_;apply Z8 (Zl (us:=ndC r.cnd ki) rfl rfl ac rfl rfl) rfl;refine W ?_;refine CM (ZN rfl) (Z80 [] _ r.cnd _ (Z3S _ h1) (by omega) ⟨ki,rfl,hi.up hS⟩) ?_;rintro _ w4 ⟨rfl,hT⟩;replace ac:=ac.up hT;replace hS:=hS.trans hT;clear hT;unfold Z1H;by_cases n1:Zw r.cnd<=12
   case neg=>
    simp only [if_neg n1];refine RT ?_;exact ⟨rfl,hS⟩
   simp only [if_pos n1];by_cases t1:Zd r.cnd=0;simp only [if_pos t1];refine RT ?_;exact ⟨rfl,hS⟩;simp only [if_neg t1];by_cases u1:Zd r.cnd=2
   case neg=>
    simp only [if_neg u1];refine RT ?_;exact ⟨rfl,hS⟩
   simp only [if_pos u1];refine QO ?_;apply Z8 (Zl (us:=ndC r.due kd) rfl rfl ac rfl rfl) rfl;refine W ?_;refine CM (ZN rfl) (Z80 [] _ r.due _ (Z3S _ h2) (by omega) ⟨kd,rfl,hd.up hS⟩) ?_;rintro _ w5 ⟨rfl,hT⟩;replace hS:=hS.trans hT;clear hT;by_cases n2:Zw r.due<=12
   case neg=>
    simp only [if_neg n2];refine RT ?_;exact ⟨rfl,hS⟩
   simp only [if_pos n2];by_cases t2:Zd r.due=0;simp only [if_pos t2];refine RT ?_;exact ⟨rfl,hS⟩;simp only [if_neg t2];by_cases u2:Zd r.due=3
   case neg=>
    simp only [if_neg u2];refine RT ?_;exact ⟨rfl,hS⟩
   simp only [if_pos u2];refine RT ?_;exact ⟨rfl,hS⟩
abbrev Ztt:Nd:=.mk 0 0 [] []
abbrev Jn:Value:=.N
theorem Zb7 (r:Rul) {X Y:List Nat} {w w':World} {ki kd:Value} (h1:SlV X w ki r.cnd.kids) (h2:SlV Y w' kd r.due.kids):∀ c∈rlC r ki kd,c.oneCell'=true:=by
 intro c hc;have e1:=h1.one;have e2:=h2.one;simp only [rlC,Xb,Xj,or_false] at hc;rcases hc with rfl|rfl|rfl|rfl|rfl|rfl|rfl|rfl|rfl|rfl|rfl|rfl|rfl<;>first|rfl|exact e1|exact e2
theorem ZoL:∀ d,d<=6->Z2m 181 1 d/\Z2m 104 2 d/\Z2m 105 3 d:=by
 intro d
 induction d with
 | zero=>
   intro h;have ih':∀ e,0=e+1->Z2m 181 1 e/\Z2m 104 2 e/\Z2m 105 3 e:=λe he=>by omega
   exact ⟨Z5E _ h ih',Z86 _ h ih',Z88 _ h ih'⟩
 | succ d ih=>
   intro h;have ih':∀ e,d+1=e+1->Z2m 181 1 e/\Z2m 104 2 e/\Z2m 105 3 e:=λe he=>by
    obtain rfl:d=e:=by omega
    exact ih (by omega)
   exact ⟨Z5E _ h ih',Z86 _ h ih',Z88 _ h ih'⟩
def Zes:List Str:=[[114,48],[114,49],[114,50],[114,51]]
def Jo:List Str:=[[99,108,97,105,109],[97,110,115,119,101,114],[109,111,116,105,111,110],[111,114,100,101,114],[97,112,112,101,97,108],[108,97,112,115,101]]
theorem ZgE (q:Nat) (w) (hq:q<4):CC 12 #[.I (q:Int)] w λr w'=>(∃ s∈Zes,r=str s)/\Stp [] w w':=by
 refine cW1 7 Tryz.func12 ?_;refine W ?_;refine CM (Zf rfl rfl) (J7 (q:Int) 4 _ (by decide) (by unfold I64;omega)) ?_;rintro _ w1 ⟨rfl,hS⟩;rw [if_neg (by omega),Ybv (by omega) (by omega)];refine CM (ZN rfl) (Z52 (q:Int) _ (by omega) (by omega)) ?_;rintro _ w2 ⟨rfl,hT⟩;have:q=0\/q=1\/q=2\/q=3:=by omega
 have hm:([114]++Lib.itoa (q:Int):Str)∈Zes/\(Lib.itoa (q:Int)).length<=10:=by
  rcases this with rfl|rfl|rfl|rfl<;>(unfold Lib.itoa;rw [if_neg (by omega),Lib.decDigits,dif_pos (by decide)];decide)
 refine Z0C rfl rfl (by simp;omega) rfl ?_;refine RT ?_;exact ⟨⟨_,hm.1,rfl⟩,hS.trans hT⟩
theorem Z6x (q:Nat) (w) (hq:q<6):CC 28 #[.I (q:Int)] w λr w'=>(∃ s∈Jo,r=str s)/\Stp [] w w':=by
 refine cW1 10 Tryz.func28 ?_;refine W ?_;refine Z0 (Z1 (vs:=[(0,str [99,108,97,105,109]),(1,str [97,110,115,119,101,114]),(2,str [109,111,116,105,111,110]),(3,str [111,114,100,101,114]),(4,str [97,112,112,101,97,108]),(5,str [108,97,112,115,101])]) rfl (bS6 _ _ _ _ _ _)) rfl ?_;rintro v w1 hN;have hv:SlV [] w1 v Jo:=hN.slv (by simp) rfl rfl (by decide);have hS:=Z9.stp hN;clear hN;refine W ?_;refine CM (Zf rfl rfl) (J7 (q:Int) 6 _ (by decide) (by unfold I64;omega)) ?_;rintro _ w2 ⟨rfl,hT⟩;rw [if_neg (by omega),Ybv (by omega) (by omega)];replace hv:=hv.up hT;have cF:q<Jo.length:=by show q<6;exact hq
 refine RT ?_;exact ⟨⟨_,Xc cF,rfl⟩,hS.trans hT⟩
structure Z8t (r:RuleM):Prop where
 name:r.name∈Zes
 frm:739606<=r.frm/\r.frm<739636
 on:r.on∈Jo
 cond:Gn 2 3 r.cond
 due:Gn 3 3 r.due
 unl:r.unl=[]\/r.unl∈Jo
 els:r.els=[]\/r.els∈Jo
theorem Zkb (a o:Str) (f k n:Int) (s:Str) (p:Option Addr) (l c:Nat) (w):(Instr.build 99 #[(0,str a),(1,.I f),(2,str o),(3,.agg #[.I k,.I n,str s,.slice p l c])]).run Tryz.prog w=.ok (.agg #[str a,.I f,str o,.I k,.I n,str s,.slice p l c,.I 0,.I 0,str [],.N,str [],str []]) w:=by kernel_rfl
theorem ZgF (X:List Nat) (bm:Nat) (lv:Value) (l:List Int) (i:Nat) (w) (az:Mk3 w bm lv i) (ay:SlV [bm] w lv l) (hl:∀ a∈l,I64 a) (hi:i<=50000) (hX:∀ b∈X,b<w.heap.size) :
 CC 67 #[pQ bm] w λr w'=>∃ (rl:RuleM) (i':Nat),ZgC X w' r rl.rul/\Z8t rl/\Mk3 w' bm lv i'/\i'<=i+300/\Stp [bm] w w':=by
 have z4:szD 4=40:=by decide
 have z4':szD (3+1)=40:=z4;have gY:=ay;have lk:=az.lt;refine cW1 40 Tryz.func67 ?_;refine W ?_;refine Z0 Z2 rfl ?_;rintro _ w1 ⟨b2,rfl,bV,e2,hS⟩;have n2:b2≠bm:=by have:=az.lt;omega
 replace az:=az.up hS;replace ay:=ay.up hS;replace hS:Stp [bm] w w1:=hS.mn;have l2:=e2.lt;refine W ?_;refine CM (Zf rfl rfl) (Z0p bm lv l _ 4 _ (by decide) (by omega) az ay hl) ?_;rintro _ wq ⟨q1,rfl,hq1,az,hT⟩;replace ay:=ay.ext hT (λ_ h=>h) (λ_ h=>.inl h);replace e2:=e2.ext hT (by simp;exact n2);replace hS:=hS.trans hT;clear hT;refine CM (ZN rfl) (ZgE q1 _ (by omega)) ?_;rintro _ wq ⟨⟨nm,fK,rfl⟩,hT⟩;replace az:=az.up hT;replace ay:=ay.up hT;replace e2:=e2.up hT;replace hS:=hS.trans hT.mn;clear hT;refine W ?_;refine CM (Zf rfl rfl) (Z0p bm lv l _ 30 _ (by decide) (by omega) az ay hl) ?_;rintro _ wq ⟨q2,rfl,hq2,az,hT⟩;replace ay:=ay.ext hT (λ_ h=>h) (λ_ h=>.inl h);replace e2:=e2.ext hT (by simp;exact n2);replace hS:=hS.trans hT;clear hT;refine W ?_;refine CM (Zf rfl rfl) (Z0p bm lv l _ 6 _ (by decide) (by omega) az ay hl) ?_;rintro _ wq ⟨q3,rfl,tA,az,hT⟩;replace ay:=ay.ext hT (λ_ h=>h) (λ_ h=>.inl h);replace e2:=e2.ext hT (by simp;exact n2);replace hS:=hS.trans hT;clear hT;refine CM (ZN rfl) (Z6x q3 _ (by omega)) ?_;rintro _ wq ⟨⟨on,jF,rfl⟩,hT⟩;replace az:=az.up hT;replace ay:=ay.up hT;replace e2:=e2.up hT;replace hS:=hS.trans hT.mn;clear hT;refine W ?_;refine CL (Zep (b2 :: bm :: X) _) ?_;rintro _ wq ⟨⟨kt,rfl,ht⟩,hT⟩;obtain ⟨pt,ct,rfl,-⟩:=id ht;replace ht:SlV (b2 :: bm :: X) wq (.slice pt Z5P.kids.length ct) Z5P.kids:=ht;replace az:=az.up hT;replace ay:=ay.up hT;replace e2:=e2.up hT;replace hS:=hS.trans hT.mn;clear hT;refine W ?_;refine Z7 (vs:=[(0,str nm),(1,.I _),(2,str on),(3,.agg #[.I 2,.I 1,str [],.slice pt 0 ct])]) rfl (Zkb _ _ _ _ _ _ _ _ _) rfl ?_;refine Z0 Z2 rfl ?_;rintro _ wq ⟨b3,rfl,dN,e0,hT⟩;have qa:∀ c,c<w.heap.size->c<b3:=λc hc=>by have:=hS.size;omega
 have n3:b3≠bm:=by have:=az.lt;omega
 have n23:b2≠b3:=by have:=e2.lt;omega
 have eQ:w.heap.size<=b3:=Xh hS.size dN;refine SB (us:=rlC ⟨nm,739616+(q2:Int) - 10,on,Z5P,Ztt,[],[]⟩ (.slice pt 0 ct) Jn) (Zb7 _ (X:=b2 :: bm :: X) ht (Zo [] wq)) e0 ?_;rintro _ wq ⟨ar,e3⟩;replace hT:=JO hT dN ar;clear ar e0;replace ht:SlV (b3 :: b2 :: bm :: X) wq (.slice pt Z5P.kids.length ct) Z5P.kids:=ht.ext hT (by simp) (λc hc=>by
  rcases Xb.1 hc with rfl|h
  exact .inr dN;exact .inl h)
 replace az:=az.up hT;replace ay:=ay.up hT;replace e2:=e2.up hT;replace hS:=hS.trans hT.mn;clear hT dN;have ju:739606<=739616+(q2:Int) - 10/\739616+(q2:Int) - 10<739636:=by omega
 generalize 739616+(q2:Int) - 10=fr at *;clear hq1 tA;refine W ?_;refine CM (Zf rfl rfl) (Z0p bm lv l _ 3 _ (by decide) (by omega) az ay hl) ?_;rintro _ wq ⟨q4,rfl,oW,az,hT⟩;replace ay:=ay.ext hT (λ_ h=>h) (λ_ h=>.inl h);replace e2:=e2.ext hT (by simp;exact n2);replace e3:=e3.ext hT (by simp;exact n3);replace hS:=hS.trans hT;replace ht:=ht.ext hT (by simp) (λ_ h=>.inl h);clear hT;have bU:∀ (w':World),Stp [bm] w w'->(∃ cs,Blk w' b3 99 cs)->(∃ cs,Blk w' b2 99 cs)->∀ b∈b3 :: b2 :: bm :: X,b<w'.heap.size:=λw' h1 h2 h3 b hb=>by
  obtain ⟨_,h2⟩:=h2;obtain ⟨_,h3⟩:=h3;have:=h1.size;simp only [Xb] at hb;rcases hb with rfl|rfl|rfl|h
  exact h2.lt;exact h3.lt;omega;have:=hX b h;omega
 refine W ?_
 refine JK (σ:=Nd×Value×Nat) (λ_=>[(0,pQ bm),(2,pQ b2),(3,pQ b3)])
  (λq w'=>Gn 2 3 q.1/\SlV (b3 :: b2 :: bm :: X) w' q.2.1 q.1.kids/\Mk3 w' bm lv q.2.2/\q.2.2<=i+124/\SlV [bm] w' lv l/\(∃ cs:List Value,cs.length=13/\Blk w' b2 99 cs)/\Blk w' b3 99 (rlC ⟨nm,fr,on,q.1,Ztt,[],[]⟩ q.2.1 Jn)/\Stp [bm] w w') ?_ ?_
 (refine QP ?_ ?_<;>intro hc)
 refine CM (Zf rfl rfl) ((ZoL 3 (by decide)).2.1 (b3 :: b2 :: bm :: X) _ bm lv l _ _ rfl az ay hl (by rw [z4];omega) (bU _ hS ⟨_,e3⟩ ⟨_,e2⟩)) ?_;rintro _ wq ⟨y,i1,⟨ky,rfl,hy⟩,gy,az,bM,hT⟩;replace ay:=ay.ext hT (λ_ h=>h) (λ_ h=>.inl h);replace e2:=e2.ext hT (by simp;exact n2);replace e3:=e3.ext hT (by simp;exact n3);replace hS:=hS.trans hT;clear hT;refine W ?_;refine Z5 (Z1e (us:=ndC y ky) rfl rfl rfl rfl (ZC hy) e3 (by simp)) ?_;rintro _ wq ⟨hT,e3⟩;replace e3:Blk wq b3 99 (rlC ⟨nm,fr,on,y,Ztt,[],[]⟩ ky Jn):=e3;replace hy:=hy.ext hT (by simp) (λ_ h=>.inl h);replace az:=az.ext hT (by simp;exact n3.symm);replace e2:=e2.ext hT (by simp;exact n23);replace hS:=hS.ow hT;replace ay:=gY.ext hS (λ_ h=>h) (λ_ h=>.inl h);clear hT;refine W ?_;exact QT (y,ky,_) ⟨gy,hy,az,by simp only;omega,ay,⟨_,rfl,e2⟩,e3,hS⟩;exact QT (Z5P,_,_) ⟨.bool _ _ (by decide),ht,az,by simp only;omega,ay,⟨_,rfl,e2⟩,e3,hS⟩;clear az ay e2 e3 hS ht;rintro ⟨y,ky,i1⟩ wq ⟨gy,hy,az,bM,ay,⟨cs2,ci,e2⟩,e3,hS⟩;dsimp only at gy hy az bM e3;have z4':szD (3+1)=40:=z4;refine W ?_;refine CM (Zf rfl rfl) ((ZoL 3 (by decide)).2.2 (b3 :: b2 :: bm :: X) _ bm lv l _ _ rfl az ay hl (by rw [z4];omega) (bU _ hS ⟨_,e3⟩ ⟨_,e2⟩)) ?_;rintro _ wq ⟨x,i2,⟨kx,rfl,hx⟩,gx,az,cg,hT⟩;replace hy:=hy.ext hT (by simp) (λ_ h=>.inl h);replace e2:=e2.ext hT (by simp;exact n2);replace e3:=e3.ext hT (by simp;exact n3);replace hS:=hS.trans hT;clear hT;refine W ?_;refine Z5 (Z1e (us:=ndC x kx) rfl rfl rfl rfl (ZC hx) e3 (by simp)) ?_;rintro _ wq ⟨hT,e3⟩;replace e3:Blk wq b3 99 (rlC ⟨nm,fr,on,y,x,[],[]⟩ ky kx):=e3;replace hx:=hx.ext hT (by simp) (λ_ h=>.inl h);replace hy:=hy.ext hT (by simp) (λ_ h=>.inl h);replace az:=az.ext hT (by simp;exact n3.symm);replace e2:=e2.ext hT (by simp;exact n23);replace hS:=hS.ow hT;replace ay:=gY.ext hS (λ_ h=>h) (λ_ h=>.inl h);clear hT;refine W ?_;refine CM (Zf rfl rfl) (Z0p bm lv l _ 2 _ (by decide) (by omega) az ay hl) ?_;rintro _ wq ⟨q5,rfl,vl,az,hT⟩;replace hy:=hy.ext hT (by simp) (λ_ h=>.inl h);replace hx:=hx.ext hT (by simp) (λ_ h=>.inl h);replace e2:=e2.ext hT (by simp;exact n2);replace e3:=e3.ext hT (by simp;exact n3);replace hS:=hS.trans hT;replace ay:=gY.ext hS (λ_ h=>h) (λ_ h=>.inl h);clear hT;refine W ?_
 refine JK (σ:=Str×Nat) (λ_=>[(0,pQ bm),(2,pQ b2),(3,pQ b3)])
  (λq w'=>(q.1=[]\/q.1∈Jo)/\SlV (b3 :: b2 :: bm :: X) w' ky y.kids/\SlV (b3 :: b2 :: bm :: X) w' kx x.kids/\Mk3 w' bm lv q.2/\q.2<=i+250/\Blk w' b2 99 cs2/\Blk w' b3 99 (rlC ⟨nm,fr,on,y,x,q.1,[]⟩ ky kx)/\Stp [bm] w w') ?_ ?_
 (refine QP ?_ ?_<;>intro hc)
 refine CM (Zf rfl rfl) (Z0p bm lv l _ 6 _ (by decide) (by omega) az ay hl) ?_;rintro _ wq ⟨q6,rfl,vm,az,hT⟩;replace hy:=hy.ext hT (by simp) (λ_ h=>.inl h);replace hx:=hx.ext hT (by simp) (λ_ h=>.inl h);replace e2:=e2.ext hT (by simp;exact n2);replace e3:=e3.ext hT (by simp;exact n3);replace hS:=hS.trans hT;clear hT;refine W ?_;refine CM (ZN rfl) (Z6x q6 _ (by omega)) ?_;rintro _ wq ⟨⟨kn,m9,rfl⟩,hT⟩;replace hy:=hy.up hT;replace hx:=hx.up hT;replace az:=az.up hT;replace e2:=e2.up hT;replace e3:=e3.up hT;replace hS:=hS.trans hT.mn;clear hT;refine W ?_;refine S1 (u:=str kn) e3 ?_;rintro _ wq ⟨hT,e3⟩;replace e3:Blk wq b3 99 (rlC ⟨nm,fr,on,y,x,kn,[]⟩ ky kx):=e3;replace hx:=hx.ext hT (by simp) (λ_ h=>.inl h);replace hy:=hy.ext hT (by simp) (λ_ h=>.inl h);replace az:=az.ext hT (by simp;exact n3.symm);replace e2:=e2.ext hT (by simp;exact n23);replace hS:=hS.ow hT;refine W ?_;exact QT (kn,_) ⟨.inr m9,hy,hx,az,by simp only;omega,e2,e3,hS⟩;exact QT ([],_) ⟨.inl rfl,hy,hx,az,by simp only;omega,e2,e3,hS⟩;clear az ay e2 e3 hS hy hx;rintro ⟨u,i5⟩ wq ⟨hu,hy,hx,az,vn,e2,e3,hS⟩;dsimp only at hu az vn e3;have ay:=gY.ext hS (λ_ h=>h) (λ_ h=>.inl h);refine W ?_;refine CM (Zf rfl rfl) (Z0p bm lv l _ 2 _ (by decide) (by omega) az ay hl) ?_;rintro _ wq ⟨q5,rfl,vl,az,hT⟩;replace hy:=hy.ext hT (by simp) (λ_ h=>.inl h);replace hx:=hx.ext hT (by simp) (λ_ h=>.inl h);replace e2:=e2.ext hT (by simp;exact n2);replace e3:=e3.ext hT (by simp;exact n3);replace hS:=hS.trans hT;replace ay:=gY.ext hS (λ_ h=>h) (λ_ h=>.inl h);clear hT;refine W ?_
 refine JK (σ:=Str×Nat) (λ_=>[(0,pQ bm),(2,pQ b2),(3,pQ b3)])
  (λq w'=>(q.1=[]\/q.1∈Jo)/\SlV (b3 :: b2 :: bm :: X) w' ky y.kids/\SlV (b3 :: b2 :: bm :: X) w' kx x.kids/\Mk3 w' bm lv q.2/\q.2<=i+252/\Blk w' b2 99 cs2/\Blk w' b3 99 (rlC ⟨nm,fr,on,y,x,u,q.1⟩ ky kx)/\Stp [bm] w w') ?_ ?_
 (refine QP ?_ ?_<;>intro hc)
 refine CM (Zf rfl rfl) (Z0p bm lv l _ 6 _ (by decide) (by omega) az ay hl) ?_;rintro _ wq ⟨q6,rfl,vm,az,hT⟩;replace hy:=hy.ext hT (by simp) (λ_ h=>.inl h);replace hx:=hx.ext hT (by simp) (λ_ h=>.inl h);replace e2:=e2.ext hT (by simp;exact n2);replace e3:=e3.ext hT (by simp;exact n3);replace hS:=hS.trans hT;clear hT;refine W ?_;refine CM (ZN rfl) (Z6x q6 _ (by omega)) ?_;rintro _ wq ⟨⟨kn,m9,rfl⟩,hT⟩;replace hy:=hy.up hT;replace hx:=hx.up hT;replace az:=az.up hT;replace e2:=e2.up hT;replace e3:=e3.up hT;replace hS:=hS.trans hT.mn;clear hT;refine W ?_;refine S1 (u:=str kn) e3 ?_;rintro _ wq ⟨hT,e3⟩;replace e3:Blk wq b3 99 (rlC ⟨nm,fr,on,y,x,u,kn⟩ ky kx):=e3;replace hx:=hx.ext hT (by simp) (λ_ h=>.inl h);replace hy:=hy.ext hT (by simp) (λ_ h=>.inl h);replace az:=az.ext hT (by simp;exact n3.symm);replace e2:=e2.ext hT (by simp;exact n23);replace hS:=hS.ow hT;refine W ?_;exact QT (kn,_) ⟨.inr m9,hy,hx,az,by simp only;omega,e2,e3,hS⟩;exact QT ([],_) ⟨.inl rfl,hy,hx,az,by simp only;omega,e2,e3,hS⟩;clear az ay e2 e3 hS hy hx;rintro ⟨v,i6⟩ wq ⟨hv,hy,hx,az,vo,e2,e3,hS⟩;dsimp only at hv az vo e3;have ay:=gY.ext hS (λ_ h=>h) (λ_ h=>.inl h);refine W ?_
 try (apply Z8 (Zl (us:=rlC ⟨nm,fr,on,y,x,u,v⟩ ky kx) rfl rfl e3 rfl rfl) rfl)
 try refine W ?_
 refine Z5 (Zm (us:=rlC ⟨nm,fr,on,y,x,u,v⟩ ky kx) rfl rfl rfl rfl (Zb7 ⟨nm,fr,on,y,x,u,v⟩ hy hx) e2 (by rw [ci];rfl)) ?_;rintro _ wz ⟨hT,e2⟩;refine W ?_;refine J3 rfl rfl rfl e2 rfl ?_;refine .mk ⟨⟨nm,fr,on,y,x,u,v⟩,i6,⟨ky,kx,rfl,(hy.ext hT (by simp) (λ_ h=>.inl h)).wk (λb h=>by simp [h]),(hx.ext hT (by simp) (λ_ h=>.inl h)).wk (λb h=>by simp [h])⟩,⟨fK,ju,jF,gy,gx,hu,hv⟩,az.ext hT (by simp;exact n2.symm),by omega,hS.ow hT⟩
structure Cr where
 name:Str
 frm:Int
 on:Str
 cnd:List Ins
 due:List Ins
 unl:Str
 els:Str
abbrev crC (q:Cr) (kc kd:Value):List Value:=[str q.name,.I q.frm,str q.on,kc,kd,str q.unl,str q.els]
def CrV (X:List Nat) (w:World) (v:Value) (q:Cr):Prop:=∃ kc kd,v=.agg (crC q kc kd).toArray/\SlV X w kc q.cnd/\SlV X w kd q.due
theorem Z0r {q:Cr} {X Y:List Nat} {w w':World} {kc kd:Value} (h1:SlV X w kc q.cnd) (h2:SlV Y w' kd q.due):∀ c∈crC q kc kd,c.oneCell'=true:=by
 intro c hc;have e1:=h1.one;have e2:=h2.one;simp only [crC,Xb,Xj,or_false] at hc;rcases hc with rfl|rfl|rfl|rfl|rfl|rfl|rfl<;>first|rfl|exact e1|exact e2
def Z0s (r:Rul):Int:=if Z0M r≠0 then Z0M r else if Z0D r.cnd≠0 then Z0D r.cnd else Z0D r.due
abbrev crZ:Cr:=⟨[],0,[],[],[],[],[]⟩
def crF (r:Rul):Cr:=if Z0s r=0 then ⟨r.name,r.frm,r.on,ZU r.cnd,ZU r.due,r.unl,r.els⟩ else crZ
def ZoM (w:World) (r:Rul) (v:Value) (w':World):Prop:=∃ cv,v=.tuple #[cv,.I (Z0s r)]/\(∀ X:List Nat,(∀ b∈X,b<w.heap.size)->CrV X w' cv (crF r))/\Stp [] w w'
theorem Z2O (w):(Instr.build 62 #[]).run Tryz.prog w=.ok (.agg (crC crZ Jn Jn).toArray) w:=by kernel_rfl
theorem Zfr (q:Cr) (p1 p2:Option Addr) (l1 c1 l2 c2:Nat) (w):(Instr.build 62 #[(0,str q.name),(1,.I q.frm),(2,str q.on),(3,.slice p1 l1 c1),(4,.slice p2 l2 c2),(5,str q.unl),(6,str q.els)]).run Tryz.prog w=.ok (.agg (crC q (.slice p1 l1 c1) (.slice p2 l2 c2)).toArray) w:=by kernel_rfl
theorem Zkc (v:Value) (r:Rul) (w) (hv:ZgC [] w v r) (cr:Smp r.cnd) (bq:Smp r.due) (h1:ZD r.cnd<=1000) (h2:ZD r.due<=1000) (hF:SlV [] w Z21 Ze) (m:Int) (hm:w.cell? ⟨2,0,none⟩=some (.I m)) :
 Calls Tryz.prog 59 #[v] w (Ret (ZoM w r)):=by
 obtain ⟨ki,kd,rfl,hi,hd⟩:=hv;have lj:=Z0E r.cnd;have jG:=Z0E r.due;refine cW1 47 Tryz.func59 ?_;refine W ?_;refine Z0 (Zq rfl) rfl ?_;rintro _ w1 ⟨b,rfl,hb,ac,hS⟩;replace ac:Blk w1 b _ (rlC r ki kd):=ac;refine W ?_;refine Z0 Z2 rfl ?_;rintro _ w2 ⟨b2,rfl,bV,e2,hT⟩;have ga:w.heap.size<=b2:=Xh hS.size bV;replace ac:=ac.up hT;replace hS:=hS.trans hT;clear hT hb bV;refine W ?_
 try (refine Z8 (J0 rfl rfl ac rfl) rfl ?_)
 refine W ?_;refine CM (ZN rfl) (Z7b _ r m _ ⟨ki,kd,rfl,hi.up hS,hd.up hS⟩ (hF.up hS) (hS.cell (by simp) hm)) ?_;rintro _ w3 ⟨rfl,hT⟩;replace ac:=ac.up hT;replace e2:=e2.up hT;replace hS:=hS.trans hT;clear hT;by_cases jm:Z0M r=0
 case neg=>
  have hE:Z0s r=Z0M r:=by unfold Z0s;rw [if_pos jm]
  have hC:crF r=crZ:=by unfold crF;rw [hE,if_neg jm]
  refine QO ?_;apply Z7 (vs:=[]) rfl Z2O rfl;refine W ?_;refine SB (us:=crC crZ Jn Jn) (Z0r (q:=crZ) (Zo [] w) (Zo [] w)) e2 ?_;rintro _ w9 ⟨hT,e2⟩;refine W ?_;refine Zn rfl rfl rfl e2 rfl rfl ?_;exact .mk ⟨_,by rw [hE]<;>rfl,λX hX=>⟨Jn,Jn,by rw [hC],by rw [hC];exact Zo X _,by rw [hC];exact Zo X _⟩,hS.ow hT⟩
 refine QO ?_;apply Z8 (Zl (us:=ndC r.cnd ki) rfl rfl ac rfl rfl) rfl;refine W ?_;refine CL (Z3T _ r.cnd _ cr h1 ⟨ki,rfl,hi.up hS⟩ (hF.up hS)) ?_;rintro _ w4 ⟨va,rfl,ha,hT⟩;replace ha:=λX (hX:∀ b∈X,b<w.heap.size)=>ha (b2 :: X) (λb hb=>by
  rcases Xb.1 hb with rfl|h
  exact e2.lt;exact Xa (hX b h) hS.size)
 replace ac:=ac.up hT;replace e2:=e2.up hT;replace hS:=hS.trans hT;clear hT;refine W ?_;by_cases bY:Z0D r.cnd=0
 case neg=>
  have hE:Z0s r=Z0D r.cnd:=by unfold Z0s;rw [if_neg (by simp [jm]),if_pos bY]
  have hC:crF r=crZ:=by unfold crF;rw [hE,if_neg bY]
  refine QO ?_;apply Z7 (vs:=[]) rfl Z2O rfl;refine W ?_;refine SB (us:=crC crZ Jn Jn) (Z0r (q:=crZ) (Zo [] w) (Zo [] w)) e2 ?_;rintro _ w9 ⟨hT,e2⟩;refine W ?_;refine Zn rfl rfl rfl e2 rfl rfl ?_;exact .mk ⟨_,by rw [hE]<;>rfl,λX hX=>⟨Jn,Jn,by rw [hC],by rw [hC];exact Zo X _,by rw [hC];exact Zo X _⟩,hS.ow hT⟩
 rw [if_pos bY] at ha;refine QO ?_;apply Z8 (Zl (us:=ndC r.due kd) rfl rfl ac rfl rfl) rfl;refine W ?_;refine CL (Z3T _ r.due _ bq h2 ⟨kd,rfl,hd.up hS⟩ (hF.up hS)) ?_;rintro _ w5 ⟨vb,rfl,hb,hT⟩;replace hb:=λX (hX:∀ b∈X,b<w.heap.size)=>hb (b2 :: X) (λb hb=>by
  rcases Xb.1 hb with rfl|h
  exact e2.lt;exact Xa (hX b h) hS.size)
 replace ha:=λX hX=>(ha X hX).up hT;replace ac:=ac.up hT;replace e2:=e2.up hT;replace hS:=hS.trans hT;clear hT;refine W ?_;have hE:Z0s r=Z0D r.due:=by unfold Z0s;rw [if_neg (by simp [jm]),if_neg (by simp [bY])]
 by_cases ci:Z0D r.due=0
 case neg=>
  have hC:crF r=crZ:=by unfold crF;rw [hE,if_neg ci]
  refine QO ?_;apply Z7 (vs:=[]) rfl Z2O rfl;refine W ?_;refine SB (us:=crC crZ Jn Jn) (Z0r (q:=crZ) (Zo [] w) (Zo [] w)) e2 ?_;rintro _ w9 ⟨hT,e2⟩;refine W ?_;refine Zn rfl rfl rfl e2 rfl rfl ?_;exact .mk ⟨_,by rw [hE]<;>rfl,λX hX=>⟨Jn,Jn,by rw [hC],by rw [hC];exact Zo X _,by rw [hC];exact Zo X _⟩,hS.ow hT⟩
 rw [if_pos ci] at hb;have hC:crF r=⟨r.name,r.frm,r.on,ZU r.cnd,ZU r.due,r.unl,r.els⟩:=by unfold crF;rw [hE,if_pos ci]
 obtain ⟨p1,c1,rfl,-⟩:=id (ha [] (by simp));obtain ⟨p2,c2,rfl,-⟩:=id (hb [] (by simp));refine QO ?_;apply Z7 (vs:=[(0,str r.name),(1,.I r.frm),(2,str r.on),(3,.slice p1 (ZU r.cnd).length c1),(4,.slice p2 (ZU r.due).length c2),(5,str r.unl),(6,str r.els)]) rfl (Zfr ⟨r.name,r.frm,r.on,ZU r.cnd,ZU r.due,r.unl,r.els⟩ _ _ _ _ _ _) rfl;refine SB (us:=crC ⟨r.name,r.frm,r.on,ZU r.cnd,ZU r.due,r.unl,r.els⟩ (.slice p1 (ZU r.cnd).length c1) (.slice p2 (ZU r.due).length c2)) (Z0r (q:=⟨r.name,r.frm,r.on,ZU r.cnd,ZU r.due,r.unl,r.els⟩) (ha [] (by simp)) (hb [] (by simp))) e2 ?_;rintro _ w9 ⟨hT,e2⟩;refine W ?_;refine Zn rfl rfl rfl e2 rfl rfl ?_;exact .mk ⟨_,by rw [hE,ci],λX hX=>by
  rw [hC];exact ⟨_,_,rfl,((ha X hX).ext hT (by simp) (λ_ h=>.inl h)).wk (λb h=>by simp [h]),((hb X hX).ext hT (by simp) (λ_ h=>.inl h)).wk (λb h=>by simp [h])⟩,hS.ow hT⟩
theorem ZgG (v:Value) (r:Rul) (w) (hv:ZgC [] w v r) (h1:ZD r.cnd<=1000) (h2:ZD r.due<=1000) :
 Calls Tryz.prog 37 #[v] w (Ret (ZoM w r)):=by
 obtain ⟨ki,kd,rfl,hi,hd⟩:=hv;have lj:=Z0E r.cnd;have jG:=Z0E r.due;refine cW1 48 Tryz.func37 ?_;refine W ?_;refine Z0 (Zq rfl) rfl ?_;rintro _ w1 ⟨b,rfl,hb,ac,hS⟩;replace ac:Blk w1 b _ (rlC r ki kd):=ac;refine W ?_;refine Z0 Z2 rfl ?_;rintro _ w2 ⟨b2,rfl,bV,e2,hT⟩;have ga:w.heap.size<=b2:=Xh hS.size bV;replace ac:=ac.up hT;replace hS:=hS.trans hT;clear hT hb bV;refine W ?_
 try (refine Z8 (J0 rfl rfl ac rfl) rfl ?_)
 refine W ?_;refine CL (Zeq _ r _ ⟨ki,kd,rfl,hi.up hS,hd.up hS⟩ h1 h2) ?_;rintro _ w3 ⟨rfl,hT⟩;replace ac:=ac.up hT;replace e2:=e2.up hT;replace hS:=hS.trans hT;clear hT;by_cases jm:Z0M r=0
 case neg=>
  have hE:Z0s r=Z0M r:=by unfold Z0s;rw [if_pos jm]
  have hC:crF r=crZ:=by unfold crF;rw [hE,if_neg jm]
  refine QO ?_;apply Z7 (vs:=[]) rfl Z2O rfl;refine W ?_;refine SB (us:=crC crZ Jn Jn) (Z0r (q:=crZ) (Zo [] w) (Zo [] w)) e2 ?_;rintro _ w9 ⟨hT,e2⟩;refine W ?_;refine Zn rfl rfl rfl e2 rfl rfl ?_;exact .mk ⟨_,by rw [hE]<;>rfl,λX hX=>⟨Jn,Jn,by rw [hC],by rw [hC];exact Zo X _,by rw [hC];exact Zo X _⟩,hS.ow hT⟩
 refine QO ?_;apply Z8 (Zl (us:=ndC r.cnd ki) rfl rfl ac rfl rfl) rfl;refine W ?_;refine CM (ZN rfl) (Z3y _ r.cnd _ h1 (by omega) ⟨ki,rfl,hi.up hS⟩) ?_;rintro _ w4 ⟨va,rfl,ha,hT⟩;replace ha:=λX (hX:∀ b∈X,b<w.heap.size)=>ha (b2 :: X) (λb hb=>by
  rcases Xb.1 hb with rfl|h
  exact e2.lt;exact Xa (hX b h) hS.size)
 replace ac:=ac.up hT;replace e2:=e2.up hT;replace hS:=hS.trans hT;clear hT;refine W ?_;by_cases bY:Z0D r.cnd=0
 case neg=>
  have hE:Z0s r=Z0D r.cnd:=by unfold Z0s;rw [if_neg (by simp [jm]),if_pos bY]
  have hC:crF r=crZ:=by unfold crF;rw [hE,if_neg bY]
  refine QO ?_;apply Z7 (vs:=[]) rfl Z2O rfl;refine W ?_;refine SB (us:=crC crZ Jn Jn) (Z0r (q:=crZ) (Zo [] w) (Zo [] w)) e2 ?_;rintro _ w9 ⟨hT,e2⟩;refine W ?_;refine Zn rfl rfl rfl e2 rfl rfl ?_;exact .mk ⟨_,by rw [hE]<;>rfl,λX hX=>⟨Jn,Jn,by rw [hC],by rw [hC];exact Zo X _,by rw [hC];exact Zo X _⟩,hS.ow hT⟩
 rw [if_pos bY] at ha;refine QO ?_;apply Z8 (Zl (us:=ndC r.due kd) rfl rfl ac rfl rfl) rfl;refine W ?_;refine CM (ZN rfl) (Z3y _ r.due _ h2 (by omega) ⟨kd,rfl,hd.up hS⟩) ?_;rintro _ w5 ⟨vb,rfl,hb,hT⟩;replace hb:=λX (hX:∀ b∈X,b<w.heap.size)=>hb (b2 :: X) (λb hb=>by
  rcases Xb.1 hb with rfl|h
  exact e2.lt;exact Xa (hX b h) hS.size)
 replace ha:=λX hX=>(ha X hX).up hT;replace ac:=ac.up hT;replace e2:=e2.up hT;replace hS:=hS.trans hT;clear hT;refine W ?_;have hE:Z0s r=Z0D r.due:=by unfold Z0s;rw [if_neg (by simp [jm]),if_neg (by simp [bY])]
 by_cases ci:Z0D r.due=0
 case neg=>
  have hC:crF r=crZ:=by unfold crF;rw [hE,if_neg ci]
  refine QO ?_;apply Z7 (vs:=[]) rfl Z2O rfl;refine W ?_;refine SB (us:=crC crZ Jn Jn) (Z0r (q:=crZ) (Zo [] w) (Zo [] w)) e2 ?_;rintro _ w9 ⟨hT,e2⟩;refine W ?_;refine Zn rfl rfl rfl e2 rfl rfl ?_;exact .mk ⟨_,by rw [hE]<;>rfl,λX hX=>⟨Jn,Jn,by rw [hC],by rw [hC];exact Zo X _,by rw [hC];exact Zo X _⟩,hS.ow hT⟩
 rw [if_pos ci] at hb;have hC:crF r=⟨r.name,r.frm,r.on,ZU r.cnd,ZU r.due,r.unl,r.els⟩:=by unfold crF;rw [hE,if_pos ci]
 obtain ⟨p1,c1,rfl,-⟩:=id (ha [] (by simp));obtain ⟨p2,c2,rfl,-⟩:=id (hb [] (by simp));refine QO ?_;apply Z7 (vs:=[(0,str r.name),(1,.I r.frm),(2,str r.on),(3,.slice p1 (ZU r.cnd).length c1),(4,.slice p2 (ZU r.due).length c2),(5,str r.unl),(6,str r.els)]) rfl (Zfr ⟨r.name,r.frm,r.on,ZU r.cnd,ZU r.due,r.unl,r.els⟩ _ _ _ _ _ _) rfl;refine SB (us:=crC ⟨r.name,r.frm,r.on,ZU r.cnd,ZU r.due,r.unl,r.els⟩ (.slice p1 (ZU r.cnd).length c1) (.slice p2 (ZU r.due).length c2)) (Z0r (q:=⟨r.name,r.frm,r.on,ZU r.cnd,ZU r.due,r.unl,r.els⟩) (ha [] (by simp)) (hb [] (by simp))) e2 ?_;rintro _ w9 ⟨hT,e2⟩;refine W ?_;refine Zn rfl rfl rfl e2 rfl rfl ?_;exact .mk ⟨_,by rw [hE,ci],λX hX=>by
  rw [hC];exact ⟨_,_,rfl,((ha X hX).ext hT (by simp) (λ_ h=>.inl h)).wk (λb h=>by simp [h]),((hb X hX).ext hT (by simp) (λ_ h=>.inl h)).wk (λb h=>by simp [h])⟩,hS.ow hT⟩
theorem Z5p (va vb:Value) (xs ys:List Int) (w) (ha:SlV [] w va xs) (hb:SlV [] w vb ys) :
 CC 298 #[va,vb] w λr w'=>r=.B (decide (xs=ys))/\Stp [] w w':=by
 have qU:=ha.max;have tr:=hb.max;refine cW2 26 Tryz.func298 ?_;refine W ?_;by_cases hl:xs.length=ys.length
 case neg=>
  refine RT ?_;exact ⟨by congr 1;rw [eq_comm,decide_eq_false_iff_not];exact λh=>hl (by rw [h]),Stp.refl _ _⟩
 refine QO ?_;refine LP (σ:=Nat) (λj=>[(0,va),(1,vb),(4,.B false),(12,.I (xs.length:Int)),(13,.I (j:Int))]) (λj w'=>j<=xs.length/\Stp [] w w'/\∀ i (h:i<xs.length),i<j->xs[i]=ys[i]'(by omega)) (λj=>xs.length - j) 0 ⟨Xp _,Stp.refl _ _,λi _ h=>absurd h (Xw _)⟩ ?_;rintro j w2 ⟨hj,hS,df⟩
 try dsimp only at hj df ⊢
 replace ha:=ha.up hS;replace hb:=hb.up hS;by_cases hlt:j<xs.length;have eO:j<ys.length:=by omega
 refine QO ?_;refine ZDr 9 [] [] [(0,0),(1,0),(2,0),(3,1),(4,0),(5,0),(6,0),(7,1),(8,0)] (λw1 ae=>?_);replace ha:=ha.up ae;replace hb:=hb.up ae;replace hS:=hS.trans ae;refine D ?_
 (refine QP ?_ ?_<;>intro hc)
 refine RU ?_;exact ⟨by congr 1;rw [eq_comm,decide_eq_false_iff_not];exact λh=>hc (by simp [h]),hS⟩;have he:xs[j]=ys[j]:=Decidable.byContradiction hc;have hk:∀ i (h:i<xs.length),i<j+1->xs[i]=ys[i]'(by omega):=λi h hi=>by
  by_cases dJ:i=j;subst dJ;exact he;exact df i h (by omega)
 exact QL (j+1) ⟨hlt,hS,hk⟩ (Xs hlt (Xv j));have du:j=xs.length:=by omega
 subst du;refine RT ?_;exact ⟨by congr 1;rw [eq_comm,decide_eq_true_eq];exact YaG hl (λi h h'=>df i h h),hS⟩
abbrev RwZ (w w':World) (v:Value) (xs:List Int):Prop:=ZF 3 w w' v xs
theorem ZgH (k:Nat) (w) (hk:k<=1000000):CC 335 #[.N,.I (k:Int)] w λr w'=>RwZ w w' r []:=by
 refine cW2 27 Tryz.func335 ?_;refine W ?_;have h0:SlV (α:=Int) [] w (.N) []:=Zo _ _;have cV:([]:List Int).length=0:=rfl;repeat'(first|refine W1 ?_|omega|refine VG ?_ ?_<;>intro hg|refine VC ?_ ?_<;>intro hc)
 apply Z8 (ZaZ rfl) rfl;by_cases fw:k=0;subst fw;refine QO ?_;refine WR ?_;exact .mk ZF.nil;refine QO ?_;apply Z8 (ZaZ rfl) rfl;apply Z8 (Z8i rfl rfl) rfl;refine W ?_;refine Z0 (Zn9 (k:=k) rfl rfl rfl (by omega) (by simp [maxLen];omega) (by omega)) rfl ?_;rintro _ w1 ⟨c,rfl,ce,hS⟩;replace h0:=h0.up hS;have hr:RwZ w w1 (.slice (some ⟨w.heap.size,0,none⟩) 0 c) []:=⟨⟨[],rfl,λi h=>absurd h (Xw _),ce⟩,hS⟩
 refine W ?_;apply Z8 (Z9R rfl rfl) rfl;refine W ?_;refine WR ?_;exact .mk hr
theorem ZcD (v:Value) (xss:List (Sl Int)) (w) (hs:SlV [] w v xss) (hl:xss.length<=1000) (ai:(xss.flatMap Sl.l).length<=100000):CC 299 #[v] w λr w'=>RwZ w w' r (xss.flatMap Sl.l):=by
 have cw:∀ j,((xss.take j).flatMap Sl.l).length<=(xss.flatMap Sl.l).length:=λj=>by
  rw [<- XO j xss,Yam,Xd];simp only [XO];have:(xss.take j).flatMap Sl.l=((xss.take j++xss.drop j).take j).flatMap Sl.l:=by rw [XO]
  omega
 have hstep:∀ j (h:j<xss.length),(xss.take (j+1)).flatMap Sl.l=(xss.take j).flatMap Sl.l++xss[j].l:=λj h=>by
  rw [Xi h,Yam];simp
 refine cW1 36 Tryz.func299 ?_;refine W ?_;refine Z0h (σ:=Unit) (λ_=>[(0,v),(3,.I ((xss.flatMap Sl.l).length:Int))]) (λ_ w'=>w'=w) ?_ ?_;refine LP (σ:=Nat) (λj=>[(0,v),(9,v),(10,.I (xss.length:Int)),(3,.I (((xss.take j).flatMap Sl.l).length:Int)),(11,.I (j:Int))]) (λj w'=>j<=xss.length/\w'=w) (λj=>xss.length - j) 0 ⟨Xp _,rfl⟩ ?_;rintro j w2 ⟨hj,rfl⟩;by_cases hlt:j<xss.length;obtain ⟨u,aq,fH⟩:=hs.sub hlt;have oT:=fH.max;have h1:=cw j;have h2:=cw (j+1);have h3:=hstep j hlt;have h4:((xss.take (j+1)).flatMap Sl.l).length=((xss.take j).flatMap Sl.l).length+xss[j].l.length:=by rw [h3,Xd]
 refine QO ?_;apply Z8 (JC rfl rfl aq) rfl;refine QO ?_;refine Zs (j+1) ⟨rfl,rfl,rfl,by rw [h4,Ybn];rfl,rfl,trivial⟩ ⟨hlt,rfl⟩ (by omega);have du:j=xss.length:=by omega
 subst du;rw [Xo];refine QO ?_;exact QT () rfl;rintro _ w2 rfl;refine W ?_;refine Z0 (Z4 rfl (Zf rfl rfl) (ZgH _ _ (by omega))) rfl ?_;rintro g w3 hr;refine W ?_;have eZ:=hs.up hr.2;refine W ?_;refine LP (σ:=Nat×Value) (λq=>[(6,q.2),(25,v),(26,.I (xss.length:Int)),(27,.I (q.1:Int))]) (λq w'=>q.1<=xss.length/\RwZ w2 w' q.2 ((xss.take q.1).flatMap Sl.l)) (λq=>xss.length - q.1) (0,g) ⟨Xp _,by simpa using hr⟩ ?_;clear hr eZ;rintro ⟨j,g⟩ w4 ⟨hj,hr⟩;dsimp only at hj hr ⊢;by_cases hlt:j<xss.length;have eA:SlV (ob g) w4 v xss:=hs.ext hr.2 (by simp) (λb hb=>.inr (hr.ob_le b hb).1);obtain ⟨u,aq,fH⟩:=eA.sub hlt;have h1:=cw j;have h2:=cw (j+1);have h3:=hstep j hlt;have h4:((xss.take (j+1)).flatMap Sl.l).length=((xss.take j).flatMap Sl.l).length+xss[j].l.length:=by rw [h3,Xd]
 refine QO ?_;apply Z8 (JC rfl rfl aq) rfl;refine QO ?_;refine Z0 (JE rfl (by decide) rfl rfl hr fH (by omega) (by simp only [maxLen];omega)) rfl ?_;rintro g' w5 ⟨bE,-,-⟩;refine W ?_;exact QL (j+1,g') ⟨hlt,by dsimp only;rw [h3];exact bE⟩ (by dsimp only;omega);have du:j=xss.length:=by omega
 subst du;rw [Xo] at hr;refine QO ?_;refine WR ?_;exact .mk hr
end Go.Proofs.YtipfkbkkndacjaaGreatDoor
namespace Go.Eng
open Go
theorem Z4E {P:Program} {n:Nat} {fn:Func} {R:Ending->World->Prop} {e:Env} {w} {t u s q:Nat} {v x y z:Value} (hr:fn.results=#[.tmp t,.tmp u,.tmp s,.tmp q]) (ht:look e t=some v) (hu:look e u=some x) (hs:look e s=some y) (hq:look e q=some z) (h:R (.returned (.tuple #[v,x,y,z])) w):WQ n (bodyPost P fn R) .ret e w:=
 ⟨λa ha=>⟨ha.defers,.tuple #[v,x,y,z],by simp [results,hr];simpa [XD] using And.intro (ha.vals t v ht) (And.intro (ha.vals u x hu) (And.intro (ha.vals s y hs) (ha.vals q z hq))),h⟩⟩
end Go.Eng
namespace Go.Proofs.YtipfkbkkndacjaaGreatDoor
open Go Go.Eng Go.RowKit
def opP (k:Int):Prop:=k=1\/k=2\/k=4\/k=15\/k=24
def Zz (x:Ins):List Int×List Int×List Int×Bool:=
 if x.op=1 then ([],[],[1],decide (-2147483647<=x.n/\x.n<=2147483647))
 else if x.op=2 then ([],[],[2],decide (x.n=0\/x.n=1))
 else if x.op=3 then ([],[],[3],decide (0<=x.n/\x.n<=3652058))
 else if x.op=4 then ([],[],[if x.n=0\/x.n=1 then 3 else 1],decide (0<=x.n/\x.n<7))
 else if x.op=13 then ([],[],[],true)
 else if x.op=14 then ([2],[],[],true)
 else if x.op=5\/x.op=6\/x.op=7 then ([1,1],[],[1],decide (x.n=0))
 else if x.op=8 then ([1],[],[1],decide (x.n=0))
 else if x.op=9\/x.op=10\/x.op=11 then ([1,1],[3,3],[2],decide (x.n=0))
 else if x.op=12 then ([2],[],[2],decide (x.n=0))
 else if x.op=15\/x.op=16\/x.op=17\/x.op=18 then ([3,1],[],[3],decide (x.n=0))
 else if x.op=19\/x.op=20 then ([3],[],[3],decide (x.n=0))
 else if x.op=21\/x.op=22 then ([3,3],[],[3],decide (x.n=0))
 else if x.op=23 then ([3,3],[],[1],decide (x.n=0))
 else if x.op=24 then ([],[],[],decide (x.n=0))
 else ([],[],[],false)
def ZwU (X:List Nat) (w:World) (x:Ins) (r:Value) (w':World):Prop:=∃ a b c,r=.tuple #[a,b,c,.B (Zz x).2.2.2]/\SlV X w' a (Zz x).1/\SlV X w' b (Zz x).2.1/\SlV X w' c (Zz x).2.2.1/\Stp [] w w'
theorem Z4F {X:List Nat} {w w':World} {x:Ins} {a b c:Value} {p ok:Bool} {ta al gi:List Int} (df:Zz x=(ta,al,gi,ok)) (hp:p=ok) (ha:SlV X w' a ta) (hb:SlV X w' b al) (hc:SlV X w' c gi) (hS:Stp [] w w'):Ret (ZwU X w x) (.returned (.tuple #[a,b,c,.B p])) w':=by
 refine .mk ⟨a,b,c,?_,?_,?_,?_,hS⟩<;>rw [df];rw [hp];exact ha;exact hb;exact hc
theorem Zet (X:List Nat) (x:Ins) (w:World) (gE:∀ b∈X,b<w.heap.size) (fI:opP x.op) :
 Calls Tryz.prog 297 #[agg x] w (Ret (ZwU X w x)):=by
 refine cW1 117 Tryz.func297 ?_;refine W ?_;refine Z0 (Zq rfl) rfl ?_;rintro _ w0 ⟨b,rfl,hb,ac,hS⟩;replace ac:Blk w0 b _ [.I x.op,.I x.n]:=ac;have hX:∀ b∈X,b<w0.heap.size:=λb hb=>Xa (gE b hb) hS.size;refine W ?_;by_cases h1:x.op=1
 . have df:Zz x=([],[],[1],decide (-2147483647<=x.n/\x.n<=2147483647)):=by simp [Zz,h1]
   refine QO ?_;refine ZDr 13 [] [] [(1,0),(2,1),(3,0),(4,0),(5,0),(6,1),(7,0),(8,0),(9,0),(10,0),(0,2),(11,0),(12,0)] (λw1 ae=>?_);replace ac:=ac.up ae;replace hS:=hS.trans ae;replace hX:=λb hb=>Xa (hX b hb) ae.size
   (refine QE ?_ ?_<;>intro hg)
   all_goals
    refine Za rfl trivial (Z1 (vs:=[(0,.I 1)]) rfl (Zr _)) (λ_ _ h=>Z9.stp h) rfl ?_;rintro g wq hN;have s_g:SlV X wq g [(1:Int)]:=hN.slv hX rfl rfl (by simp [maxLen]);have hT:=Z9.stp hN;clear hN;replace ac:=ac.up hT;replace hS:=hS.trans hT;clear hT;refine D ?_;refine W ?_;refine Z4E rfl rfl rfl rfl rfl ?_;refine Z4F df ?_ (Zo _ _) (Zo _ _) (s_g) hS;first|rfl|(simp only [decide_eq_decide];omega)|(symm;simp only [decide_eq_true_eq,decide_eq_false_iff_not];omega)|(simp only [decide_eq_true_eq,decide_eq_false_iff_not];omega)
 by_cases h2:x.op=2
 . have df:Zz x=([],[],[2],decide (x.n=0\/x.n=1)):=by simp [Zz,h2]
   refine QO ?_;refine ZDr 13 [] [] [(1,0),(2,1),(3,0),(4,0),(5,0),(6,1),(7,0),(8,0),(9,0),(10,0),(0,2),(11,0),(12,0)] (λw1 ae=>?_);replace ac:=ac.up ae;replace hS:=hS.trans ae;replace hX:=λb hb=>Xa (hX b hb) ae.size
   (refine QE ?_ ?_<;>intro hg)
   all_goals
    refine Za rfl trivial (Z1 (vs:=[(0,.I 2)]) rfl (Zr _)) (λ_ _ h=>Z9.stp h) rfl ?_;rintro g wq hN;have s_g:SlV X wq g [(2:Int)]:=hN.slv hX rfl rfl (by simp [maxLen]);have hT:=Z9.stp hN;clear hN;replace ac:=ac.up hT;replace hS:=hS.trans hT;clear hT;refine D ?_;refine W ?_;refine Z4E rfl rfl rfl rfl rfl ?_;refine Z4F df ?_ (Zo _ _) (Zo _ _) (s_g) hS;first|rfl|(simp only [decide_eq_decide];omega)|(symm;simp only [decide_eq_true_eq,decide_eq_false_iff_not];omega)|(simp only [decide_eq_true_eq,decide_eq_false_iff_not];omega)
 by_cases h4:x.op=4;by_cases iq:x.n=0\/x.n=1
 . have df:Zz x=([],[],[3],decide (0<=x.n/\x.n<7)):=by simp [Zz,h4,iq]
   repeat'(first|refine W1 ?_|omega|refine VG ?_ ?_<;>intro hg|refine VC ?_ ?_<;>intro hc)
   all_goals
    refine ZDr 14 [] [] [(0,0),(2,0),(3,1),(4,0),(5,0),(6,0),(7,1),(8,0),(9,0),(10,0),(11,0),(1,2),(12,0),(13,0)] (λw1 ae=>?_);replace ac:=ac.up ae;replace hS:=hS.trans ae;replace hX:=λb hb=>Xa (hX b hb) ae.size;refine QD ?_
    all_goals
     refine Za rfl trivial (Z1 (vs:=[(0,.I 3)]) rfl (Zr _)) (λ_ _ h=>Z9.stp h) rfl ?_;rintro g wq hN;have s_g:SlV X wq g [(3:Int)]:=hN.slv hX rfl rfl (by simp [maxLen]);have hT:=Z9.stp hN;clear hN;replace ac:=ac.up hT;replace hS:=hS.trans hT;clear hT;refine D ?_;refine W ?_;refine Z4E rfl rfl rfl rfl rfl ?_;refine Z4F df ?_ (Zo _ _) (Zo _ _) (s_g) hS;first|rfl|(simp only [decide_eq_decide];omega)|(symm;simp only [decide_eq_true_eq,decide_eq_false_iff_not];omega)|(simp only [decide_eq_true_eq,decide_eq_false_iff_not];omega)
 . have df:Zz x=([],[],[1],decide (0<=x.n/\x.n<7)):=by simp [Zz,h4,iq]
   refine QO ?_
   all_goals
    refine ZDr 14 [] [] [(0,0),(2,0),(3,1),(4,0),(5,0),(6,0),(7,1),(8,0),(9,0),(10,0),(11,0),(1,2),(12,0),(13,0)] (λw1 ae=>?_);replace ac:=ac.up ae;replace hS:=hS.trans ae;replace hX:=λb hb=>Xa (hX b hb) ae.size
    (refine QE ?_ ?_<;>intro hg)
    all_goals
     refine Za rfl trivial (Z1 (vs:=[(0,.I 1)]) rfl (Zr _)) (λ_ _ h=>Z9.stp h) rfl ?_;rintro g wq hN;have s_g:SlV X wq g [(1:Int)]:=hN.slv hX rfl rfl (by simp [maxLen]);have hT:=Z9.stp hN;clear hN;replace ac:=ac.up hT;replace hS:=hS.trans hT;clear hT;refine D ?_;refine W ?_;refine Z4E rfl rfl rfl rfl rfl ?_;refine Z4F df ?_ (Zo _ _) (Zo _ _) (s_g) hS;first|rfl|(simp only [decide_eq_decide];omega)|(symm;simp only [decide_eq_true_eq,decide_eq_false_iff_not];omega)|(simp only [decide_eq_true_eq,decide_eq_false_iff_not];omega)
 by_cases qV:x.op=15
 . have df:Zz x=([3,1],[],[3],decide (x.n=0)):=by simp [Zz,qV]
   refine QO ?_
   all_goals
    refine Z0 (Z1 (vs:=[(0,.I 3),(1,.I 1)]) rfl (Z04 _ _)) rfl ?_;rintro t wq hN;have s_t:SlV X wq t [(3:Int),(1:Int)]:=hN.slv hX rfl rfl (by simp [maxLen]);have hT:=Z9.stp hN;clear hN;replace ac:=ac.up hT;replace hS:=hS.trans hT;replace hX:=λb hb=>Xa (hX b hb) hT.size;clear hT;refine Z0 (Z1 (vs:=[(0,.I 3)]) rfl (Zr _)) rfl ?_;rintro g wq hN;have s_g:SlV X wq g [(3:Int)]:=hN.slv hX rfl rfl (by simp [maxLen]);have hT:=Z9.stp hN;clear hN;replace ac:=ac.up hT;replace hS:=hS.trans hT;replace hX:=λb hb=>Xa (hX b hb) hT.size;replace s_t:=s_t.up hT;clear hT;refine W ?_;refine ZDr 10 [] [] [(0,0),(1,0),(2,0),(3,0),(4,1),(5,0),(6,0),(7,0),(8,0),(9,0)] (λw1 ae=>?_);replace ac:=ac.up ae;replace hS:=hS.trans ae;replace s_t:=s_t.up ae;replace s_g:=s_g.up ae;refine D ?_;refine W ?_;refine Z4E rfl rfl rfl rfl rfl ?_;refine Z4F df ?_ (s_t) (Zo _ _) (s_g) hS;first|rfl|(simp only [decide_eq_decide];omega)|(symm;simp only [decide_eq_true_eq,decide_eq_false_iff_not];omega)|(simp only [decide_eq_true_eq,decide_eq_false_iff_not];omega)
 by_cases de:x.op=24;have df:Zz x=([],[],[],decide (x.n=0)):=by simp [Zz,de]
 refine QO ?_;refine ZDr 10 [] [] [(0,0),(1,0),(2,0),(3,0),(4,1),(5,0),(6,0),(7,0),(8,0),(9,0)] (λw1 ae=>?_);replace ac:=ac.up ae;replace hS:=hS.trans ae;refine D ?_;refine W ?_;refine Z4E rfl rfl rfl rfl rfl ?_;refine Z4F df ?_ (Zo _ _) (Zo _ _) (Zo _ _) hS;first|rfl|(simp only [decide_eq_decide];omega)|(symm;simp only [decide_eq_true_eq,decide_eq_false_iff_not];omega)|(simp only [decide_eq_true_eq,decide_eq_false_iff_not];omega)
 exfalso;unfold opP at fI;omega
abbrev Shp:=List Int
def Jj (x:Ins) (s:Shp):Option Shp:=
 let e:=Zz x
 let k:=s.length - e.1.length
 if e.2.2.2=true/\e.1.length<=s.length/\(s.drop k=e.1\/e.2.1≠[]/\s.drop k=e.2.1)/\(s.take k++e.2.2.1).length<=16 then some (s.take k++e.2.2.1) else none
def JF (st:List (Option Shp)) (t:Int) (sh:Shp):Option (List (Option Shp)):=
 if 0<=t/\t<st.length then
  match st.getD t.toNat none with
  | some s=>if s=sh then some st else none
  | none=>some (st.set t.toNat (some sh))
 else none
def JN (st:List (Option Shp)) (i:Nat) (x:Ins):Option (List (Option Shp)):=
 match st.getD i none with
 | none=>none
 | some s=>
   match Jj x s with
   | none=>none
   | some nx=>
     if x.op=24 then (if i+1=st.length/\s.length=1 then some st else none)
     else if x.op=13 then (if x.n > i then JF st x.n nx else none)
     else if x.op=14 then (if x.n > i then (JF st x.n nx).bind (λst'=>JF st' ((i:Int)+1) nx) else none)
     else JF st ((i:Int)+1) nx
def Z3F (code:List Ins):Nat->List (Option Shp)->Option (List (Option Shp))
 | 0,st=>some st
 | k+1,st=>(Z3F code k st).bind (λst'=>JN st' k (code.getD k ⟨0,0⟩))
def Z29 (code:List Ins):Int×Int:=
 if code.length=0\/code.length > 200 then (0,22) else
  match Z3F code code.length ((some []) :: List.replicate (code.length - 1) none) with
  | none=>(0,22)
  | some st=>(((st.getD (code.length - 1) none).getD []).headD 0,0)
theorem JA {st st':List (Option Shp)} {t:Int} {sh:Shp} (h:JF st t sh=some st'):st'.length=st.length:=by
 unfold JF at h;split at h;split at h;split at h;cases h;rfl;cases h;cases h;simp;cases h
end Go.Proofs.YtipfkbkkndacjaaGreatDoor
namespace Go.Eng
open Go Go.RowKit Go.Proofs
theorem Row.slvX {α:Type} [Z6 α] {X:List Nat} {w} {base T:Nat} {v:Value} {xs:List α} (h:Row X w base T v xs) (hX:∀ b∈X,b∉ob v):SlV X w v xs:=by
 obtain ⟨css,hl,hr,ho⟩:=h;have hk:∀ c∈css,c.length=Z6.k α:=by
  intro c hc;obtain ⟨i,hi,rfl⟩:=Xr hc;exact Z6.len (hr i (by omega) hi)
 rcases ho.2 with ⟨rfl,hn⟩|⟨q,cap,cur,rfl,hb,hg,cO,bQ,aO,ht⟩
 exact ⟨none,0,by rw [hn],by omega,by simp [maxLen],λ_=>rfl,λi hi=>by omega⟩;refine ⟨some ⟨q,0,none⟩,cap,rfl,cO,bQ,λh=>by simp at h,λi hi=>?_⟩;refine ⟨q,0,css[i]'(by omega),rfl,(Xm.1 hg).1,λhx=>hX q hx (by simp [ob]),?_,λj u hu=>?_⟩;exact Z6.ext (hr i hi (by omega)) (Stp.refl [] w) (by simp) (λb hb=>.inl (by simp [hb]));have h1:=Z0v css hk i (by omega) j u hu;rw [<- ht,Yaf] at h1;split at h1;have h2:cur[i * Z6.k α+j]?=some u:=by simpa using h1
 rw [XP,cell_of_row w q _ cur T (0,0) hg];exact h2;cases h1
end Go.Eng
namespace Go.Proofs.YtipfkbkkndacjaaGreatDoor
open Go Go.Eng Go.RowKit
abbrev Z15 (st:List (Option Shp)):List (Sl Int):=st.map (λo=>⟨o.getD []⟩)
abbrev JY (st:List (Option Shp)):List Bool:=st.map Option.isSome
structure Vf (w:World) (bv base:Nat) (cv hv sv:Value) (code:List Ins) (st:List (Option Shp)):Prop where
 blk:Blk w bv 318 [cv,hv,sv]
 cod:SlV (bv :: (ob hv++ob sv)) w cv code
 shp:Row (bv :: ob sv) w base 23 hv (Z15 st)
 seen:Row [] w base 4 sv (JY st)
 nh:bv∉ob hv
 ns:bv∉ob sv
 hi:base<=w.heap.size
 apart:∀ b∈ob hv,b∉ob sv
 len:st.length=code.length
theorem Vf.up {w w':World} {bv base:Nat} {cv hv sv:Value} {code:List Ins} {st:List (Option Shp)} (h:Vf w bv base cv hv sv code st) (hS:Stp [] w w'):Vf w' bv base cv hv sv code st:=
 ⟨h.blk.up hS,h.cod.up hS,h.shp.up hS,h.seen.up hS,h.nh,h.ns,Xh h.hi hS.size,h.apart,h.len⟩
theorem Z4G (bv base:Nat) (cv hv sv uv:Value) (code:List Ins) (st:List (Option Shp)) (t:Int) (s:Shp) (w) (h:Vf w bv base cv hv sv code st) (ht:0<=t) (hs:SlV (bv :: (ob hv++ob sv)) w uv s) :
 CC 300 #[pQ bv,.I t,uv] w λr w'=>Stp (bv :: (ob hv++ob sv)) w w'/\r=.B (JF st t s).isSome/\∀ st',JF st t s=some st'->Vf w' bv base cv hv sv code st':=by
 have ac:=h.blk;have nA:=h.cod;have aU:=nA.max;have ai:=h.len;have nB:=h.nh;have dK:=h.ns;have jH:=h.shp.slvX (λb hb=>by
  rcases Xb.1 hb with rfl|hb
  exact nB;exact λdF=>h.apart b dF hb)
 have iF:=h.seen.slv0;have ft:(Z15 st).length=st.length:=by simp [Z15]
 have d8:(JY st).length=st.length:=by simp [JY]
 refine cW3 45 Tryz.func300 ?_;refine W ?_;by_cases hlt:t<code.length
 case neg=>
  have hr:JF st t s=none:=by rw [JF,if_neg (by omega)]
  refine RT ?_;exact ⟨Stp.refl _ _,by rw [hr];rfl,λst' h=>by rw [hr] at h;cases h⟩
 obtain ⟨k,rfl⟩:∃ k:Nat,t=(k:Int):=⟨t.toNat,by omega⟩
 have hk:k<st.length:=by omega
 have bG:k<(Z15 st).length:=by omega
 have dg:k<(JY st).length:=by omega
 have jI:(JY st)[k]=(st[k]).isSome:=by simp [JY]
 have lY:st.getD ((k:Int)).toNat none=st[k]:=by simp [List.getD,hk]
 cases ax:st[k] with
 | some s0=>
   have aW:(JY st)[k]=true:=by rw [jI,ax];rfl
   have nC:JF st (k:Int) s=if s0=s then some st else none:=by
    rw [JF,if_pos (by omega),lY,ax]
   (refine QP ?_ ?_<;>intro hc)
   obtain ⟨u,aq,fH⟩:=jH.sub bG;have qD:(Z15 st)[k].l=s0:=by simp [Z15,ax]
   apply Z8 (JC rfl rfl aq) rfl;refine W ?_;refine CM (Zf rfl rfl) (Z5p _ _ _ _ _ (fH.wk (by simp)) (hs.wk (by simp))) ?_;rintro _ w2 ⟨rfl,hS⟩;refine W ?_;refine WR ?_;rw [qD];refine .mk ⟨hS.mn,?_,λst' h'=>?_⟩;rw [nC];by_cases he:s0=s<;>simp [he];rw [nC] at h';split at h';cases h';exact h.up hS;cases h';rw [aW] at hc;exact absurd hc (by simp)
 | none=>
   have aW:(JY st)[k]=false:=by rw [jI,ax];rfl
   have nC:JF st (k:Int) s=some (st.set k (some s)):=by
    rw [JF,if_pos (by omega),lY,ax];simp
   (refine QP ?_ ?_<;>intro hc)
   rw [aW] at hc;exact absurd hc (by simp);refine Z7W 15 (ob hv++ob sv) [] [(0,0),(1,0),(2,0),(3,1),(4,0),(5,0),(6,0),(7,0),(8,1),(9,0),(10,0),(11,0),(12,2),(13,0),(14,2)] rfl mixed (by kernel_rfl) (by kernel_rfl) (by kernel_rfl) (λw1 ae=>?_);have nb:bv∉ob hv++ob sv:=λhb=>(Xg.1 hb).elim nB dK;replace ac:=ac.up ae;have qW:=iF.up ae;have tB:=jH.up ae;have rs:=h.seen.up ae;have rh:=h.shp.up ae;refine D ?_
   try (refine ZP rfl trivial (λw' aN=>Jq rfl rfl (ac.ext aN nb) rfl) rfl ?_)
   refine D ?_
   try (refine ZP rfl trivial (λw' aN=>Jq rfl rfl (ac.ext aN nb) rfl) rfl ?_)
   refine D ?_;refine Z0B rfl trivial (Z40 (α:=Bool) (y':=true) (u:=.B true) rfl rfl rfl rfl rs dg) (λ_ _ h=>h.2.mono (by simp_all)) ?_;rintro _ w3 ⟨rs3,am⟩;replace rh:=rh.ext (X':=bv :: ob sv) am (λb hb=>⟨XL _ hb,λdF=>h.apart b dF hb⟩) (λ_ h=>.inl h);have tC:=rh.slvX (λb hb=>by
    rcases Xb.1 hb with rfl|hb
    exact nB;exact λdF=>h.apart b dF hb)
   have cS:Stp (bv :: (ob hv++ob sv)) w w3:=ae.mn.trans (am.mono (λb hb=>by simp [hb]));have eZ:=hs.ext cS (λ_ h=>h) (λ_ h=>.inl h);refine D ?_;refine Z0B rfl trivial (Z40 (α:=Sl Int) (y':=⟨s⟩) (u:=uv) rfl rfl rfl ⟨uv,eZ.cells,eZ.wk (λb hb=>by simp at hb;rcases hb with h|h|h<;>simp [h])⟩ rh bG) (λ_ _ h=>h.2.mono (by simp_all)) ?_;rintro _ w4 ⟨rh4,aI⟩;refine D ?_;refine W ?_;refine WR ?_;have ln:Stp (bv :: (ob hv++ob sv)) w w4:=cS.trans (aI.mono (λb hb=>by simp [hb]));refine .mk ⟨ln,by rw [nC];rfl,λst' h'=>?_⟩;rw [nC] at h';cases h';have rs4:=rs3.keep aI (λb hb=>h.apart b hb);refine ⟨(ac.ext am dK).ext aI nB,h.cod.ext ln (λ_ h=>h) (λ_ h=>.inl h),?_,?_,nB,dK,Xh h.hi ln.size,h.apart,by simpa using h.len⟩;have e:Z15 (st.set k (some s))=(Z15 st).set k ⟨s⟩:=by simp [Z15,List.map_set]
   rw [e];exact rh4;have e:JY (st.set k (some s))=(JY st).set k true:=by simp [JY,List.map_set]
   rw [e];exact rs4
def okS (s:Shp):Prop:=∀ k∈s,k=1\/k=2\/k=3
theorem Zkd {s:Shp} (h:okS s) (k:Nat):okS (s.take k):=λa ha=>h a (Yav ha)
theorem Znl {s t:Shp} (h:okS s) (h':okS t):okS (s++t):=λa ha=>(Xg.1 ha).elim (h a) (h' a)
theorem Zke {op n:Int} (h:¬ (1<=op/\op<=24)):Zz ⟨op,n⟩=([],[],[],false):=by
 have h1:∀ k:Int,1<=k->k<=24->¬ op=k:=λk h1 h2 e=>h (by omega)
 simp only [Zz];rw [if_neg (h1 1 (by decide) (by decide))];rw [if_neg (h1 2 (by decide) (by decide))];rw [if_neg (h1 3 (by decide) (by decide))];rw [if_neg (h1 4 (by decide) (by decide))];rw [if_neg (h1 13 (by decide) (by decide))];rw [if_neg (h1 14 (by decide) (by decide))];rw [if_neg (not_or.2 ⟨h1 5 (by decide) (by decide),(not_or.2 ⟨h1 6 (by decide) (by decide),(h1 7 (by decide) (by decide))⟩)⟩)];rw [if_neg (h1 8 (by decide) (by decide))];rw [if_neg (not_or.2 ⟨h1 9 (by decide) (by decide),(not_or.2 ⟨h1 10 (by decide) (by decide),(h1 11 (by decide) (by decide))⟩)⟩)];rw [if_neg (h1 12 (by decide) (by decide))];rw [if_neg (not_or.2 ⟨h1 15 (by decide) (by decide),(not_or.2 ⟨h1 16 (by decide) (by decide),(not_or.2 ⟨h1 17 (by decide) (by decide),(h1 18 (by decide) (by decide))⟩)⟩)⟩)];rw [if_neg (not_or.2 ⟨h1 19 (by decide) (by decide),(h1 20 (by decide) (by decide))⟩)];rw [if_neg (not_or.2 ⟨h1 21 (by decide) (by decide),(h1 22 (by decide) (by decide))⟩)];rw [if_neg (h1 23 (by decide) (by decide))];rw [if_neg (h1 24 (by decide) (by decide))]
def ZcE (st:List (Option Shp)):Prop:=∀ s,some s∈st->okS s
theorem ZgI (x:Ins):okS (Zz x).2.2.1:=by
 obtain ⟨op,n⟩:=x;by_cases hr:1<=op/\op<=24;have hn:op=1\/op=2\/op=3\/op=4\/op=5\/op=6\/op=7\/op=8\/op=9\/op=10\/op=11\/op=12\/op=13\/op=14\/op=15\/op=16\/op=17\/op=18\/op=19\/op=20\/op=21\/op=22\/op=23\/op=24:=by omega
 rcases hn with rfl|rfl|rfl|rfl|rfl|rfl|rfl|rfl|rfl|rfl|rfl|rfl|rfl|rfl|rfl|rfl|rfl|rfl|rfl|rfl|rfl|rfl|rfl|rfl
 intro k hk;simp [Zz] at hk;omega;intro k hk;simp [Zz] at hk;omega;intro k hk;simp [Zz] at hk;omega;show okS [if n=0\/n=1 then 3 else 1];intro k hk;simp at hk;subst hk;split<;>simp;intro k hk;simp [Zz] at hk;omega;intro k hk;simp [Zz] at hk;omega;intro k hk;simp [Zz] at hk;omega;intro k hk;simp [Zz] at hk;omega;intro k hk;simp [Zz] at hk;omega;intro k hk;simp [Zz] at hk;omega;intro k hk;simp [Zz] at hk;omega;intro k hk;simp [Zz] at hk;omega;intro k hk;simp [Zz] at hk;intro k hk;simp [Zz] at hk;intro k hk;simp [Zz] at hk;omega;intro k hk;simp [Zz] at hk;omega;intro k hk;simp [Zz] at hk;omega;intro k hk;simp [Zz] at hk;omega;intro k hk;simp [Zz] at hk;omega;intro k hk;simp [Zz] at hk;omega;intro k hk;simp [Zz] at hk;omega;intro k hk;simp [Zz] at hk;omega;intro k hk;simp [Zz] at hk;omega;intro k hk;simp [Zz] at hk;rw [Zke hr];intro k hk;simp at hk
theorem Znm {x:Ins} {s nx:Shp} (hs:okS s) (h:Jj x s=some nx):okS nx:=by
 unfold Jj at h;dsimp only at h;split at h;cases h;exact Znl (Zkd hs _) (ZgI x);cases h
theorem Z5Q {st st':List (Option Shp)} {t:Int} {nx:Shp} (ax:ZcE st) (hn:okS nx) (h:JF st t nx=some st'):ZcE st':=by
 unfold JF at h;split at h;split at h;split at h;cases h;exact ax;cases h;cases h;intro s hs;rcases List.mem_or_eq_of_mem_set hs with h|h
 exact ax s h;cases h;exact hn;cases h
theorem Znn {st st':List (Option Shp)} {i:Nat} {x:Ins} (ax:ZcE st) (h:JN st i x=some st'):ZcE st'/\st'.length=st.length:=by
 unfold JN at h;split at h;cases h;rename_i s hs;have ba:okS s:=by
  refine ax s ?_;have hi:i<st.length:=Nat.lt_of_not_le λcT=>by simp [List.getD,Nat.not_lt.2 cT] at hs
  have:st.getD i none=st[i]:=by simp [List.getD,hi]
  rw [<- hs,this];exact Xc hi
 split at h;cases h;rename_i nx hn;have cu:=Znm ba hn;split at h;split at h;cases h;exact ⟨ax,rfl⟩;cases h;split at h;split at h;exact ⟨Z5Q ax cu h,JA h⟩;cases h;split at h;split at h;obtain ⟨s1,h1,h2⟩:=X1.1 h;exact ⟨Z5Q (Z5Q ax cu h1) cu h2,by rw [JA h2,JA h1]⟩;cases h;exact ⟨Z5Q ax cu h,JA h⟩
theorem Z5q {st:List (Option Shp)} {t:Int} {nx:Shp} (h:¬ t<st.length):JF st t nx=none:=if_neg (λh'=>h h'.2)
theorem Zkf {code:List Ins} {st0:List (Option Shp)} (h0:ZcE st0):∀ k st,Z3F code k st0=some st->ZcE st/\st.length=st0.length
 | 0,st,h=>by cases h;exact ⟨h0,rfl⟩
 | k + 1, st, h => by
   obtain ⟨s1,h1,h2⟩:=X1.1 h;obtain ⟨a,b⟩:=Zkf h0 k s1 h1;obtain ⟨c,d⟩:=Znn a h2;exact ⟨c,by omega⟩
end Go.Proofs.YtipfkbkkndacjaaGreatDoor
