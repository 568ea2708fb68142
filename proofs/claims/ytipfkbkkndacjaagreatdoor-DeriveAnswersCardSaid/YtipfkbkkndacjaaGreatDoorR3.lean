/-
Contracts and plain laws, merged out of own texts.
-/
import Derived.Test.YtipfkbkkndacjaaGreatDoorR2
import Derived.Carry
import Derived.ChangeOld
import Derived.ProofKit
import Derived.OpenShut
import Derived.SizedLaws
import Derived.HandedShaped
import Derived.LaidMore
import Derived.Stop.Joined
import Derived.SevenTiedAt
import Derived.MakeChecks
import Derived.Lib.ConvBytes
import Derived.Laws.AppendOwn
import Derived.Laws.BitsAllLaws
import Derived.Laws.Bits64
import Derived.Lib.SlBytesRow
import Derived.Lib.AppendStr
import Derived.Laws.BytesArg
import Derived.Laws.Cover3
import Derived.Shelf.Strings.Builder1
import Derived.Shelf.Strings.Builder2
import Derived.Shelf.Small.Utf8
import Derived.Shelf.Small.Bits
import Derived.Shelf.Small.Strs
import Derived.Shelf.Small.Wraps
import Derived.Shelf.Strings.BuilderF
import Derived.Shelf.Strconv.Atoi
import Derived.Shelf.Strconv.Itoa0
import Derived.Shelf.Strconv.Itoa1
import Derived.Shelf.LaysM
import Derived.Shelf.Strconv.Itoa2
import Derived.Shelf.Strconv.Itoa3
import Derived.Shelf.Strconv.AtoiErrFast
import Derived.Shelf.Strconv.ParseIntEmpty
import Derived.Shelf.Strconv.AtoiFail
import Derived.Shelf.Strconv.Clone
import Derived.Shelf.Strconv.SyntaxError
import Derived.Shelf.LaysC
import Derived.Shelf.Strconv.ToError
import Derived.Shelf.Strconv.Lower
import Derived.Shelf.Strconv.ParseUint10
import Derived.Shelf.Strconv.ParseUint10Empty
import Derived.Shelf.Strconv.ParseUint10Any
import Derived.Shelf.Strconv.ParseInt10
import Derived.Shelf.Strconv.AtoiLong
import Derived.Shelf.Strconv.AtoiInnerAll
import Derived.Shelf.Strconv.RangeError
import Derived.Shelf.Strconv.ToErrorRange
import Derived.Shelf.Strconv.AtoiAll
import Derived.Shelf.Strconv.ErrVarAll
import Derived.Shelf.Strings.Search1
import Derived.Shelf.Strings.Search2
import Derived.Shelf.Strings.Search3
import Derived.Shelf.Strings.Shaped
import Derived.Shelf.Sort.Plain
import Derived.Shelf.Strings.Prefix
import Derived.Shelf.Strings.Runes
import Derived.Shelf.Bits.Mul64
import Derived.Shelf.Strings.Repeat
import Derived.Shelf.Slices.Turned
import Derived.Ground.Names2Prog
import Derived.Shelf.Slices.CompactI
import Derived.Shelf.Slices.SearchI
import Derived.Shelf.Slices.Cells
import Derived.Shelf.Slices.In.SortNone
import Derived.Test.YtipfkbkkndacjaaGreatDoorProg
import Derived.Scope
import Derived.Laws.Runes
import Derived.Lib.IndexLaws
import Derived.Lib.AtoiAll
import Derived.Test.YtipfkbkkndacjaaGreatDoorRows
import Derived.Test.YtipfkbkkndacjaaGreatDoorTie
import Derived.Test.YtipfkbkkndacjaaGreatDoorCards
set_option linter.unusedVariables false
set_option linter.unusedSimpArgs false
set_option maxHeartbeats 4000000
set_option maxRecDepth 20000
namespace Go.Eng
open Go Go.RowKit Go.Proofs Go.ChangeShapes Go.WideShapes
section
variable {H:Type} {enc:TypeId×Value->H} {P:Program}
def Zes (P:Program) (ts:List TypeId):Bool:=ts.all λt=>P.readableRec t && decide (t<P.types.size)
theorem Z4G (hl:laidOutB P=true) {W W':World} (hb:Below W.heap.size W W') {sp:Nat->Bool}:∀ {ts:List TypeId} {vs:List Value} {ds:List (DataW H)} {ps:List MemPlace},Zes P ts=true->
 DataW.TrodAll enc P W 0 (λ_=>true) true ts vs ds ps->(∀ x∈ps,x.block<W.heap.size)->(∀ x∈ps,sp x.block=true)->DataW.TrodAll enc P W' 0 sp true ts vs ds ps
 | [],[],[],_,_,h,_,_=>h
 | t :: ts, v :: vs, d :: ds, ps, hr, h, hlt, hs => by
   obtain ⟨p,q,h1,h2,rfl⟩:=h;simp only [Zes,Ya1,Xm,decide_eq_true_eq] at hr;obtain ⟨⟨r1,r2⟩,r3⟩:=hr;exact ⟨p,q,WideElems.Trod_stays hl r1 r2 h1 (λx hx=>hb.same (hlt x (by simp [hx]))) (λx hx=>hs x (by simp [hx])),Z4G hl hb (by simpa [Zes] using r3) h2 (λx hx=>hlt x (by simp [hx])) (λx hx=>hs x (by simp [hx])),rfl⟩
 | [],_ :: _,_,_,_,h,_,_=>h.elim
 | [],[],_ :: _,_,_,h,_,_=>h.elim
 | _ :: _,[],_,_,_,h,_,_=>h.elim
 | _ :: _,_ :: _,[],_,_,h,_,_=>h.elim
section
variable {f:Func} {s:ChangeSpec} {apart fresh handsOn again:Bool} {W W':World} {args:Array Value} {v:Value} {ds gs:List (DataW H)} {before pa pv:List MemPlace}
theorem Z8J
 (hW:DataW.Whole enc P f.params.toList s.vars apart W args.toList ds gs before)
 (az:∀ (b:Nat) (sp:Nat->Bool) (hd:Bool),DataW.TrodAll enc P W' b sp hd f.resultTypes.toList (v.resultList f.resultTypes.size) (s.fn H (ds++gs)).results [])
 (jS:∀ sp:Nat->Bool,(∀ p∈before,sp p.block=true)->DataW.TrodAll enc P W' 0 sp true f.params.toList args.toList (s.fn H (ds++gs)).args pa)
 (jT:∀ sp:Nat->Bool,(∀ p∈before,sp p.block=true)->DataW.TrodVars enc P W' sp s.vars (s.fn H (ds++gs)).vars pv)
 (bO:before=pa++pv) (hb:Below W.heap.size W W')
 (aO:∀ (j:Nat) (t:TypeId) (r:Value),f.resultTypes[j]?=some t->(v.resultList f.resultTypes.size)[j]?=some r->Value.okWide P W' .any 0 t r) :
 s.post enc P f apart fresh handsOn again W args v W':=by
 have hlt:∀ p∈before,p.block<W.heap.size:=λp hp=>hW.lt p hp;have mU:∀ p∈before,(λb=>decide (b<W.heap.size)) p.block=true:=λp hp=>by simpa using hlt p hp
 refine ⟨ds,gs,before,[],pa,pv,hW,az _ _ _,jS _ mU,jT _ mU,World.keptBut_mono (λp hp=>⟨hp,?_⟩) (hb.frame (·∈before)),λ_=>?_⟩;rw [bO,Xh] at hp;exact Or.inr hp;obtain ⟨_,_,_,_,_,hz,hn⟩:=hW;refine ⟨aO,_,_,([]++pa)++pv,⟨[]++pa,pv,trodAll_append (jS _ (λ_ _=>rfl)) (az _ _ _),jT _ (λ_ _=>rfl),rfl,?_,?_⟩,?_⟩;intro b off hp;have bK:MemPlace.cell b off∈before:=by rw [bO];simpa using hp
 rw [hb.frozen (hlt _ bK)];exact hz b off bK;intro ha;have:=hn ha;rw [bO] at this;simpa using this;intro p hp _;rw [bO];simpa using hp
end
def Zmc (s:ChangeSpec) (k:Nat):Prop:=s.vars=[]/\∀ (H:Type) (ds:List (DataW H)),ds.length=k->(s.fn H ds).results=[.lit (.bool true)]/\(s.fn H ds).args=ds/\(s.fn H ds).vars=[]
theorem Z6I {W:World} {base:Nat} {sp:Nat->Bool} {hd:Bool}:∀ {ts:List TypeId} {vs:List Value} {ds:List (DataW H)} {ps:List MemPlace},DataW.TrodAll enc P W base sp hd ts vs ds ps->ds.length=ts.length
 | [],[],[],_,_=>rfl
 | t :: ts, v :: vs, d :: ds, ps, h => by
   obtain ⟨p,q,h1,h2,rfl⟩:=h;simp [Z6I h2]
 | [],_ :: _,_,_,h=>h.elim
 | [],[],_ :: _,_,h=>h.elim
 | _ :: _,[],_,_,h=>h.elim
 | _ :: _,_ :: _,[],_,h=>h.elim
theorem ZvE {fn:Func} {K tb:Nat} {s:ChangeSpec} {fresh handsOn again:Bool} {W:World} {args:Array Value} {ds gs:List (DataW H)} {before:List MemPlace} (hl:laidOutB P=true) (hr:Zes P fn.params.toList=true)
 (az:fn.resultTypes=#[tb]) (hb:P.underlying tb=some .bool) (hs:Zmc s fn.params.size)
 (hW:DataW.Whole enc P fn.params.toList s.vars false W args.toList ds gs before) (hc:Calls P K args W (Ret λr w'=>r=.bool true/\Stp [] W w')) :
 Calls P K args W λe W'=>∃ v,e=.returned v/\s.post enc P fn false fresh handsOn again W args v W':=by
 refine hc.mono ?_;rintro _ w' ⟨_,rfl,rfl,hS⟩;refine ⟨_,rfl,?_⟩;have sY:=hW;obtain ⟨p,q,hA,hV,qe,xV,ga⟩:=hW;rw [hs.1] at hV;obtain ⟨rfl,rfl⟩:=trodVars_none hV;have ai:(ds++[]).length=fn.params.size:=by simpa using Z6I hA
 obtain ⟨s1,s2,s3⟩:=hs.2 H (ds++[]) ai;have hlt:∀ x∈before,x.block<W.heap.size:=λx hx=>sY.lt x hx;refine Z8J (pa:=p) (pv:=[]) sY (λb sp hd=>?_) (λsp bB=>?_) (λsp _=>?_) qe hS.below ?_;rw [s1,az];exact trodAll_mk1 ⟨1,by simp [DataW.trod,Value.cells,hb]⟩;rw [s2];simp only [XH] at qe ⊢;subst qe;exact Z4G hl hS.below hr hA hlt bB;rw [s3,hs.1];rfl;exact ok_one az rfl (by simp [Value.okWide,hb,Cell.okWide,Cell.ok])
end
open Go Go.RowKit Go.Proofs Go.ChangeShapes Go.WideShapes Go.Deep
section
variable {H:Type} {enc:TypeId×Value->H}
theorem ZiY {a:Assume} {C:Checked} {os:Os} {f:FuncId} {fn:Func} {s:ChangeSpec} {conds:List PathCond} {apart fresh handsOn again:Bool} {X:World->Array Value->Prop}
 (hX:∀ (w w':World) (args:Array Value),w.heap=w'.heap->X w args->X w' args)
 (own:ownKnob C.prog.godebug=none) (started:os.Started) (noInit:C.prog.inits.idxOf? f=none) (qf:C.prog.funcs[f]?=some fn)
 (witness : ∃ (w : World) (tape : Tape) (i : Input), w.os = os /\ (w.forCall tape i).Shaped C.prog /\ i.vars = [] /\ Input.okWide C.prog (w.forCall tape i) .any w.heap.size f i/\
   ((s.pre enc C.prog fn conds apart (w.forCall tape i).memory i.args/\X (w.forCall tape i).memory i.args)/\sizedMet enc C.prog fn (OpenSpec.ofChange s) apart (w.forCall tape i).memory i.args)/\a.holds C.prog (lone (Frame.enter C.prog f i.args .normal) [] (w.forCall tape i)))
 (contract : ∀ (W : World) (base : Nat) (args : Array Value) (ds gs : List (DataW H)) (before : List MemPlace),
   (∀ (j:Nat) t v,fn.params[j]?=some t->args[j]?=some v->Value.okWide C.prog W .any base t v)->
   DataW.Whole enc C.prog fn.params.toList s.vars apart W args.toList ds gs before->
   (DataW.weightsEach C.prog (fn.params.toList++s.plain.varTypes C.prog) (ds++gs)).all (·<=reachBytes)=true->X W args->W.ShapedOpen C.prog->
   Calls C.prog f args W λe W'=>∃ v,e=.returned v/\s.post enc C.prog fn apart fresh handsOn again W args v W') :
 ReturnsInHanded a C os f .any (λw args=>(s.pre enc C.prog fn conds apart w args/\X w args)/\sizedMet enc C.prog fn (OpenSpec.ofChange s) apart w args) (s.post enc C.prog fn apart fresh handsOn again):=by
 refine returnsInHanded_of_calls own started noInit witness ?_;intro w tape i _ dH _ aO cw hholds;obtain ⟨_,_,_,fn',qg,_,_,_,_,qh⟩:=aO;have e:fn'=fn:=XQ (qg.symm.trans qf);subst e;obtain ⟨⟨⟨ds,gs,before,hw,hc⟩,hx⟩,hz⟩:=cw;have uV:=DataW.Whole.of_heap (w':=w.forCall tape i) (by rfl) hw;refine (contract (w.forCall tape i) w.heap.size i.args ds gs before qh uV (hz.weights hw) (hX _ _ _ (by rfl) hx) dH).mono λe W' ⟨v,he,hp⟩=>?_
 subst he;exact ChangeSpec.post_blind hp
end
instance:Z3 UInt8 where
 k:=1
 enc:=λb=>[.int .u8 (b.toNat:Int)]
 len:=λ_=>rfl
 one:=by intro x u hu;simp at hu;subst hu;rfl
section
variable {P:Program} {n:Nat} {e:Env} {w:World} {d:Option Nat} {ty:TypeId} {pos:String} {af:Array Edge} {g:Option (Nat×Bool)}
theorem Zbz {src dst el:TypeId} {x:Operand} {s:Str} [hs:Und P src .string] [hd:Und P dst (.slice el)] [he:Und P el (.int .u8)] (hx:ev e x=some (str s)) (hl:s.length<=1000000) :
 OE P n ⟨d,.convert src dst x,ty,pos,af,g⟩ e w (λv w'=>(∀ X:List Nat,(∀ b∈X,b<w.heap.size)->SlV X w' v s)/\Stp [] w w'):=by
 refine J9 (v:=.slice (some ⟨w.heap.size,0,none⟩) s.length (grownCap w s.length 0 el)) (w':=Go.Lib.bytesWorld w el ⟨s.toArray⟩) (λa ha=>?_) ⟨λX hX=>?_,?_⟩;have h:=Go.Lib.run_convert_string_bytes (P:=P) w src dst el ⟨s.toArray⟩ hs.h hd.h he.h;simp only [Z0l] at h;simp [execOp,ha.ev hx,h];refine ⟨some ⟨w.heap.size,0,none⟩,_,rfl,grownCap_ge w _ _ _,grownCap_le_maxLen w _ _ _ (by simp [maxLen];omega),(λh=>by cases h),λi hi=>⟨w.heap.size,0,Z3.enc s[i],rfl,?_,λh=>by have:=hX _ h;omega,rfl,λj u hu=>?_⟩⟩;rw [Go.Lib.bytesWorld_size];omega;have hj:j=0:=by
  have:=(Xu.1 hu).1;simp [Z3.enc] at this;exact this
 subst hj;have hc:=Go.Lib.bytesWorld_cell w el ⟨s.toArray⟩ i (by rw [Z0l];exact hi);simp only [Z3.enc,List.getElem?_cons_zero,XD] at hu;subst hu;have e1:(0+i * Z5.k UInt8+0)=i:=by show 0+i * 1+0=i;omega
 rw [e1,hc];simp [List.getD,hi];refine ⟨rfl,rfl,rfl,?_,λb hb _=>Go.Lib.bytesWorld_at_old w el _ b hb⟩;rw [Go.Lib.bytesWorld_size];omega
end
section
variable {P:Program} {n:Nat} {e:Env} {w:World} {d:Option Nat} {ty:TypeId} {pos:String} {af:Array Edge} {g:Option (Nat×Bool)}
theorem Zmd {src dst:TypeId} {k k':IntKind} {x:Operand} {a:Int} {D:TypeDesc} [hs:Und P src D] [hd:Und P dst (.int k)] (hx:ev e x=some (.int k' a)) :
 PR P n ⟨d,.convert src dst x,ty,pos,af,g⟩ e w (.int k (k.wrap a)):=
 ⟨λc ha => by
   have hk:P.intKind dst=k:=by simp [Program.intKind,hd.h]
   have:=run_convert_int (P:=P) w src dst k' a (by rw [hs.h];rfl) (by rw [hk];exact hd.h);simp [execOp,ha.ev hx,this,hk]⟩
theorem Z4g {src dst:TypeId} {k k':IntKind} {x:Operand} {a b:Int} {D:TypeDesc} [hs:Und P src D] [hd:Und P dst (.int k)] (hx:ev e x=some (.int k' a)) (hb:k.wrap a=b) :
 PR P n ⟨d,.convert src dst x,ty,pos,af,g⟩ e w (.int k b):=hb ▸ Zmd hx
end
end Go.Eng
namespace Go.Proofs.YtipfkbkkndacjaaGreatDoor
open Go Go.Eng Go.RowKit Go.Proofs
def Z5p:List Int:=[0,31,28,31,30,31,30,31,31,30,31,30,31]
def Z0A (w:World):Prop:=∀ i u,Z5p[i]?=some u->w.cell? ⟨3,i,none⟩=some (.I u)
theorem Z0A.ext {S:List Nat} {w w':World} (h:Z0A w) (hS:Stp S w w') (hb:3∉S):Z0A w':=λi u hu=>hS.cell hb (h i u hu)
theorem Z0A.up {w w':World} (h:Z0A w) (hS:Stp [] w w'):Z0A w':=h.ext hS (by simp)
theorem ZiZ (y:Int) (w) (h0:0<=y) (h1:y<=100000):CC 314 #[.I y] w λr w'=>r=.B (Z11 y)/\w'=w:=by
 unfold Z11;refine cW1 16 Tryz.func314 ?_;repeat'(first|refine W1 ?_|omega|refine VG ?_ ?_<;>intro hg|refine VC ?_ ?_<;>intro hc)
 all_goals refine WR ?_
 all_goals refine .mk ⟨?_,rfl⟩
 all_goals congr 1
 all_goals (first|done|(rw [Yac];simp;omega)|(simp [*]))
theorem Z2Y (y m:Int) (w) (hL:Z0A w) (h0:0<=y) (h1:y<=100000):CC 262 #[.I y,.I m] w λr w'=>r=.I (ZG y m)/\w'=w:=by
 unfold ZG;refine cW2 22 Tryz.func262 ?_;by_cases hm:m<1\/12<m
 . rw [if_pos hm]
   repeat'(first|refine W1 ?_|omega|refine VG ?_ ?_<;>intro hg|refine VC ?_ ?_<;>intro hc)
   all_goals refine WR ?_
   all_goals exact .mk ⟨rfl,rfl⟩
 rw [if_neg hm];obtain ⟨k,rfl⟩:∃ k:Nat,m=(k:Int):=⟨m.toNat,by omega⟩
 have hk:k<13:=by omega
 have ar:w.cell? ⟨3,0+k * 1,none⟩=some (.I (Z5p.getD k 0)):=hL _ _ (by
  have:k<Z5p.length:=hk;simp [List.getD,this])
 by_cases h2:(k:Int)=2;rw [if_pos h2];refine QO ?_;refine CL (ZiZ y _ h0 h1) ?_;rintro _ _ ⟨rfl,rfl⟩;cases hl:Z11 y;refine W ?_;refine Z8 (Jl rfl rfl ar) rfl ?_;refine W ?_;refine WR ?_;obtain rfl:k=2:=by omega
 exact .mk ⟨rfl,rfl⟩;refine RT ?_;exact ⟨rfl,rfl⟩;rw [if_neg h2];refine QO ?_;refine Z8 (Jl rfl rfl ar) rfl ?_;refine W ?_;refine WR ?_;refine .mk ⟨?_,rfl⟩;congr 1;have:k=1\/k=3\/k=4\/k=5\/k=6\/k=7\/k=8\/k=9\/k=10\/k=11\/k=12:=by omega
 rcases this with rfl|rfl|rfl|rfl|rfl|rfl|rfl|rfl|rfl|rfl|rfl<;>rfl
abbrev Zj0 (y m d:Int):Value:=.agg #[.I y,.I m,.I d]
def Z1R (y m d:Int):Prop:=y<1\/9999<y\/m<1\/12<m\/d<1\/ZG y m<d
instance (y m d:Int):Decidable (Z1R y m d):=by unfold Z1R;infer_instance
theorem Zdq (y m d:Int) (w) (hL:Z0A w):CC 336 #[Zj0 y m d] w λr w'=>r=.I (if Z1R y m d then 5 else 0)/\Stp [] w w':=by
 refine cW1 36 Tryz.func336 ?_;refine W ?_;refine Z0 (Zo rfl) rfl ?_;rintro _ w1 ⟨b,rfl,hb,ac,hS⟩;replace ac:Blk w1 b 132 [.I y,.I m,.I d]:=ac;replace hL:=hL.up hS;refine W ?_;refine ZDr 33 [] [] [(0,0),(1,1),(2,0),(3,0),(4,0),(5,1),(6,0),(7,0),(8,0),(9,0),(10,1),(11,0),(12,0),(13,0),(14,0),(15,1),(16,0),(17,0),(18,0),(19,0),(20,1),(21,0),(22,0),(23,0),(24,0),(25,1),(26,0),(27,1),(28,0),(29,1),(30,2),(31,0),(32,0)] (λw1 ae=>?_);replace ac:=ac.up ae;replace hL:=hL.up ae;replace hS:=hS.trans ae;clear ae;by_cases hg:y<1\/9999<y\/m<1\/12<m\/d<1
 . have fL:Z1R y m d:=by unfold Z1R;omega
   rw [if_pos fL];repeat'(first|refine D1 ?_|omega|refine Zq rfl rfl rfl rfl (λhg=>?_) (λhg=>?_)|(refine Zm rfl rfl rfl rfl (λhg=>?_) (λhg=>?_)<;>refine D1 ?_)|fail)
   all_goals refine QO ?_
   all_goals refine WR ?_
   all_goals exact .mk ⟨rfl,hS⟩
 . refine QD ?_
   refine Za rfl rfl (Z4 rfl (Zf rfl rfl) (Z2Y y m _ hL (by omega) (by omega))) (λ_ _ h=>by rw [h.2];exact Stp.refl _ _) rfl ?_;rintro _ w3 ⟨rfl,rfl⟩;refine QD ?_;all_goals (refine QP ?_ ?_<;>intro hc)
   refine RU ?_;exact ⟨by rw [if_pos (by unfold Z1R;omega)],hS⟩;refine RU ?_;exact ⟨by rw [if_neg (by unfold Z1R;omega)],hS⟩
theorem Z4Y (y m d:Int) (w) (hy:0<=y) (eA:y<=100000) (hm:1<=m) (eP:m<=12) (hd:0<=d) (lU:d<=100000) (h1:m - 3<0->1<=y):CC 263 #[Zj0 y m d] w λr w'=>r=.I (Z00 y m d)/\Stp [] w w':=by
 refine cW1 36 Tryz.func263 ?_;refine W ?_;refine Z0 (Zo rfl) rfl ?_;rintro _ w1 ⟨b,rfl,hb,ac,hS⟩;replace ac:Blk w1 b 132 [.I y,.I m,.I d]:=ac;refine W ?_;refine ZDr 7 [] [] [(0,0),(1,1),(2,0),(3,1),(4,0),(5,0),(6,0)] (λw1 ae=>?_);replace ac:=ac.up ae;replace hS:=hS.trans ae;clear ae;refine D ?_
 (refine QP ?_ ?_<;>intro hc)
 all_goals refine WR ?_
 all_goals refine .mk ⟨?_,hS⟩
 all_goals unfold Z00
 rw [if_pos (by assumption)];congr 1;dsimp only;omega;rw [if_neg (by assumption)]
theorem Z7O (y m d:Int) (w) (hL:Z0A w):CC 304 #[Zj0 y m d] w λr w'=>r=.tuple #[.I (if Z1R y m d then 0 else Z00 y m d),.I (if Z1R y m d then 5 else 0)]/\Stp [] w w':=by
 refine cW1 12 Tryz.func304 ?_;refine W ?_;refine Z0 (Zo rfl) rfl ?_;rintro _ w1 ⟨b,rfl,hb,ac,hS⟩;replace ac:Blk w1 b 132 [.I y,.I m,.I d]:=ac;replace hL:=hL.up hS;refine W ?_;refine CL (Zdq y m d _ hL) ?_;rintro _ w2 ⟨rfl,hT⟩;replace ac:=ac.up hT;replace hS:=hS.trans hT;clear hT;by_cases fL:Z1R y m d;rw [if_pos fL,if_pos fL];refine RT ?_;exact ⟨rfl,hS⟩;rw [if_neg fL,if_neg fL];refine W ?_;have pY:=Z2T y m;unfold Z1R at fL;refine CM (ZN rfl) (Z4Y y m d _ (by omega) (by omega) (by omega) (by omega) (by omega) (by omega) (by omega)) ?_;rintro _ w3 ⟨rfl,hT⟩;refine RT ?_;exact ⟨rfl,hS.trans hT⟩
end Go.Proofs.YtipfkbkkndacjaaGreatDoor
namespace Go.Eng
open Go Go.RowKit Go.Proofs
def Z4Z (s:Str):Int:=s.foldl (λn c=>10 * n+(c.toNat:Int) - 48) 0
theorem Z7P (a:Str) (c:UInt8):Z4Z (a++[c])=10 * Z4Z a+(c.toNat:Int) - 48:=by simp [Z4Z,YaF]
theorem Z7Q {s:Str} (h:s.all J3=true):Z4Z s=(Z1A s:Int):=by
 have key:∀ (s:Str) (z:Int) (n:Nat),z=(n:Int)->s.all J3=true->s.foldl (λn c=>10 * n+(c.toNat:Int) - 48) z=((s.foldl (λn c=>10 * n+(c.toNat - 48)) n:Nat):Int):=by
  intro s
  induction s with
  | nil=>intro z n hz _;exact hz
  | cons c r ih=>
    intro z n hz h;simp only [Ya1,Xm] at h;have hc:48<=c.toNat/\c.toNat<=57:=by simpa [J3] using h.1
    exact ih _ _ (by dsimp only;omega) h.2
 exact key s 0 0 rfl h
def Zfx:Nat->Int
 | 0=>0
 | k+1=>10 * Zfx k+300
theorem ZbA:∀ (k:Nat) (s:Str),s.length=k->-Zfx k<=Z4Z s/\Z4Z s<=Zfx k
 | 0, s, h => by
   have:s=[]:=Xv.1 h;subst this;simp [Z4Z,Zfx]
 | k + 1, s, h => by
   have aU:s≠[]:=by rintro rfl;simp at h
   obtain ⟨a,c,rfl⟩:∃ a c,s=a++[c]:=⟨s.dropLast,s.getLast aU,(List.dropLast_concat_getLast aU).symm⟩
   have ih:=ZbA k a (by simpa using h);have hc:=c.toNat_lt;rw [Z7P];simp only [Zfx];omega
theorem Zme {k:Nat} (h:k<=4):Zfx k<=400000:=by
 have:k=0\/k=1\/k=2\/k=3\/k=4:=by omega
 rcases this with rfl|rfl|rfl|rfl|rfl<;>decide
end Go.Eng
namespace Go.Proofs.YtipfkbkkndacjaaGreatDoor
open Go Go.Eng Go.RowKit Go.Proofs
theorem Z7R (s:Str) (f u bs be:Nat) (e0:Int) (w) (uW:f<=u) (hu:u<=s.length) (h4:u<=f+4) (aU:bs≠be) (hs:Blk w bs 9 [str s]) (he:Blk w be 92 [.I e0]) :
 CC 326 #[.I (f:Int),.I (u:Int),pQ bs,pQ be] w
  λr w'=>r=.I (Z4Z ((s.take u).drop f))/\Blk w' bs 9 [str s]/\Blk w' be 92 [.I (if ((s.take u).drop f).all J3 then e0 else 7)]/\Stp [be] w w':=by
 refine cW4 34 Tryz.func326 ?_;refine W ?_;refine Z5b rfl rfl rfl rfl rfl uW hu rfl ?_;have ai:((s.take u).drop f).length=u - f:=by simp;omega
 generalize (s.take u).drop f=t at *;refine Z0 (Zbz rfl (by omega)) rfl ?_;rintro bv w1 ⟨hb,hS⟩;have oF:be<w.heap.size:=he.lt;have an:=hb [be] (by simpa using oF);clear hb;replace hs:=hs.up hS;replace he:=he.up hS;replace hS:=hS.mono (S':=[be]) (by simp);refine W ?_
 refine Zr (σ:=Nat) (λq=>[(2,pQ bs),(3,pQ be),(7,.I (Z4Z (t.take q))),(14,bv),(15,.I (t.length:Int)),(16,.I (q:Int))])
  (λq w'=>q<=t.length/\SlV [be] w' bv t/\Blk w' bs 9 [str s]/\Blk w' be 92 [.I (if (t.take q).all J3 then e0 else 7)]/\Stp [be] w w')
  (λq=>t.length - q) 0 ⟨rfl,rfl,rfl,rfl,rfl,rfl,trivial⟩ ⟨Xq _,an,hs,he,hS⟩ ?_
 clear an hs he hS;rintro q w2 ⟨hq,an,hs,he,hS⟩;have lW:=ZbA q (t.take q) (by simp;omega);have bD:=Zme (k:=q) (by omega);by_cases hlt:q<t.length;have fE:t.take (q+1)=t.take q++[t[q]]:=(List.take_append_getElem hlt).symm;have hc:=(t[q]).toNat_lt;have iO:J3 t[q]=true↔48<=(t[q]).toNat/\(t[q]).toNat<=57:=by simp [J3]
 have fin:∀ w3,SlV [be] w3 bv t->Blk w3 bs 9 [str s]->Blk w3 be 92 [.I (if J3 t[q]=true then (if (t.take q).all J3 then e0 else 7) else 7)]->Stp [be] w w3->
  (q+1<=t.length/\SlV [be] w3 bv t/\Blk w3 bs 9 [str s]/\Blk w3 be 92 [.I (if (t.take (q+1)).all J3 then e0 else 7)]/\Stp [be] w w3):=by
  intro w3 h1 h2 h3 h4;refine ⟨hlt,h1,h2,?_,h4⟩;rw [fE];have:((t.take q++[t[q]]).all J3)=((t.take q).all J3 && J3 t[q]):=by rw [List.all_append];simp only [Ya1,List.all_nil,Ybf]
  rw [this];by_cases hd:J3 t[q]=true;rw [if_pos hd] at h3;rw [hd,Ybf];exact h3;rw [if_neg hd] at h3;rw [Bool.not_eq_true] at hd;rw [hd,YbJ];exact h3
 by_cases hd:J3 t[q]=true;have lX:=iO.1 hd;refine QO ?_;refine Z8 (Z4g (b:=((t[q]).toNat:Int)) rfl (Z02 (by unfold I64;omega))) rfl ?_;refine W ?_;refine Zw (q+1) ⟨rfl,rfl,?_,rfl,rfl,rfl,trivial⟩ (fin _ an hs (by rw [if_pos hd];exact he) hS) (by omega);rw [fE,Z7P];rfl
 . have lX:(t[q]).toNat<48\/57<(t[q]).toNat:=by
    rcases Yat (t[q]).toNat 48 with h|h
    exact .inl h;rcases Yat 57 (t[q]).toNat with h'|h'
    exact .inr h';exact absurd (iO.2 ⟨h,h'⟩) hd
   repeat'(first|refine W1 ?_|omega|refine VG ?_ ?_<;>intro hg|refine VC ?_ ?_<;>intro hc)
   all_goals
    refine SB (us:=[.I 7]) (by simp;rfl) he ?_;rintro _ w3 ⟨hT,uX⟩;refine W ?_;refine Z8 (Z4g (b:=((t[q]).toNat:Int)) rfl (Z02 (by unfold I64;omega))) rfl ?_;refine W ?_;refine Zw (q+1) ⟨rfl,rfl,?_,rfl,rfl,rfl,trivial⟩ (fin _ (an.ext hT (λ_ h=>h) (λ_ h=>.inl h)) (hs.ext hT (by simpa using aU)) (by rw [if_neg hd];exact uX) (hS.trans hT)) (by omega);rw [fE,Z7P];rfl
 have:q=t.length:=by omega
 subst this;rw [Xp] at *;refine RT ?_;exact ⟨rfl,hs,he,hS⟩
theorem Z5q (y m d:Int) (w):(Instr.build 132 #[(0,.I y),(1,.I m),(2,.I d)]).run Tryz.prog w=.ok (Zj0 y m d) w:=by kernel_rfl
theorem Zdr (s:Str) (w) (hL:Z0A w) (hl:s.length=10):CC 277 #[str s] w λr w'=>r=.tuple #[.I (Z1w s).1,.I (Z1w s).2]/\Stp [] w w':=by
 have h5:3<w.heap.size:=by have:=block_lt_of_cell (hL 0 0 rfl);simpa using this
 refine cW1 35 Tryz.func277 ?_;refine W ?_;refine Z0 (Zo rfl) rfl ?_;rintro _ w1 ⟨bs,rfl,dD,es,hS⟩;replace es:Blk w1 bs 9 [str s]:=es;replace hL:=hL.up hS;have b45:∀ i,i<10->(Jb s i=45↔s.getD i 0=45):=λi hi=>by
  unfold Jb;constructor;intro h;have oG:(45:UInt8).toNat=45:=rfl;have:(s.getD i 0).toNat=(45:UInt8).toNat:=by omega
  exact UInt8.toNat_inj.1 this;intro h;rw [h];rfl
 by_cases oG:Jb s 4=45/\Jb s 7=45;obtain ⟨h4,h7⟩:=oG;refine QO ?_;refine J5 (i:=4) rfl rfl rfl (by omega) rfl ?_;refine QO ?_;refine J5 (i:=7) rfl rfl rfl (by omega) rfl ?_;refine QO ?_;refine Z0 Z2 rfl ?_;rintro _ w2 ⟨be,rfl,lL,ee,hT⟩;have nbe:bs≠be:=by have:=es.lt;omega
 replace es:=es.up hT;refine SB (us:=[.I 0]) (by simp;rfl) ee ?_;rintro _ w3 ⟨aq,ee'⟩;have uY:w.heap.size<=be:=Xg hS.size lL;replace es:=es.ext aq (by simpa using nbe);replace hT:=hT.ow aq;replace hL:=hL.up hT;replace hS:=hS.trans hT;clear hT aq ee lL;refine W ?_;refine Z0 (Z0a rfl (Zf rfl rfl) rfl (Z7R s 0 4 bs be 0 _ (by omega) (by omega) (by omega) nbe es ee')) rfl ?_;rintro _ w4 ⟨rfl,es4,ee4,hT⟩;replace hL:=hL.ext hT (by simp only [Xl];omega);replace hS:=hS.ow hT;clear hT;refine W ?_;refine Z0 (Z0a rfl (Zf rfl rfl) rfl (Z7R s 5 7 bs be _ _ (by omega) (by omega) (by omega) nbe es4 ee4)) rfl ?_;rintro _ w5 ⟨rfl,es5,ee5,hT⟩;replace hL:=hL.ext hT (by simp only [Xl];omega);replace hS:=hS.ow hT;clear hT es4 ee4;refine W ?_;refine Z0 (Z0a rfl (Zf rfl rfl) rfl (Z7R s 8 10 bs be _ _ (by omega) (by omega) (by omega) nbe es5 ee5)) rfl ?_;rintro _ w6 ⟨rfl,es6,ee6,hT⟩;replace hL:=hL.ext hT (by simp only [Xl];omega);replace hS:=hS.ow hT;clear hT es5 ee5;have e0:(s.take 4).drop 0=s.take 4:=rfl;have e1:(s.take 7).drop 5=(s.drop 5).take 2:=by rw [Ybp]
 have e2:(s.take 10).drop 8=s.drop 8:=by rw [XJ (by omega)]
 rw [e0,e1,e2] at ee6;rw [e0,e1,e2];refine Z7 (vs:=[(0,.I (Z4Z (s.take 4))),(1,.I (Z4Z ((s.drop 5).take 2))),(2,.I (Z4Z (s.drop 8)))]) rfl (Z5q _ _ _) rfl ?_;refine Z0 Z2 rfl ?_;rintro _ w7 ⟨bd,rfl,jU,ed,hT⟩;have nbd:be≠bd:=by have:=ee6.lt;omega
 replace ee6:=ee6.up hT;refine Z6 (Zi (us:=[.I (Z4Z (s.take 4)),.I (Z4Z ((s.drop 5).take 2)),.I (Z4Z (s.drop 8))]) rfl rfl rfl rfl (by intro c hc;simp at hc;rcases hc with rfl|rfl|rfl<;>rfl) ed rfl) ?_;rintro _ w8 ⟨aq,ed'⟩;replace ee6:=ee6.ext aq (by simpa using nbd);replace hT:=hT.ow aq;replace hL:=hL.up hT;replace hS:=hS.trans hT;clear hT aq ed jU es6;by_cases aA:(s.take 4).all J3=true/\((s.drop 5).take 2).all J3=true/\(s.drop 8).all J3=true;obtain ⟨a1,a2,a3⟩:=aA;have hP:Z1w s=(let y:Int:=Z1A (s.take 4);let m:Int:=Z1A ((s.drop 5).take 2);let d:Int:=Z1A (s.drop 8);if Z1R y m d then (0,5) else (Z00 y m d,0)):=by
  unfold Z1w;rw [if_pos ⟨hl,(b45 4 (by omega)).1 h4,(b45 7 (by omega)).1 h7,a1,a2,a3⟩];rfl
 rw [if_pos a1,if_pos a2,if_pos a3] at ee6;rw [Z7Q a1,Z7Q a2,Z7Q a3] at ed';refine W ?_;refine CL (Z7O _ _ _ _ hL) ?_;rintro _ w9 ⟨rfl,hT⟩;replace hS:=hS.trans hT;refine W ?_;refine WR ?_;refine .mk ⟨?_,hS⟩;rw [hP];dsimp only;split<;>rfl
 have hP:Z1w s=(0,7):=by
  unfold Z1w;rw [if_neg (λh=>aA h.2.2.2)]
 have hE:(if (s.drop 8).all J3=true then (if ((s.drop 5).take 2).all J3=true then (if (s.take 4).all J3=true then (0:Int) else 7) else 7) else 7)=7:=by
  by_cases g3:(s.drop 8).all J3=true;rw [if_pos g3];by_cases g2:((s.drop 5).take 2).all J3=true;rw [if_pos g2];by_cases g1:(s.take 4).all J3=true;exact absurd ⟨g1,g2,g3⟩ aA;rw [if_neg g1];rw [if_neg g2];rw [if_neg g3]
 rw [hE] at ee6;refine W ?_;refine ZDr 3 [] [] [(0,1),(1,0),(2,0)] (λw1 ae=>?_);replace ee6:=ee6.up ae;replace hS:=hS.trans ae;refine D ?_;refine W ?_;refine WR ?_;rw [hP];exact .mk ⟨rfl,hS⟩;have hP:Z1w s=(0,7):=by
  unfold Z1w;rw [if_neg (λh=>oG ⟨(b45 4 (by omega)).2 h.2.1,(b45 7 (by omega)).2 h.2.2.1⟩)]
 by_cases h4:Jb s 4=45;have h7:¬ Jb s 7=45:=λh=>oG ⟨h4,h⟩;refine QO ?_;refine J5 (i:=4) rfl rfl rfl (by omega) rfl ?_;refine QO ?_;refine J5 (i:=7) rfl rfl rfl (by omega) rfl ?_;refine QO ?_;refine WR ?_;rw [hP];exact .mk ⟨rfl,hS⟩;refine QO ?_;refine J5 (i:=4) rfl rfl rfl (by omega) rfl ?_;refine QO ?_;refine WR ?_;rw [hP];exact .mk ⟨rfl,hS⟩
end Go.Proofs.YtipfkbkkndacjaaGreatDoor
namespace Go.Proofs
theorem fxT {P:Go.Program} {f:Nat} {a b:Go.Func} (h:P.funcs[f]?=some a) (e:a=b:=by kernel_rfl):P.funcs[f]?=some b:=h.trans (congrArg some e)
open Go.Shelf
def Tryz.lays119_ren:Go.Shelf.Ren:=⟨fun|119=>321|n=>n,fun|21=>21|4=>4|n=>n,fun|n=>n⟩
theorem Tryz.lays119:Go.Proofs.Lays.n119 Tryz.prog Tryz.lays119_ren:={
 mixed:=by kernel_rfl
 f119:=fxT Tryz.func321
 t4:=Tryz.underlying4
 a4:=Tryz.isAgg4
 z4:=Tryz.sizeOf4
 v4:=Tryz.zeroValue4
 t21:=Tryz.underlying21
 a21:=Tryz.isAgg21
 z21:=Tryz.sizeOf21
 v21:=Tryz.zeroValue21 }
theorem Tryz.utf8_ValidRune (r:Int) (w:World) :
 Calls Tryz.prog 321 #[.int .i32 r] w λe w'=>e=.returned (.bool (Lib.validRune r))/\w'=w:=Any.utf8_ValidRune Tryz.lays119 r w
def Tryz.lays137_ren:Go.Shelf.Ren:=⟨fun|137=>273|217=>320|266=>348|n=>n,fun|9=>9|5=>5|3=>3|n=>n,fun|n=>n⟩
theorem Tryz.lays137:Go.Proofs.Lays.n137 Tryz.prog Tryz.lays137_ren:={
 mixed:=by kernel_rfl
 f137:=fxT Tryz.func273
 f217:=fxT Tryz.func320
 f266:=fxT Tryz.func348
 t3:=Tryz.underlying3
 a3:=Tryz.isAgg3
 z3:=Tryz.sizeOf3
 v3:=Tryz.zeroValue3
 t5:=Tryz.underlying5
 a5:=Tryz.isAgg5
 z5:=Tryz.sizeOf5
 v5:=Tryz.zeroValue5
 t9:=Tryz.underlying9
 a9:=Tryz.isAgg9
 z9:=Tryz.sizeOf9
 v9:=Tryz.zeroValue9 }
open Go.RowKit in
theorem Tryz.strings_IndexByte (s:ByteArray) (c:Int) (w:World) :
 Calls Tryz.prog 273 #[.string s,.int .u8 c] w λe w'=>e=.returned (.int .i64 (Lib.indexByte s.data.toList c.toNat.toUInt8))/\w'=w:=Any.strings_IndexByte Tryz.lays137 s c w
def Tryz.lays215_ren:Go.Shelf.Ren:=⟨fun|215=>125|n=>n,fun|3=>3|4=>4|n=>n,fun|n=>n⟩
def Tryz.lays122_ren:Go.Shelf.Ren:=⟨fun|122=>75|215=>125|n=>n,fun|3=>3|4=>4|n=>n,fun|n=>n⟩
theorem Tryz.lays122:Go.Proofs.Lays.n122 Tryz.prog Tryz.lays122_ren:={
 mixed:=by kernel_rfl
 f122:=fxT Tryz.func75
 f215:=fxT Tryz.func125
 t3:=Tryz.underlying3
 a3:=Tryz.isAgg3
 z3:=Tryz.sizeOf3
 v3:=Tryz.zeroValue3
 t4:=Tryz.underlying4
 a4:=Tryz.isAgg4
 z4:=Tryz.sizeOf4
 v4:=Tryz.zeroValue4 }
open Go.RowKit in
theorem Tryz.cmp_Compare_int (x y:Int) (w:World) :
 Calls Tryz.prog 75 #[.int .i64 x,.int .i64 y] w λe w'=>e=.returned (.int .i64 (Lib.compareInt x y))/\w'=w:=Any.cmp_Compare_int Tryz.lays122 x y w
def Tryz.lays172_ren:Go.Shelf.Ren:=⟨fun|172=>276|244=>324|245=>325|247=>349|279=>350|280=>351|281=>352|282=>353|287=>362|316=>363|171=>62|205=>364|321=>368|322=>369|243=>94|246=>172|283=>235|284=>236|285=>237|286=>238|129=>124|317=>291|318=>292|319=>293|320=>294|337=>331|338=>332|n=>n,fun|9=>9|3=>3|75=>197|76=>198|4=>4|5=>5|167=>389|37=>192|0=>0|85=>390|2=>2|168=>392|53=>222|175=>401|46=>157|210=>405|127=>251|145=>412|143=>410|21=>21|171=>301|173=>303|212=>360|51=>220|20=>20|213=>361|232=>395|233=>396|80=>200|n=>n,fun|15=>7|16=>8|17=>1|18=>5|19=>6|n=>n⟩
def Tryz.laysC172_ren:Go.Shelf.Ren:=⟨fun|172=>276|244=>324|245=>325|247=>349|279=>350|280=>351|281=>352|282=>353|287=>362|316=>363|171=>62|205=>364|321=>368|322=>369|243=>94|246=>172|283=>235|284=>236|285=>237|286=>238|129=>124|317=>291|318=>292|319=>293|320=>294|337=>331|338=>332|n=>n,fun|9=>9|3=>3|75=>197|76=>198|4=>4|5=>5|167=>389|37=>192|0=>0|85=>390|2=>2|168=>392|53=>222|175=>401|46=>157|210=>405|127=>251|145=>412|143=>410|21=>21|171=>301|173=>303|212=>360|51=>220|20=>20|213=>361|232=>395|233=>396|80=>200|n=>n,fun|15=>7|16=>8|17=>1|18=>5|19=>6|n=>n⟩
theorem Tryz.laysC172:Go.Proofs.LaysC.n172 Tryz.prog Tryz.laysC172_ren:={
 mixed:=by kernel_rfl
 f129:=fxT Tryz.func124
 f171:=fxT Tryz.func62
 f172:=fxT Tryz.func276
 f205:=fxT Tryz.func364
 f243:=fxT Tryz.func94
 f244:=fxT Tryz.func324
 f245:=fxT Tryz.func325
 f246:=fxT Tryz.func172
 f247:=fxT Tryz.func349
 f279:=fxT Tryz.func350
 f280:=fxT Tryz.func351
 f281:=fxT Tryz.func352
 f282:=fxT Tryz.func353
 f283:=fxT Tryz.func235
 f284:=fxT Tryz.func236
 f285:=fxT Tryz.func237
 f286:=fxT Tryz.func238
 f287:=fxT Tryz.func362
 f316:=fxT Tryz.func363
 f317:=fxT Tryz.func291
 f318:=fxT Tryz.func292
 f319:=fxT Tryz.func293
 f320:=fxT Tryz.func294
 f321:=fxT Tryz.func368
 f322:=fxT Tryz.func369
 f337:=fxT Tryz.func331
 f338:=fxT Tryz.func332
 t0:=Tryz.underlying0
 a0:=Tryz.isAgg0
 z0:=Tryz.sizeOf0
 v0:=Tryz.zeroValue0
 t2:=Tryz.underlying2
 a2:=Tryz.isAgg2
 z2:=Tryz.sizeOf2
 v2:=Tryz.zeroValue2
 t3:=Tryz.underlying3
 a3:=Tryz.isAgg3
 z3:=Tryz.sizeOf3
 v3:=Tryz.zeroValue3
 t4:=Tryz.underlying4
 a4:=Tryz.isAgg4
 z4:=Tryz.sizeOf4
 v4:=Tryz.zeroValue4
 t5:=Tryz.underlying5
 a5:=Tryz.isAgg5
 z5:=Tryz.sizeOf5
 v5:=Tryz.zeroValue5
 t9:=Tryz.underlying9
 a9:=Tryz.isAgg9
 z9:=Tryz.sizeOf9
 v9:=Tryz.zeroValue9
 t20:=Tryz.underlying20
 a20:=Tryz.isAgg20
 z20:=Tryz.sizeOf20
 v20:=Tryz.zeroValue20
 t21:=Tryz.underlying21
 a21:=Tryz.isAgg21
 z21:=Tryz.sizeOf21
 v21:=Tryz.zeroValue21
 t37:=Tryz.underlying192
 a37:=Tryz.isAgg192
 z37:=Tryz.sizeOf192
 v37:=Tryz.zeroValue192
 t46:=Tryz.underlying157
 a46:=Tryz.isAgg157
 z46:=Tryz.sizeOf157
 v46:=Tryz.zeroValue157
 t51:=Tryz.underlying220
 a51:=Tryz.isAgg220
 z51:=Tryz.sizeOf220
 v51:=Tryz.zeroValue220
 t53:=Tryz.underlying222
 a53:=Tryz.isAgg222
 z53:=Tryz.sizeOf222
 v53:=Tryz.zeroValue222
 t75:=Tryz.underlying197
 a75:=Tryz.isAgg197
 z75:=Tryz.sizeOf197
 v75:=Tryz.zeroValue197
 t76:=Tryz.underlying198
 a76:=Tryz.isAgg198
 z76:=Tryz.sizeOf198
 v76:=Tryz.zeroValue198
 t85:=Tryz.underlying390
 a85:=Tryz.isAgg390
 z85:=Tryz.sizeOf390
 v85:=Tryz.zeroValue390
 t127:=Tryz.underlying251
 a127:=Tryz.isAgg251
 z127:=Tryz.sizeOf251
 v127:=Tryz.zeroValue251
 t143:=Tryz.underlying410
 a143:=Tryz.isAgg410
 z143:=Tryz.sizeOf410
 v143:=Tryz.zeroValue410
 t145:=Tryz.underlying412
 a145:=Tryz.isAgg412
 z145:=Tryz.sizeOf412
 v145:=Tryz.zeroValue412
 t167:=Tryz.underlying389
 a167:=Tryz.isAgg389
 z167:=Tryz.sizeOf389
 v167:=Tryz.zeroValue389
 t168:=Tryz.underlying392
 a168:=Tryz.isAgg392
 z168:=Tryz.sizeOf392
 v168:=Tryz.zeroValue392
 t171:=Tryz.underlying301
 a171:=Tryz.isAgg301
 z171:=Tryz.sizeOf301
 v171:=Tryz.zeroValue301
 t173:=Tryz.underlying303
 a173:=Tryz.isAgg303
 z173:=Tryz.sizeOf303
 v173:=Tryz.zeroValue303
 t175:=Tryz.underlying401
 a175:=Tryz.isAgg401
 z175:=Tryz.sizeOf401
 v175:=Tryz.zeroValue401
 t210:=Tryz.underlying405
 a210:=Tryz.isAgg405
 z210:=Tryz.sizeOf405
 v210:=Tryz.zeroValue405
 t212:=Tryz.underlying360
 a212:=Tryz.isAgg360
 z212:=Tryz.sizeOf360
 v212:=Tryz.zeroValue360
 t213:=Tryz.underlying361
 a213:=Tryz.isAgg361
 z213:=Tryz.sizeOf361
 t232:=Tryz.underlying395
 a232:=Tryz.isAgg395
 z232:=Tryz.sizeOf395
 v232:=Tryz.zeroValue395
 t233:=Tryz.underlying396
 a233:=Tryz.isAgg396
 z233:=Tryz.sizeOf396
 v233:=Tryz.zeroValue396
 g15:=by kernel_rfl
 g16:=by kernel_rfl
 g17:=by kernel_rfl
 g18:=by kernel_rfl
 g19:=by kernel_rfl
 t80:=Tryz.underlying200
 a80:=Tryz.isAgg200
 z80:=Tryz.sizeOf200
 v80:=Tryz.zeroValue200
 i0:=by kernel_rfl
 i2:=by kernel_rfl
 i3:=by kernel_rfl
 i4:=by kernel_rfl
 i5:=by kernel_rfl
 i9:=by kernel_rfl
 i20:=by kernel_rfl
 i21:=by kernel_rfl
 i37:=by kernel_rfl
 i46:=by kernel_rfl
 i51:=by kernel_rfl
 i53:=by kernel_rfl
 i75:=by kernel_rfl
 i76:=by kernel_rfl
 i80:=by kernel_rfl
 i85:=by kernel_rfl
 i127:=by kernel_rfl
 i143:=by kernel_rfl
 i145:=by kernel_rfl
 i167:=by kernel_rfl
 i168:=by kernel_rfl
 i171:=by kernel_rfl
 i173:=by kernel_rfl
 i175:=by kernel_rfl
 i210:=by kernel_rfl
 i212:=by kernel_rfl
 i232:=by kernel_rfl
 i233:=by kernel_rfl
 m15:=by kernel_rfl
 m16:=by kernel_rfl
 m17:=by kernel_rfl
 m18:=by kernel_rfl
 m19:=by kernel_rfl
 c0:=by kernel_rfl
 c2:=by kernel_rfl
 c3:=by kernel_rfl
 c4:=by kernel_rfl
 c5:=by kernel_rfl
 c9:=by kernel_rfl
 c20:=by kernel_rfl
 c21:=by kernel_rfl
 c37:=by kernel_rfl
 c46:=by kernel_rfl
 c51:=by kernel_rfl
 c53:=by kernel_rfl
 c75:=by kernel_rfl
 c76:=by kernel_rfl
 c80:=by kernel_rfl
 c85:=by kernel_rfl
 c127:=by kernel_rfl
 c143:=by kernel_rfl
 c145:=by kernel_rfl
 c167:=by kernel_rfl
 c168:=by kernel_rfl
 c171:=by kernel_rfl
 c173:=by kernel_rfl
 c175:=by kernel_rfl
 c210:=by kernel_rfl
 c212:=by kernel_rfl
 c213:=by kernel_rfl
 c232:=by kernel_rfl
 c233:=by kernel_rfl }
open Go.RowKit in
theorem Tryz.strconv_Atoi_ok (s:ByteArray) (aT:s.size<=9223372036854775806) (v:Int) (h:Lib.atoiAll s.data.toList=.ok v) (w:World) :
 Calls Tryz.prog 276 #[.string s] w λe w'=>e=.returned (.tuple #[.int .i64 v,.nilIface])/\(w'=w\/∃ t,w'=Lib.bytesWorld w 5 t):=Any.strconv_Atoi_ok Tryz.laysC172 s aT v h w
open Go.RowKit in
theorem Tryz.strconv_Atoi_range (s:ByteArray) (qi:s.size<=281474976710656) (h:Lib.atoiAll s.data.toList=.range) (ev:Value) (w:World) (hv:w.cell? ⟨8,0,none⟩=some ev) (bR:ev=.nilIface\/∃ te pe,ev=.iface te pe) :
 Calls Tryz.prog 276 #[.string s] w λe w'=>∃ N,e=.returned (.tuple #[.int .i64 (Lib.atoiSat s.data.toList),.iface 392 (.pointer (some ⟨N,0,none⟩))])/\w.heap.size<=N/\w'.heap[N]?=some (.cells #[.string ⟨#[65,116,111,105]⟩,.string s,ev] 405 (0,0))/\Below w.heap.size w w':=Any.strconv_Atoi_range Tryz.laysC172 s qi h ev w hv bR
def Tryz.lays219_ren:Go.Shelf.Ren:=⟨fun|219=>330|217=>320|225=>323|224=>322|267=>355|266=>348|314=>365|n=>n,fun|9=>9|3=>3|4=>4|5=>5|46=>157|146=>247|51=>220|n=>n,fun|1=>2|n=>n⟩
def Tryz.lays144_ren:Go.Shelf.Ren:=⟨fun|144=>227|143=>281|219=>330|217=>320|225=>323|224=>322|267=>355|266=>348|314=>365|n=>n,fun|9=>9|4=>4|3=>3|5=>5|46=>157|146=>247|51=>220|n=>n,fun|1=>2|n=>n⟩
theorem Tryz.lays144:Go.Proofs.Lays.n144 Tryz.prog Tryz.lays144_ren:={
 mixed:=by kernel_rfl
 f143:=fxT Tryz.func281
 f144:=fxT Tryz.func227
 f217:=fxT Tryz.func320
 f219:=fxT Tryz.func330
 f224:=fxT Tryz.func322
 f225:=fxT Tryz.func323
 f266:=fxT Tryz.func348
 f267:=fxT Tryz.func355
 f314:=fxT Tryz.func365
 t3:=Tryz.underlying3
 a3:=Tryz.isAgg3
 z3:=Tryz.sizeOf3
 v3:=Tryz.zeroValue3
 t4:=Tryz.underlying4
 a4:=Tryz.isAgg4
 z4:=Tryz.sizeOf4
 v4:=Tryz.zeroValue4
 t5:=Tryz.underlying5
 a5:=Tryz.isAgg5
 z5:=Tryz.sizeOf5
 v5:=Tryz.zeroValue5
 t9:=Tryz.underlying9
 a9:=Tryz.isAgg9
 z9:=Tryz.sizeOf9
 v9:=Tryz.zeroValue9
 t46:=Tryz.underlying157
 a46:=Tryz.isAgg157
 z46:=Tryz.sizeOf157
 v46:=Tryz.zeroValue157
 t51:=Tryz.underlying220
 a51:=Tryz.isAgg220
 z51:=Tryz.sizeOf220
 v51:=Tryz.zeroValue220
 t146:=Tryz.underlying247
 a146:=Tryz.isAgg247
 z146:=Tryz.sizeOf247
 v146:=Tryz.zeroValue247
 g1:=by kernel_rfl }
open Go.RowKit Go.Lib in
theorem Tryz.strings_Contains (s sub:ByteArray) (m:Int) (w:World) (hs:s.size<4294967281) (hm:w.cell? ⟨2,0,none⟩=some (.int .i64 m)) :
 Calls Tryz.prog 227 #[.string s,.string sub] w λe w'=>e=.returned (.bool (Lib.contains s.data.toList sub.data.toList))/\w'=w:=Any.strings_Contains Tryz.lays144 s sub m w hs hm
def Tryz.laysM144_ren:Go.Shelf.Ren:=⟨fun|144=>227|143=>281|219=>330|217=>320|225=>323|224=>322|267=>355|266=>348|314=>365|n=>n,fun|9=>9|4=>4|3=>3|5=>5|46=>157|146=>247|51=>220|n=>n,fun|1=>2|n=>n⟩
theorem Tryz.laysM144:Go.Proofs.LaysM.n144 Tryz.prog Tryz.laysM144_ren:={
 mixed:=by kernel_rfl
 f143:=fxT Tryz.func281
 f144:=fxT Tryz.func227
 f217:=fxT Tryz.func320
 f219:=fxT Tryz.func330
 f224:=fxT Tryz.func322
 f225:=fxT Tryz.func323
 f266:=fxT Tryz.func348
 f267:=fxT Tryz.func355
 f314:=fxT Tryz.func365
 t3:=Tryz.underlying3
 a3:=Tryz.isAgg3
 z3:=Tryz.sizeOf3
 v3:=Tryz.zeroValue3
 t4:=Tryz.underlying4
 a4:=Tryz.isAgg4
 z4:=Tryz.sizeOf4
 v4:=Tryz.zeroValue4
 t5:=Tryz.underlying5
 a5:=Tryz.isAgg5
 z5:=Tryz.sizeOf5
 v5:=Tryz.zeroValue5
 t9:=Tryz.underlying9
 a9:=Tryz.isAgg9
 z9:=Tryz.sizeOf9
 v9:=Tryz.zeroValue9
 t46:=Tryz.underlying157
 a46:=Tryz.isAgg157
 z46:=Tryz.sizeOf157
 v46:=Tryz.zeroValue157
 t51:=Tryz.underlying220
 a51:=Tryz.isAgg220
 z51:=Tryz.sizeOf220
 v51:=Tryz.zeroValue220
 t146:=Tryz.underlying247
 a146:=Tryz.isAgg247
 z146:=Tryz.sizeOf247
 v146:=Tryz.zeroValue247
 g1:=by kernel_rfl
 i3:=by kernel_rfl
 i4:=by kernel_rfl
 i5:=by kernel_rfl
 i9:=by kernel_rfl
 i46:=by kernel_rfl
 i51:=by kernel_rfl
 i146:=by kernel_rfl
 m1:=by kernel_rfl
 s1_3:=λw h=>Go.Proofs.cell_of_shapedOpen_int (zero:=#[.int .i64 0]) (t:=3) h (of_decide_eq_true (by kernel_rfl)) (by kernel_rfl) rfl (by kernel_rfl) (by kernel_rfl) Tryz.underlying3 }
def Tryz.lays189_ren:Go.Shelf.Ren:=⟨fun|189=>259|125=>73|257=>313|128=>123|129=>124|294=>337|295=>338|296=>339|297=>340|298=>341|299=>342|216=>343|300=>344|301=>345|328=>357|329=>197|330=>198|331=>358|332=>359|215=>125|343=>366|n=>n,fun|28=>23|3=>3|46=>157|0=>0|51=>220|53=>222|4=>4|183=>214|182=>213|131=>57|5=>5|9=>9|218=>271|222=>275|228=>327|229=>283|n=>n,fun|n=>n⟩
theorem Tryz.lays189:Go.Proofs.Lays.n189 Tryz.prog Tryz.lays189_ren:={
 mixed:=by kernel_rfl
 f125:=fxT Tryz.func73
 f128:=fxT Tryz.func123
 f129:=fxT Tryz.func124
 f189:=fxT Tryz.func259
 f215:=fxT Tryz.func125
 f216:=fxT Tryz.func343
 f257:=fxT Tryz.func313
 f294:=fxT Tryz.func337
 f295:=fxT Tryz.func338
 f296:=fxT Tryz.func339
 f297:=fxT Tryz.func340
 f298:=fxT Tryz.func341
 f299:=fxT Tryz.func342
 f300:=fxT Tryz.func344
 f301:=fxT Tryz.func345
 f328:=fxT Tryz.func357
 f329:=fxT Tryz.func197
 f330:=fxT Tryz.func198
 f331:=fxT Tryz.func358
 f332:=fxT Tryz.func359
 f343:=fxT Tryz.func366
 t0:=Tryz.underlying0
 a0:=Tryz.isAgg0
 z0:=Tryz.sizeOf0
 v0:=Tryz.zeroValue0
 t3:=Tryz.underlying3
 a3:=Tryz.isAgg3
 z3:=Tryz.sizeOf3
 v3:=Tryz.zeroValue3
 t4:=Tryz.underlying4
 a4:=Tryz.isAgg4
 z4:=Tryz.sizeOf4
 v4:=Tryz.zeroValue4
 t5:=Tryz.underlying5
 a5:=Tryz.isAgg5
 z5:=Tryz.sizeOf5
 v5:=Tryz.zeroValue5
 t9:=Tryz.underlying9
 a9:=Tryz.isAgg9
 z9:=Tryz.sizeOf9
 v9:=Tryz.zeroValue9
 t28:=Tryz.underlying23
 a28:=Tryz.isAgg23
 z28:=Tryz.sizeOf23
 v28:=Tryz.zeroValue23
 t46:=Tryz.underlying157
 a46:=Tryz.isAgg157
 z46:=Tryz.sizeOf157
 v46:=Tryz.zeroValue157
 t51:=Tryz.underlying220
 a51:=Tryz.isAgg220
 z51:=Tryz.sizeOf220
 v51:=Tryz.zeroValue220
 t53:=Tryz.underlying222
 a53:=Tryz.isAgg222
 z53:=Tryz.sizeOf222
 v53:=Tryz.zeroValue222
 t131:=Tryz.underlying57
 a131:=Tryz.isAgg57
 z131:=Tryz.sizeOf57
 v131:=Tryz.zeroValue57
 t182:=Tryz.underlying213
 a182:=Tryz.isAgg213
 z182:=Tryz.sizeOf213
 v182:=Tryz.zeroValue213
 t183:=Tryz.underlying214
 a183:=Tryz.isAgg214
 z183:=Tryz.sizeOf214
 v183:=Tryz.zeroValue214
 t218:=Tryz.underlying271
 a218:=Tryz.isAgg271
 z218:=Tryz.sizeOf271
 v218:=Tryz.zeroValue271
 t222:=Tryz.underlying275
 a222:=Tryz.isAgg275
 z222:=Tryz.sizeOf275
 v222:=Tryz.zeroValue275
 t228:=Tryz.underlying327
 a228:=Tryz.isAgg327
 z228:=Tryz.sizeOf327
 v228:=Tryz.zeroValue327
 t229:=Tryz.underlying283
 a229:=Tryz.isAgg283
 z229:=Tryz.sizeOf283
 v229:=Tryz.zeroValue283 }
open Go.Sort Go.RowKit in
theorem Tryz.slices_Sort_int (blk off cap:Nat) (zs:List Int) (w:World) (hH:Holds (Value.int .i64) w blk off zs.toArray) (ac:blk<w.heap.size) (bE:zs.length<4611686018427387904) :
 Calls Tryz.prog 259 #[.slice (some ⟨blk,off,none⟩) zs.length cap] w λe w'=>
  e=.returned (.tuple #[])/\∃ n os,w'=grow (putRow (Value.int .i64) (Sort.ahead w n) blk off (zs.mergeSort λx y=>decide (x<=y)).toArray) os:=Any.slices_Sort_int Tryz.lays189 blk off cap zs w hH ac bE
def Tryz.lays206_ren:Go.Shelf.Ren:=⟨fun|206=>175|n=>n,fun|9=>9|4=>4|3=>3|n=>n,fun|n=>n⟩
def Tryz.lays99_ren:Go.Shelf.Ren:=⟨fun|99=>96|206=>175|n=>n,fun|9=>9|4=>4|3=>3|n=>n,fun|n=>n⟩
theorem Tryz.lays99:Go.Proofs.Lays.n99 Tryz.prog Tryz.lays99_ren:={
 mixed:=by kernel_rfl
 f99:=fxT Tryz.func96
 f206:=fxT Tryz.func175
 t3:=Tryz.underlying3
 a3:=Tryz.isAgg3
 z3:=Tryz.sizeOf3
 v3:=Tryz.zeroValue3
 t4:=Tryz.underlying4
 a4:=Tryz.isAgg4
 z4:=Tryz.sizeOf4
 v4:=Tryz.zeroValue4
 t9:=Tryz.underlying9
 a9:=Tryz.isAgg9
 z9:=Tryz.sizeOf9
 v9:=Tryz.zeroValue9 }
open Go.RowKit Go.Lib in
theorem Tryz.strings_HasPrefix (s p:ByteArray) (w:World) :
 Calls Tryz.prog 96 #[.string s,.string p] w λe w'=>e=.returned (.bool (Lib.hasPrefix s.data.toList p.data.toList))/\w'=w:=Any.strings_HasPrefix Tryz.lays99 s p w
def Tryz.lays151_ren:Go.Shelf.Ren:=⟨fun|151=>216|152=>274|137=>273|119=>321|224=>322|225=>323|217=>320|266=>348|n=>n,fun|9=>9|21=>21|4=>4|3=>3|5=>5|0=>0|46=>157|n=>n,fun|n=>n⟩
theorem Tryz.lays151:Go.Proofs.Lays.n151 Tryz.prog Tryz.lays151_ren:={
 mixed:=by kernel_rfl
 f119:=fxT Tryz.func321
 f137:=fxT Tryz.func273
 f151:=fxT Tryz.func216
 f152:=fxT Tryz.func274
 f217:=fxT Tryz.func320
 f224:=fxT Tryz.func322
 f225:=fxT Tryz.func323
 f266:=fxT Tryz.func348
 t0:=Tryz.underlying0
 a0:=Tryz.isAgg0
 z0:=Tryz.sizeOf0
 v0:=Tryz.zeroValue0
 t3:=Tryz.underlying3
 a3:=Tryz.isAgg3
 z3:=Tryz.sizeOf3
 v3:=Tryz.zeroValue3
 t4:=Tryz.underlying4
 a4:=Tryz.isAgg4
 z4:=Tryz.sizeOf4
 v4:=Tryz.zeroValue4
 t5:=Tryz.underlying5
 a5:=Tryz.isAgg5
 z5:=Tryz.sizeOf5
 v5:=Tryz.zeroValue5
 t9:=Tryz.underlying9
 a9:=Tryz.isAgg9
 z9:=Tryz.sizeOf9
 v9:=Tryz.zeroValue9
 t21:=Tryz.underlying21
 a21:=Tryz.isAgg21
 z21:=Tryz.sizeOf21
 v21:=Tryz.zeroValue21
 t46:=Tryz.underlying157
 a46:=Tryz.isAgg157
 z46:=Tryz.sizeOf157
 v46:=Tryz.zeroValue157 }
open Go.RowKit Go.Lib in
theorem Tryz.strings_ContainsRune_ascii (s:ByteArray) (r:Int) (w:World) (h0:0<=r) (h1:r<128) :
 Calls Tryz.prog 216 #[.string s,.int .i32 r] w λe w'=>e=.returned (.bool (decide (0<=Lib.indexByte s.data.toList r.toNat.toUInt8)))/\w'=w:=Any.strings_ContainsRune_ascii Tryz.lays151 s r w h0 h1
def Tryz.laysNm220_ren:Go.Shelf.Ren:=⟨fun|20=>260|n=>n,fun|22=>23|3=>3|4=>4|0=>0|n=>n,fun|n=>n⟩
theorem Tryz.laysNm220:Go.Proofs.Lays2.n20 Tryz.prog Tryz.laysNm220_ren:={
 mixed:=by kernel_rfl
 f20:=fxT Tryz.func260
 t0:=Tryz.underlying0
 a0:=Tryz.isAgg0
 z0:=Tryz.sizeOf0
 v0:=Tryz.zeroValue0
 t3:=Tryz.underlying3
 a3:=Tryz.isAgg3
 z3:=Tryz.sizeOf3
 v3:=Tryz.zeroValue3
 t4:=Tryz.underlying4
 a4:=Tryz.isAgg4
 z4:=Tryz.sizeOf4
 v4:=Tryz.zeroValue4
 t22:=Tryz.underlying23
 a22:=Tryz.isAgg23
 z22:=Tryz.sizeOf23
 v22:=Tryz.zeroValue23
 i3:=by kernel_rfl }
open Go.RowKit Go.Lib Go.Sort in
theorem Tryz.slices_Compact_int (blk off cap:Nat) (zs:List Int) (w:World) (hH:Holds (Value.int .i64) w blk off zs.toArray) (bE:zs.length<=9223372036854775807) (qj:zs.length<=cap) :
 Calls Tryz.prog 260 #[.slice (some ⟨blk,off,none⟩) zs.length cap] w λe w'=>e=.returned (.slice (some ⟨blk,off,none⟩) (Lib.compact zs).length cap)/\∃ q,w'=putRow (Value.int .i64) (Sort.ahead w q) blk off (Lib.compact zs++List.replicate (zs.length - (Lib.compact zs).length) 0).toArray:=Any.slices_Compact_int Tryz.laysNm220 blk off cap zs w hH bE qj
open Go.RowKit Go.Lib Go.Sort in
theorem Tryz.slices_Compact_int_empty (a:Option Addr) (cap:Nat) (w:World) :
 Calls Tryz.prog 260 #[.slice a 0 cap] w λe w'=>e=.returned (.slice a 0 cap)/\w'=w:=Any.slices_Compact_int_empty Tryz.laysNm220 a cap w
open Go.RowKit Go.Sort in
theorem Tryz.slices_Sort_int_none (p:Option Addr) (cap:Nat) (w:World) :
 Calls Tryz.prog 259 #[.slice p 0 cap] w λe w'=>e=.returned (.tuple #[])/\w'=w:=Any.slices_Sort_int_none Tryz.lays189 p cap w
end Go.Proofs
namespace Go.Eng
open Go Go.RowKit Go.Proofs
structure Fl where
 i:Nat
 d:Nat
 T:Nat
 z:Value
section
variable {P:Program} {n:Nat} {Q:Exit->Act->World->Prop} {e:Env} {w:World}
theorem Z7S {c:Code} (h:WC P n c (Exit.noGoto Q) e w):WC P n (.scope c) Q e w:=⟨λa ha=>wp_scope_straight (h.h a ha)⟩
theorem Zj1 {l:Nat} (h:WQ n Q .normal e w):WC P n (.label l) Q e w:=⟨λa ha=>wp_label (h.h a ha)⟩
theorem JO (h:WQ n Q .ret e w):WQ n (Exit.noGoto Q) .ret e w:=⟨λa ha=>h.h a ha⟩
theorem JW {i:Nat} (h:WQ n Q (.exit i) e w):WQ n (Exit.noGoto Q) (.exit i) e w:=⟨λa ha=>h.h a ha⟩
end
def Z06:Str:=[9,10,13,32]
theorem Z7T (c:UInt8):Z63 c=decide (c∈Z06):=by
 unfold Z63 Z06;rw [Yac];simp [or_assoc]
theorem Z7U (l:Str) (c:UInt8):decide (0<=Lib.indexByte l c)=decide (c∈l):=by
 rw [decide_eq_decide]
 induction l with
 | nil=>simp [Lib.indexByte]
 | cons a r ih=>
   unfold Lib.indexByte;by_cases h:a=c;subst h;simp;have hb:(a == c)=false:=by simpa using h
   rw [hb];simp only [XP,if_false,Xb];have kH:=Lib.indexByte_ge r c;have h':¬ c=a:=λe=>h e.symm;split;rename_i h1;have:Lib.indexByte r c=-1:=by simpa using h1
   rw [<- ih];simp [h'];omega;rename_i h1;have h2:¬ Lib.indexByte r c=-1:=by simpa using h1
   have:0<=Lib.indexByte r c:=by omega
   simp [h',ih.1 this];omega
theorem ZvF (s:Str) (a b:UInt8):Lib.hasPrefix s [a,b]=decide (s.take 2=[a,b]):=by
 unfold Lib.hasPrefix
 match s with
 | []=>rfl
 | [x]=>simp [List.isPrefixOf]
 | x :: y :: r=>
   rw [Yac];simp only [List.isPrefixOf,Ybf,Xm,beq_iff_eq,decide_eq_true_eq,YaX,YbI,Ybj,and_true];constructor;rintro ⟨rfl,rfl⟩;exact ⟨rfl,rfl⟩;rintro ⟨rfl,rfl⟩;exact ⟨rfl,rfl⟩
theorem ZbB {s:Str} (aU:s≠[]) (h:s.all J3=true):Lib.atoiAll s=if Z1A s<=9223372036854775807 then .ok (Z1A s:Int) else .range:=by
 have key:∀ (s:Str) (acc N:Nat),acc<18446744073709551616->s.all J3=true->s.foldl (λn c=>10 * n+(c.toNat - 48)) acc=N->Lib.parseUint10 acc s=if N<18446744073709551616 then .ok N else .range:=by
  intro s
  induction s with
  | nil=>
    intro acc N ha _ hN;have:acc=N:=hN;subst this;rw [if_pos ha];rfl
  | cons c r ih=>
    intro acc N ha h hN;simp only [Ya1,Xm] at h;have hc:48<=c.toNat/\c.toNat<=57:=by simpa [J3] using h.1
    have mV:∀ (r:Str) (a:Nat),a<=r.foldl (λn c=>10 * n+(c.toNat - 48)) a:=by
     intro r
     induction r with
     | nil=>intro a;exact Xn _
     | cons x q ihq=>intro a;have:=ihq (10 * a+(x.toNat - 48));simp only [X5];omega
    have h1:=mV r (10 * acc+(c.toNat - 48));have sZ:r.foldl (λn c=>10 * n+(c.toNat - 48)) (10 * acc+(c.toNat - 48))=N:=hN;rw [sZ] at h1;simp only [Lib.parseUint10];rw [if_pos hc];split;rw [if_neg (by omega)];split;rw [if_neg (by omega)];rw [show acc * 10+(c.toNat - 48)=10 * acc+(c.toNat - 48) by omega];exact ih _ _ (by omega) h.2 sZ
 obtain ⟨c,r,rfl⟩:∃ c r,s=c :: r:=by cases s with|nil=>exact absurd rfl aU|cons c r=>exact ⟨c,r,rfl⟩
 have hk:=key (c :: r) 0 (Z1A (c :: r)) (by omega) h rfl;have cU:48<=c.toNat/\c.toNat<=57:=by
  simp only [Ya1,Xm] at h;simpa [J3] using h.1
 unfold Lib.atoiAll;simp only;rw [if_neg (by omega)];unfold Lib.parseMag;rw [if_neg (by simp),hk];by_cases h1:Z1A (c :: r)<18446744073709551616;rw [if_pos h1];simp only;by_cases h2:Z1A (c :: r)<=9223372036854775807;rw [if_pos h2,if_neg (by omega),if_neg (by omega),if_neg (by omega)];rw [if_neg h2,if_pos (by omega)];rw [if_neg h1,if_neg (by omega)]
end Go.Eng
namespace Go.Proofs.YtipfkbkkndacjaaGreatDoor
open Go Go.Eng Go.RowKit Go.Proofs
theorem ZbC (c:UInt8):((c.toNat:Int)).toNat.toUInt8=c:=by
 rw [Ybu];exact UInt8.ofNat_toNat
theorem Z6J (s:Str) (c:UInt8) (w):CC 273 #[str s,.int .u8 (c.toNat:Int)] w λr w'=>r=.I (Lib.indexByte s c)/\w'=w:=by
 refine (Tryz.strings_IndexByte ⟨s.toArray⟩ (c.toNat:Int) w).mono ?_;rintro e w' ⟨rfl,rfl⟩;refine .mk ⟨?_,rfl⟩;rw [ZbC]
theorem Z2q (s:Str) (a b:UInt8) (w):CC 96 #[str s,str [a,b]] w λr w'=>r=.B (decide (s.take 2=[a,b]))/\w'=w:=by
 refine (Tryz.strings_HasPrefix ⟨s.toArray⟩ ⟨([a,b]:Str).toArray⟩ w).mono ?_;rintro e w' ⟨rfl,rfl⟩;refine .mk ⟨?_,rfl⟩;rw [<- ZvF]
theorem ZbD {P:Program} {n:Nat} {Q:Exit->Act->World->Prop} {e:Env} {w} {ops:Array Oper} {rest:List Oper} {ak:Nat} {ty:TypeId} {pos:String} {af:Array Edge} {src dst:TypeId} {x:Operand} {k:IntKind} {z:Int} {D:TypeDesc} [hs:Und P src D] [hd:Und P dst .string]
 (hx:ev e x=some (.int k z)) (aw:Nat.blt ak n=true) (kk:WL P n ops Q rest ((ak,str (Utf8.encode z).data.toList) :: e) w):WL P n ops Q (⟨some ak,.convert src dst x,ty,pos,af,none⟩ :: rest) e w:=by
 refine Z8 (v:=str (Utf8.encode z).data.toList) ⟨λa ha=>?_⟩ aw kk;have:=run_convert_int_string (P:=P) w src dst k z (by rw [hs.h];rfl) hd.h;simp [execOp,ha.ev hx,this]
theorem ZwG (c:Nat) (h1:128<=c) (h2:c<256):(Utf8.encode (c:Int)).data.toList=[UInt8.ofNat (192+c / 64),UInt8.ofNat (128+c % 64)]:=by
 have hv:Utf8.valid (c:Int)=true:=by
  unfold Utf8.valid;simp only [YaE,Xm,decide_eq_true_eq];omega
 unfold Utf8.encode;simp only [hv,if_true,Ybu];rw [if_neg (by omega),if_pos (by omega)]
theorem ZnL:∀ c∈Z06,c.toNat<128:=by decide
theorem Zak (c:Nat) (w) (h1:128<=c) (h2:c<256):CC 274 #[str Z06,.int .i32 (c:Int)] w λr w'=>r=.I (-1)/\Stp [] w w':=by
 have he:=ZwG c h1 h2;have hb:128<=(UInt8.ofNat (128+c % 64)).toNat:=by simp;omega
 generalize UInt8.ofNat (192+c / 64)=b0 at he;generalize UInt8.ofNat (128+c % 64)=b1 at he hb;have oH:Lib.validRune (c:Int)=true:=decide_eq_true (by omega);refine cW2 187 Tryz.func274 ?_;refine QO ?_;refine Z0 (Z4 rfl (ZN rfl) ((Tryz.utf8_ValidRune (c:Int) _).mono (λe w' h=>(show Ret (λr w'=>r=.B true/\w'=_) e w' from by
  obtain ⟨rfl,rfl⟩:=h;exact .mk ⟨by rw [oH],rfl⟩)))) rfl ?_
 rintro _ wv ⟨rfl,jh⟩;subst wv;refine W ?_;refine Z7S ?_;refine W ?_;refine ZbD rfl rfl ?_;rw [he];have dR:([b0,b1]:Str).length=2:=rfl;have oI:Z06.length=4:=rfl;refine W ?_;refine Zr (σ:=Unit) (λ_=>[(0,str Z06),(7,str [b0,b1]),(8,.I ((([b0,b1]:Str).length:Int) - 1)),(9,.I ((([b0,b1]:Str).length:Int) - 1))]) (λ_ w'=>Stp [] w w') (λ_=>0) () ⟨rfl,rfl,rfl,rfl,trivial⟩ (Stp.refl _ _) ?_;rintro _ w1 hS;refine QO ?_;refine Z7S ?_;refine QO ?_;refine ZDr 7 [] [] [(0,0),(1,0),(2,0),(3,0),(4,0),(5,0),(6,0)] (λw1 ae=>?_);replace hS:=hS.trans ae;clear ae;refine D ?_;have hx:¬ Jb Z06 (([b0,b1]:Str).length - Nat.succ 0)=Jb [b0,b1] (([b0,b1]:Str).length - Nat.succ 0):=by
  show ¬ (10:Int)=(b1.toNat:Int)
  omega
 (refine QP ?_ ?_<;>intro hc)
 rotate_left
 exact absurd hx (by assumption);have jV:Jb [b0,b1] (([b0,b1]:Str).length - Nat.succ 0)=(b1.toNat:Int):=rfl;have fF:b1∉(Z06.drop 2):=λh=>by
  have:=ZnL b1 (YaG h);omega
 have kI:Lib.indexByte (Z06.drop 2) b1<0:=by
  have:=Z7U (Z06.drop 2) b1;rw [decide_eq_decide] at this;have h0:¬ 0<=Lib.indexByte (Z06.drop 2) b1:=λh=>fF (this.1 h);omega
 refine ZDr 9 [] [] [(0,0),(1,0),(2,0),(3,0),(4,0),(5,0),(6,0),(7,2),(8,0)] (λw1 ae=>?_);replace hS:=hS.trans ae;clear ae;refine D ?_;refine Zba (l:=2) rfl trivial rfl rfl (by omega) (by omega) rfl ?_;refine D ?_;rw [jV];refine DC (Z6J (Z06.drop 2) b1 _) (λ_ _ h=>by rw [h.2];exact Stp.refl _ _) ?_;rintro _ w5 ⟨rfl,sS⟩;subst w5;refine D ?_;refine QO ?_
 repeat (first|refine JO ?_|refine W1 ?_)
 refine RU ?_;exact ⟨rfl,hS⟩
theorem Zal (c:UInt8) (w):CC 216 #[str Z06,.int .i32 (c.toNat:Int)] w λr w'=>r=.B (Z63 c)/\Stp [] w w':=by
 by_cases h:c.toNat<128;refine (Tryz.strings_ContainsRune_ascii ⟨Z06.toArray⟩ (c.toNat:Int) w (by omega) (by omega)).mono ?_;rintro e w' ⟨rfl,rfl⟩;refine .mk ⟨?_,Stp.refl _ _⟩;rw [ZbC,Z7T];exact congrArg Value.bool (Z7U Z06 c);have hc:=c.toNat_lt;have bB:Z63 c=false:=by
  rw [Z7T,decide_eq_false_iff_not];intro hm;exact h (ZnL c hm)
 refine cW2 9 Tryz.func216 ?_;refine W ?_;refine CM (Zf rfl rfl) (Zak c.toNat _ (by omega) (by omega)) ?_;rintro _ w1 ⟨rfl,hS⟩;refine RT ?_;exact ⟨by rw [bB];rfl,hS⟩
def Z74:Str:=[32,114,117,108,101,32,102,114,111,109,32,111,110,32,105,102,32,100,117,101,32,117,110,108,101,115,115,32,101,108,115,101,32,111,114,32,97,110,100,32,110,111,116,32,116,114,117,101,32,102,97,108,115,101,32,116,104,101,110,32,101,110,100,32,100,97,121,115,32,119,101,101,107,115,32,109,111,110,116,104,115,32,99,111,117,114,116,100,97,121,115,32,110,101,120,116,32,112,114,101,118,32,108,97,116,101,114,32,101,97,114,108,105,101,114,32,98,101,116,119,101,101,110,32]
def Zam:List Str:=[[114,117,108,101],[102,114,111,109],[111,110],[105,102],[100,117,101],[117,110,108,101,115,115],[101,108,115,101],[111,114],[97,110,100],[110,111,116],[116,114,117,101],[102,97,108,115,101],[116,104,101,110],[101,110,100],[100,97,121,115],[119,101,101,107,115],[109,111,110,116,104,115],[99,111,117,114,116,100,97,121,115],[110,101,120,116],[112,114,101,118],[108,97,116,101,114],[101,97,114,108,105,101,114],[98,101,116,119,101,101,110]]
theorem Z68:∀ (s sub:List UInt8),0<=Lib.index s sub↔∃ i,i<=s.length/\sub.isPrefixOf (s.drop i)=true
 | [], sub => by
   unfold Lib.index;cases sub with
   | nil=>simp
   | cons a l=>simp
 | b :: l, sub => by
   have ih:=Z68 l sub;have kH:=Lib.index_ge l sub;unfold Lib.index;by_cases hp:sub.isPrefixOf (b :: l)=true;rw [if_pos hp];exact ⟨λ_=>⟨0,by omega,hp⟩,λ_=>by omega⟩;rw [if_neg hp];have e:(0:Int)<=(if (Lib.index l sub == -1)=true then -1 else Lib.index l sub+1)↔0<=Lib.index l sub:=by
    by_cases h1:Lib.index l sub=-1;rw [if_pos (by simpa using h1)];omega;rw [if_neg (by simpa using h1)];omega
   rw [e,ih];constructor;rintro ⟨i,hi,h⟩;exact ⟨i+1,by simpa using hi,h⟩
   . rintro ⟨i,hi,h⟩
     cases i with
     | zero=>exact absurd h hp
     | succ i=>exact ⟨i,by simpa using hi,h⟩
theorem Z69:∀ (t r:List UInt8),(∀ c∈t,c≠32)->(t++[32]).isPrefixOf r=true->r.takeWhile (λc=>decide (c≠32))=t
 | [], r, _, h => by
   cases r with
   | nil=>simp at h
   | cons a l=>
     simp [List.isPrefixOf] at h;subst h;rfl
 | c :: t, r, hc, h => by
   cases r with
   | nil=>simp at h
   | cons a l=>
     simp only [XS,List.isPrefixOf,Xm,beq_iff_eq] at h;obtain ⟨rfl,h⟩:=h;have h1:=hc c (by simp);rw [List.takeWhile_cons_of_pos (by simpa using h1),Z69 t l (λx hx=>hc x (by simp [hx])) h]
theorem Zfy:∀ i∈List.range (Z74.length+1),(Z74.drop i).head?=some 32->(Z74.drop (i+1)).takeWhile (λc=>decide (c≠32))∈Zam\/(Z74.drop (i+1)).takeWhile (λc=>decide (c≠32))=[]:=by decide +kernel
theorem Zmf:∀ t∈Zam,Lib.contains Z74 (32 :: t++[32])=true:=by decide +kernel
theorem Zmg {t:Str} (h0:t≠[]) (hc:∀ c∈t,c≠32):Lib.contains Z74 (32 :: t++[32])=decide (t∈Zam):=by
 by_cases ht:t∈Zam;rw [Zmf t ht,decide_eq_true ht]
 . rw [decide_eq_false ht]
   unfold Lib.contains;rw [decide_eq_false_iff_not,Z68];rintro ⟨i,hi,h⟩;cases hd:Z74.drop i with
   | nil=>rw [hd] at h;simp at h
   | cons a l=>
     rw [hd] at h;simp only [XS,List.isPrefixOf,Xm,beq_iff_eq] at h;obtain ⟨rfl,h⟩:=h;have hl:Z74.drop (i+1)=l:=by
      have:=congrArg List.tail hd;simpa [List.tail_drop] using this
     have hw:=Z69 t l hc h;have:=Zfy i (Ybr.2 (by omega)) (by rw [hd];rfl);rw [hl,hw] at this;exact this.elim ht h0
abbrev Zj2 (c:Int):Prop:=(97<=c/\c<=122)\/(48<=c/\c<=57)
def Z3F (s:Str):Bool:=decide (0<s.length/\s.length<=12/\97<=Jb s 0/\Jb s 0<=122/\∀ i,i<s.length->Zj2 (Jb s i))
def ZB (s:Str):Bool:=Z3F s && decide (s∉Zam/\s∉Ze)
theorem Z5r (a b:Str) (m:Int) (w:World) (ha:a.length<4294967281) (hm:w.cell? ⟨2,0,none⟩=some (.I m)) :
 CC 227 #[str a,str b] w λr w'=>r=.B (Lib.contains a b)/\Stp [] w w':=by
 refine (Tryz.strings_Contains ⟨a.toArray⟩ ⟨b.toArray⟩ m w (by rw [Z0l];exact ha) hm).mono ?_;rintro e w' ⟨rfl,rfl⟩;exact .mk ⟨rfl,Stp.refl _ _⟩
theorem ZbE {l:List Str} {s:Str}:0<=idx (isS s) l↔s∈l:=by
 unfold idx;cases h:l.findIdx? (isS s) with
 | none=>
   rw [Yab] at h;simp only;constructor;intro h1;omega;intro h1;have:=h s h1;simp [isS] at this
 | some i=>
   obtain ⟨hi,hp,_⟩:=X6.1 h;simp only;constructor;intro _;have:l[i]=s:=by simpa [isS] using hp
   rw [<- this];exact Xd hi;intro _;omega
theorem Z8K (X:List Nat) (v:Value) (l:List Str) (a:Str) (w) (hs:SlV X w v l) :
 CC 228 #[v,str a] w λr w'=>r=.B (decide (a∈l))/\Stp [] w w':=by
 refine cW2 9 Tryz.func228 ?_;refine W ?_;refine CL (Z92 X v l a _ hs) ?_;rintro _ w1 ⟨rfl,hS⟩;refine RT ?_;exact ⟨by congr 1;exact decide_eq_decide.2 ZbE,hS⟩
theorem Z2x (s:Str) (m:Int) (w) (hF:SlV [] w Z2m Ze) (hm:w.cell? ⟨2,0,none⟩=some (.I m)) :
 CC 167 #[str s] w λr w'=>r=.B (ZB s)/\Stp [] w w':=by
 refine cW1 55 Tryz.func167 ?_;refine W ?_;by_cases h0:s.length≠0/\s.length<=12/\97<=Jb s 0/\Jb s 0<=122
 case neg=>
  have hn:ZB s=false:=by
   unfold ZB Z3F;rw [decide_eq_false (λh=>h0 ⟨by omega,h.2.1,h.2.2.1,h.2.2.2.1⟩)];rfl
  by_cases hl:s.length≠0;focus repeat'(first|refine W1 ?_|omega|refine VG ?_ ?_<;>intro hg|refine VC ?_ ?_<;>intro hc)
  refine RU ?_;exact ⟨by rw [hn],Stp.refl _ _⟩;refine RU ?_;exact ⟨by rw [hn],Stp.refl _ _⟩;refine J5 (i:=0) rfl rfl rfl (by omega) rfl ?_
  (refine QP ?_ ?_<;>intro hg)
  refine RU ?_;exact ⟨by rw [hn],Stp.refl _ _⟩;refine J5 (i:=0) rfl rfl rfl (by omega) rfl ?_;refine RT ?_;exact ⟨by rw [hn],Stp.refl _ _⟩;obtain rfl:s=[]:=Xv.1 (by omega);refine RT ?_;exact ⟨by rw [hn],Stp.refl _ _⟩
 obtain ⟨h1,h2,h3,h4⟩:=h0;have aU:¬ s=[]:=λh=>by rw [h] at h1;exact h1 rfl
 (refine QP ?_ ?_<;>intro hg)
 exact absurd (by assumption) aU;refine J5 (i:=0) rfl rfl rfl (by omega) rfl ?_;refine QO ?_;refine J5 (i:=0) rfl rfl rfl (by omega) rfl ?_;refine QO ?_;refine Z0 (Zbz rfl (by omega)) rfl ?_;rintro bv w1 ⟨hb,hS⟩;replace hb:=hb [] (by simp);have kJ:=hb.max;refine QO ?_;refine LP (σ:=Nat) (λi=>[(0,str s),(23,bv),(24,.I (s.length:Int)),(25,.I (i:Int))]) (λi w'=>i<=s.length/\Stp [] w1 w'/\∀ j,j<i->Zj2 (Jb s j)) (λi=>s.length - i) 0 ⟨Xq _,Stp.refl _ _,λj hj=>absurd hj (Xt _)⟩ ?_;rintro i w2 ⟨hi,ah,aA⟩
 try dsimp only at hi aA ⊢
 replace hb:=hb.up ah;replace hS:=hS.trans ah;by_cases hlt:i<s.length;have oJ:Jb s i=(s[i].toNat:Int):=Go.Eng.byte_at hlt;by_cases cQ:(97<=(s[i].toNat:Int)/\(s[i].toNat:Int)<=122)\/(48<=(s[i].toNat:Int)/\(s[i].toNat:Int)<=57)
 . have iv:∀ j,j<i+1->Zj2 (Jb s j):=λj hj=>by
    by_cases e:j=i;subst e;rw [oJ];exact cQ;exact aA j (by omega)
   repeat'(first|refine W1 ?_|omega|refine VG ?_ ?_<;>intro hg|refine VC ?_ ?_<;>intro hc)
   all_goals exact QL (i+1) ⟨hlt,ah,iv⟩ (XN hlt (XT i))
 . have hn:ZB s=false:=by
    unfold ZB Z3F;rw [decide_eq_false (λh=>cQ (by have:=h.2.2.2.2 i hlt;rw [oJ] at this;exact this))];rfl
   repeat'(first|refine W1 ?_|omega|refine VG ?_ ?_<;>intro hg|refine VC ?_ ?_<;>intro hc)
   all_goals
    refine RU ?_;exact ⟨by rw [hn],hS⟩
 obtain rfl:i=s.length:=by omega
 have aO:Z3F s=true:=decide_eq_true ⟨by omega,h2,h3,h4,aA⟩;have bB:∀ c∈s,c≠32:=λc hc h=>by
  obtain ⟨j,hj,rfl⟩:=Xr hc;have h5:=aA j hj;rw [Go.Eng.byte_at hj,h] at h5;exact absurd h5 (by decide)
 have iw:Z74.length<4294967281:=by
  have:Z74.length<=200:=by decide +kernel
  omega
 have az:Lib.contains Z74 ([32]++s++[32])=decide (s∈Zam):=Zmg aU bB;refine QO ?_;refine Z49 rfl rfl (by simp;omega) rfl ?_;repeat'(first|refine W1 ?_|omega|refine VG ?_ ?_<;>intro hg|refine VC ?_ ?_<;>intro hc)
 refine Z49 rfl rfl (by simp;omega) rfl ?_;repeat'(first|refine W1 ?_|omega|refine VG ?_ ?_<;>intro hg|refine VC ?_ ?_<;>intro hc)
 refine CM (Zf rfl rfl) (Z5r Z74 ([32]++s++[32]) m _ iw (hS.cell (by simp) hm)) ?_;rintro _ w3 ⟨rfl,am⟩;rw [az];replace hS:=hS.trans am;by_cases hr:s∈Zam;have hn:ZB s=false:=by
  unfold ZB;rw [decide_eq_false (λh=>h.1 hr),YbJ]
 rw [decide_eq_true hr];refine RT ?_;exact ⟨by rw [hn],hS⟩;rw [decide_eq_false hr];refine QO ?_;refine Zfb rfl rfl ?_;refine W ?_;refine CL (Z8K [] _ Ze s _ (hF.up hS)) ?_;rintro _ w4 ⟨rfl,aJ⟩;refine QO ?_;refine WR ?_;refine .mk ⟨?_,hS.trans aJ⟩;unfold ZB;rw [aO];by_cases hf:s∈Ze<;>simp [hr,hf]
theorem Z6a {l:List Tkn} {i:Nat} (h:i<l.length):cur l i=l[i]:=by simp [cur,List.getD,h]
def Pd (w:World) (b:Nat) (tv:Value) (l:List Tkn) (i o:Nat):Prop:=Blk w b 186 [tv,.I i,.I o]/\SlV [b] w tv l/\i<l.length/\l.length<=1000000/\o<=12
theorem Pd.up {w w':World} {b i o:Nat} {tv:Value} {l:List Tkn} (h:Pd w b tv l i o) (hS:Stp [] w w'):Pd w' b tv l i o:=by
 obtain ⟨h1,h2,h3⟩:=h;exact ⟨h1.up hS,h2.up hS,h3⟩
theorem Pd.lt {w} {b i o:Nat} {tv:Value} {l:List Tkn} (h:Pd w b tv l i o):b<w.heap.size:=by
 obtain ⟨h1,_⟩:=h;exact h1.lt
theorem Pd.i_lt {w} {b i o:Nat} {tv:Value} {l:List Tkn} (h:Pd w b tv l i o):i<l.length:=by
 obtain ⟨_,_,h1,_⟩:=h;exact h1
def Z4H (a c:Int):Value:=.iface 235 (.agg #[.I a,.I c])
def PE {α:Type} (r:Out α) (G:α->Nat->Nat->Value->World->Prop) (F:World->Prop) (e:Ending) (w':World):Prop:=
 match r with
 | .err a c=>e=.panicked [⟨Z4H a c,false,false⟩]/\F w'
 | .ok x i o=>Ret (G x i o) e w'
theorem ZR {P:Program} {n:Nat} {Q:Exit->Act->World->Prop} {e:Env} {w} {ops:Array Oper} {rest:List Oper} {d:Nat} {ty:TypeId} {pos:String} {af:Array Edge} {f:Nat} {fn:Func} {xs:Array Operand} {ts:Array TypeId} {vs:Array Value} {c:Operand} {ch:List PanicEntry} {F:World->Prop} [hf:Fun P f fn]
 (hc:ev e c=some (.func (.func f) #[] #[])) (hv:∀ a,Has n e a->xs.map a.eval=vs) (h:Calls P f vs w (λe w'=>e=.panicked ch/\F w')) (hd:Nat.blt d n=true) (k:∀ w',F w'->WQ n Q (.panic ch) [] w') :
 WL P n ops Q (⟨some d,.call { callee:=.value c,args:=xs,argTypes:=ts },ty,pos,af,none⟩ :: rest) e w:=
 Zaf (G:=λ_ _=>False) (F:=λch' w'=>ch'=ch/\F w') (Z7E hc hv (h.mono λe w' ⟨h1,h2⟩=>by rw [h1];exact .pan ⟨rfl,h2⟩)) hd (λch' w' ⟨h1,h2⟩=>by subst h1;exact Z98 (k w' h2)) (λ_ _ h=>h.elim)
theorem Zso (a c:Int) (w):(Instr.build 235 #[(0,.I a),(1,.I c)]).run Tryz.prog w=.ok (.agg #[.I a,.I c]) w:=by kernel_rfl
theorem Z0I (b:Nat) (tv:Value) (l:List Tkn) (i o:Nat) (w) (hp:Pd w b tv l i o) :
 CC 163 #[pQ b] w λr w'=>r=str (cur l i).text/\Stp [] w w':=by
 obtain ⟨hb,hs,hi,hl,ho⟩:=hp;rw [Z6a hi];refine cW1 14 Tryz.func163 ?_;refine W ?_;refine ZDr 12 [] [] [(0,0),(1,0),(2,0),(3,1),(4,0),(5,0),(6,0),(7,1),(8,0),(9,0),(10,1),(11,0)] (λw1 ae=>?_);replace hb:=hb.up ae;replace hs:=hs.up ae;refine D ?_;refine RT ?_;exact ⟨rfl,ae⟩
theorem Zj3 (b:Nat) (tv:Value) (l:List Tkn) (i o:Nat) (c:Int) (w) (hp:Pd w b tv l i o) :
 Calls Tryz.prog 159 #[pQ b,.I c] w (λe w'=>e=.panicked [⟨Z4H (cur l i).pos c,false,false⟩]/\Stp [] w w'):=by
 obtain ⟨hb,hs,hi,hl,ho⟩:=hp;rw [Z6a hi];refine cW2 18 Tryz.func159 ?_;refine W ?_;refine Z97 15 ([]) [] [(0,0),(1,0),(2,0),(3,1),(4,0),(5,0),(6,0),(7,1),(8,0),(9,0),(10,1),(11,0),(12,0),(13,0),(14,2)] rfl mixed (by kernel_rfl) (by kernel_rfl) (by kernel_rfl) (λw1 ae=>?_);replace hb:=hb.up ae;replace hs:=hs.up ae;refine JD rfl trivial (λ_=>ZM rfl) rfl ?_;refine JD rfl trivial (λ_=>Z3o rfl) rfl ?_;refine JD rfl trivial (λ_=>JJ rfl) rfl ?_;refine Z5h rfl trivial (λw' hw=>ZZ rfl rfl (hb.up hw) rfl) rfl ?_;refine JD rfl trivial (λ_=>ZM rfl) rfl ?_;refine JD rfl trivial (λ_=>Z3o rfl) rfl ?_;refine JD rfl trivial (λ_=>JJ rfl) rfl ?_;refine Z5h rfl trivial (λw' hw=>ZZ rfl rfl (hb.up hw) rfl) rfl ?_;refine JD rfl trivial (λ_=>Z2k rfl hs rfl rfl hi) rfl ?_;refine JD rfl trivial (λ_=>Z3l rfl (SlV.isSome hs hi)) rfl ?_;refine Z5h rfl trivial (λw' hw=>Z1J (u:=.I l[i].pos) rfl rfl (hs.up hw) hi rfl rfl) rfl ?_;refine JD rfl trivial (λ_=>ZM rfl) rfl ?_;refine JD rfl trivial (λ_=>Z0j (vs:=[(0,.I l[i].pos),(1,.I c)]) rfl (Zso _ _)) rfl ?_;refine JD rfl trivial (λ_=>Z60 rfl) rfl ?_;refine Zfo rfl trivial (Zfn rfl) ?_;refine ZD ?_;exact ⟨rfl,ae⟩
theorem Z3G (b:Nat) (tv:Value) (l:List Tkn) (s:Str) (i o:Nat) (w) (hp:Pd w b tv l i o) (hn:(cur l i).text=s->i+1<l.length) :
 CC 224 #[pQ b,str s] w λr w'=>r=.B (decide ((cur l i).text=s))/\Pd w' b tv l (if (cur l i).text=s then i+1 else i) o/\Stp [b] w w':=by
 refine cW2 16 Tryz.func224 ?_;refine W ?_;refine CL (Z0I b tv l i o _ hp) ?_;rintro _ w1 ⟨rfl,ae⟩;replace hp:=hp.up ae;obtain ⟨hb,hs,hi,hl,ho⟩:=hp;have aT:=hs.max;by_cases h:(cur l i).text=s;have bN:=hn h
 (refine QP ?_ ?_<;>intro hc)
 exact absurd h (by assumption);refine Z6 (Zb (u:=.I ((i+1:Nat):Int)) rfl (by show some _=some _;simp) rfl rfl hb (by simp)) ?_;rintro _ w2 ⟨hT,cu⟩;refine W ?_;refine WR ?_;rw [decide_eq_true h,if_pos h];exact .mk ⟨rfl,⟨cu,hs.ext hT (λc hc=>hc) (λc hc=>.inl hc),bN,hl,ho⟩,ae.mn.trans hT⟩
 (refine QP ?_ ?_<;>intro hc)
 refine WR ?_;rw [decide_eq_false h,if_neg h];exact .mk ⟨rfl,⟨hb,hs,hi,hl,ho⟩,ae.mn⟩;exact absurd h (by assumption)
def PC {α:Type} (b:Nat) (w:World) (tv:Value) (l:List Tkn) (r:Out α) (G:α->Value->World->Prop) (e:Ending) (w':World):Prop:=
 PE r (λx i o v w'=>G x v w'/\Pd w' b tv l i o/\Stp [b] w w') (λw'=>Stp [b] w w') e w'
theorem PC.ok {α:Type} {b:Nat} {w w':World} {tv:Value} {l:List Tkn} {x:α} {i o:Nat} {G:α->Value->World->Prop} {v:Value} (hG:G x v w') (hp:Pd w' b tv l i o) (hS:Stp [b] w w'):PC b w tv l (.ok x i o) G (.returned v) w':=⟨v,rfl,hG,hp,hS⟩
theorem PC.err {α:Type} {b:Nat} {w w':World} {tv:Value} {l:List Tkn} {a c:Int} {G:α->Value->World->Prop} (hS:Stp [b] w w'):PC b w tv l (.err a c) G (.panicked [⟨Z4H a c,false,false⟩]) w':=⟨rfl,hS⟩
theorem PC.fail {α:Type} {b:Nat} {w w':World} {tv:Value} {l:List Tkn} {i:Nat} {c:Int} {G:α->Value->World->Prop} (hS:Stp [b] w w'):PC b w tv l (Z19 l i c) G (.panicked [⟨Z4H (cur l i).pos c,false,false⟩]) w':=⟨rfl,hS⟩
theorem Z9h (b:Nat) (tv:Value) (l:List Tkn) (i o:Nat) (c:Int) (w w0:World) (hp:Pd w b tv l i o) (hS:Stp [b] w0 w) :
 Calls Tryz.prog 159 #[pQ b,.I c] w (λe w'=>e=.panicked [⟨Z4H (cur l i).pos c,false,false⟩]/\Stp [b] w0 w'):=
 (Zj3 b tv l i o c w hp).mono λe w' ⟨h1,h2⟩=>⟨h1,hS.trans h2.mn⟩
theorem PC.goes {α:Type} {b f:Nat} {args:Array Value} {w} {tv:Value} {l:List Tkn} {x:α} {i o:Nat} {r:Out α} {G:α->Value->World->Prop} (h:Calls Tryz.prog f args w (PC b w tv l r G)) (hr:r=.ok x i o):CC f args w λv w'=>G x v w'/\Pd w' b tv l i o/\Stp [b] w w':=by
 subst hr;exact h
theorem PC.falls {α:Type} {b f:Nat} {args:Array Value} {w w0:World} {tv:Value} {l:List Tkn} {a c:Int} {r:Out α} {G:α->Value->World->Prop} (h:Calls Tryz.prog f args w (PC b w tv l r G)) (hr:r=.err a c) (hS:Stp [b] w0 w):Calls Tryz.prog f args w (λe w'=>e=.panicked [⟨Z4H a c,false,false⟩]/\Stp [b] w0 w'):=by
 subst hr;exact h.mono λe w' ⟨h1,h2⟩=>⟨h1,hS.trans h2⟩
theorem JI (b:Nat) (tv:Value) (l:List Tkn) (hL:Z3A l) (s:Str) (bg:s≠[]) (i o:Nat) (w) (hp:Pd w b tv l i o) :
 Calls Tryz.prog 160 #[pQ b,str s] w (PC b w tv l (Z0G l s i o) (λ_ v _=>v=.tuple #[])):=by
 have hn:(cur l i).text=s->i+1<l.length:=λh=>hL.end_of hp.i_lt (by rw [h];exact bg)
 unfold Z0G;refine cW2 10 Tryz.func160 ?_;refine W ?_;refine CL (Z3G b tv l s i o _ hp hn) ?_;rintro _ w1 ⟨rfl,fG,ae⟩;by_cases h:(cur l i).text=s;rw [if_pos h] at fG ⊢;rw [decide_eq_true h];refine W ?_;refine WR ?_;exact PC.ok rfl fG ae;rw [if_neg h] at fG ⊢;rw [decide_eq_false h];refine W ?_;refine ZR rfl (Zf rfl rfl) (Z9h b tv l i o 20 _ w fG ae) rfl ?_;intro w2 kj;focus repeat'(first|refine Zh ?_|refine Zg ?_)
 refine ZD ?_;exact PC.fail kj
theorem Z4h (C:Str) (W:List Str) (h1:∀ i∈List.range (C.length+1),(C.drop i).head?=some 32->(C.drop (i+1)).takeWhile (λc=>decide (c≠32))∈W\/(C.drop (i+1)).takeWhile (λc=>decide (c≠32))=[])
 (h2:∀ t∈W,Lib.contains C (32 :: t++[32])=true) {t:Str} (h0:t≠[]) (hc:∀ c∈t,c≠32):Lib.contains C (32 :: t++[32])=decide (t∈W):=by
 by_cases ht:t∈W;rw [h2 t ht,decide_eq_true ht]
 . rw [decide_eq_false ht]
   unfold Lib.contains;rw [decide_eq_false_iff_not,Z68];rintro ⟨i,hi,h⟩;cases hd:C.drop i with
   | nil=>rw [hd] at h;simp at h
   | cons a l=>
     rw [hd] at h;simp only [XS,List.isPrefixOf,Xm,beq_iff_eq] at h;obtain ⟨rfl,h⟩:=h;have hl:C.drop (i+1)=l:=by
      have:=congrArg List.tail hd;simpa [List.tail_drop] using this
     have hw:=Z69 t l hc h;have:=h1 i (Ybr.2 (by omega)) (by rw [hd];rfl);rw [hl,hw] at this;exact this.elim ht h0
def Zsp:Str:=[32,114,117,108,101,32,102,114,111,109,32,111,110,32,105,102,32,100,117,101,32,117,110,108,101,115,115,32,101,108,115,101,32,116,114,117,101,32,102,97,108,115,101,32,110,111,116,32,97,110,100,32,111,114,32,116,104,101,110,32,101,110,100,32,32,100,97,121,115,32,119,101,101,107,115,32,109,111,110,116,104,115,32,99,111,117,114,116,100,97,121,115,32,32,100,97,121,32,115,101,114,118,101,100,32,101,120,116,114,97,32,98,121,32,116,111,32,99,111,117,114,116,32,97,109,111,117,110,116,32,32,110,101,120,116,32,112,114,101,118,32,108,97,116,101,114,32,101,97,114,108,105,101,114,32,98,101,116,119,101,101,110,32]
def ZbF:Str:=[32,100,97,121,115,32,119,101,101,107,115,32,109,111,110,116,104,115,32,99,111,117,114,116,100,97,121,115,32]
def Zan:Str:=[32,100,97,121,32,115,101,114,118,101,100,32,101,120,116,114,97,32,98,121,32,116,111,32,99,111,117,114,116,32,97,109,111,117,110,116,32]
def Zet:Str:=[32,110,101,120,116,32,112,114,101,118,32,108,97,116,101,114,32,101,97,114,108,105,101,114,32,98,101,116,119,101,101,110,32]
theorem Zmh {t:Str} (h0:t≠[]) (hc:∀ c∈t,c≠32):Lib.contains Zsp (32 :: t++[32])=decide (t∈Zeo++Z4D++Z2R++Z4E):=Z4h Zsp _ (by decide +kernel) (by decide +kernel) h0 hc
theorem Zj4 {t:Str} (h0:t≠[]) (hc:∀ c∈t,c≠32):Lib.contains ZbF (32 :: t++[32])=decide (t∈Z4D):=Z4h ZbF _ (by decide +kernel) (by decide +kernel) h0 hc
theorem Zfz {t:Str} (h0:t≠[]) (hc:∀ c∈t,c≠32):Lib.contains Zan (32 :: t++[32])=decide (t∈Z2R):=Z4h Zan _ (by decide +kernel) (by decide +kernel) h0 hc
theorem Zj5 {t:Str} (h0:t≠[]) (hc:∀ c∈t,c≠32):Lib.contains Zet (32 :: t++[32])=decide (t∈Z4E):=Z4h Zet _ (by decide +kernel) (by decide +kernel) h0 hc
theorem Z2Z (C:Str) (ws:List Str) (hW:[]∉ws) (t:Str) (m:Int) (w:World) (hm:w.cell? ⟨2,0,none⟩=some (.I m)) (hC:C.length<=1000000) (oK:t.length<=4000)
 (qk:t≠[]->Lib.contains C (32 :: t++[32])=decide (t∈ws)) :
 CC 225 #[str C,str t] w λr w'=>r=.B (decide (t∈ws))/\Stp [] w w':=by
 refine cW2 14 Tryz.func225 ?_;by_cases h:t=[]
 . subst h
   refine QO ?_
   all_goals
    refine WR ?_;rw [decide_eq_false hW];exact .mk ⟨rfl,Stp.refl _ _⟩
 . have e1:Lib.contains C ([32]++t++[32])=decide (t∈ws):=qk h
   (refine QP ?_ ?_<;>intro hg)
   rotate_left
   exact absurd h (by assumption);refine Z49 rfl rfl (by simp;omega) rfl ?_;refine QO ?_;refine Z49 rfl rfl (by simp;omega) rfl ?_;refine QO ?_;refine CM (Zf rfl rfl) (Z5r C ([32]++t++[32]) m _ (by omega) hm) ?_;rintro _ w1 ⟨rfl,ae⟩;rw [e1];refine RT ?_;exact ⟨rfl,ae⟩
theorem Z4i (b:Nat) (tv:Value) (l:List Tkn) (hL:Z3A l) (k:Int) (hk:k≠0) (i o:Nat) (w) (hp:Pd w b tv l i o) :
 Calls Tryz.prog 162 #[pQ b,.I k] w (PC b w tv l (Z2Q l k i o) (λt v _=>v=aG t)):=by
 obtain ⟨hb,hs,hi,hl,ho⟩:=id hp;have hn:(cur l i).kind=k->i+1<l.length:=λh=>hL.end_of_kind hi (by rw [h];exact hk)
 have aT:=hs.max;have bg:=hs;unfold Z2Q;rw [Z6a hi] at hn ⊢;refine cW2 30 Tryz.func162 ?_;refine W ?_;refine Z0 Z2 rfl ?_;rintro _ w0 ⟨b4,rfl,bD,e4,bt⟩;have n4:b4≠b:=by have:=hb.lt;omega
 replace hb:=hb.up bt;replace hs:=hs.up bt;refine W ?_;refine ZDr 12 [] [11] [(0,0),(1,0),(2,0),(3,1),(4,0),(5,0),(6,0),(7,1),(8,0),(9,1),(10,2),(11,2)] (λw1 ae=>?_);replace hb:=hb.up ae;replace hs:=hs.up ae;replace e4:=e4.up ae;replace bt:=bt.trans ae;clear ae;refine D ?_;refine Za rfl trivial Z2 (λ_ _ ⟨_,_,_,_,h⟩=>h) rfl ?_;rintro _ w2 ⟨b5,rfl,ji,e5,ah⟩;have n5:b5≠b:=by have:=hb.lt;omega
 have n54:b5≠b4:=by have:=e4.lt;omega
 refine Jm rfl trivial (Zi (us:=Z3.enc l[i]) rfl rfl rfl rfl (Z3.one _) e5 rfl) rfl ?_;rintro _ w3 ⟨hT,e5⟩;have dI:=ah.ow hT;clear hT ah;replace hb:=hb.up dI;replace hs:=hs.up dI;replace e4:=e4.up dI;replace bt:=bt.trans dI;clear dI ji;refine D ?_;refine W ?_;have fM:Pd w3 b tv l i o:=⟨hb,hs,hi,hl,ho⟩
 by_cases h:l[i].kind=k;rw [if_pos h];have bN:=hn h;refine QO ?_;refine Z6 (Zb (u:=.I ((i+1:Nat):Int)) rfl (by show some _=some _;simp) rfl rfl hb (by simp)) ?_;rintro _ w4 ⟨hT,cu⟩;replace e4:=e4.ext hT (by simpa using n4);replace e5:=e5.ext hT (by simpa using n5);replace hs:=hs.ext (X':=[b]) hT (λc hc=>hc) (λc hc=>.inl hc);refine W ?_;refine SA (us:=Z3.enc l[i]) e4 ?_;rintro _ w5 ⟨dV,e4⟩;refine W ?_;refine J0 (cs:=Z3.enc l[i]) rfl rfl rfl e4 rfl ?_;have iP:=(bt.mn.trans hT).ow dV;exact PC.ok rfl ⟨cu.ext dV (by simpa using n4.symm),bg.ext iP (λc hc=>hc) (λc hc=>.inl hc),bN,hl,ho⟩ iP;rw [if_neg h];refine QO ?_;refine ZR rfl (Zf rfl rfl) (Z9h b tv l i o 20 _ w fM bt.mn) rfl ?_;intro w2 kj;focus repeat'(first|refine Zh ?_|refine Zg ?_)
 refine ZD ?_;exact PC.fail kj
theorem Ju {w w':World} {b:Nat} {m:Int} (hm:w.cell? ⟨2,0,none⟩=some (.I m)) (hb:b≠2) (hS:Stp [b] w w'):w'.cell? ⟨2,0,none⟩=some (.I m):=
 hS.cell (by simpa using λh=>hb h.symm) hm
theorem Zmi (t:Tkn) (w):(Instr.field 183 (aG t) 2).run Tryz.prog w=.ok (str t.text) w:=by kernel_rfl
theorem Zsq (t:Tkn) (w):(Instr.field 183 (aG t) 3).run Tryz.prog w=.ok (.I t.num) w:=by kernel_rfl
theorem Z5s (b:Nat) (tv:Value) (l:List Tkn) (hL:Z3A l) (i o:Nat) (m:Int) (w:World) (hm:w.cell? ⟨2,0,none⟩=some (.I m)) (hp:Pd w b tv l i o) :
 Calls Tryz.prog 161 #[pQ b] w (PC b w tv l (Z29 l i o) (λs v _=>v=str s)):=by
 unfold Z29;refine cW1 11 Tryz.func161 ?_;refine W ?_;refine CL (Z0I b tv l i o _ hp) ?_;rintro _ w1 ⟨rfl,ae⟩;have fG:=hp.up ae;refine W ?_;refine CM (Zf rfl rfl) (Z2Z Zsp (Zeo++Z4D++Z2R++Z4E) (by decide +kernel) (cur l i).text m _ (ae.cell (by simp) hm) (by decide +kernel) (hL.tl i) (λh=>Zmh h (hL.sp i))) ?_;rintro _ w2 ⟨rfl,ah⟩;have gW:=fG.up ah;have hS:=(ae.trans ah).mono (S':=[b]) (by simp);by_cases h:(cur l i).text∈Zeo++Z4D++Z2R++Z4E;rw [if_pos h,decide_eq_true h];refine W ?_;refine ZR rfl (Zf rfl rfl) (Z9h b tv l i o 20 _ w gW hS) rfl ?_;intro w3 mW;focus repeat'(first|refine Zh ?_|refine Zg ?_)
 refine ZD ?_;exact PC.fail mW
 . rw [if_neg h,decide_eq_false h]
   refine W ?_;cases hr:Z2Q l 1 i o with
   | err a c=>
     refine ZR rfl (Zf rfl rfl) (PC.falls (Z4i b tv l hL 1 (by decide) i o _ gW) hr hS) rfl ?_;intro w3 mW;repeat'(first|refine Zh ?_|refine Zg ?_)
     refine ZD ?_;exact PC.err mW
   | ok t i1 o1=>
     refine CM (Zf rfl rfl) (PC.goes (Z4i b tv l hL 1 (by decide) i o _ gW) hr) ?_;rintro _ w3 ⟨rfl,fM,am⟩;refine Z8 (Zbw rfl (Zmi t)) rfl ?_;refine W ?_;refine WR ?_;exact PC.ok rfl fM (hS.trans am)
theorem ZbG (s:Str) (w):CC 280 #[str s] w λr w'=>r=.I (Z62 s:Int)/\w'=w:=by
 unfold Z62;refine cW1 20 Tryz.func280 ?_;repeat'(first|refine W1 ?_|omega|refine VG ?_ ?_<;>intro hg|refine VC ?_ ?_<;>intro hc)
 all_goals refine WR ?_
 all_goals refine .mk ⟨?_,rfl⟩
 all_goals simp_all
theorem Zao (n:Int) (w) (h0:0<=n) (h1:n<=3652058):CC 60 #[.I n] w λr w'=>r=.tuple #[Zj0 (ofM n).y (ofM n).m (ofM n).d,.I 0]/\Stp [] w w':=by
 refine cW1 73 Tryz.func60 ?_;refine W ?_;refine Z0 Z2 rfl ?_;rintro _ w1 ⟨b2,rfl,cu,e2',hS⟩;have sL:=hS.size;refine QO ?_;unfold ofM;simp only;have kK:=Ya2 (n+306) (b:=146097) (by decide);have fA:=YaN (n+306) (b:=146097) (by decide);have he:(n+306) / 146097<=25/\0<=(n+306) / 146097:=by omega
 generalize (n+306) % 146097=doe at *;generalize (n+306) / 146097=era at *;obtain ⟨yoe,doy,e1,e2,hy,hd,-⟩:=ZiV doe kK fA;simp only [e1,e2];have s4:0<=(5 * (doy:Int)+2) / 153/\(5 * (doy:Int)+2) / 153<=11:=by omega
 refine QO ?_;refine Z7 (vs:=[(0,.I _),(1,.I _),(2,.I _)]) rfl (Z5q _ _ _) rfl ?_;refine Z0 Z2 rfl ?_;rintro _ w2 ⟨b10,rfl,eh,e10,hT⟩;have n2:b10≠b2:=by have:=e2'.lt;omega
 replace e2':=e2'.up hT;replace hS:=hS.trans hT;refine SB (us:=[.I _,.I _,.I _]) (by simp;exact ⟨rfl,rfl,rfl⟩) e10 ?_;rintro _ w3 ⟨hT,e10'⟩;replace e2':=e2'.ext hT (by simpa using n2.symm);replace hS:=hS.own hT (λc hc=>.inr (by simp at hc;have:=hS.size;omega));clear e10 hT
 (refine QP ?_ ?_<;>intro hc)
 rename_i hc;refine Z6 (Zb (u:=.I ((yoe:Int)+400 * era+1)) rfl rfl rfl rfl e10' (by simp)) ?_;rintro _ w4 ⟨hT,e10⟩;replace e10:Blk w4 b10 132 [.I ((yoe:Int)+400 * era+1),.I ((5 * (doy:Int)+2) / 153+3),.I ((doy:Int) - (153 * ((5 * (doy:Int)+2) / 153)+2) / 5+1)]:=e10;replace e2':=e2'.ext hT (by simpa using n2.symm);replace hS:=hS.ow hT;clear e10' hT;refine W ?_;refine Z6 (Zb (u:=.I ((5 * (doy:Int)+2) / 153 - 9)) rfl rfl rfl rfl e10 (by simp)) ?_;rintro _ w5 ⟨hT,e10'⟩;replace e10':Blk w5 b10 132 [.I ((yoe:Int)+400 * era+1),.I ((5 * (doy:Int)+2) / 153 - 9),.I ((doy:Int) - (153 * ((5 * (doy:Int)+2) / 153)+2) / 5+1)]:=e10';replace e2':=e2'.ext hT (by simpa using n2.symm);replace hS:=hS.ow hT;clear e10 hT;refine W ?_;refine Z6 (Zi (us:=[.I _,.I _,.I _]) rfl rfl rfl rfl (by simp;exact ⟨rfl,rfl,rfl⟩) e2' rfl) ?_;rintro _ w6 ⟨hT,e2⟩;replace hS:=hS.ow hT;refine W ?_;refine Zj rfl rfl rfl e2 rfl rfl ?_;refine .mk ⟨?_,hS⟩;rw [if_pos (by omega)];rename_i hc;refine Z6 (Zi (us:=[.I _,.I _,.I _]) rfl rfl rfl rfl (by simp;exact ⟨rfl,rfl,rfl⟩) e2' rfl) ?_;rintro _ w6 ⟨hT,e2⟩;replace hS:=hS.ow hT;refine W ?_;refine Zj rfl rfl rfl e2 rfl rfl ?_;refine .mk ⟨?_,hS⟩;rw [if_neg (by omega)]
theorem Z8L (n:Int) (w) (h0:0<=n) (h1:n<=9223372036854775807):CC 31 #[.I n] w λr w'=>r=str (Lib.itoa n)/\Stp [] w w':=by
 obtain ⟨u,rfl⟩:∃ u:Nat,n=(u:Int):=⟨n.toNat,by omega⟩
 have oL:Lib.itoa (u:Int)=Lib.decDigits u:=by unfold Lib.itoa;rw [if_neg (by omega)];rfl
 rw [oL];have ai:(Lib.decDigits u).length<=19:=Z4F 18 u (by omega);refine cW1 32 Tryz.func31 ?_;by_cases hz:(u:Int)=0;obtain rfl:u=0:=by omega
 focus repeat'(first|refine W1 ?_|omega|refine VG ?_ ?_<;>intro hg|refine VC ?_ ?_<;>intro hc)
 refine RU ?_;exact ⟨by rw [Lib.decDigits];rfl,Stp.refl _ _⟩;focus repeat'(first|refine W1 ?_|omega|refine VG ?_ ?_<;>intro hg|refine VC ?_ ?_<;>intro hc)
 refine Zr (σ:=Nat×Str) (λq=>[(0,.I (u:Int)),(3,str [48,49,50,51,52,53,54,55,56,57]),(4,str q.2),(5,.I (q.1:Int))]) (λq w'=>w'=w/\q.1<=u/\(if q.1=0 then [] else Lib.decDigits q.1)++q.2=Lib.decDigits u) (λq=>q.1) (u,[]) ⟨rfl,rfl,rfl,rfl,trivial⟩ ⟨rfl,Xn _,by simp only;rw [if_neg (by omega)];simp⟩ ?_;rintro ⟨k,s⟩ w1 ⟨rfl,hk,he⟩;dsimp only at hk he ⊢;have ax:s.length<=19:=by
  have:=congrArg List.length he;simp only [Xc] at this;omega
 by_cases fh:(k:Int)=0;obtain rfl:k=0:=by omega
 focus repeat'(first|refine W1 ?_|omega|refine VG ?_ ?_<;>intro hg|refine VC ?_ ?_<;>intro hc)
 refine RU ?_;exact ⟨by simpa using congrArg str he,Stp.refl _ _⟩;have ay:=ZiW k (by omega);rw [if_neg (by omega),ay,Xx] at he;focus repeat'(first|refine W1 ?_|omega|refine VG ?_ ?_<;>intro hg|refine VC ?_ ?_<;>intro hc)
 refine Z8 (Z2K (l:=k % 10) (r:=k % 10+1) rfl rfl rfl (by omega) (by omega) (by omega) (by show k % 10+1<=10;omega)) rfl ?_;rw [Zfs (k % 10) (by omega)];refine W ?_;refine Z49 rfl rfl (by simp;omega) rfl ?_;refine W ?_;refine Zw (k / 10,[UInt8.ofNat (48+k % 10)]++s) ⟨rfl,rfl,rfl,by simp only [Int.natCast_ediv];rfl,trivial⟩ ⟨rfl,by dsimp only;omega,by dsimp only;exact he⟩ (by dsimp only;omega)
end Go.Proofs.YtipfkbkkndacjaaGreatDoor
namespace Go.Eng
open Go Go.RowKit Go.Proofs
section
variable {P:Program} {n:Nat} {Q:Exit->Act->World->Prop} {e:Env} {w:World} {ops:Array Oper} {S:List Nat} {Lt:List Nat} {rest:List (Nat×Nat)}
theorem ZfA {i d:Nat} {ty:TypeId} {pos:String} {af:Array Edge} {gd:Option (Nat×Bool)} {f:Nat} {fn:Func} {xs:Array Operand} {ts:Array TypeId} {vs:Array Value} {c:Operand} {ch:List PanicEntry} {F:World->Prop} [hf:Fun P f fn]
 (hi:ops[i]?=some ⟨some d,.call { callee:=.value c,args:=xs,argTypes:=ts },ty,pos,af,gd⟩) (hg:JT ops e gd)
 (hc:ev e c=some (.func (.func f) #[] #[])) (hv:∀ a,Has n e a->xs.map a.eval=vs) (h:Calls P f vs w (λe w'=>e=.panicked ch/\F w')) (aw:Nat.blt d n=true) (k:∀ w',F w'->WQ n Q (.panic ch) [] w'):WDq P n ops S Lt Q ((i,2) :: rest) e w:=
 ZiL (G:=λ_ _=>False) (F:=λch' w'=>ch'=ch/\F w') hi hg (Z7E hc hv (h.mono λe w' ⟨h1,h2⟩=>by rw [h1];exact .pan ⟨rfl,h2⟩)) (λ_ _ h=>h.elim) aw (λch' w' ⟨h1,h2⟩=>by subst h1;exact k w' h2) (λ_ _ h=>h.elim)
end
end Go.Eng
namespace Go.Proofs.YtipfkbkkndacjaaGreatDoor
open Go Go.Eng Go.RowKit Go.Proofs
def Zj6 (f:Nat):Prop:=∀ (l:List Tkn) (hL:Z3A l) (m:Int) (c:Eng.Call) (i o:Nat) (r:Out Nd),J4 l f c i o=some r->
 ∀ (X:List Nat) (b:Nat) (tv:Value) (w:World),b≠2->b∈X->(∀ c∈X,c<w.heap.size)->w.cell? ⟨2,0,none⟩=some (.I m)->Pd w b tv l i o->
 match c with
 | .expr k=>1<=k->k<=8->Calls Tryz.prog 226 #[pQ b,.I (k:Int)] w (PC b w tv l r (λx v w'=>NdV X w' v x))
 | .prim=>Calls Tryz.prog 279 #[pQ b] w (PC b w tv l r (λx v w'=>NdV X w' v x))
 | .loop _ _=>True
theorem Zsr (s:Str) (p:Option Addr) (l c:Nat) (w):(Instr.build 97 #[(0,.I 6),(2,str s),(3,.slice p l c)]).run Tryz.prog w=.ok (.agg #[.I 6,.I 0,str s,.slice p l c]) w:=by kernel_rfl
theorem Z9i:([]:Str)∉Z4D:=by decide
theorem ZfB:ZbF.length<=1000000:=by decide
theorem ZbH (t:Str) (m:Int) (w:World) (hm:w.cell? ⟨2,0,none⟩=some (.I m)) (oK:t.length<=4000) (bB:∀ c∈t,c≠32) :
 CC 225 #[str ZbF,str t] w λr w'=>r=.B (decide (t∈Z4D))/\Stp [] w w':=
 Z2Z ZbF Z4D Z9i t m w hm ZfB oK (λh=>Zj4 h bB)
theorem ZvG (f:Nat) (IH:∀ f'≤f,Zj6 f') (l:List Tkn) (hL:Z3A l) (m:Int) (k i o:Nat) (r:Out Nd) (bG:1<=k) (hk:k<=7) (bB:¬ ((k=3/\(cur l i).text=[110,111,116])\/(k=7/\(cur l i).text=[45])))
 (h : (match J4 l f (.expr (k + 1)) i o with
   | none=>none
   | some (.err a c)=>some (.err a c)
   | some (.ok x i' o')=>J4 l f (.loop k x) i' o')=some r) (X:List Nat) (b:Nat) (tv:Value) (w:World) (aX:b≠2) (bT:b∈X) (hX:∀ c∈X,c<w.heap.size) (hm:w.cell? ⟨2,0,none⟩=some (.I m)) (hp:Pd w b tv l i o) :
 Calls Tryz.prog 226 #[pQ b,.I (k:Int)] w (PC b w tv l r (λx v w'=>NdV X w' v x)):=by
 have bg:=hp.2.1;refine cW2 98 Tryz.func226 ?_;refine W ?_;refine Z0 Z2 rfl ?_;rintro _ w1 ⟨b4,rfl,bD,e4,hS⟩;have n4:b4≠b:=by have:=hp.lt;omega
 replace hm:=hS.cell (by simp) hm;replace hp:=hp.up hS;have gX:∀ c∈X,c<w1.heap.size:=λc hc=>Xa (hX c hc) hS.size;refine Z2H ?_;refine Z44 ?_
 refine Zh2 (σ:=Unit) (λ_=>[(0,pQ b),(1,.I (k:Int)),(4,pQ b4)])
  (λ_ w'=>Pd w' b tv l i o/\(∃ cs:List Value,cs.length=4/\Blk w' b4 97 cs)/\w'.cell? ⟨2,0,none⟩=some (.I m)/\Stp [] w w') ?_ ?_
 by_cases k3:k=3
 . subst k3
   have ht:¬ (cur l i).text=[110,111,116]:=λe=>bB (.inl ⟨rfl,e⟩);refine W ?_;refine CL (Z0I b tv l i o _ hp) ?_;rintro _ w2 ⟨rfl,hT⟩;replace hp:=hp.up hT;replace e4:=e4.up hT;replace hm:=hT.cell (by simp) hm;replace hS:=hS.trans hT;repeat'(first|refine W1 ?_|omega|refine VG ?_ ?_<;>intro hg|refine VC ?_ ?_<;>intro hc)
   all_goals try exact absurd (by assumption) ht
   exact QT () ⟨hp,⟨_,rfl,e4⟩,hm,hS⟩
 by_cases k7:k=7
 . subst k7
   have ht:¬ (cur l i).text=[45]:=λe=>bB (.inr ⟨rfl,e⟩);refine W ?_;refine CL (Z0I b tv l i o _ hp) ?_;rintro _ w2 ⟨rfl,hT⟩;replace hp:=hp.up hT;replace e4:=e4.up hT;replace hm:=hT.cell (by simp) hm;replace hS:=hS.trans hT
   (refine QP ?_ ?_<;>intro hc)
   all_goals try exact absurd (by assumption) ht
   exact QT () ⟨hp,⟨_,rfl,e4⟩,hm,hS⟩
 refine QO ?_;exact QT () ⟨hp,⟨_,rfl,e4⟩,hm,hS⟩;clear hp e4 hm hS;rintro _ w2 ⟨hp,⟨cs4,fi,e4⟩,hm,hS⟩;have l4:=e4.lt;have ql:∀ c∈b4 :: X,c<w2.heap.size:=λc hc=>by
  rcases Xb.1 hc with rfl|h
  exact l4;exact Xa (hX c h) hS.size
 refine W ?_;cases hE:J4 l f (.expr (k+1)) i o with
 | none=>rw [hE] at h;simp at h
 | some r1=>
   rw [hE] at h;have bF:=IH f (Xn _) l hL m (.expr (k+1)) i o r1 hE (b4 :: X) b tv w2 aX (XE _ bT) ql hm hp (by omega) (by omega);cases r1 with
   | err a c=>
     simp only [XD] at h;subst h;refine ZR rfl (Zf rfl rfl) (PC.falls bF rfl hS.mn) rfl ?_;intro w3 mW;repeat'(first|refine Zh ?_|refine Zg ?_)
     refine ZD ?_;exact PC.err mW
   | ok x i1 o1=>
     simp only at h;refine CL (PC.goes bF rfl) ?_;rintro _ w3 ⟨⟨kx,rfl,hx⟩,fM,hT⟩;replace e4:=e4.ext hT (by simpa using n4);replace hm:=Ju hm aX hT;have s7:∀ c∈b4 :: X,c<w3.heap.size:=λc hc=>Xa (ql c hc) hT.size;have am:=(hS.mono (S':=[b]) (by simp)).trans hT;clear hT hS hp ql bF;refine Z0 Z2 rfl ?_;rintro _ w4 ⟨b7,rfl,fg,e7,hT⟩;have n74:b7≠b4:=by have:=e4.lt;omega
     have n7b:b7≠b:=by have:=fM.lt;omega
     have n71:b7≠2:=by have:=block_lt_of_cell hm;simp at this;omega
     refine SB (us:=ndC x kx) (ZC hx) e7 ?_;rintro _ w5 ⟨aq,e7'⟩;replace hT:=hT.ow aq;clear aq e7;have qm:w.heap.size<=b7:=Xg am.size fg;have jj:w.heap.size<=b4:=bD;replace e4:=e4.up hT;replace fM:=fM.up hT;replace hm:=hT.cell (by simp) hm;replace hx:SlV (b7 :: b4 :: X) w5 kx x.kids:=hx.ext hT (by simp) (λc hc=>by
      rcases Xb.1 hc with rfl|h
      exact .inr fg;exact .inl h)
     have aD:=am.trans hT.mn;clear hT am;have l7:=e7'.lt;have s8:∀ c∈b7 :: b4 :: X,c<w5.heap.size:=λc hc=>by
      rcases Xb.1 hc with rfl|h
      exact l7;have:=s7 c h;omega
     refine W ?_;clear s7 hE
     refine Zr (σ:=Nat×Nd×Value×Nat×Nat) (λq=>[(0,pQ b),(1,.I (k:Int)),(4,pQ b4),(7,pQ b7)])
      (λq w'=>J4 l q.1 (.loop k q.2.1) q.2.2.2.1 q.2.2.2.2=some r/\q.1<=f/\Pd w' b tv l q.2.2.2.1 q.2.2.2.2/\Blk w' b7 97 (ndC q.2.1 q.2.2.1)/\SlV (b7 :: b4 :: X) w' q.2.2.1 q.2.1.kids/\(∃ cs:List Value,cs.length=4/\Blk w' b4 97 cs)/\w'.cell? ⟨2,0,none⟩=some (.I m)/\Stp [b] w w'/\w5.heap.size<=w'.heap.size)
      (λq=>q.1) (f,x,kx,i1,o1) ⟨rfl,rfl,rfl,rfl,trivial⟩ ⟨h,Xn _,fM,e7',hx,⟨cs4,fi,e4⟩,hm,aD,Xn _⟩ ?_
     clear h fM e7' hx e4 hm aD l4 l7 fi cs4;rintro ⟨f1,y,ky,i2,o2⟩ w6 ⟨h,qn,hp,e7,hy,⟨cs4,fi,e4⟩,hm,hS,jk⟩;dsimp only at h qn hp e7 hy ⊢
     match cs4,fi with
     | [q0,q1,q2,q3],_=>
     cases f1 with
     | zero=>simp [J4] at h
     | succ f1=>
     rw [J4] at h;refine W ?_;refine CL (Z0I b tv l i2 o2 _ hp) ?_;rintro _ w7 ⟨rfl,hT⟩;replace hp:=hp.up hT;replace e4:=e4.up hT;replace e7:=e7.up hT;replace hy:=hy.up hT;replace hm:=hT.cell (by simp) hm;replace hS:=hS.trans hT.mn;replace jk:=Xg jk hT.size;clear hT;refine W ?_;refine CL (ZbG _ _) ?_;rintro _ _ ⟨rfl,rfl⟩;by_cases kE:Z62 (cur l i2).text=k
     . rw [if_pos kE] at h
       have bN:=hL.end_of hp.i_lt (Z7H kE bG);refine QO ?_;refine CL (Z0I b tv l i2 o2 _ hp) ?_;rintro _ w8 ⟨rfl,hT⟩;replace hp:=hp.up hT;replace e4:=e4.up hT;replace e7:=e7.up hT;replace hy:=hy.up hT;replace hm:=hT.cell (by simp) hm;replace hS:=hS.trans hT.mn;replace jk:=Xg jk hT.size;clear hT;obtain ⟨dj,bO,gI,cr,fj⟩:=id hp;refine W ?_;refine Z6 (Zb (u:=.I ((i2+1:Nat):Int)) rfl (by show some _=some _;simp) rfl rfl dj (by simp)) ?_;rintro _ w9 ⟨hT,dp⟩;replace bO:=bO.ext (X':=[b]) hT (λc hc=>hc) (λc hc=>.inl hc);replace e4:=e4.ext hT (by simpa using n4);replace e7:=e7.ext hT (by simpa using n7b);replace hy:=hy.ext (X':=b7 :: b4 :: X) hT (λc hc=>by simp at hc;subst hc;simp [bT]) (λc hc=>.inl hc);replace hm:=Ju hm aX hT;replace hS:=hS.trans hT;replace jk:=Xg jk hT.size;replace hp:Pd w9 b tv l (i2+1) o2:=⟨dp,bO,bN,cr,fj⟩
       clear hT dp bO gI cr fj dj;refine W ?_;have qo:∀ c∈b7 :: b4 :: X,c<w9.heap.size:=λc hc=>Xa (s8 c hc) jk;cases hE:J4 l f1 (.expr (k+1)) (i2+1) o2 with
       | none=>rw [hE] at h;simp at h
       | some r2=>
         rw [hE] at h;cases r2 with
         | err a c=>
           simp only [XD] at h;subst h;refine Z97 9 ([b]) [8] [(0,0),(1,1),(2,0),(3,0),(4,0),(5,2),(6,2),(7,0),(8,2)] rfl mixed (by kernel_rfl) (by kernel_rfl) (by kernel_rfl) (λw1 ae=>?_);replace hp:=hp.up ae;replace e7:=e7.up ae;replace hm:=ae.cell (by simp) hm;replace hS:=hS.trans ae.mn;have bF:=IH f1 (by omega) l hL m (.expr (k+1)) (i2+1) o2 _ hE (b7 :: b4 :: X) b tv w1 aX (by simp [bT]) (λc hc=>Xa (qo c hc) ae.size) hm hp (by omega) (by omega);refine JD rfl trivial (λ_=>ZM rfl) rfl ?_;refine Z5h rfl trivial (λw' hw=>ZW rfl rfl (e7.ext hw (by simpa using n7b)) rfl) rfl ?_;refine JD rfl trivial (λ_=>ZM rfl) rfl ?_;refine JD rfl trivial (λ_=>ZM rfl) rfl ?_;refine JD rfl trivial (λ_=>ZcU rfl rfl (by unfold I64;omega)) rfl ?_;refine ZfA rfl trivial rfl (Zf rfl rfl) (PC.falls bF rfl hS) rfl ?_;intro wz bV;repeat'(first|refine Zh ?_|refine Zg ?_)
           refine ZD ?_;exact PC.err bV
         | ok z i3 o3=>
           simp only at h;refine ZDr 9 ([b]) [8] [(0,0),(1,1),(2,0),(3,0),(4,0),(5,2),(6,2),(7,0),(8,2)] (λw1 ae=>?_);replace hp:=hp.up ae;replace e7:=e7.up ae;replace hy:=hy.up ae;replace e4:=e4.up ae;replace hm:=ae.cell (by simp) hm;replace hS:=hS.trans ae.mn;have s9:=Xg jk ae.size;have gX:∀ c∈b7 :: b4 :: X,c<w1.heap.size:=λc hc=>Xa (qo c hc) ae.size;have bF:=IH f1 (by omega) l hL m (.expr (k+1)) (i2+1) o2 _ hE (b7 :: b4 :: X) b tv w1 aX (by simp [bT]) gX hm hp (by omega) (by omega);clear ae qo jk;refine D ?_;refine DC (PC.goes bF rfl) (λ_ _ h=>h.2.2) ?_;rintro _ w10 ⟨⟨kz,rfl,hz⟩,bW,hT⟩;replace e4:=e4.ext hT (by simpa using n4);replace e7:=e7.ext hT (by simpa using n7b);replace hy:=hy.ext (X':=b7 :: b4 :: X) hT (λc hc=>by simp at hc;subst hc;simp [bT]) (λc hc=>.inl hc);replace hm:=Ju hm aX hT;replace hS:=hS.trans hT;have mX:=Xg s9 hT.size;have mY:∀ c∈b7 :: b4 :: X,c<w10.heap.size:=λc hc=>Xa (gX c hc) hT.size;clear hT hp gX s9 bF;obtain ⟨py,cy,rfl,-⟩:=id hy;obtain ⟨pz,cz,rfl,-⟩:=id hz;refine Za rfl trivial (Z1 (vs:=[(0,.agg (ndC y (.slice py y.kids.length cy)).toArray),(1,.agg (ndC z (.slice pz z.kids.length cz)).toArray)]) rfl (Zbo _ _ _ _ _ _ _ _ _ _ _ _)) (λ_ _ h=>(Z9.stp h).mn) rfl ?_;intro bv w11 hN;have an:SlV (b7 :: b4 :: X) w11 bv [y,z]:=hN.slvG (css:=[ndC y _,ndC z _]) mY rfl rfl rfl (ZnK hy hz) (by simp [maxLen]);obtain ⟨bn,rfl,lW,-,hT⟩:=id hN;replace bW:=bW.up hT;replace e4:=e4.up hT;replace e7:=e7.up hT;replace hm:=hT.cell (by simp) hm;replace hS:=hS.trans hT.mn;have mZ:=Xg mX hT.size;clear hT hN mY mX hy hz;refine Z2s rfl trivial (vs:=[(0,.I 6),(2,str (cur l i2).text),(3,.slice (some ⟨bn,0,none⟩) 2 2)]) rfl (Zsr _ _ _ _) rfl ?_;refine Jm rfl trivial (Zi (us:=ndC (.mk 6 0 (cur l i2).text [y,z]) (.slice (some ⟨bn,0,none⟩) 2 2)) rfl rfl rfl rfl (ZC an) e7 rfl) rfl ?_;rintro _ w12 ⟨hT,e7'⟩;have gJ:∀ S:List Nat,S=[b7]->∀ c∈S,w.heap.size<=c:=λS hS c hc=>by subst hS;simp at hc;subst hc;exact qm
           replace e4:=e4.ext hT (by simpa using n74.symm);replace bW:Pd w12 b tv l i3 o3:=by
            obtain ⟨g1,g2,g3,g4,g5⟩:=bW;have cH:=hS.own hT (λc hc=>.inr (gJ _ rfl c hc));exact ⟨g1.ext hT (by simpa using n7b.symm),bg.ext cH (λc hc=>hc) (λc hc=>.inl hc),g3,g4,g5⟩
           replace an:=an.ext (X':=b7 :: b4 :: X) hT (λc hc=>by simp at hc;simp [hc]) (λc hc=>.inl hc);replace hm:=hT.cell (by simpa using n71.symm) hm;replace hS:=hS.own hT (λc hc=>.inr (gJ _ rfl c hc));have cV:=Xg mZ hT.size;clear hT mZ;refine D ?_;by_cases k5:k=5;subst k5;refine W ?_;refine CL (Z0I b tv l i3 o3 _ bW) ?_;rintro _ w13 ⟨rfl,hT⟩;replace bW:=bW.up hT;replace e4:=e4.up hT;replace e7':=e7'.up hT;replace an:=an.up hT;replace hm:=hT.cell (by simp) hm;replace hS:=hS.trans hT.mn;replace cV:=Xg cV hT.size;clear hT;refine W ?_;refine CL (ZbH (cur l i3).text m _ hm (hL.tl i3) (hL.sp i3)) ?_;rintro _ w14 ⟨rfl,hT⟩;replace bW:=bW.up hT;replace e4:=e4.up hT;replace e7':=e7'.up hT;replace an:=an.up hT;replace hm:=hT.cell (by simp) hm;replace hS:=hS.trans hT.mn;replace cV:=Xg cV hT.size;clear hT;by_cases hu:(cur l i3).text∈Z4D;rw [if_pos ⟨rfl,hu⟩] at h;rw [decide_eq_true hu];have fw:=hL.end_of bW.i_lt (λe=>Z9i (e ▸ hu));refine W ?_;refine CL (Z0I b tv l i3 o3 _ bW) ?_;rintro _ w15 ⟨rfl,hT⟩;replace bW:=bW.up hT;replace e4:=e4.up hT;replace e7':=e7'.up hT;replace an:=an.up hT;replace hm:=hT.cell (by simp) hm;replace hS:=hS.trans hT.mn;replace cV:=Xg cV hT.size;clear hT;refine W ?_;refine Z6 (Zb (u:=.I 7) rfl rfl rfl rfl e7' (by simp)) ?_;rintro _ w16 ⟨hT,e7''⟩;refine W ?_;refine Z6 (Zb (u:=str (cur l i3).text) rfl rfl rfl rfl e7'' (by simp)) ?_;rintro _ w17 ⟨m0,e7q⟩;replace hT:=hT.trans m0;replace e7q:Blk w17 b7 97 (ndC (.mk 7 0 (cur l i3).text [y,z]) (.slice (some ⟨bn,0,none⟩) 2 2)):=e7q;clear m0 e7' e7'';replace e4:=e4.ext hT (by simpa using n74.symm);replace bW:Pd w17 b tv l i3 o3:=by
            obtain ⟨g1,g2,g3,g4,g5⟩:=bW;have cH:=hS.own hT (λc hc=>.inr (gJ _ rfl c hc));exact ⟨g1.ext hT (by simpa using n7b.symm),bg.ext cH (λc hc=>hc) (λc hc=>.inl hc),g3,g4,g5⟩
           replace an:=an.ext (X':=b7 :: b4 :: X) hT (λc hc=>by simp at hc;simp [hc]) (λc hc=>.inl hc);replace hm:=hT.cell (by simpa using n71.symm) hm;replace hS:=hS.own hT (λc hc=>.inr (gJ _ rfl c hc));replace cV:=Xg cV hT.size;clear hT;refine W ?_
           refine JE (σ:=Unit) (λ_=>[(0,pQ b),(1,.I (5:Int)),(4,pQ b4),(7,pQ b7)])
            (λ_ w'=>Blk w' b7 97 (ndC (.mk (if (cur l i2).text=[45] then 8 else 7) 0 (cur l i3).text [y,z]) (.slice (some ⟨bn,0,none⟩) 2 2))/\Stp [b7] w17 w') ?_ ?_
           by_cases jl:(cur l i2).text=[45]
           rw [if_pos jl]
           (refine QP ?_ ?_<;>intro hc)
           refine S1 (u:=.I 8) e7q ?_;rintro _ w18 ⟨hT,e8⟩;refine W ?_;exact QT () ⟨e8,hT⟩;exact absurd jl (by assumption);rw [if_neg jl]
           (refine QP ?_ ?_<;>intro hc)
           exact absurd (by assumption) jl;exact QT () ⟨e7q,Stp.refl _ _⟩;rintro _ w18 ⟨e8,hT⟩;replace e4:=e4.ext hT (by simpa using n74.symm);replace bW:Pd w18 b tv l i3 o3:=by
            obtain ⟨g1,g2,g3,g4,g5⟩:=bW;have cH:=hS.own hT (λc hc=>.inr (gJ _ rfl c hc));exact ⟨g1.ext hT (by simpa using n7b.symm),bg.ext cH (λc hc=>hc) (λc hc=>.inl hc),g3,g4,g5⟩
           replace an:=an.ext (X':=b7 :: b4 :: X) hT (λc hc=>by simp at hc;simp [hc]) (λc hc=>.inl hc);replace hm:=hT.cell (by simpa using n71.symm) hm;replace hS:=hS.own hT (λc hc=>.inr (gJ _ rfl c hc));replace cV:=Xg cV hT.size;clear hT e7q;obtain ⟨dj,bO,gI,cr,fj⟩:=id bW;refine W ?_;refine Z6 (Zb (u:=.I ((i3+1:Nat):Int)) rfl (by show some _=some _;simp) rfl rfl dj (by simp)) ?_;rintro _ w19 ⟨hT,dp⟩;replace bO:=bO.ext (X':=[b]) hT (λc hc=>hc) (λc hc=>.inl hc);replace e4:=e4.ext hT (by simpa using n4);replace e8:=e8.ext hT (by simpa using n7b);replace an:=an.ext (X':=b7 :: b4 :: X) hT (λc hc=>by simp at hc;subst hc;simp [bT]) (λc hc=>.inl hc);replace hm:=Ju hm aX hT;replace hS:=hS.trans hT;replace cV:=Xg cV hT.size;refine W ?_;exact Zw (f1,.mk (if (cur l i2).text=[45] then 8 else 7) 0 (cur l i3).text [y,z],.slice (some ⟨bn,0,none⟩) 2 2,i3+1,o3) ⟨rfl,rfl,rfl,rfl,trivial⟩ ⟨h,by omega,⟨dp,bO,fw,cr,fj⟩,e8,an,⟨_,rfl,e4⟩,hm,hS,cV⟩ (by omega);rw [if_neg (λh=>hu h.2),if_neg (by omega)] at h;rw [decide_eq_false hu];refine W ?_;exact Zw (f1,.mk 6 0 (cur l i2).text [y,z],.slice (some ⟨bn,0,none⟩) 2 2,i3,o3) ⟨rfl,rfl,rfl,rfl,trivial⟩ ⟨h,by omega,bW,e7',an,⟨_,rfl,e4⟩,hm,hS,cV⟩ (by omega);rw [if_neg (λh=>k5 h.1)] at h;by_cases k4:k=4;rw [if_pos k4] at h;subst k4;simp only [XD] at h;subst h;have e7:=e7';replace hp:=bW
           skip
           refine W ?_;refine SB (us:=ndC (.mk 6 0 (cur l i2).text [y,z]) (.slice (some ⟨bn,0,none⟩) 2 2)) (ZC an) e4 ?_;rintro _ wz ⟨hT,e4'⟩;refine W ?_;refine J0 rfl rfl rfl e4' rfl ?_;obtain ⟨dj,bO,gI,cr,fj⟩:=id hp;have cH:=hS.own hT (λc hc=>by simp at hc;subst hc;exact .inr jj);refine PC.ok ⟨_,rfl,?_⟩ ⟨dj.ext hT (by simpa using n4.symm),bg.ext cH (λc hc=>hc) (λc hc=>.inl hc),gI,cr,fj⟩ cH;exact (an.ext (X':=b7 :: b4 :: X) hT (λc hc=>by simp at hc;simp [hc]) (λc hc=>.inl hc)).wk (λc hc=>by simp [hc]);rw [if_neg k4] at h;refine QO ?_;exact Zw (f1,.mk 6 0 (cur l i2).text [y,z],.slice (some ⟨bn,0,none⟩) 2 2,i3,o3) ⟨rfl,rfl,rfl,rfl,trivial⟩ ⟨h,by omega,bW,e7',an,⟨_,rfl,e4⟩,hm,hS,cV⟩ (by omega)
     rw [if_neg kE] at h;simp only [XD] at h;subst h;refine QO ?_
     skip
     refine W ?_;refine SB (us:=ndC y ky) (ZC hy) e4 ?_;rintro _ wz ⟨hT,e4'⟩;refine W ?_;refine J0 rfl rfl rfl e4' rfl ?_;obtain ⟨dj,bO,gI,cr,fj⟩:=id hp;have cH:=hS.own hT (λc hc=>by simp at hc;subst hc;exact .inr jj);refine PC.ok ⟨_,rfl,?_⟩ ⟨dj.ext hT (by simpa using n4.symm),bg.ext cH (λc hc=>hc) (λc hc=>.inl hc),gI,cr,fj⟩ cH;exact (hy.ext (X':=b7 :: b4 :: X) hT (λc hc=>by simp at hc;simp [hc]) (λc hc=>.inl hc)).wk (λc hc=>by simp [hc])
end Go.Proofs.YtipfkbkkndacjaaGreatDoor
namespace Go.Eng
open Go Go.RowKit Go.Proofs
end Go.Eng
namespace Go.Proofs.YtipfkbkkndacjaaGreatDoor
open Go Go.Eng Go.RowKit Go.Proofs
theorem ZT {α:Type} [Z5 α] (X:List Nat) (w:World):SlV (α:=α) X w (.N) []:=⟨none,0,rfl,Xn _,by simp [maxLen],λ_=>rfl,λi hi=>absurd hi (Xt _)⟩
theorem ZfC:([]:Str)∉Z4E:=by decide
theorem Zap (k n:Int) (w):(Instr.build 97 #[(0,.I k),(1,.I n)]).run Tryz.prog w=.ok (.agg #[.I k,.I n,str [],.N]) w:=by kernel_rfl
theorem Zmj (k:Int) (s:Str) (w):(Instr.build 97 #[(0,.I k),(2,str s)]).run Tryz.prog w=.ok (.agg #[.I k,.I 0,str s,.N]) w:=by kernel_rfl
theorem Zds:Zan.length<=1000000:=by decide
theorem ZfD:Zet.length<=1000000:=by decide
theorem Z7V:([]:Str)∉Z2R:=by decide
theorem ZvH (f:Nat) (IH:Zj6 f) (l:List Tkn) (hL:Z3A l) (m:Int) (i o:Nat) (r:Out Nd) (h:J4 l (f+1) .prim i o=some r) (X:List Nat) (b:Nat) (tv:Value) (w:World) (aX:b≠2) (bT:b∈X) (hX:∀ c∈X,c<w.heap.size) (hm:w.cell? ⟨2,0,none⟩=some (.I m)) (hp:Pd w b tv l i o) :
 Calls Tryz.prog 279 #[pQ b] w (PC b w tv l r (λx v w'=>NdV X w' v x)):=by
 have bg:=hp.2.1;have hi:=hp.i_lt;have jm:=Z6a hi;rw [J4] at h;refine cW1 91 Tryz.func279 ?_;refine W ?_;refine Z0 Z2 rfl ?_;rintro _ w0 ⟨b2,rfl,cu,e2,hS⟩;have n2:b2≠b:=by have:=hp.lt;omega
 have fO:w.heap.size<=b2:=cu;obtain ⟨dj,bO,gI,cr,fj⟩:=id hp;replace dj:=dj.up hS;replace bO:=bO.up hS;replace hm:=hS.cell (by simp) hm;refine W ?_;refine ZDr 12 [] [11] [(0,0),(1,0),(2,0),(3,1),(4,0),(5,0),(6,0),(7,1),(8,0),(9,1),(10,2),(11,2)] (λw1 ae=>?_);replace dj:=dj.up ae;replace bO:=bO.up ae;replace e2:=e2.up ae;replace hm:=ae.cell (by simp) hm;replace hS:=hS.trans ae;clear ae;refine D ?_;refine Za rfl trivial Z2 (λ_ _ ⟨_,_,_,_,h⟩=>h) rfl ?_;rintro _ w2 ⟨b3,rfl,d8,e3,ah⟩;have n3:b3≠b:=by have:=dj.lt;omega
 have n32:b3≠b2:=by have:=e2.lt;omega
 have n31:b3≠2:=by have:=block_lt_of_cell hm;simp at this;omega
 have eH:w.heap.size<=b3:=Xg hS.size d8;refine Jm rfl trivial (Zi (us:=Z3.enc l[i]) rfl rfl rfl rfl (Z3.one _) e3 rfl) rfl ?_;rintro _ w3 ⟨hT,e3⟩;have dI:=ah.ow hT;clear hT ah;replace dj:=dj.up dI;replace bO:=bO.up dI;replace e2:=e2.up dI;replace hm:=dI.cell (by simp) hm;replace hS:=hS.trans dI;clear dI d8;refine D ?_;rw [<- jm] at e3;clear hp;have hp:Pd w3 b tv l i o:=⟨dj,bO,gI,cr,fj⟩
 have fin:∀ (nd:Nd) (i' o':Nat) (w4 w5:World) (kv:Value),nd.kids=[]->kv=.N->Pd w4 b tv l i' o'->Stp [b] w w4->Stp [b2] w4 w5->PC b w tv l (.ok nd i' o') (λx v w'=>NdV X w' v x) (.returned (.agg (ndC nd kv).toArray)) w5:=by
  intro nd i' o' w4 w5 kv hk uZ eR h1 h2;subst uZ;obtain ⟨g1,g2,g3,g4,g5⟩:=eR;have cH:=h1.own h2 (λc hc=>by simp at hc;subst hc;exact .inr fO);refine PC.ok ⟨_,rfl,?_⟩ ⟨g1.ext h2 (by simpa using n2.symm),bg.ext cH (λc hc=>hc) (λc hc=>.inl hc),g3,g4,g5⟩ cH;rw [hk];exact ZT _ _
 by_cases c1:(cur l i).kind=2
 . rw [if_pos c1] at h
   simp only [XD] at h;subst h;refine QO ?_;all_goals try exact absurd c1 (by assumption)
   obtain ⟨dj,bO,gI,cr,fj⟩:=id hp;have bN:=hL.end_of_kind hp.i_lt (by rw [c1];decide);refine W ?_;refine Z6 (Zb (u:=.I ((i+1:Nat):Int)) rfl (by show some _=some _;simp) rfl rfl dj (by simp)) ?_;rintro _ w4 ⟨hT,dp⟩;replace bO:=bO.ext (X':=[b]) hT (λc hc=>hc) (λc hc=>.inl hc);replace e2:=e2.ext hT (by simpa using n2);replace e3:=e3.ext hT (by simpa using n3);replace hS:=(hS.mono (S':=[b]) (by simp)).trans hT;replace hp:Pd w4 b tv l (i+1) o:=⟨dp,bO,bN,cr,fj⟩
   clear hT dp dj bO;refine W ?_;apply Z7 (vs:=[(0,.I 1),(1,.I (cur l i).num)]) rfl (Zap _ _) rfl;refine SB (us:=ndC (.mk 1 (cur l i).num [] []) (.N)) (ZC (x:=(.mk 1 (cur l i).num [] [])) (ZT [] w)) e2 ?_;rintro _ w5 ⟨hT,e2'⟩;refine W ?_;refine J0 rfl rfl rfl e2' rfl ?_;exact fin _ _ _ _ _ _ rfl rfl hp hS hT
 rw [if_neg c1] at h;by_cases c2:(cur l i).kind=3
 . rw [if_pos c2] at h
   simp only [XD] at h;subst h;refine QO ?_;all_goals try exact absurd (by assumption) c1
   all_goals try exact absurd c2 (by assumption)
   obtain ⟨dj,bO,gI,cr,fj⟩:=id hp;have bN:=hL.end_of_kind hp.i_lt (by rw [c2];decide);refine W ?_;refine Z6 (Zb (u:=.I ((i+1:Nat):Int)) rfl (by show some _=some _;simp) rfl rfl dj (by simp)) ?_;rintro _ w4 ⟨hT,dp⟩;replace bO:=bO.ext (X':=[b]) hT (λc hc=>hc) (λc hc=>.inl hc);replace e2:=e2.ext hT (by simpa using n2);replace e3:=e3.ext hT (by simpa using n3);replace hS:=(hS.mono (S':=[b]) (by simp)).trans hT;replace hp:Pd w4 b tv l (i+1) o:=⟨dp,bO,bN,cr,fj⟩
   clear hT dp dj bO;refine W ?_;apply Z7 (vs:=[(0,.I 3),(1,.I (cur l i).num)]) rfl (Zap _ _) rfl;refine SB (us:=ndC (.mk 3 (cur l i).num [] []) (.N)) (ZC (x:=(.mk 3 (cur l i).num [] [])) (ZT [] w)) e2 ?_;rintro _ w5 ⟨hT,e2'⟩;refine W ?_;refine J0 rfl rfl rfl e2' rfl ?_;exact fin _ _ _ _ _ _ rfl rfl hp hS hT
 rw [if_neg c2] at h;refine QO ?_;all_goals try exact absurd (by assumption) c1
 all_goals try exact absurd (by assumption) c2
 refine CM (Zf rfl rfl) (Z3G b tv l [116,114,117,101] i o _ hp (λh=>hL.end_of hp.i_lt (by rw [h];decide))) ?_;rintro _ w4 ⟨rfl,eR,hT⟩;replace e2:=e2.ext hT (by simpa using n2);replace e3:=e3.ext hT (by simpa using n3);replace hm:=Ju hm aX hT;replace hS:=(hS.mono (S':=[b]) (by simp)).trans hT;clear hT hp;have c3:¬ (cur l i).text=[116,114,117,101]:=λh=>hL.plain i (by rw [h];decide)
 rw [if_neg c3] at h eR;rw [decide_eq_false c3];refine W ?_;refine CM (Zf rfl rfl) (Z3G b tv l [102,97,108,115,101] i o _ eR (λh=>hL.end_of eR.i_lt (by rw [h];decide))) ?_;rintro _ w5 ⟨rfl,gK,hT⟩;replace e2:=e2.ext hT (by simpa using n2);replace e3:=e3.ext hT (by simpa using n3);replace hm:=Ju hm aX hT;replace hS:=hS.trans hT;clear hT eR;have c4:¬ (cur l i).text=[102,97,108,115,101]:=λh=>hL.plain i (by rw [h];decide)
 rw [if_neg c4] at h gK;rw [decide_eq_false c4];have hp:=gK;clear gK;have c5:¬ (cur l i).text=[40]:=λh=>hL.plain i (by rw [h];decide)
 rw [if_neg c5] at h;have c6:¬ (cur l i).text=[105,102]:=λh=>hL.plain i (by rw [h];decide)
 rw [if_neg c6] at h;repeat'(first|refine W1 ?_|omega|refine VG ?_ ?_<;>intro hg|refine VC ?_ ?_<;>intro hc)
 all_goals try exact absurd (by assumption) c5
 all_goals try exact absurd (by assumption) c6
 refine CL (Z2Z Zet Z4E ZfC (cur l i).text m _ hm ZfD (hL.tl i) (λh=>Zj5 h (hL.sp i))) ?_;rintro _ w6 ⟨rfl,hT⟩;replace hp:=hp.up hT;replace e2:=e2.up hT;replace e3:=e3.up hT;replace hm:=hT.cell (by simp) hm;replace hS:=hS.trans hT.mn;clear hT;have c7:¬ ((cur l i).text∈Z4E):=λh=>hL.plain i (Xh.2 (.inr h));rw [if_neg c7] at h;rw [decide_eq_false c7];refine W ?_;refine CL (Z2Z Zan Z2R Z7V (cur l i).text m _ hm Zds (hL.tl i) (λh=>Zfz h (hL.sp i))) ?_;rintro _ w7 ⟨rfl,hT⟩;replace hp:=hp.up hT;replace e2:=e2.up hT;replace e3:=e3.up hT;replace hm:=hT.cell (by simp) hm;replace hS:=hS.trans hT.mn;clear hT;by_cases c8:(cur l i).text∈Z2R;rw [if_pos c8] at h;simp only [XD] at h;subst h;rw [decide_eq_true c8];obtain ⟨dj,bO,gI,cr,fj⟩:=id hp;have bN:=hL.end_of hp.i_lt (λe=>Z7V (e ▸ c8));refine W ?_;refine Z6 (Zb (u:=.I ((i+1:Nat):Int)) rfl (by show some _=some _;simp) rfl rfl dj (by simp)) ?_;rintro _ w8 ⟨hT,dp⟩;replace bO:=bO.ext (X':=[b]) hT (λc hc=>hc) (λc hc=>.inl hc);replace e2:=e2.ext hT (by simpa using n2);replace e3:=e3.ext hT (by simpa using n3);replace hS:=hS.trans hT;replace hp:Pd w8 b tv l (i+1) o:=⟨dp,bO,bN,cr,fj⟩
 clear hT dp dj bO;refine W ?_;apply Z7 (vs:=[(0,.I 4),(2,str (cur l i).text)]) rfl (Zmj _ _) rfl;refine SB (us:=ndC (.mk 4 0 (cur l i).text []) (.N)) (ZC (x:=(.mk 4 0 (cur l i).text [])) (ZT [] w)) e2 ?_;rintro _ w9 ⟨hT,e2'⟩;refine W ?_;refine J0 rfl rfl rfl e2' rfl ?_;exact fin _ _ _ _ _ _ rfl rfl hp hS hT;rw [if_neg c8] at h;simp only [XD] at h;subst h;rw [decide_eq_false c8];refine W ?_;refine ZR rfl (Zf rfl rfl) (Z9h b tv l i o 20 _ w hp hS) rfl ?_;intro wz bV;repeat'(first|refine Zh ?_|refine Zg ?_)
 refine ZD ?_;exact PC.fail bV
theorem ZvI {l:List Tkn} {m:Int} {i o:Nat} {r:Out Nd} (IH:∀ (X:List Nat) (b:Nat) (tv:Value) (w:World),b≠2->b∈X->(∀ c∈X,c<w.heap.size)->w.cell? ⟨2,0,none⟩=some (.I m)->Pd w b tv l i o->
 Calls Tryz.prog 279 #[pQ b] w (PC b w tv l r (λx v w'=>NdV X w' v x))) (X:List Nat) (b:Nat) (tv:Value) (w:World) (aX:b≠2) (bT:b∈X) (hX:∀ c∈X,c<w.heap.size) (hm:w.cell? ⟨2,0,none⟩=some (.I m)) (hp:Pd w b tv l i o) :
 Calls Tryz.prog 226 #[pQ b,.I ((8:Nat):Int)] w (PC b w tv l r (λx v w'=>NdV X w' v x)):=by
 have bg:=hp.2.1;refine cW2 98 Tryz.func226 ?_;refine W ?_;refine Z0 Z2 rfl ?_;rintro _ w1 ⟨b4,rfl,bD,e4,hS⟩;have n4:b4≠b:=by have:=hp.lt;omega
 have jj:w.heap.size<=b4:=bD;replace hm:=hS.cell (by simp) hm;replace hp:=hp.up hS;have l4:=e4.lt;have gX:∀ c∈b4 :: X,c<w1.heap.size:=λc hc=>by
  rcases Xb.1 hc with rfl|hc
  exact l4;have:=hX c hc;have:=hS.size;omega
 refine QO ?_;have bF:=IH (b4 :: X) b tv _ aX (by simp [bT]) gX hm hp;cases r with
 | err a c=>
   refine ZR rfl (ZN rfl) (PC.falls bF rfl hS.mn) rfl ?_;intro wz bV;repeat'(first|refine Zh ?_|refine Zg ?_)
   refine ZD ?_;exact PC.err bV
 | ok x i3 o3=>
   refine CL (PC.goes bF rfl) ?_;rintro _ wE ⟨⟨kx,rfl,hx⟩,qp,hT⟩;replace e4:=e4.ext hT (by simpa using n4);replace hS:=(hS.mono (S':=[b]) (by simp)).trans hT;clear hT hp;refine SB (us:=ndC x kx) (ZC hx) e4 ?_;rintro _ wz ⟨hT,e4'⟩;refine W ?_;refine J0 rfl rfl rfl e4' rfl ?_;obtain ⟨g1,g2,g3,g4,g5⟩:=qp;have cH:=hS.own hT (λc hc=>by simp at hc;subst hc;exact .inr jj);refine PC.ok ⟨_,rfl,?_⟩ ⟨g1.ext hT (by simpa using n4.symm),bg.ext cH (λc hc=>hc) (λc hc=>.inl hc),g3,g4,g5⟩ cH;exact (hx.ext (X':=b4 :: X) hT (λc hc=>by simp at hc;simp [hc]) (λc hc=>.inl hc)).wk (λc hc=>by simp [hc])
theorem ZfE:∀ f,Zj6 f:=by
 intro f
 induction f using Nat.strongRecOn with
 | _ f ih=>
   intro l hL m c i o r h X b tv w aX bT hX hm hp;cases f with
   | zero=>simp [J4] at h
   | succ f=>
     have IH:=ih f (XT f);cases c with
     | loop k x=>trivial
     | prim=>exact ZvH f IH l hL m i o r h X b tv w aX bT hX hm hp
     | expr k=>
       intro bG xW;rw [J4] at h;split at h;rename_i bB;rcases bB with ⟨_,ht⟩|⟨_,ht⟩<;>exact absurd (by rw [ht];decide) (hL.plain i)
       rename_i bB;split at h;rename_i h8;subst h8;exact ZvI (IH l hL m .prim i o r h) X b tv w aX bT hX hm hp;exact ZvG f (λf' tf=>ih f' (by omega)) l hL m k i o r bG (by omega) bB h X b tv w aX bT hX hm hp
theorem Z7W:Z1y [114,117,108,101,32,102,114,111,109,32,111,110,32,105,102,32,100,117,101,32,117,110,108,101,115,115,32,101,108,115,101,32,111,114,32,97,110,100,32,110,111,116,32,116,114,117,101,32,102,97,108,115,101,32,116,104,101,110,32,101,110,100,32,100,97,121,115,32,119,101,101,107,115,32,109,111,110,116,104,115,32,99,111,117,114,116,100,97,121,115,32,110,101,120,116,32,112,114,101,118,32,108,97,116,101,114,32,101,97,114,108,105,101,114,32,98,101,116,119,101,101,110,32,100,97,121,32,115,101,114,118,101,100,32,101,120,116,114,97,32,98,121,32,116,111,32,99,111,117,114,116,32,97,109,111,117,110,116]=Zam++Ze:=by decide +kernel
theorem Zaq (X:List Nat) (w:World) (hX:∀ b∈X,b<w.heap.size):CC 183 #[] w λr w'=>Row X w' w.heap.size 9 r (Zam++Ze)/\Stp [] w w':=by
 refine cW0 2 Tryz.func183 ?_;refine W ?_;refine CM (ZN rfl) (Z0Y X [114,117,108,101,32,102,114,111,109,32,111,110,32,105,102,32,100,117,101,32,117,110,108,101,115,115,32,101,108,115,101,32,111,114,32,97,110,100,32,110,111,116,32,116,114,117,101,32,102,97,108,115,101,32,116,104,101,110,32,101,110,100,32,100,97,121,115,32,119,101,101,107,115,32,109,111,110,116,104,115,32,99,111,117,114,116,100,97,121,115,32,110,101,120,116,32,112,114,101,118,32,108,97,116,101,114,32,101,97,114,108,105,101,114,32,98,101,116,119,101,101,110,32,100,97,121,32,115,101,114,118,101,100,32,101,120,116,114,97,32,98,121,32,116,111,32,99,111,117,114,116,32,97,109,111,117,110,116] _ hX (by decide +kernel)) ?_;rintro v w1 ⟨hr,hS⟩;rw [Z7W] at hr;refine RT ?_;exact ⟨hr,hS⟩
theorem Z1k (s:Str) (w):CC 106 #[str s] w λr w'=>r=.B (ZB s)/\Stp [] w w':=by
 refine cW1 60 Tryz.func106 ?_;refine W ?_;by_cases h0:s.length≠0/\s.length<=12/\97<=Jb s 0/\Jb s 0<=122
 case neg=>
  have hn:ZB s=false:=by
   unfold ZB Z3F;rw [decide_eq_false (λh=>h0 ⟨by omega,h.2.1,h.2.2.1,h.2.2.2.1⟩)];rfl
  by_cases hl:s.length≠0
  (refine QP ?_ ?_<;>intro hg)
  refine RU ?_;exact ⟨by rw [hn],Stp.refl _ _⟩;refine J5 (i:=0) rfl rfl rfl (by omega) rfl ?_
  (refine QP ?_ ?_<;>intro hg)
  refine RU ?_;exact ⟨by rw [hn],Stp.refl _ _⟩;refine J5 (i:=0) rfl rfl rfl (by omega) rfl ?_;refine RT ?_;exact ⟨by rw [hn],Stp.refl _ _⟩;refine RT ?_;exact ⟨by rw [hn],Stp.refl _ _⟩
 obtain ⟨h1,h2,h3,h4⟩:=h0;refine QO ?_;refine J5 (i:=0) rfl rfl rfl (by omega) rfl ?_;refine QO ?_;refine J5 (i:=0) rfl rfl rfl (by omega) rfl ?_;refine QO ?_;refine LP (σ:=Nat) (λi=>[(0,str s),(3,.I (i:Int))]) (λi w'=>i<=s.length/\w'=w/\∀ j,j<i->Zj2 (Jb s j)) (λi=>s.length - i) 0 ⟨Xq _,rfl,λj hj=>absurd hj (Xt _)⟩ ?_;rintro i w2 ⟨hi,rfl,aA⟩
 try dsimp only at hi aA ⊢
 by_cases hlt:¬ s.length<=i;by_cases cQ:(97<=Jb s i/\Jb s i<=122)\/(48<=Jb s i/\Jb s i<=57)
 . have iv:∀ j,j<i+1->Zj2 (Jb s j):=λj hj=>by
    by_cases e:j=i;subst e;exact cQ;exact aA j (by omega)
   repeat'(first|refine W1 ?_|omega|refine VG ?_ ?_<;>intro hg|refine VC ?_ ?_<;>intro hc)
   all_goals exact QL (i+1) ⟨by omega,rfl,iv⟩ (by omega)
 . have hn:ZB s=false:=by
    unfold ZB Z3F;rw [decide_eq_false (λh=>cQ (h.2.2.2.2 i (by omega)))];rfl
   repeat'(first|refine W1 ?_|omega|refine VG ?_ ?_<;>intro hg|refine VC ?_ ?_<;>intro hc)
   all_goals
    refine RU ?_;exact ⟨by rw [hn],Stp.refl _ _⟩
 obtain rfl:i=s.length:=by omega
 have aO:Z3F s=true:=decide_eq_true ⟨by omega,h2,h3,h4,aA⟩;refine QO ?_;refine CM Z5U (Zaq [] _ (by simp)) ?_;rintro rv w3 ⟨hr,hS⟩;refine W ?_;refine CL (Z03 [] rv _ s _ hr.slv0) ?_;rintro _ w4 ⟨rfl,aJ⟩;refine W ?_;refine WR ?_;refine .mk ⟨?_,hS.trans aJ⟩;unfold ZB;rw [aO,Bool.true_and];congr 1;refine decide_eq_decide.2 ?_;rw [<- Int.not_le,ZbE,Xh,not_or]
def Z1S (x:Nd) (want:Int):Int:=if Zy x<=12 then (if Zd x=0 then 21 else if Zd x=want then 0 else 21) else 2
theorem ZbI (v:Value) (x:Nd) (want:Int) (w) (hx:NdV [] w v x) (hF:SlV [] w Z2m Ze):CC 168 #[v,.I want] w λr w'=>r=.I (Z1S x want)/\Stp [] w w':=by
 obtain ⟨kv,rfl,hs⟩:=hx;refine cW2 20 Tryz.func168 ?_;refine W ?_;refine Z0 (Zo rfl) rfl ?_;rintro _ w1 ⟨b,rfl,hb,ac,hS⟩;replace ac:Blk w1 b _ (ndC x kv):=ac;refine W ?_;refine CL (Zir [] [] _ x _ ⟨kv,rfl,hs.up hS⟩ (hF.up hS)) ?_;rintro _ w2 ⟨rfl,ah⟩;replace hS:=hS.trans ah;unfold Z1S;by_cases hn:Zy x<=12;rw [if_pos hn,if_pos hn,if_pos hn];by_cases ht:Zd x=0;rw [if_pos ht,if_pos ht];refine RT ?_;exact ⟨rfl,hS⟩;rw [if_neg ht,if_neg ht];by_cases hw:Zd x=want;rw [if_pos hw];refine RT ?_;exact ⟨rfl,hS⟩;rw [if_neg hw];refine RT ?_;exact ⟨rfl,hS⟩;rw [if_neg hn,if_neg hn,if_neg hn];refine RT ?_;exact ⟨rfl,hS⟩
structure Rul where
 name:Str
 frm:Int
 on:Str
 cnd:Nd
 due:Nd
 unl:Str
 els:Str
abbrev rlC (r:Rul) (ki kd:Value):List Value:=[str r.name,.I r.frm,str r.on,.I r.cnd.kind,.I r.cnd.num,str r.cnd.word,ki,.I r.due.kind,.I r.due.num,str r.due.word,kd,str r.unl,str r.els]
def ZfF (X:List Nat) (w:World) (v:Value) (r:Rul):Prop:=∃ ki kd,v=.agg (rlC r ki kd).toArray/\SlV X w ki r.cnd.kids/\SlV X w kd r.due.kids
def Jf (r:Rul):Bool:=ZB r.name && ZB r.on && (decide (r.unl=[]) || ZB r.unl) && (decide (r.els=[]) || ZB r.els)
def Z0R (r:Rul):Int:=if Jf r=false then 7 else if r.frm<0\/r.frm > 3652058 then 5 else if Z1S r.cnd 2≠0 then Z1S r.cnd 2 else Z1S r.due 3
theorem Z6K (v:Value) (r:Rul) (m:Int) (w) (hv:ZfF [] w v r) (hF:SlV [] w Z2m Ze) (hm:w.cell? ⟨2,0,none⟩=some (.I m)) :
 CC 92 #[v] w λr' w'=>r'=.I (Z0R r)/\Stp [] w w':=by
 obtain ⟨ki,kd,rfl,hi,hd⟩:=hv;refine cW1 55 Tryz.func92 ?_;refine W ?_;refine Z0 (Zo rfl) rfl ?_;rintro _ w1 ⟨b,rfl,hb,ac,hS⟩;replace ac:Blk w1 b _ (rlC r ki kd):=ac;refine W ?_;refine CM (ZN rfl) (Z2x r.name m _ (hF.up hS) (hS.cell (by simp) hm)) ?_;rintro _ w2 ⟨rfl,hT⟩;replace ac:=ac.up hT;replace hS:=hS.trans hT;clear hT;refine Z5n (σ:=Bool) (λq=>[(1,pQ b),(2,.I 0),(4,.B q)]) (λq w'=>Blk w' b 99 (rlC r ki kd)/\Stp [] w w'/\q=!Jf r) ?_ ?_
 . cases hA:ZB r.name with
   | false=>
     refine W ?_;exact QT true ⟨ac,hS,by simp [Jf, *]⟩
   | true=>
     refine W ?_;refine CM (ZN rfl) (Z2x r.on m _ (hF.up hS) (hS.cell (by simp) hm)) ?_;rintro _ w2 ⟨rfl,hT⟩;replace ac:=ac.up hT;replace hS:=hS.trans hT;clear hT;cases hB:ZB r.on with
     | false=>
       refine W ?_;exact QT true ⟨ac,hS,by simp [Jf, *]⟩
     | true=>
       repeat'(first|refine W1 ?_|omega|refine VG ?_ ?_<;>intro hg|refine VC ?_ ?_<;>intro hc)
       . refine CM (ZN rfl) (Z2x r.unl m _ (hF.up hS) (hS.cell (by simp) hm)) ?_
         rintro _ w2 ⟨rfl,hT⟩;replace ac:=ac.up hT;replace hS:=hS.trans hT;clear hT;cases hC:ZB r.unl with
         | false=>
           refine W ?_;exact QT true ⟨ac,hS,by simp [Jf, *]⟩
         | true=>
           (refine QP ?_ ?_<;>intro hg)
           . refine CM (ZN rfl) (Z2x r.els m _ (hF.up hS) (hS.cell (by simp) hm)) ?_
             rintro _ w2 ⟨rfl,hT⟩;replace ac:=ac.up hT;replace hS:=hS.trans hT;clear hT;cases hD:ZB r.els with
             | false=>
               refine W ?_;exact QT true ⟨ac,hS,by simp [Jf, *]⟩
             | true=>
               refine W ?_;exact QT false ⟨ac,hS,by simp [Jf, *]⟩
           exact QT false ⟨ac,hS,by simp [Jf, *]⟩
       . refine CM (ZN rfl) (Z2x r.els m _ (hF.up hS) (hS.cell (by simp) hm)) ?_
         rintro _ w2 ⟨rfl,hT⟩;replace ac:=ac.up hT;replace hS:=hS.trans hT;clear hT;cases hD:ZB r.els with
         | false=>
           refine W ?_;exact QT true ⟨ac,hS,by simp [Jf, *]⟩
         | true=>
           refine W ?_;exact QT false ⟨ac,hS,by simp [Jf, *]⟩
       exact QT false ⟨ac,hS,by simp [Jf, *]⟩
 rintro q w3 ⟨ac,hS,hq⟩
 try dsimp only at hq ⊢
 unfold Z0R;cases fF:Jf r with
 | false=>
   rw [fF] at hq;subst hq;refine RT ?_;exact ⟨rfl,hS⟩
 | true=>
   rw [fF] at hq;subst hq;refine W ?_;by_cases hr:r.frm<0\/r.frm > 3652058
   . repeat'(first|refine W1 ?_|omega|refine VG ?_ ?_<;>intro hg|refine VC ?_ ?_<;>intro hc)
     all_goals
      refine RU ?_;exact ⟨by rw [if_neg (by decide),if_pos hr],hS⟩
   refine QO ?_;apply Z8 (Zl (us:=ndC r.cnd ki) rfl rfl ac rfl rfl) rfl;refine W ?_;refine CL (ZbI _ r.cnd 2 _ ⟨ki,rfl,hi.up hS⟩ (hF.up hS)) ?_;rintro _ w4 ⟨rfl,hT⟩;replace ac:=ac.up hT;replace hS:=hS.trans hT;clear hT;by_cases h2:Z1S r.cnd 2=0;refine QO ?_;apply Z8 (Zl (us:=ndC r.due kd) rfl rfl ac rfl rfl) rfl;refine W ?_;refine CL (ZbI _ r.due 3 _ ⟨kd,rfl,hd.up hS⟩ (hF.up hS)) ?_;rintro _ w5 ⟨rfl,hT⟩;refine RT ?_;exact ⟨by rw [if_neg (by decide),if_neg hr,if_neg (by simpa using h2)],hS.trans hT⟩;refine RT ?_;exact ⟨by rw [if_neg (by decide),if_neg hr,if_pos h2],hS⟩
end Go.Proofs.YtipfkbkkndacjaaGreatDoor
namespace Go.Eng
open Go Go.RowKit Go.Proofs
section
variable {P:Program} {n:Nat} {Q:Exit->Act->World->Prop} {e:Env} {w:World} {ops:Array Oper} {rest:List Oper} {ty:TypeId} {pos:String} {af:Array Edge}
theorem ZbJ {d:Option Nat} {g:Option (Nat×Bool)} {f:Nat} {fn:Func} {xs:Array Operand} {ts:Array TypeId} {vs bd cap us:Array Value} {G:Value->World->Prop} {c:Operand} [hf:Fun P f fn] (hc:ev e c=some (.func (.func f) bd cap))
 (hv:∀ a,Has n e a->xs.map a.eval=vs) (hu:bd++vs++cap=us) (h:Calls P f us w (Ret G)) :
 OE P n ⟨d,.call { callee:=.value c,args:=xs,argTypes:=ts },ty,pos,af,g⟩ e w G:=
 ⟨λa ha Q => by
   have he:(execOp a.eval ⟨d,.call { callee:=.value c,args:=xs,argTypes:=ts },ty,pos,af,g⟩).run P w=.ok (.enter f us) w:=by
    simp only [execOp,resolve,ha.ev hc,Deferred.ofValue,hv a ha];simp [invoke];rw [<- Array.append_assoc,hu];exact hf.enters us w
   unfold Oper.wp;rw [he];simp only [Oper.upon];refine h.mono ?_;rintro r w' ⟨v,rfl,hg⟩;exact ⟨v,rfl,hg⟩⟩
theorem Z9j {d:Nat} {f:Nat} {fn:Func} {xs:Array Operand} {ts:Array TypeId} {vs bd cap us:Array Value} {c:Operand} {ch:List PanicEntry} {F:World->Prop} [hf:Fun P f fn]
 (hc:ev e c=some (.func (.func f) bd cap)) (hv:∀ a,Has n e a->xs.map a.eval=vs) (hu:bd++vs++cap=us) (h:Calls P f us w (λe w'=>e=.panicked ch/\F w')) (hd:Nat.blt d n=true) (k:∀ w',F w'->WQ n Q (.panic ch) [] w') :
 WL P n ops Q (⟨some d,.call { callee:=.value c,args:=xs,argTypes:=ts },ty,pos,af,none⟩ :: rest) e w:=
 Zaf (G:=λ_ _=>False) (F:=λch' w'=>ch'=ch/\F w') (Zfm hc hv hu (h.mono λe w' ⟨h1,h2⟩=>by rw [h1];exact .pan ⟨rfl,h2⟩)) hd (λch' w' ⟨h1,h2⟩=>by subst h1;exact Z98 (k w' h2)) (λ_ _ h=>h.elim)
theorem Z0J {d:Option Nat} {g:Option (Nat×Bool)} {f:Nat} {x:Operand} {v:Value} (hx:ev e x=some v):PR P n ⟨d,.makeFunc (.func f) #[x] #[],ty,pos,af,g⟩ e w (.func (.func f) #[v] #[]):=
 ⟨λa ha=>by simp [execOp,Instr.makeFunc,ha.ev hx]⟩
end
end Go.Eng
namespace Go.Proofs.YtipfkbkkndacjaaGreatDoor
open Go Go.Eng Go.RowKit Go.Proofs
def _root_.Go.Eng.RuleM.rul (r:RuleM):Rul:=⟨r.name,r.frm,r.on,r.cond,r.due,r.unl,r.els⟩
instance:Z5 Rul where
 k:=13
 rep:=λX w r cs=>∃ ki kd,cs=rlC r ki kd/\SlV X w ki r.cnd.kids/\SlV X w kd r.due.kids
 len:=by rintro X w r cs ⟨ki,kd,rfl,_⟩;rfl
 one:=by
  rintro X w r cs ⟨ki,kd,rfl,h1,h2⟩ c hc;have e1:=h1.one;have e2:=h2.one;simp only [rlC,Xb,Xj,or_false] at hc;rcases hc with rfl|rfl|rfl|rfl|rfl|rfl|rfl|rfl|rfl|rfl|rfl|rfl|rfl<;>first|rfl|exact e1|exact e2
 ext:=by
  rintro X S X' w w' r cs ⟨ki,kd,rfl,h1,h2⟩ hS g1 g2;exact ⟨ki,kd,rfl,h1.ext hS g1 g2,h2.ext hS g1 g2⟩
theorem ZnM (r:Rul) {X Y:List Nat} {w w':World} {ki kd:Value} (h1:SlV X w ki r.cnd.kids) (h2:SlV Y w' kd r.due.kids):∀ c∈rlC r ki kd,c.oneCell'=true:=by
 intro c hc;have e1:=h1.one;have e2:=h2.one;simp only [rlC,Xb,Xj,or_false] at hc;rcases hc with rfl|rfl|rfl|rfl|rfl|rfl|rfl|rfl|rfl|rfl|rfl|rfl|rfl<;>first|rfl|exact e1|exact e2
theorem ZfG (X:List Nat) (b:Nat) (tv:Value) (l:List Tkn) (hL:Z3A l) (m:Int) (i o:Nat) (w:World) (aX:b≠2) (bT:b∈X) (hX:∀ c∈X,c<w.heap.size) (hm:w.cell? ⟨2,0,none⟩=some (.I m)) (hp:Pd w b tv l i o) :
 Calls Tryz.prog 166 #[pQ b] w (PC b w tv l (Z1P l i o) (λx v w'=>NdV X w' v x)):=by
 have bg:=hp.2.1;have hE:=Z9b l i o;generalize Z1P l i o=r at *;refine cW1 5 Tryz.func166 ?_;refine W ?_;refine Z0 Z2 rfl ?_;rintro _ w1 ⟨b2,rfl,cu,e2,hS⟩;have n2:b2≠b:=by have:=hp.lt;omega
 have fO:w.heap.size<=b2:=cu;replace hm:=hS.cell (by simp) hm;replace hp:=hp.up hS;have l2:=e2.lt;have gX:∀ c∈b2 :: X,c<w1.heap.size:=λc hc=>by
  rcases Xb.1 hc with rfl|hc
  exact l2;have:=hX c hc;have:=hS.size;omega
 refine W ?_;have bF:=ZfE _ l hL m (.expr 1) i o r hE (b2 :: X) b tv _ aX (by simp [bT]) gX hm hp (by omega) (by omega);cases r with
 | err a c=>
   refine ZR rfl (Zf rfl rfl) (PC.falls bF rfl hS.mn) rfl ?_;intro wz bV;repeat'(first|refine Zh ?_|refine Zg ?_)
   refine ZD ?_;exact PC.err bV
 | ok x i3 o3=>
   refine CL (PC.goes bF rfl) ?_;rintro _ wE ⟨⟨kx,rfl,hx⟩,qp,hT⟩;replace e2:=e2.ext hT (by simpa using n2);replace hS:=(hS.mono (S':=[b]) (by simp)).trans hT;clear hT hp;refine SB (us:=ndC x kx) (ZC hx) e2 ?_;rintro _ wz ⟨hT,e2'⟩;refine W ?_;refine J0 rfl rfl rfl e2' rfl ?_;obtain ⟨g1,g2,g3,g4,g5⟩:=qp;have cH:=hS.own hT (λc hc=>by simp at hc;subst hc;exact .inr fO);refine PC.ok ⟨_,rfl,?_⟩ ⟨g1.ext hT (by simpa using n2.symm),bg.ext cH (λc hc=>hc) (λc hc=>.inl hc),g3,g4,g5⟩ cH;exact (hx.ext (X':=b2 :: X) hT (λc hc=>by simp at hc;simp [hc]) (λc hc=>.inl hc)).wk (λc hc=>by simp [hc])
theorem Z1H (b:Nat) (tv:Value) (l:List Tkn) (hL:Z3A l) (wd:Str) (qq:wd≠[]) (m:Int) (i o:Nat) (w:World) (aX:b≠2) (hm:w.cell? ⟨2,0,none⟩=some (.I m)) (hp:Pd w b tv l i o) :
 Calls Tryz.prog 164 #[pQ b,str wd,.func (.func 161) #[pQ b] #[]] w (PC b w tv l (Z1v l wd [] (Z29 l) i o) (λs v _=>v=str s)):=by
 unfold Z1v;refine cW3 19 Tryz.func164 ?_;refine W ?_;refine CM (Zf rfl rfl) (Z3G b tv l wd i o _ hp (λh=>hL.end_of hp.i_lt (by rw [h];exact qq))) ?_;rintro _ w4 ⟨rfl,eR,hS⟩;replace hm:=Ju hm aX hS;by_cases c3:(cur l i).text=wd;rw [if_pos c3] at eR ⊢;rw [decide_eq_true c3];refine W ?_;rcases hN:Z29 l (i+1) o with ⟨a,c⟩|⟨s,i1,o1⟩
 refine Z9j rfl Z5U rfl (PC.falls (Z5s b tv l hL _ _ m _ hm eR) hN hS) rfl ?_;intro wz bV;focus repeat'(first|refine Zh ?_|refine Zg ?_)
 refine ZD ?_;exact PC.err bV;refine Z0 (ZbJ rfl Z5U rfl (PC.goes (Z5s b tv l hL _ _ m _ hm eR) hN)) rfl ?_;rintro _ w5 ⟨rfl,gK,hT⟩;replace hS:=hS.trans hT;refine W ?_;simp only [Out.bind];rcases hU:Z0G l [59] i1 o1 with ⟨a,c⟩|⟨u,i2,o2⟩
 refine ZR rfl (Zf rfl rfl) (PC.falls (JI b tv l hL _ (by decide) i1 o1 _ gK) hU hS) rfl ?_;intro wz bV;focus repeat'(first|refine Zh ?_|refine Zg ?_)
 refine ZD ?_;exact PC.err bV;refine CM (Zf rfl rfl) (PC.goes (JI b tv l hL _ (by decide) i1 o1 _ gK) hU) ?_;rintro _ w6 ⟨rfl,qr,hT⟩;replace hS:=hS.trans hT;refine W ?_;refine WR ?_;exact PC.ok rfl qr hS;rw [if_neg c3] at eR ⊢;rw [decide_eq_false c3];refine W ?_;refine WR ?_;exact PC.ok rfl eR hS
theorem Z4j (X:List Nat) (b:Nat) (tv:Value) (l:List Tkn) (hL:Z3A l) (wd:Str) (qq:wd≠[]) (m:Int) (i o:Nat) (w:World) (aX:b≠2) (bT:b∈X) (hX:∀ c∈X,c<w.heap.size) (hm:w.cell? ⟨2,0,none⟩=some (.I m)) (hp:Pd w b tv l i o) :
 Calls Tryz.prog 165 #[pQ b,str wd,.func (.func 166) #[pQ b] #[]] w (PC b w tv l (Z1v l wd JM (Z1P l) i o) (λx v w'=>NdV X w' v x)):=by
 have bg:=hp.2.1;unfold Z1v;refine cW3 19 Tryz.func165 ?_;refine W ?_;refine Z0 Z2 rfl ?_;rintro _ w1 ⟨b6,rfl,eB,e6,hS⟩;have n6:b6≠b:=by have:=hp.lt;omega
 have kM:w.heap.size<=b6:=eB;refine W ?_;refine Z0 Z2 rfl ?_;rintro _ w2 ⟨b7,rfl,fg,e7,hT⟩;have n7:b7≠b:=by have:=hp.lt;have:=hS.size;omega
 have n76:b7≠b6:=by have:=e6.lt;omega
 replace e6:=e6.up hT;replace hS:=hS.trans hT;clear hT;replace hm:=hS.cell (by simp) hm;replace hp:=hp.up hS;refine W ?_;refine CM (Zf rfl rfl) (Z3G b tv l wd i o _ hp (λh=>hL.end_of hp.i_lt (by rw [h];exact qq))) ?_;rintro _ w4 ⟨rfl,eR,hT⟩;replace hm:=Ju hm aX hT;replace e6:=e6.ext hT (by simpa using n6);replace e7:=e7.ext hT (by simpa using n7);replace hS:=(hS.mono (S':=[b]) (by simp)).trans hT;clear hT hp;by_cases c3:(cur l i).text=wd;rw [if_pos c3] at eR ⊢;rw [decide_eq_true c3];refine W ?_;have l6:=e6.lt;have qt:∀ c∈b6 :: X,c<w4.heap.size:=λc hc=>by
  rcases Xb.1 hc with rfl|hc
  exact l6;have:=hX c hc;have:=hS.size;omega
 have bF:=ZfG (b6 :: X) b tv l hL m (i+1) o w4 aX (by simp [bT]) qt hm eR;rcases hN:Z1P l (i+1) o with ⟨a,c⟩|⟨x,i1,o1⟩
 refine Z9j rfl Z5U rfl (PC.falls bF hN hS) rfl ?_;intro wz bV;focus repeat'(first|refine Zh ?_|refine Zg ?_)
 refine ZD ?_;exact PC.err bV;refine Z0 (ZbJ rfl Z5U rfl (PC.goes bF hN)) rfl ?_;rintro _ w5 ⟨⟨kx,rfl,hx⟩,gK,hT⟩;replace e6:=e6.ext hT (by simpa using n6);replace hS:=hS.trans hT;have s8:∀ c∈b6 :: X,c<w5.heap.size:=λc hc=>Xa (qt c hc) hT.size;clear hT eR qt l6 bF;refine Z0 Z2 rfl ?_;rintro _ w6 ⟨b8,rfl,fk,e8,hT⟩;have n86:b8≠b6:=by have:=e6.lt;omega
 have n8:b8≠b:=by have:=gK.lt;omega
 refine SB (us:=ndC x kx) (ZC hx) e8 ?_;rintro _ w7 ⟨aq,e8'⟩;replace hT:=hT.ow aq;clear aq e8;replace gK:=gK.up hT;replace e6:=e6.up hT;replace hx:=hx.up hT;replace hS:=hS.trans hT.mn;clear hT;refine W ?_;simp only [Out.bind];rcases hU:Z0G l [59] i1 o1 with ⟨a,c⟩|⟨u,i2,o2⟩
 refine ZR rfl (Zf rfl rfl) (PC.falls (JI b tv l hL _ (by decide) i1 o1 _ gK) hU hS) rfl ?_;intro wz bV;focus repeat'(first|refine Zh ?_|refine Zg ?_)
 refine ZD ?_;exact PC.err bV;refine CM (Zf rfl rfl) (PC.goes (JI b tv l hL _ (by decide) i1 o1 _ gK) hU) ?_;rintro _ w8 ⟨rfl,qr,hT⟩;replace e6:=e6.ext hT (by simpa using n6);replace e8':=e8'.ext hT (by simpa using n8);replace hx:=hx.ext (X':=b6 :: X) hT (λc hc=>by simp at hc;subst hc;simp [bT]) (λc hc=>.inl hc);replace hS:=hS.trans hT;clear hT gK;refine W ?_;refine SB (us:=ndC x kx) (ZC hx) e6 ?_;rintro _ wz ⟨hT,e6'⟩;refine W ?_;refine J0 rfl rfl rfl e6' rfl ?_;obtain ⟨g1,g2,g3,g4,g5⟩:=qr;have cH:=hS.own hT (λc hc=>by simp at hc;subst hc;exact .inr kM);refine PC.ok ⟨_,rfl,?_⟩ ⟨g1.ext hT (by simpa using n6.symm),bg.ext cH (λc hc=>hc) (λc hc=>.inl hc),g3,g4,g5⟩ cH;exact (hx.ext (X':=b6 :: X) hT (λc hc=>by simp at hc;simp [hc]) (λc hc=>.inl hc)).wk (λc hc=>by simp [hc]);rw [if_neg c3] at eR ⊢;rw [decide_eq_false c3];refine W ?_;refine SB (us:=ndC JM (.N)) (ZC (x:=JM) (ZT [] w)) e6 ?_;rintro _ wz ⟨hT,e6'⟩;refine W ?_;refine J0 rfl rfl rfl e6' rfl ?_;obtain ⟨g1,g2,g3,g4,g5⟩:=eR;have cH:=hS.own hT (λc hc=>by simp at hc;subst hc;exact .inr kM);refine PC.ok ⟨_,rfl,?_⟩ ⟨g1.ext hT (by simpa using n6.symm),bg.ext cH (λc hc=>hc) (λc hc=>.inl hc),g3,g4,g5⟩ cH;exact ZT _ _
theorem Zmk (s:Str) (w):(Instr.build 99 #[(0,str s)]).run Tryz.prog w=.ok (.agg (rlC ⟨s,0,[],JM,JM,[],[]⟩ (.N) (.N)).toArray) w:=by kernel_rfl
theorem Zj7 (X:List Nat) (b:Nat) (tv:Value) (l:List Tkn) (hL:Z3A l) (m:Int) (i o:Nat) (w:World) (aX:b≠2) (bT:b∈X) (hX:∀ c∈X,c<w.heap.size) (hm:w.cell? ⟨2,0,none⟩=some (.I m)) (hp:Pd w b tv l i o) :
 Calls Tryz.prog 91 #[pQ b] w (PC b w tv l (Z99 l i o) (λr v w'=>ZfF X w' v r.rul)):=by
 have bg:=hp.2.1;unfold Z99;refine cW1 61 Tryz.func91 ?_;refine W ?_;refine Z0 Z2 rfl ?_;rintro _ w1 ⟨b2,rfl,cu,e2,hS⟩;have n2:b2≠b:=by have:=hp.lt;omega
 have fO:w.heap.size<=b2:=cu;replace hm:=hS.cell (by simp) hm;replace hp:=hp.up hS;replace hS:=hS.mono (S':=[b]) (by simp);refine W ?_;rcases hU:Z0G l [114,117,108,101] i o with ⟨a,c⟩|⟨u1,i1,o1⟩
 refine ZR rfl (Zf rfl rfl) (PC.falls (JI b tv l hL [114,117,108,101] (by decide) i o _ hp) hU hS) rfl ?_;intro wz bV;focus repeat'(first|refine Zh ?_|refine Zg ?_)
 refine ZD ?_;exact PC.err bV;refine CM (Zf rfl rfl) (PC.goes (JI b tv l hL [114,117,108,101] (by decide) i o _ hp) hU) ?_;rintro _ wn1 ⟨rfl,cK,hT⟩;replace hm:=Ju hm aX hT;replace e2:=e2.ext hT (by simpa using n2);replace hS:=hS.trans hT;clear hT hp;have hp:=cK;clear cK hU;refine W ?_;simp only [Out.bind];rcases hU:Z29 l i1 o1 with ⟨a,c⟩|⟨u2,i2,o2⟩
 refine ZR rfl (ZN rfl) (PC.falls (Z5s b tv l hL i1 o1 m _ hm hp) hU hS) rfl ?_;intro wz bV;focus repeat'(first|refine Zh ?_|refine Zg ?_)
 refine ZD ?_;exact PC.err bV;refine CL (PC.goes (Z5s b tv l hL i1 o1 m _ hm hp) hU) ?_;rintro _ wn2 ⟨rfl,cK,hT⟩;replace hm:=Ju hm aX hT;replace e2:=e2.ext hT (by simpa using n2);replace hS:=hS.trans hT;clear hT hp;have hp:=cK;clear cK hU;apply Z7 (vs:=[(0,str u2)]) rfl (Zmk _) rfl;refine Z0 Z2 rfl ?_;rintro _ wa ⟨b3,rfl,d8,e3,hT⟩;have n32:b3≠b2:=by have:=e2.lt;omega
 have n3:b3≠b:=by have:=hp.lt;omega
 have n31:b3≠2:=by have:=block_lt_of_cell hm;simp at this;omega
 have eH:w.heap.size<=b3:=Xg hS.size d8;refine SB (us:=rlC ⟨u2,0,[],JM,JM,[],[]⟩ (.N) (.N)) (ZnM ⟨u2,0,[],JM,JM,[],[]⟩ (ZT [] w) (ZT [] w)) e3 ?_;rintro _ wb ⟨aq,e3'⟩;replace hT:=hT.ow aq;clear aq e3;have e3:=e3';clear e3';replace hp:=hp.up hT;replace e2:=e2.up hT;replace hm:=hT.cell (by simp) hm;replace hS:=hS.trans hT.mn;clear hT;have bX:∀ c∈b3 :: b2 :: X,c<wb.heap.size:=λc hc=>by
  rcases Xb.1 hc with rfl|hc
  exact e3.lt;rcases Xb.1 hc with rfl|hc
  exact e2.lt;have:=hX c hc;have:=hS.size;omega
 have cC:SlV (α:=Nd) (b3 :: b2 :: X) wb (.N) JM.kids:=ZT _ _;have ck:SlV (α:=Nd) (b3 :: b2 :: X) wb (.N) JM.kids:=ZT _ _;refine W ?_;simp only;rcases hU:Z0G l [102,114,111,109] i2 o2 with ⟨a,c⟩|⟨u3,i3,o3⟩
 refine ZR rfl (Zf rfl rfl) (PC.falls (JI b tv l hL [102,114,111,109] (by decide) i2 o2 _ hp) hU hS) rfl ?_;intro wz bV;focus repeat'(first|refine Zh ?_|refine Zg ?_)
 refine ZD ?_;exact PC.err bV;refine CM (Zf rfl rfl) (PC.goes (JI b tv l hL [102,114,111,109] (by decide) i2 o2 _ hp) hU) ?_;rintro _ wn3 ⟨rfl,cK,hT⟩;replace hm:=Ju hm aX hT;replace e2:=e2.ext hT (by simpa using n2);replace e3:=e3.ext hT (by simpa using n3);replace cC:=cC.ext (X':=b3 :: b2 :: X) hT (λc hc=>by simp at hc;subst hc;simp [bT]) (λc hc=>.inl hc);replace ck:=ck.ext (X':=b3 :: b2 :: X) hT (λc hc=>by simp at hc;subst hc;simp [bT]) (λc hc=>.inl hc);replace hS:=hS.trans hT;replace bX:=λc hc=>Xa (bX c hc) hT.size;clear hT hp;have hp:=cK;clear cK hU;refine W ?_;simp only;rcases hU:Z2Q l 3 i3 o3 with ⟨a,c⟩|⟨u4,i4,o4⟩
 refine ZR rfl (Zf rfl rfl) (PC.falls (Z4i b tv l hL 3 (by decide) i3 o3 _ hp) hU hS) rfl ?_;intro wz bV;focus repeat'(first|refine Zh ?_|refine Zg ?_)
 refine ZD ?_;exact PC.err bV;refine CM (Zf rfl rfl) (PC.goes (Z4i b tv l hL 3 (by decide) i3 o3 _ hp) hU) ?_;rintro _ wn4 ⟨rfl,cK,hT⟩;replace hm:=Ju hm aX hT;replace e2:=e2.ext hT (by simpa using n2);replace e3:=e3.ext hT (by simpa using n3);replace cC:=cC.ext (X':=b3 :: b2 :: X) hT (λc hc=>by simp at hc;subst hc;simp [bT]) (λc hc=>.inl hc);replace ck:=ck.ext (X':=b3 :: b2 :: X) hT (λc hc=>by simp at hc;subst hc;simp [bT]) (λc hc=>.inl hc);replace hS:=hS.trans hT;replace bX:=λc hc=>Xa (bX c hc) hT.size;clear hT hp;have hp:=cK;clear cK hU;refine Z8 (Zbw rfl (Zsq _)) rfl ?_;refine W ?_;refine S1 (u:=.I u4.num) e3 ?_;rintro _ ws4 ⟨hT,e3'⟩;replace e3:Blk ws4 b3 99 (rlC ⟨u2,u4.num,[],JM,JM,[],[]⟩ (.N) (.N)):=e3';clear e3';replace e2:=e2.ext hT (by simpa using n32.symm);replace hm:=hT.cell (by simpa using n31.symm) hm;replace hS:=hS.own hT (λc hc=>by simp at hc;subst hc;exact .inr eH);replace hp:Pd ws4 b tv l i4 o4:=by
  obtain ⟨g1,g2,g3,g4,g5⟩:=hp;exact ⟨g1.ext hT (by simpa using n3.symm),bg.ext hS (λc hc=>hc) (λc hc=>.inl hc),g3,g4,g5⟩
 replace bX:=λc hc=>Xa (bX c hc) hT.size;replace cC:=cC.ext (X':=b3 :: b2 :: X) hT (λc hc=>by simp at hc;simp [hc]) (λc hc=>.inl hc);replace ck:=ck.ext (X':=b3 :: b2 :: X) hT (λc hc=>by simp at hc;simp [hc]) (λc hc=>.inl hc);refine W ?_;simp only;rcases hU:Z0G l [123] i4 o4 with ⟨a,c⟩|⟨u5,i5,o5⟩
 refine ZR rfl (Zf rfl rfl) (PC.falls (JI b tv l hL [123] (by decide) i4 o4 _ hp) hU hS) rfl ?_;intro wz bV;focus repeat'(first|refine Zh ?_|refine Zg ?_)
 refine ZD ?_;exact PC.err bV;refine CM (Zf rfl rfl) (PC.goes (JI b tv l hL [123] (by decide) i4 o4 _ hp) hU) ?_;rintro _ wn5 ⟨rfl,cK,hT⟩;replace hm:=Ju hm aX hT;replace e2:=e2.ext hT (by simpa using n2);replace e3:=e3.ext hT (by simpa using n3);replace cC:=cC.ext (X':=b3 :: b2 :: X) hT (λc hc=>by simp at hc;subst hc;simp [bT]) (λc hc=>.inl hc);replace ck:=ck.ext (X':=b3 :: b2 :: X) hT (λc hc=>by simp at hc;subst hc;simp [bT]) (λc hc=>.inl hc);replace hS:=hS.trans hT;replace bX:=λc hc=>Xa (bX c hc) hT.size;clear hT hp;have hp:=cK;clear cK hU;refine W ?_;refine CL (Z0I b tv l i5 o5 _ hp) ?_;rintro _ wx5 ⟨rfl,hT⟩;replace hp:=hp.up hT;replace e2:=e2.up hT;replace e3:=e3.up hT;replace cC:=cC.up hT;replace ck:=ck.up hT;replace hm:=hT.cell (by simp) hm;replace hS:=hS.trans hT.mn;replace bX:=λc hc=>Xa (bX c hc) hT.size;clear hT;simp only;by_cases jn:(cur l i5).text=[111,110]
 rotate_left
 . rw [if_neg jn]
   (refine QP ?_ ?_<;>intro hc)
   refine ZR rfl (Zf rfl rfl) (Z9h b tv l i5 o5 20 _ w hp hS) rfl ?_;intro wz bV;focus repeat'(first|refine Zh ?_|refine Zg ?_)
   refine ZD ?_;exact PC.fail bV;all_goals exact absurd jn (by assumption)
 rw [if_pos jn]
 (refine QP ?_ ?_<;>intro hc)
 exact absurd jn (by assumption);refine Z8 (Z0J rfl) rfl ?_;rcases hU:Z1v l [111,110] [] (Z29 l) i5 o5 with ⟨a,c⟩|⟨u6,i6,o6⟩
 refine ZR rfl (ZI rfl rfl rfl) (PC.falls (Z1H b tv l hL [111,110] (by decide) m i5 o5 _ aX hm hp) hU hS) rfl ?_;intro wz bV;focus repeat'(first|refine Zh ?_|refine Zg ?_)
 refine ZD ?_;exact PC.err bV;refine CM (ZI rfl rfl rfl) (PC.goes (Z1H b tv l hL [111,110] (by decide) m i5 o5 _ aX hm hp) hU) ?_;rintro _ wn6 ⟨rfl,cK,hT⟩;replace hm:=Ju hm aX hT;replace e2:=e2.ext hT (by simpa using n2);replace e3:=e3.ext hT (by simpa using n3);replace cC:=cC.ext (X':=b3 :: b2 :: X) hT (λc hc=>by simp at hc;subst hc;simp [bT]) (λc hc=>.inl hc);replace ck:=ck.ext (X':=b3 :: b2 :: X) hT (λc hc=>by simp at hc;subst hc;simp [bT]) (λc hc=>.inl hc);replace hS:=hS.trans hT;replace bX:=λc hc=>Xa (bX c hc) hT.size;clear hT hp;have hp:=cK;clear cK hU;refine W ?_;refine S1 (u:=str u6) e3 ?_;rintro _ ws6 ⟨hT,e3'⟩;replace e3:Blk ws6 b3 99 (rlC ⟨u2,u4.num,u6,JM,JM,[],[]⟩ (.N) (.N)):=e3';clear e3';replace e2:=e2.ext hT (by simpa using n32.symm);replace hm:=hT.cell (by simpa using n31.symm) hm;replace hS:=hS.own hT (λc hc=>by simp at hc;subst hc;exact .inr eH);replace hp:Pd ws6 b tv l i6 o6:=by
  obtain ⟨g1,g2,g3,g4,g5⟩:=hp;exact ⟨g1.ext hT (by simpa using n3.symm),bg.ext hS (λc hc=>hc) (λc hc=>.inl hc),g3,g4,g5⟩
 replace bX:=λc hc=>Xa (bX c hc) hT.size;replace cC:=cC.ext (X':=b3 :: b2 :: X) hT (λc hc=>by simp at hc;simp [hc]) (λc hc=>.inl hc);replace ck:=ck.ext (X':=b3 :: b2 :: X) hT (λc hc=>by simp at hc;simp [hc]) (λc hc=>.inl hc);refine W ?_;refine Z8 (Z0J rfl) rfl ?_;simp only;rcases hU:Z1v l [105,102] JM (Z1P l) i6 o6 with ⟨a,c⟩|⟨u7,i7,o7⟩
 refine ZR rfl (ZI rfl rfl rfl) (PC.falls (Z4j (b3 :: b2 :: X) b tv l hL [105,102] (by decide) m i6 o6 _ aX (by simp [bT]) bX hm hp) hU hS) rfl ?_;intro wz bV;focus repeat'(first|refine Zh ?_|refine Zg ?_)
 refine ZD ?_;exact PC.err bV;refine CM (ZI rfl rfl rfl) (PC.goes (Z4j (b3 :: b2 :: X) b tv l hL [105,102] (by decide) m i6 o6 _ aX (by simp [bT]) bX hm hp) hU) ?_;rintro _ wn7 ⟨⟨kx7,rfl,m5⟩,cK,hT⟩;replace hm:=Ju hm aX hT;replace e2:=e2.ext hT (by simpa using n2);replace e3:=e3.ext hT (by simpa using n3);replace cC:=cC.ext (X':=b3 :: b2 :: X) hT (λc hc=>by simp at hc;subst hc;simp [bT]) (λc hc=>.inl hc);replace ck:=ck.ext (X':=b3 :: b2 :: X) hT (λc hc=>by simp at hc;subst hc;simp [bT]) (λc hc=>.inl hc);replace hS:=hS.trans hT;replace bX:=λc hc=>Xa (bX c hc) hT.size;clear hT hp;have hp:=cK;clear cK hU;refine W ?_;refine Z6 (Z12 (us:=ndC u7 kx7) rfl rfl rfl rfl (ZC m5) e3 (by simp)) ?_;rintro _ ws7 ⟨hT,e3'⟩;replace e3:Blk ws7 b3 99 (rlC ⟨u2,u4.num,u6,u7,JM,[],[]⟩ kx7 (.N)):=e3';clear e3';replace e2:=e2.ext hT (by simpa using n32.symm);replace hm:=hT.cell (by simpa using n31.symm) hm;replace hS:=hS.own hT (λc hc=>by simp at hc;subst hc;exact .inr eH);replace hp:Pd ws7 b tv l i7 o7:=by
  obtain ⟨g1,g2,g3,g4,g5⟩:=hp;exact ⟨g1.ext hT (by simpa using n3.symm),bg.ext hS (λc hc=>hc) (λc hc=>.inl hc),g3,g4,g5⟩
 replace bX:=λc hc=>Xa (bX c hc) hT.size;replace m5:=m5.ext (X':=b3 :: b2 :: X) hT (λc hc=>by simp at hc;simp [hc]) (λc hc=>.inl hc);replace ck:=ck.ext (X':=b3 :: b2 :: X) hT (λc hc=>by simp at hc;simp [hc]) (λc hc=>.inl hc);clear hT cC;refine W ?_
 refine JE (σ:=Value) (λ_=>[(0,pQ b),(2,pQ b2),(3,pQ b3)])
  (λq w'=>Blk w' b3 99 (rlC ⟨u2,u4.num,u6,if u7.kind=0 then .mk 2 1 [] [] else u7,JM,[],[]⟩ q (.N))/\SlV (b3 :: b2 :: X) w' q (if u7.kind=0 then Nd.mk 2 1 [] [] else u7).kids/\Stp [b3] ws7 w') ?_ ?_
 by_cases k0:u7.kind=0
 . rw [if_pos k0]
   (refine QP ?_ ?_<;>intro hc)
   all_goals try exact absurd k0 (by assumption)
   apply Z7 (vs:=[(0,.I 2),(1,.I 1)]) rfl (Zap _ _) rfl;refine W ?_;refine Z6 (Z12 (us:=ndC (.mk 2 1 [] []) (.N)) rfl rfl rfl rfl (ZC (x:=.mk 2 1 [] []) (ZT [] w)) e3 (by simp)) ?_;rintro _ wy ⟨hT,e3'⟩;refine W ?_;exact QT (.N) ⟨e3',ZT _ _,hT⟩
 . rw [if_neg k0]
   (refine QP ?_ ?_<;>intro hc)
   all_goals try exact absurd (by assumption) k0
   exact QT kx7 ⟨e3,m5,Stp.refl _ _⟩
 clear e3 m5;generalize qu:(if u7.kind=0 then Nd.mk 2 1 [] [] else u7)=cnd;rintro ki ws7 ⟨e3,cC,hT⟩;replace e2:=e2.ext hT (by simpa using n32.symm);replace hm:=hT.cell (by simpa using n31.symm) hm;replace hS:=hS.own hT (λc hc=>by simp at hc;subst hc;exact .inr eH);replace hp:Pd ws7 b tv l i7 o7:=by
  obtain ⟨g1,g2,g3,g4,g5⟩:=hp;exact ⟨g1.ext hT (by simpa using n3.symm),bg.ext hS (λc hc=>hc) (λc hc=>.inl hc),g3,g4,g5⟩
 replace bX:=λc hc=>Xa (bX c hc) hT.size;replace ck:=ck.ext (X':=b3 :: b2 :: X) hT (λc hc=>by simp at hc;simp [hc]) (λc hc=>.inl hc);clear hT;refine W ?_;refine CL (Z0I b tv l i7 o7 _ hp) ?_;rintro _ wx7 ⟨rfl,hT⟩;replace hp:=hp.up hT;replace e2:=e2.up hT;replace e3:=e3.up hT;replace cC:=cC.up hT;replace ck:=ck.up hT;replace hm:=hT.cell (by simp) hm;replace hS:=hS.trans hT.mn;replace bX:=λc hc=>Xa (bX c hc) hT.size;clear hT;simp only;by_cases jo:(cur l i7).text=[100,117,101]
 rotate_left
 . rw [if_neg jo]
   (refine QP ?_ ?_<;>intro hc)
   refine ZR rfl (Zf rfl rfl) (Z9h b tv l i7 o7 20 _ w hp hS) rfl ?_;intro wz bV;focus repeat'(first|refine Zh ?_|refine Zg ?_)
   refine ZD ?_;exact PC.fail bV;all_goals exact absurd jo (by assumption)
 rw [if_pos jo]
 (refine QP ?_ ?_<;>intro hc)
 exact absurd jo (by assumption);refine Z8 (Z0J rfl) rfl ?_;rcases hU:Z1v l [100,117,101] JM (Z1P l) i7 o7 with ⟨a,c⟩|⟨u8,i8,o8⟩
 refine ZR rfl (ZI rfl rfl rfl) (PC.falls (Z4j (b3 :: b2 :: X) b tv l hL [100,117,101] (by decide) m i7 o7 _ aX (by simp [bT]) bX hm hp) hU hS) rfl ?_;intro wz bV;focus repeat'(first|refine Zh ?_|refine Zg ?_)
 refine ZD ?_;exact PC.err bV;refine CM (ZI rfl rfl rfl) (PC.goes (Z4j (b3 :: b2 :: X) b tv l hL [100,117,101] (by decide) m i7 o7 _ aX (by simp [bT]) bX hm hp) hU) ?_;rintro _ wn8 ⟨⟨kx8,rfl,qw⟩,cK,hT⟩;replace hm:=Ju hm aX hT;replace e2:=e2.ext hT (by simpa using n2);replace e3:=e3.ext hT (by simpa using n3);replace cC:=cC.ext (X':=b3 :: b2 :: X) hT (λc hc=>by simp at hc;subst hc;simp [bT]) (λc hc=>.inl hc);replace ck:=ck.ext (X':=b3 :: b2 :: X) hT (λc hc=>by simp at hc;subst hc;simp [bT]) (λc hc=>.inl hc);replace hS:=hS.trans hT;replace bX:=λc hc=>Xa (bX c hc) hT.size;clear hT hp;have hp:=cK;clear cK hU;refine W ?_;refine Z6 (Z12 (us:=ndC u8 kx8) rfl rfl rfl rfl (ZC qw) e3 (by simp)) ?_;rintro _ ws8 ⟨hT,e3'⟩;replace e3:Blk ws8 b3 99 (rlC ⟨u2,u4.num,u6,cnd,u8,[],[]⟩ ki kx8):=e3';clear e3';replace e2:=e2.ext hT (by simpa using n32.symm);replace hm:=hT.cell (by simpa using n31.symm) hm;replace hS:=hS.own hT (λc hc=>by simp at hc;subst hc;exact .inr eH);replace hp:Pd ws8 b tv l i8 o8:=by
  obtain ⟨g1,g2,g3,g4,g5⟩:=hp;exact ⟨g1.ext hT (by simpa using n3.symm),bg.ext hS (λc hc=>hc) (λc hc=>.inl hc),g3,g4,g5⟩
 replace bX:=λc hc=>Xa (bX c hc) hT.size;clear ck;have ck:=qw.ext (X':=b3 :: b2 :: X) hT (λc hc=>by simp at hc;simp [hc]) (λc hc=>.inl hc);replace cC:=cC.ext (X':=b3 :: b2 :: X) hT (λc hc=>by simp at hc;simp [hc]) (λc hc=>.inl hc);clear hT qw;refine W ?_;refine Z8 (Z0J rfl) rfl ?_;simp only;rcases hU:Z1v l [117,110,108,101,115,115] [] (Z29 l) i8 o8 with ⟨a,c⟩|⟨u9,i9,o9⟩
 refine ZR rfl (ZI rfl rfl rfl) (PC.falls (Z1H b tv l hL [117,110,108,101,115,115] (by decide) m i8 o8 _ aX hm hp) hU hS) rfl ?_;intro wz bV;focus repeat'(first|refine Zh ?_|refine Zg ?_)
 refine ZD ?_;exact PC.err bV;refine CM (ZI rfl rfl rfl) (PC.goes (Z1H b tv l hL [117,110,108,101,115,115] (by decide) m i8 o8 _ aX hm hp) hU) ?_;rintro _ wn9 ⟨rfl,cK,hT⟩;replace hm:=Ju hm aX hT;replace e2:=e2.ext hT (by simpa using n2);replace e3:=e3.ext hT (by simpa using n3);replace cC:=cC.ext (X':=b3 :: b2 :: X) hT (λc hc=>by simp at hc;subst hc;simp [bT]) (λc hc=>.inl hc);replace ck:=ck.ext (X':=b3 :: b2 :: X) hT (λc hc=>by simp at hc;subst hc;simp [bT]) (λc hc=>.inl hc);replace hS:=hS.trans hT;replace bX:=λc hc=>Xa (bX c hc) hT.size;clear hT hp;have hp:=cK;clear cK hU;refine W ?_;refine S1 (u:=str u9) e3 ?_;rintro _ ws9 ⟨hT,e3'⟩;replace e3:Blk ws9 b3 99 (rlC ⟨u2,u4.num,u6,cnd,u8,u9,[]⟩ ki kx8):=e3';clear e3';replace e2:=e2.ext hT (by simpa using n32.symm);replace hm:=hT.cell (by simpa using n31.symm) hm;replace hS:=hS.own hT (λc hc=>by simp at hc;subst hc;exact .inr eH);replace hp:Pd ws9 b tv l i9 o9:=by
  obtain ⟨g1,g2,g3,g4,g5⟩:=hp;exact ⟨g1.ext hT (by simpa using n3.symm),bg.ext hS (λc hc=>hc) (λc hc=>.inl hc),g3,g4,g5⟩
 replace bX:=λc hc=>Xa (bX c hc) hT.size;replace cC:=cC.ext (X':=b3 :: b2 :: X) hT (λc hc=>by simp at hc;simp [hc]) (λc hc=>.inl hc);replace ck:=ck.ext (X':=b3 :: b2 :: X) hT (λc hc=>by simp at hc;simp [hc]) (λc hc=>.inl hc);refine W ?_;refine Z8 (Z0J rfl) rfl ?_;simp only;rcases hU:Z1v l [101,108,115,101] [] (Z29 l) i9 o9 with ⟨a,c⟩|⟨u10,i10,o10⟩
 refine ZR rfl (ZI rfl rfl rfl) (PC.falls (Z1H b tv l hL [101,108,115,101] (by decide) m i9 o9 _ aX hm hp) hU hS) rfl ?_;intro wz bV;focus repeat'(first|refine Zh ?_|refine Zg ?_)
 refine ZD ?_;exact PC.err bV;refine CM (ZI rfl rfl rfl) (PC.goes (Z1H b tv l hL [101,108,115,101] (by decide) m i9 o9 _ aX hm hp) hU) ?_;rintro _ wn10 ⟨rfl,cK,hT⟩;replace hm:=Ju hm aX hT;replace e2:=e2.ext hT (by simpa using n2);replace e3:=e3.ext hT (by simpa using n3);replace cC:=cC.ext (X':=b3 :: b2 :: X) hT (λc hc=>by simp at hc;subst hc;simp [bT]) (λc hc=>.inl hc);replace ck:=ck.ext (X':=b3 :: b2 :: X) hT (λc hc=>by simp at hc;subst hc;simp [bT]) (λc hc=>.inl hc);replace hS:=hS.trans hT;replace bX:=λc hc=>Xa (bX c hc) hT.size;clear hT hp;have hp:=cK;clear cK hU;refine W ?_;refine S1 (u:=str u10) e3 ?_;rintro _ ws10 ⟨hT,e3'⟩;replace e3:Blk ws10 b3 99 (rlC ⟨u2,u4.num,u6,cnd,u8,u9,u10⟩ ki kx8):=e3';clear e3';replace e2:=e2.ext hT (by simpa using n32.symm);replace hm:=hT.cell (by simpa using n31.symm) hm;replace hS:=hS.own hT (λc hc=>by simp at hc;subst hc;exact .inr eH);replace hp:Pd ws10 b tv l i10 o10:=by
  obtain ⟨g1,g2,g3,g4,g5⟩:=hp;exact ⟨g1.ext hT (by simpa using n3.symm),bg.ext hS (λc hc=>hc) (λc hc=>.inl hc),g3,g4,g5⟩
 replace bX:=λc hc=>Xa (bX c hc) hT.size;replace cC:=cC.ext (X':=b3 :: b2 :: X) hT (λc hc=>by simp at hc;simp [hc]) (λc hc=>.inl hc);replace ck:=ck.ext (X':=b3 :: b2 :: X) hT (λc hc=>by simp at hc;simp [hc]) (λc hc=>.inl hc);refine W ?_;simp only;rcases hU:Z0G l [125] i10 o10 with ⟨a,c⟩|⟨u11,i11,o11⟩
 refine ZR rfl (Zf rfl rfl) (PC.falls (JI b tv l hL [125] (by decide) i10 o10 _ hp) hU hS) rfl ?_;intro wz bV;focus repeat'(first|refine Zh ?_|refine Zg ?_)
 refine ZD ?_;exact PC.err bV;refine CM (Zf rfl rfl) (PC.goes (JI b tv l hL [125] (by decide) i10 o10 _ hp) hU) ?_;rintro _ wn11 ⟨rfl,cK,hT⟩;replace hm:=Ju hm aX hT;replace e2:=e2.ext hT (by simpa using n2);replace e3:=e3.ext hT (by simpa using n3);replace cC:=cC.ext (X':=b3 :: b2 :: X) hT (λc hc=>by simp at hc;subst hc;simp [bT]) (λc hc=>.inl hc);replace ck:=ck.ext (X':=b3 :: b2 :: X) hT (λc hc=>by simp at hc;subst hc;simp [bT]) (λc hc=>.inl hc);replace hS:=hS.trans hT;replace bX:=λc hc=>Xa (bX c hc) hT.size;clear hT hp;have hp:=cK;clear cK hU;refine W ?_;simp only;refine SB (us:=rlC ⟨u2,u4.num,u6,cnd,u8,u9,u10⟩ ki kx8) (ZnM ⟨u2,u4.num,u6,cnd,u8,u9,u10⟩ cC ck) e2 ?_;rintro _ wz ⟨hT,e2'⟩;refine W ?_;rw [qu];refine J0 rfl rfl rfl e2' rfl ?_;obtain ⟨g1,g2,g3,g4,g5⟩:=hp;have cH:=hS.own hT (λc hc=>by simp at hc;subst hc;exact .inr fO);refine PC.ok ⟨ki,kx8,rfl,?_,?_⟩ ⟨g1.ext hT (by simpa using n2.symm),bg.ext cH (λc hc=>hc) (λc hc=>.inl hc),g3,g4,g5⟩ cH;exact (cC.ext (X':=b3 :: b2 :: X) hT (λc hc=>by simp at hc;simp [hc]) (λc hc=>.inl hc)).wk (λc hc=>by simp [hc]);exact (ck.ext (X':=b3 :: b2 :: X) hT (λc hc=>by simp at hc;simp [hc]) (λc hc=>.inl hc)).wk (λc hc=>by simp [hc])
end Go.Proofs.YtipfkbkkndacjaaGreatDoor
namespace Go.Eng
open Go Go.RowKit Go.Proofs
end Go.Eng
namespace Go.Proofs.YtipfkbkkndacjaaGreatDoor
open Go Go.Eng Go.RowKit Go.Proofs
theorem Zj8 {X:List Nat} {w} {v:Value} {l:List Rul} {i:Nat} (h:SlV X w v l) (hi:i<l.length):∃ ki kd,SlV X w ki l[i].cnd.kids/\SlV X w kd l[i].due.kids/\∀ j u,(rlC l[i] ki kd)[j]?=some u->w.cell? (ZH v i 13 j)=some u:=by
 obtain ⟨cs,hr,hc⟩:=h.cell hi;obtain ⟨ki,kd,rfl,h1,h2⟩:=hr;exact ⟨ki,kd,h1,h2,hc⟩
theorem Z7X {P:Program} {n:Nat} {e:Env} {w} {d:Option Nat} {ty:TypeId} {pos:String} {af:Array Edge} {g:Option (Nat×Bool)} {X:List Nat} {v:Value} {l:List Rul} {i:Nat} {ki kd:Value} {x:Operand} {t:TypeId} {D:TypeDesc} [hu:Und P t D] (hA:Z0C D=true) [bE:Siz P t 13] (hx:ev e x=some (.pointer (some (ZH v i 13 0)))) (hs:SlV X w v l) (hi:i<l.length)
 (hc:∀ j u,(rlC l[i] ki kd)[j]?=some u->w.cell? (ZH v i 13 j)=some u) :
 PR P n ⟨d,.load t x,ty,pos,af,g⟩ e w (.agg (rlC l[i] ki kd).toArray):=by
 obtain ⟨p,l',c,rfl⟩:=hs.isSome hi;refine Z3k (cs:=rlC l[i] ki kd) hA hx rfl (λj u hu=>?_);have:=hc j u hu;simpa [ZH] using this
abbrev Z5t:Nd:=.mk 2 1 [] []
theorem Zdt (X:List Nat) (w):CC 103 #[] w λr w'=>NdV X w' r Z5t/\Stp [] w w':=by
 refine cW0 2 Tryz.func103 ?_;refine W ?_;refine Z0 Z2 rfl ?_;rintro _ w1 ⟨b,rfl,hb,ac,hS⟩;refine W ?_;apply Z7 (vs:=[(0,.I 2),(1,.I 1)]) rfl (Z3z _ _) rfl;have hy:SlV (α:=Nd) X w1 (.N) []:=Zk _ _;refine SB (us:=ndC Z5t (.N)) (ZC (x:=Z5t) hy) ac ?_;rintro _ w2 ⟨ah,aQ⟩;have hT:=hS.ow ah;refine W ?_;refine J0 rfl rfl rfl aQ rfl ?_;exact .mk ⟨⟨_,rfl,Zk _ _⟩,hT⟩
theorem Zdu (v:Value) (r:Rul) (w) (hv:ZfF [] w v r) (h1:ZJ r.cnd<=1000) (h2:ZJ r.due<=1000) :
 CC 68 #[v] w λr' w'=>r'=.I (Z0R r)/\Stp [] w w':=by
 obtain ⟨ki,kd,rfl,hi,hd⟩:=hv;have oM:=Z0q r.cnd;have lY:=Z0q r.due;refine cW1 69 Tryz.func68 ?_;refine W ?_;refine Z0 (Zo rfl) rfl ?_;rintro _ w1 ⟨b,rfl,hb,ac,hS⟩;replace ac:Blk w1 b _ (rlC r ki kd):=ac;refine W ?_;refine CL (Z1k r.name _) ?_;rintro _ w2 ⟨rfl,hT⟩;replace ac:=ac.up hT;replace hS:=hS.trans hT;clear hT;refine Z5n (σ:=Bool) (λq=>[(1,pQ b),(2,.I 0),(38,.B q)]) (λq w'=>Blk w' b 99 (rlC r ki kd)/\Stp [] w w'/\q=!Jf r) ?_ ?_
 . cases hA:ZB r.name with
   | false=>
     refine W ?_;exact QT true ⟨ac,hS,by simp [Jf, *]⟩
   | true=>
     refine W ?_;refine CL (Z1k r.on _) ?_;rintro _ w2 ⟨rfl,hT⟩;replace ac:=ac.up hT;replace hS:=hS.trans hT;clear hT;cases hB:ZB r.on with
     | false=>
       refine W ?_;exact QT true ⟨ac,hS,by simp [Jf, *]⟩
     | true=>
       repeat'(first|refine W1 ?_|omega|refine VG ?_ ?_<;>intro hg|refine VC ?_ ?_<;>intro hc)
       . refine CL (Z1k r.unl _) ?_
         rintro _ w2 ⟨rfl,hT⟩;replace ac:=ac.up hT;replace hS:=hS.trans hT;clear hT;cases hC:ZB r.unl with
         | false=>
           refine W ?_;exact QT true ⟨ac,hS,by simp [Jf, *]⟩
         | true=>
           (refine QP ?_ ?_<;>intro hg)
           . refine CL (Z1k r.els _) ?_
             rintro _ w2 ⟨rfl,hT⟩;replace ac:=ac.up hT;replace hS:=hS.trans hT;clear hT;cases hD:ZB r.els with
             | false=>
               refine W ?_;exact QT true ⟨ac,hS,by simp [Jf, *]⟩
             | true=>
               refine W ?_;exact QT false ⟨ac,hS,by simp [Jf, *]⟩
           exact QT false ⟨ac,hS,by simp [Jf, *]⟩
       . refine CL (Z1k r.els _) ?_
         rintro _ w2 ⟨rfl,hT⟩;replace ac:=ac.up hT;replace hS:=hS.trans hT;clear hT;cases hD:ZB r.els with
         | false=>
           refine W ?_;exact QT true ⟨ac,hS,by simp [Jf, *]⟩
         | true=>
           refine W ?_;exact QT false ⟨ac,hS,by simp [Jf, *]⟩
       exact QT false ⟨ac,hS,by simp [Jf, *]⟩
 rintro q w3 ⟨ac,hS,hq⟩
 try dsimp only at hq ⊢
 unfold Z0R;cases fF:Jf r with
 | false=>
   rw [fF] at hq;subst hq;refine RT ?_;exact ⟨rfl,hS⟩
 | true=>
   rw [fF] at hq;subst hq;rw [if_neg (by decide)];refine W ?_;by_cases hr:r.frm<0\/r.frm > 3652058
   . rw [if_pos hr]
     repeat'(first|refine W1 ?_|omega|refine VG ?_ ?_<;>intro hg|refine VC ?_ ?_<;>intro hc)
     all_goals
      refine RU ?_;exact ⟨rfl,hS⟩
   rw [if_neg hr];refine QO ?_;apply Z8 (Zl (us:=ndC r.cnd ki) rfl rfl ac rfl rfl) rfl;refine W ?_;refine CM (ZN rfl) (Z7v [] _ r.cnd _ (Z3v _ h1) (by omega) ⟨ki,rfl,hi.up hS⟩) ?_;rintro _ w4 ⟨rfl,hT⟩;replace ac:=ac.up hT;replace hS:=hS.trans hT;clear hT;unfold Z1S;by_cases n1:Zy r.cnd<=12
   case neg=>
    simp only [if_neg n1];refine RT ?_;exact ⟨rfl,hS⟩
   simp only [if_pos n1];by_cases t1:Zd r.cnd=0;simp only [if_pos t1];refine RT ?_;exact ⟨rfl,hS⟩;simp only [if_neg t1];by_cases u1:Zd r.cnd=2
   case neg=>
    simp only [if_neg u1];refine RT ?_;exact ⟨rfl,hS⟩
   simp only [if_pos u1];refine QO ?_;apply Z8 (Zl (us:=ndC r.due kd) rfl rfl ac rfl rfl) rfl;refine W ?_;refine CM (ZN rfl) (Z7v [] _ r.due _ (Z3v _ h2) (by omega) ⟨kd,rfl,hd.up hS⟩) ?_;rintro _ w5 ⟨rfl,hT⟩;replace hS:=hS.trans hT;clear hT;by_cases n2:Zy r.due<=12
   case neg=>
    simp only [if_neg n2];refine RT ?_;exact ⟨rfl,hS⟩
   simp only [if_pos n2];by_cases t2:Zd r.due=0;simp only [if_pos t2];refine RT ?_;exact ⟨rfl,hS⟩;simp only [if_neg t2];by_cases u2:Zd r.due=3
   case neg=>
    simp only [if_neg u2];refine RT ?_;exact ⟨rfl,hS⟩
   simp only [if_pos u2];refine RT ?_;exact ⟨rfl,hS⟩
abbrev Zss:Nd:=.mk 0 0 [] []
abbrev Ji:Value:=.N
theorem Zar (r:Rul) {X Y:List Nat} {w w':World} {ki kd:Value} (h1:SlV X w ki r.cnd.kids) (h2:SlV Y w' kd r.due.kids):∀ c∈rlC r ki kd,c.oneCell'=true:=by
 intro c hc;have e1:=h1.one;have e2:=h2.one;simp only [rlC,Xb,Xj,or_false] at hc;rcases hc with rfl|rfl|rfl|rfl|rfl|rfl|rfl|rfl|rfl|rfl|rfl|rfl|rfl<;>first|rfl|exact e1|exact e2
theorem ZnN:∀ d,d<=6->Z26 181 1 d/\Z26 104 2 d/\Z26 105 3 d:=by
 intro d
 induction d with
 | zero=>
   intro h;have ih':∀ e,0=e+1->Z26 181 1 e/\Z26 104 2 e/\Z26 105 3 e:=λe he=>by omega
   exact ⟨Z5g _ h ih',Z7B _ h ih',Z7D _ h ih'⟩
 | succ d ih=>
   intro h;have ih':∀ e,d+1=e+1->Z26 181 1 e/\Z26 104 2 e/\Z26 105 3 e:=λe he=>by
    obtain rfl:d=e:=by omega
    exact ih (by omega)
   exact ⟨Z5g _ h ih',Z7B _ h ih',Z7D _ h ih'⟩
def Zdv:List Str:=[[114,48],[114,49],[114,50],[114,51]]
def Z1s:List Str:=[[99,108,97,105,109],[97,110,115,119,101,114],[109,111,116,105,111,110],[111,114,100,101,114],[97,112,112,101,97,108],[108,97,112,115,101]]
theorem ZfH (q:Nat) (w) (hq:q<4):CC 12 #[.I (q:Int)] w λr w'=>(∃ s∈Zdv,r=str s)/\Stp [] w w':=by
 refine cW1 7 Tryz.func12 ?_;refine W ?_;refine CM (Zf rfl rfl) (Jz (q:Int) 4 _ (by decide) (by unfold I64;omega)) ?_;rintro _ w1 ⟨rfl,hS⟩;rw [if_neg (by omega),Ybs (by omega) (by omega)];refine CM (ZN rfl) (Z8L (q:Int) _ (by omega) (by omega)) ?_;rintro _ w2 ⟨rfl,hT⟩;have:q=0\/q=1\/q=2\/q=3:=by omega
 have hm:([114]++Lib.itoa (q:Int):Str)∈Zdv/\(Lib.itoa (q:Int)).length<=10:=by
  rcases this with rfl|rfl|rfl|rfl<;>(unfold Lib.itoa;rw [if_neg (by omega),Lib.decDigits,dif_pos (by decide)];decide)
 refine Z49 rfl rfl (by simp;omega) rfl ?_;refine RT ?_;exact ⟨⟨_,hm.1,rfl⟩,hS.trans hT⟩
theorem Z6b (q:Nat) (w) (hq:q<6):CC 28 #[.I (q:Int)] w λr w'=>(∃ s∈Z1s,r=str s)/\Stp [] w w':=by
 refine cW1 10 Tryz.func28 ?_;refine W ?_;refine Z0 (Z1 (vs:=[(0,str [99,108,97,105,109]),(1,str [97,110,115,119,101,114]),(2,str [109,111,116,105,111,110]),(3,str [111,114,100,101,114]),(4,str [97,112,112,101,97,108]),(5,str [108,97,112,115,101])]) rfl (bS6 _ _ _ _ _ _)) rfl ?_;rintro v w1 hN;have hv:SlV [] w1 v Z1s:=hN.slv (by simp) rfl rfl (by decide);have hS:=Z9.stp hN;clear hN;refine W ?_;refine CM (Zf rfl rfl) (Jz (q:Int) 6 _ (by decide) (by unfold I64;omega)) ?_;rintro _ w2 ⟨rfl,hT⟩;rw [if_neg (by omega),Ybs (by omega) (by omega)];replace hv:=hv.up hT;have cG:q<Z1s.length:=by show q<6;exact hq
 refine RT ?_;exact ⟨⟨_,Xd cG,rfl⟩,hS.trans hT⟩
structure Z7Y (r:RuleM):Prop where
 name:r.name∈Zdv
 frm:739606<=r.frm/\r.frm<739636
 on:r.on∈Z1s
 cond:Gn 2 3 r.cond
 due:Gn 3 3 r.due
 unl:r.unl=[]\/r.unl∈Z1s
 els:r.els=[]\/r.els∈Z1s
theorem Zj9 (a o:Str) (f k n:Int) (s:Str) (p:Option Addr) (l c:Nat) (w):(Instr.build 99 #[(0,str a),(1,.I f),(2,str o),(3,.agg #[.I k,.I n,str s,.slice p l c])]).run Tryz.prog w=.ok (.agg #[str a,.I f,str o,.I k,.I n,str s,.slice p l c,.I 0,.I 0,str [],.N,str [],str []]) w:=by kernel_rfl
theorem ZfI (X:List Nat) (bm:Nat) (lv:Value) (l:List Int) (i:Nat) (w) (aB:Mk3 w bm lv i) (ax:SlV [bm] w lv l) (hl:∀ a∈l,I64 a) (hi:i<=50000) (hX:∀ b∈X,b<w.heap.size) :
 CC 67 #[pQ bm] w λr w'=>∃ (rl:RuleM) (i':Nat),ZfF X w' r rl.rul/\Z7Y rl/\Mk3 w' bm lv i'/\i'<=i+300/\Stp [bm] w w':=by
 have z4:szD 4=40:=by decide
 have z4':szD (3+1)=40:=z4;have gM:=ax;have kN:=aB.lt;refine cW1 40 Tryz.func67 ?_;refine W ?_;refine Z0 Z2 rfl ?_;rintro _ w1 ⟨b2,rfl,cu,e2,hS⟩;have n2:b2≠bm:=by have:=aB.lt;omega
 replace aB:=aB.up hS;replace ax:=ax.up hS;replace hS:Stp [bm] w w1:=hS.mn;have l2:=e2.lt;refine W ?_;refine CM (Zf rfl rfl) (Z0d bm lv l _ 4 _ (by decide) (by omega) aB ax hl) ?_;rintro _ wq ⟨q1,rfl,hq1,aB,hT⟩;replace ax:=ax.ext hT (λ_ h=>h) (λ_ h=>.inl h);replace e2:=e2.ext hT (by simp;exact n2);replace hS:=hS.trans hT;clear hT;refine CM (ZN rfl) (ZfH q1 _ (by omega)) ?_;rintro _ wq ⟨⟨nm,fF,rfl⟩,hT⟩;replace aB:=aB.up hT;replace ax:=ax.up hT;replace e2:=e2.up hT;replace hS:=hS.trans hT.mn;clear hT;refine W ?_;refine CM (Zf rfl rfl) (Z0d bm lv l _ 30 _ (by decide) (by omega) aB ax hl) ?_;rintro _ wq ⟨q2,rfl,hq2,aB,hT⟩;replace ax:=ax.ext hT (λ_ h=>h) (λ_ h=>.inl h);replace e2:=e2.ext hT (by simp;exact n2);replace hS:=hS.trans hT;clear hT;refine W ?_;refine CM (Zf rfl rfl) (Z0d bm lv l _ 6 _ (by decide) (by omega) aB ax hl) ?_;rintro _ wq ⟨q3,rfl,tg,aB,hT⟩;replace ax:=ax.ext hT (λ_ h=>h) (λ_ h=>.inl h);replace e2:=e2.ext hT (by simp;exact n2);replace hS:=hS.trans hT;clear hT;refine CM (ZN rfl) (Z6b q3 _ (by omega)) ?_;rintro _ wq ⟨⟨on,jn,rfl⟩,hT⟩;replace aB:=aB.up hT;replace ax:=ax.up hT;replace e2:=e2.up hT;replace hS:=hS.trans hT.mn;clear hT;refine W ?_;refine CL (Zdt (b2 :: bm :: X) _) ?_;rintro _ wq ⟨⟨kt,rfl,ht⟩,hT⟩;obtain ⟨pt,ct,rfl,-⟩:=id ht;replace ht:SlV (b2 :: bm :: X) wq (.slice pt Z5t.kids.length ct) Z5t.kids:=ht;replace aB:=aB.up hT;replace ax:=ax.up hT;replace e2:=e2.up hT;replace hS:=hS.trans hT.mn;clear hT;refine W ?_;refine Z7 (vs:=[(0,str nm),(1,.I _),(2,str on),(3,.agg #[.I 2,.I 1,str [],.slice pt 0 ct])]) rfl (Zj9 _ _ _ _ _ _ _ _ _) rfl ?_;refine Z0 Z2 rfl ?_;rintro _ wq ⟨b3,rfl,d8,e0,hT⟩;have pF:∀ c,c<w.heap.size->c<b3:=λc hc=>by have:=hS.size;omega
 have n3:b3≠bm:=by have:=aB.lt;omega
 have n23:b2≠b3:=by have:=e2.lt;omega
 have eH:w.heap.size<=b3:=Xg hS.size d8;refine SB (us:=rlC ⟨nm,739616+(q2:Int) - 10,on,Z5t,Zss,[],[]⟩ (.slice pt 0 ct) Ji) (Zar _ (X:=b2 :: bm :: X) ht (Zk [] wq)) e0 ?_;rintro _ wq ⟨aq,e3⟩;replace hT:=JH hT d8 aq;clear aq e0;replace ht:SlV (b3 :: b2 :: bm :: X) wq (.slice pt Z5t.kids.length ct) Z5t.kids:=ht.ext hT (by simp) (λc hc=>by
  rcases Xb.1 hc with rfl|h
  exact .inr d8;exact .inl h)
 replace aB:=aB.up hT;replace ax:=ax.up hT;replace e2:=e2.up hT;replace hS:=hS.trans hT.mn;clear hT d8;have kp:739606<=739616+(q2:Int) - 10/\739616+(q2:Int) - 10<739636:=by omega
 generalize 739616+(q2:Int) - 10=fr at *;clear hq1 tg;refine W ?_;refine CM (Zf rfl rfl) (Z0d bm lv l _ 3 _ (by decide) (by omega) aB ax hl) ?_;rintro _ wq ⟨q4,rfl,oD,aB,hT⟩;replace ax:=ax.ext hT (λ_ h=>h) (λ_ h=>.inl h);replace e2:=e2.ext hT (by simp;exact n2);replace e3:=e3.ext hT (by simp;exact n3);replace hS:=hS.trans hT;replace ht:=ht.ext hT (by simp) (λ_ h=>.inl h);clear hT;have bX:∀ (w':World),Stp [bm] w w'->(∃ cs,Blk w' b3 99 cs)->(∃ cs,Blk w' b2 99 cs)->∀ b∈b3 :: b2 :: bm :: X,b<w'.heap.size:=λw' h1 h2 h3 b hb=>by
  obtain ⟨_,h2⟩:=h2;obtain ⟨_,h3⟩:=h3;have:=h1.size;simp only [Xb] at hb;rcases hb with rfl|rfl|rfl|h
  exact h2.lt;exact h3.lt;omega;have:=hX b h;omega
 refine W ?_
 refine JE (σ:=Nd×Value×Nat) (λ_=>[(0,pQ bm),(2,pQ b2),(3,pQ b3)])
  (λq w'=>Gn 2 3 q.1/\SlV (b3 :: b2 :: bm :: X) w' q.2.1 q.1.kids/\Mk3 w' bm lv q.2.2/\q.2.2<=i+124/\SlV [bm] w' lv l/\(∃ cs:List Value,cs.length=13/\Blk w' b2 99 cs)/\Blk w' b3 99 (rlC ⟨nm,fr,on,q.1,Zss,[],[]⟩ q.2.1 Ji)/\Stp [bm] w w') ?_ ?_
 (refine QP ?_ ?_<;>intro hc)
 refine CM (Zf rfl rfl) ((ZnN 3 (by decide)).2.1 (b3 :: b2 :: bm :: X) _ bm lv l _ _ rfl aB ax hl (by rw [z4];omega) (bX _ hS ⟨_,e3⟩ ⟨_,e2⟩)) ?_;rintro _ wq ⟨y,i1,⟨ky,rfl,hy⟩,gy,aB,bN,hT⟩;replace ax:=ax.ext hT (λ_ h=>h) (λ_ h=>.inl h);replace e2:=e2.ext hT (by simp;exact n2);replace e3:=e3.ext hT (by simp;exact n3);replace hS:=hS.trans hT;clear hT;refine W ?_;refine Z6 (Z12 (us:=ndC y ky) rfl rfl rfl rfl (ZC hy) e3 (by simp)) ?_;rintro _ wq ⟨hT,e3⟩;replace e3:Blk wq b3 99 (rlC ⟨nm,fr,on,y,Zss,[],[]⟩ ky Ji):=e3;replace hy:=hy.ext hT (by simp) (λ_ h=>.inl h);replace aB:=aB.ext hT (by simp;exact n3.symm);replace e2:=e2.ext hT (by simp;exact n23);replace hS:=hS.ow hT;replace ax:=gM.ext hS (λ_ h=>h) (λ_ h=>.inl h);clear hT;refine W ?_;exact QT (y,ky,_) ⟨gy,hy,aB,by simp only;omega,ax,⟨_,rfl,e2⟩,e3,hS⟩;exact QT (Z5t,_,_) ⟨.bool _ _ (by decide),ht,aB,by simp only;omega,ax,⟨_,rfl,e2⟩,e3,hS⟩;clear aB ax e2 e3 hS ht;rintro ⟨y,ky,i1⟩ wq ⟨gy,hy,aB,bN,ax,⟨cs2,cq,e2⟩,e3,hS⟩;dsimp only at gy hy aB bN e3;have z4':szD (3+1)=40:=z4;refine W ?_;refine CM (Zf rfl rfl) ((ZnN 3 (by decide)).2.2 (b3 :: b2 :: bm :: X) _ bm lv l _ _ rfl aB ax hl (by rw [z4];omega) (bX _ hS ⟨_,e3⟩ ⟨_,e2⟩)) ?_;rintro _ wq ⟨x,i2,⟨kx,rfl,hx⟩,gx,aB,cn,hT⟩;replace hy:=hy.ext hT (by simp) (λ_ h=>.inl h);replace e2:=e2.ext hT (by simp;exact n2);replace e3:=e3.ext hT (by simp;exact n3);replace hS:=hS.trans hT;clear hT;refine W ?_;refine Z6 (Z12 (us:=ndC x kx) rfl rfl rfl rfl (ZC hx) e3 (by simp)) ?_;rintro _ wq ⟨hT,e3⟩;replace e3:Blk wq b3 99 (rlC ⟨nm,fr,on,y,x,[],[]⟩ ky kx):=e3;replace hx:=hx.ext hT (by simp) (λ_ h=>.inl h);replace hy:=hy.ext hT (by simp) (λ_ h=>.inl h);replace aB:=aB.ext hT (by simp;exact n3.symm);replace e2:=e2.ext hT (by simp;exact n23);replace hS:=hS.ow hT;replace ax:=gM.ext hS (λ_ h=>h) (λ_ h=>.inl h);clear hT;refine W ?_;refine CM (Zf rfl rfl) (Z0d bm lv l _ 2 _ (by decide) (by omega) aB ax hl) ?_;rintro _ wq ⟨q5,rfl,vd,aB,hT⟩;replace hy:=hy.ext hT (by simp) (λ_ h=>.inl h);replace hx:=hx.ext hT (by simp) (λ_ h=>.inl h);replace e2:=e2.ext hT (by simp;exact n2);replace e3:=e3.ext hT (by simp;exact n3);replace hS:=hS.trans hT;replace ax:=gM.ext hS (λ_ h=>h) (λ_ h=>.inl h);clear hT;refine W ?_
 refine JE (σ:=Str×Nat) (λ_=>[(0,pQ bm),(2,pQ b2),(3,pQ b3)])
  (λq w'=>(q.1=[]\/q.1∈Z1s)/\SlV (b3 :: b2 :: bm :: X) w' ky y.kids/\SlV (b3 :: b2 :: bm :: X) w' kx x.kids/\Mk3 w' bm lv q.2/\q.2<=i+250/\Blk w' b2 99 cs2/\Blk w' b3 99 (rlC ⟨nm,fr,on,y,x,q.1,[]⟩ ky kx)/\Stp [bm] w w') ?_ ?_
 (refine QP ?_ ?_<;>intro hc)
 refine CM (Zf rfl rfl) (Z0d bm lv l _ 6 _ (by decide) (by omega) aB ax hl) ?_;rintro _ wq ⟨q6,rfl,ve,aB,hT⟩;replace hy:=hy.ext hT (by simp) (λ_ h=>.inl h);replace hx:=hx.ext hT (by simp) (λ_ h=>.inl h);replace e2:=e2.ext hT (by simp;exact n2);replace e3:=e3.ext hT (by simp;exact n3);replace hS:=hS.trans hT;clear hT;refine W ?_;refine CM (ZN rfl) (Z6b q6 _ (by omega)) ?_;rintro _ wq ⟨⟨kn,mQ,rfl⟩,hT⟩;replace hy:=hy.up hT;replace hx:=hx.up hT;replace aB:=aB.up hT;replace e2:=e2.up hT;replace e3:=e3.up hT;replace hS:=hS.trans hT.mn;clear hT;refine W ?_;refine S1 (u:=str kn) e3 ?_;rintro _ wq ⟨hT,e3⟩;replace e3:Blk wq b3 99 (rlC ⟨nm,fr,on,y,x,kn,[]⟩ ky kx):=e3;replace hx:=hx.ext hT (by simp) (λ_ h=>.inl h);replace hy:=hy.ext hT (by simp) (λ_ h=>.inl h);replace aB:=aB.ext hT (by simp;exact n3.symm);replace e2:=e2.ext hT (by simp;exact n23);replace hS:=hS.ow hT;refine W ?_;exact QT (kn,_) ⟨.inr mQ,hy,hx,aB,by simp only;omega,e2,e3,hS⟩;exact QT ([],_) ⟨.inl rfl,hy,hx,aB,by simp only;omega,e2,e3,hS⟩;clear aB ax e2 e3 hS hy hx;rintro ⟨u,i5⟩ wq ⟨hu,hy,hx,aB,vf,e2,e3,hS⟩;dsimp only at hu aB vf e3;have ax:=gM.ext hS (λ_ h=>h) (λ_ h=>.inl h);refine W ?_;refine CM (Zf rfl rfl) (Z0d bm lv l _ 2 _ (by decide) (by omega) aB ax hl) ?_;rintro _ wq ⟨q5,rfl,vd,aB,hT⟩;replace hy:=hy.ext hT (by simp) (λ_ h=>.inl h);replace hx:=hx.ext hT (by simp) (λ_ h=>.inl h);replace e2:=e2.ext hT (by simp;exact n2);replace e3:=e3.ext hT (by simp;exact n3);replace hS:=hS.trans hT;replace ax:=gM.ext hS (λ_ h=>h) (λ_ h=>.inl h);clear hT;refine W ?_
 refine JE (σ:=Str×Nat) (λ_=>[(0,pQ bm),(2,pQ b2),(3,pQ b3)])
  (λq w'=>(q.1=[]\/q.1∈Z1s)/\SlV (b3 :: b2 :: bm :: X) w' ky y.kids/\SlV (b3 :: b2 :: bm :: X) w' kx x.kids/\Mk3 w' bm lv q.2/\q.2<=i+252/\Blk w' b2 99 cs2/\Blk w' b3 99 (rlC ⟨nm,fr,on,y,x,u,q.1⟩ ky kx)/\Stp [bm] w w') ?_ ?_
 (refine QP ?_ ?_<;>intro hc)
 refine CM (Zf rfl rfl) (Z0d bm lv l _ 6 _ (by decide) (by omega) aB ax hl) ?_;rintro _ wq ⟨q6,rfl,ve,aB,hT⟩;replace hy:=hy.ext hT (by simp) (λ_ h=>.inl h);replace hx:=hx.ext hT (by simp) (λ_ h=>.inl h);replace e2:=e2.ext hT (by simp;exact n2);replace e3:=e3.ext hT (by simp;exact n3);replace hS:=hS.trans hT;clear hT;refine W ?_;refine CM (ZN rfl) (Z6b q6 _ (by omega)) ?_;rintro _ wq ⟨⟨kn,mQ,rfl⟩,hT⟩;replace hy:=hy.up hT;replace hx:=hx.up hT;replace aB:=aB.up hT;replace e2:=e2.up hT;replace e3:=e3.up hT;replace hS:=hS.trans hT.mn;clear hT;refine W ?_;refine S1 (u:=str kn) e3 ?_;rintro _ wq ⟨hT,e3⟩;replace e3:Blk wq b3 99 (rlC ⟨nm,fr,on,y,x,u,kn⟩ ky kx):=e3;replace hx:=hx.ext hT (by simp) (λ_ h=>.inl h);replace hy:=hy.ext hT (by simp) (λ_ h=>.inl h);replace aB:=aB.ext hT (by simp;exact n3.symm);replace e2:=e2.ext hT (by simp;exact n23);replace hS:=hS.ow hT;refine W ?_;exact QT (kn,_) ⟨.inr mQ,hy,hx,aB,by simp only;omega,e2,e3,hS⟩;exact QT ([],_) ⟨.inl rfl,hy,hx,aB,by simp only;omega,e2,e3,hS⟩;clear aB ax e2 e3 hS hy hx;rintro ⟨v,i6⟩ wq ⟨hv,hy,hx,aB,vg,e2,e3,hS⟩;dsimp only at hv aB vg e3;have ax:=gM.ext hS (λ_ h=>h) (λ_ h=>.inl h);refine W ?_
 try (apply Z8 (Zl (us:=rlC ⟨nm,fr,on,y,x,u,v⟩ ky kx) rfl rfl e3 rfl rfl) rfl)
 try refine W ?_
 refine Z6 (Zi (us:=rlC ⟨nm,fr,on,y,x,u,v⟩ ky kx) rfl rfl rfl rfl (Zar ⟨nm,fr,on,y,x,u,v⟩ hy hx) e2 (by rw [cq];rfl)) ?_;rintro _ wz ⟨hT,e2⟩;refine W ?_;refine J0 rfl rfl rfl e2 rfl ?_;refine .mk ⟨⟨nm,fr,on,y,x,u,v⟩,i6,⟨ky,kx,rfl,(hy.ext hT (by simp) (λ_ h=>.inl h)).wk (λb h=>by simp [h]),(hx.ext hT (by simp) (λ_ h=>.inl h)).wk (λb h=>by simp [h])⟩,⟨fF,kp,jn,gy,gx,hu,hv⟩,aB.ext hT (by simp;exact n2.symm),by omega,hS.ow hT⟩
structure Cr where
 name:Str
 frm:Int
 on:Str
 cnd:List Ins
 due:List Ins
 unl:Str
 els:Str
abbrev crC (q:Cr) (kc kd:Value):List Value:=[str q.name,.I q.frm,str q.on,kc,kd,str q.unl,str q.els]
def CrV (X:List Nat) (w:World) (v:Value) (q:Cr):Prop:=∃ kc kd,v=.agg (crC q kc kd).toArray/\SlV X w kc q.cnd/\SlV X w kd q.due
theorem Z0g {q:Cr} {X Y:List Nat} {w w':World} {kc kd:Value} (h1:SlV X w kc q.cnd) (h2:SlV Y w' kd q.due):∀ c∈crC q kc kd,c.oneCell'=true:=by
 intro c hc;have e1:=h1.one;have e2:=h2.one;simp only [crC,Xb,Xj,or_false] at hc;rcases hc with rfl|rfl|rfl|rfl|rfl|rfl|rfl<;>first|rfl|exact e1|exact e2
def Z0w (r:Rul):Int:=if Z0R r≠0 then Z0R r else if Z0z r.cnd≠0 then Z0z r.cnd else Z0z r.due
abbrev crZ:Cr:=⟨[],0,[],[],[],[],[]⟩
def crF (r:Rul):Cr:=if Z0w r=0 then ⟨r.name,r.frm,r.on,ZU r.cnd,ZU r.due,r.unl,r.els⟩ else crZ
def ZnO (w:World) (r:Rul) (v:Value) (w':World):Prop:=∃ cv,v=.tuple #[cv,.I (Z0w r)]/\(∀ X:List Nat,(∀ b∈X,b<w.heap.size)->CrV X w' cv (crF r))/\Stp [] w w'
theorem Z2y (w):(Instr.build 62 #[]).run Tryz.prog w=.ok (.agg (crC crZ Ji Ji).toArray) w:=by kernel_rfl
theorem Zeu (q:Cr) (p1 p2:Option Addr) (l1 c1 l2 c2:Nat) (w):(Instr.build 62 #[(0,str q.name),(1,.I q.frm),(2,str q.on),(3,.slice p1 l1 c1),(4,.slice p2 l2 c2),(5,str q.unl),(6,str q.els)]).run Tryz.prog w=.ok (.agg (crC q (.slice p1 l1 c1) (.slice p2 l2 c2)).toArray) w:=by kernel_rfl
theorem Zja (v:Value) (r:Rul) (w) (hv:ZfF [] w v r) (cm:Smp r.cnd) (br:Smp r.due) (h1:ZJ r.cnd<=1000) (h2:ZJ r.due<=1000) (hF:SlV [] w Z2m Ze) (m:Int) (hm:w.cell? ⟨2,0,none⟩=some (.I m)) :
 Calls Tryz.prog 59 #[v] w (Ret (ZnO w r)):=by
 obtain ⟨ki,kd,rfl,hi,hd⟩:=hv;have oM:=Z0q r.cnd;have lY:=Z0q r.due;refine cW1 47 Tryz.func59 ?_;refine W ?_;refine Z0 (Zo rfl) rfl ?_;rintro _ w1 ⟨b,rfl,hb,ac,hS⟩;replace ac:Blk w1 b _ (rlC r ki kd):=ac;refine W ?_;refine Z0 Z2 rfl ?_;rintro _ w2 ⟨b2,rfl,cu,e2,hT⟩;have fO:w.heap.size<=b2:=Xg hS.size cu;replace ac:=ac.up hT;replace hS:=hS.trans hT;clear hT hb cu;refine W ?_
 try (refine Z8 (ZW rfl rfl ac rfl) rfl ?_)
 refine W ?_;refine CM (ZN rfl) (Z6K _ r m _ ⟨ki,kd,rfl,hi.up hS,hd.up hS⟩ (hF.up hS) (hS.cell (by simp) hm)) ?_;rintro _ w3 ⟨rfl,hT⟩;replace ac:=ac.up hT;replace e2:=e2.up hT;replace hS:=hS.trans hT;clear hT;by_cases iQ:Z0R r=0
 case neg=>
  have hE:Z0w r=Z0R r:=by unfold Z0w;rw [if_pos iQ]
  have hC:crF r=crZ:=by unfold crF;rw [hE,if_neg iQ]
  refine QO ?_;apply Z7 (vs:=[]) rfl Z2y rfl;refine W ?_;refine SB (us:=crC crZ Ji Ji) (Z0g (q:=crZ) (Zk [] w) (Zk [] w)) e2 ?_;rintro _ w9 ⟨hT,e2⟩;refine W ?_;refine Zj rfl rfl rfl e2 rfl rfl ?_;exact .mk ⟨_,by rw [hE]<;>rfl,λX hX=>⟨Ji,Ji,by rw [hC],by rw [hC];exact Zk X _,by rw [hC];exact Zk X _⟩,hS.ow hT⟩
 refine QO ?_;apply Z8 (Zl (us:=ndC r.cnd ki) rfl rfl ac rfl rfl) rfl;refine W ?_;refine CL (Z3w _ r.cnd _ cm h1 ⟨ki,rfl,hi.up hS⟩ (hF.up hS)) ?_;rintro _ w4 ⟨va,rfl,ha,hT⟩;replace ha:=λX (hX:∀ b∈X,b<w.heap.size)=>ha (b2 :: X) (λb hb=>by
  rcases Xb.1 hb with rfl|h
  exact e2.lt;exact Xa (hX b h) hS.size)
 replace ac:=ac.up hT;replace e2:=e2.up hT;replace hS:=hS.trans hT;clear hT;refine W ?_;by_cases bQ:Z0z r.cnd=0
 case neg=>
  have hE:Z0w r=Z0z r.cnd:=by unfold Z0w;rw [if_neg (by simp [iQ]),if_pos bQ]
  have hC:crF r=crZ:=by unfold crF;rw [hE,if_neg bQ]
  refine QO ?_;apply Z7 (vs:=[]) rfl Z2y rfl;refine W ?_;refine SB (us:=crC crZ Ji Ji) (Z0g (q:=crZ) (Zk [] w) (Zk [] w)) e2 ?_;rintro _ w9 ⟨hT,e2⟩;refine W ?_;refine Zj rfl rfl rfl e2 rfl rfl ?_;exact .mk ⟨_,by rw [hE]<;>rfl,λX hX=>⟨Ji,Ji,by rw [hC],by rw [hC];exact Zk X _,by rw [hC];exact Zk X _⟩,hS.ow hT⟩
 rw [if_pos bQ] at ha;refine QO ?_;apply Z8 (Zl (us:=ndC r.due kd) rfl rfl ac rfl rfl) rfl;refine W ?_;refine CL (Z3w _ r.due _ br h2 ⟨kd,rfl,hd.up hS⟩ (hF.up hS)) ?_;rintro _ w5 ⟨vb,rfl,hb,hT⟩;replace hb:=λX (hX:∀ b∈X,b<w.heap.size)=>hb (b2 :: X) (λb hb=>by
  rcases Xb.1 hb with rfl|h
  exact e2.lt;exact Xa (hX b h) hS.size)
 replace ha:=λX hX=>(ha X hX).up hT;replace ac:=ac.up hT;replace e2:=e2.up hT;replace hS:=hS.trans hT;clear hT;refine W ?_;have hE:Z0w r=Z0z r.due:=by unfold Z0w;rw [if_neg (by simp [iQ]),if_neg (by simp [bQ])]
 by_cases cq:Z0z r.due=0
 case neg=>
  have hC:crF r=crZ:=by unfold crF;rw [hE,if_neg cq]
  refine QO ?_;apply Z7 (vs:=[]) rfl Z2y rfl;refine W ?_;refine SB (us:=crC crZ Ji Ji) (Z0g (q:=crZ) (Zk [] w) (Zk [] w)) e2 ?_;rintro _ w9 ⟨hT,e2⟩;refine W ?_;refine Zj rfl rfl rfl e2 rfl rfl ?_;exact .mk ⟨_,by rw [hE]<;>rfl,λX hX=>⟨Ji,Ji,by rw [hC],by rw [hC];exact Zk X _,by rw [hC];exact Zk X _⟩,hS.ow hT⟩
 rw [if_pos cq] at hb;have hC:crF r=⟨r.name,r.frm,r.on,ZU r.cnd,ZU r.due,r.unl,r.els⟩:=by unfold crF;rw [hE,if_pos cq]
 obtain ⟨p1,c1,rfl,-⟩:=id (ha [] (by simp));obtain ⟨p2,c2,rfl,-⟩:=id (hb [] (by simp));refine QO ?_;apply Z7 (vs:=[(0,str r.name),(1,.I r.frm),(2,str r.on),(3,.slice p1 (ZU r.cnd).length c1),(4,.slice p2 (ZU r.due).length c2),(5,str r.unl),(6,str r.els)]) rfl (Zeu ⟨r.name,r.frm,r.on,ZU r.cnd,ZU r.due,r.unl,r.els⟩ _ _ _ _ _ _) rfl;refine SB (us:=crC ⟨r.name,r.frm,r.on,ZU r.cnd,ZU r.due,r.unl,r.els⟩ (.slice p1 (ZU r.cnd).length c1) (.slice p2 (ZU r.due).length c2)) (Z0g (q:=⟨r.name,r.frm,r.on,ZU r.cnd,ZU r.due,r.unl,r.els⟩) (ha [] (by simp)) (hb [] (by simp))) e2 ?_;rintro _ w9 ⟨hT,e2⟩;refine W ?_;refine Zj rfl rfl rfl e2 rfl rfl ?_;exact .mk ⟨_,by rw [hE,cq],λX hX=>by
  rw [hC];exact ⟨_,_,rfl,((ha X hX).ext hT (by simp) (λ_ h=>.inl h)).wk (λb h=>by simp [h]),((hb X hX).ext hT (by simp) (λ_ h=>.inl h)).wk (λb h=>by simp [h])⟩,hS.ow hT⟩
theorem ZfJ (v:Value) (r:Rul) (w) (hv:ZfF [] w v r) (h1:ZJ r.cnd<=1000) (h2:ZJ r.due<=1000) :
 Calls Tryz.prog 37 #[v] w (Ret (ZnO w r)):=by
 obtain ⟨ki,kd,rfl,hi,hd⟩:=hv;have oM:=Z0q r.cnd;have lY:=Z0q r.due;refine cW1 48 Tryz.func37 ?_;refine W ?_;refine Z0 (Zo rfl) rfl ?_;rintro _ w1 ⟨b,rfl,hb,ac,hS⟩;replace ac:Blk w1 b _ (rlC r ki kd):=ac;refine W ?_;refine Z0 Z2 rfl ?_;rintro _ w2 ⟨b2,rfl,cu,e2,hT⟩;have fO:w.heap.size<=b2:=Xg hS.size cu;replace ac:=ac.up hT;replace hS:=hS.trans hT;clear hT hb cu;refine W ?_
 try (refine Z8 (ZW rfl rfl ac rfl) rfl ?_)
 refine W ?_;refine CL (Zdu _ r _ ⟨ki,kd,rfl,hi.up hS,hd.up hS⟩ h1 h2) ?_;rintro _ w3 ⟨rfl,hT⟩;replace ac:=ac.up hT;replace e2:=e2.up hT;replace hS:=hS.trans hT;clear hT;by_cases iQ:Z0R r=0
 case neg=>
  have hE:Z0w r=Z0R r:=by unfold Z0w;rw [if_pos iQ]
  have hC:crF r=crZ:=by unfold crF;rw [hE,if_neg iQ]
  refine QO ?_;apply Z7 (vs:=[]) rfl Z2y rfl;refine W ?_;refine SB (us:=crC crZ Ji Ji) (Z0g (q:=crZ) (Zk [] w) (Zk [] w)) e2 ?_;rintro _ w9 ⟨hT,e2⟩;refine W ?_;refine Zj rfl rfl rfl e2 rfl rfl ?_;exact .mk ⟨_,by rw [hE]<;>rfl,λX hX=>⟨Ji,Ji,by rw [hC],by rw [hC];exact Zk X _,by rw [hC];exact Zk X _⟩,hS.ow hT⟩
 refine QO ?_;apply Z8 (Zl (us:=ndC r.cnd ki) rfl rfl ac rfl rfl) rfl;refine W ?_;refine CM (ZN rfl) (Z39 _ r.cnd _ h1 (by omega) ⟨ki,rfl,hi.up hS⟩) ?_;rintro _ w4 ⟨va,rfl,ha,hT⟩;replace ha:=λX (hX:∀ b∈X,b<w.heap.size)=>ha (b2 :: X) (λb hb=>by
  rcases Xb.1 hb with rfl|h
  exact e2.lt;exact Xa (hX b h) hS.size)
 replace ac:=ac.up hT;replace e2:=e2.up hT;replace hS:=hS.trans hT;clear hT;refine W ?_;by_cases bQ:Z0z r.cnd=0
 case neg=>
  have hE:Z0w r=Z0z r.cnd:=by unfold Z0w;rw [if_neg (by simp [iQ]),if_pos bQ]
  have hC:crF r=crZ:=by unfold crF;rw [hE,if_neg bQ]
  refine QO ?_;apply Z7 (vs:=[]) rfl Z2y rfl;refine W ?_;refine SB (us:=crC crZ Ji Ji) (Z0g (q:=crZ) (Zk [] w) (Zk [] w)) e2 ?_;rintro _ w9 ⟨hT,e2⟩;refine W ?_;refine Zj rfl rfl rfl e2 rfl rfl ?_;exact .mk ⟨_,by rw [hE]<;>rfl,λX hX=>⟨Ji,Ji,by rw [hC],by rw [hC];exact Zk X _,by rw [hC];exact Zk X _⟩,hS.ow hT⟩
 rw [if_pos bQ] at ha;refine QO ?_;apply Z8 (Zl (us:=ndC r.due kd) rfl rfl ac rfl rfl) rfl;refine W ?_;refine CM (ZN rfl) (Z39 _ r.due _ h2 (by omega) ⟨kd,rfl,hd.up hS⟩) ?_;rintro _ w5 ⟨vb,rfl,hb,hT⟩;replace hb:=λX (hX:∀ b∈X,b<w.heap.size)=>hb (b2 :: X) (λb hb=>by
  rcases Xb.1 hb with rfl|h
  exact e2.lt;exact Xa (hX b h) hS.size)
 replace ha:=λX hX=>(ha X hX).up hT;replace ac:=ac.up hT;replace e2:=e2.up hT;replace hS:=hS.trans hT;clear hT;refine W ?_;have hE:Z0w r=Z0z r.due:=by unfold Z0w;rw [if_neg (by simp [iQ]),if_neg (by simp [bQ])]
 by_cases cq:Z0z r.due=0
 case neg=>
  have hC:crF r=crZ:=by unfold crF;rw [hE,if_neg cq]
  refine QO ?_;apply Z7 (vs:=[]) rfl Z2y rfl;refine W ?_;refine SB (us:=crC crZ Ji Ji) (Z0g (q:=crZ) (Zk [] w) (Zk [] w)) e2 ?_;rintro _ w9 ⟨hT,e2⟩;refine W ?_;refine Zj rfl rfl rfl e2 rfl rfl ?_;exact .mk ⟨_,by rw [hE]<;>rfl,λX hX=>⟨Ji,Ji,by rw [hC],by rw [hC];exact Zk X _,by rw [hC];exact Zk X _⟩,hS.ow hT⟩
 rw [if_pos cq] at hb;have hC:crF r=⟨r.name,r.frm,r.on,ZU r.cnd,ZU r.due,r.unl,r.els⟩:=by unfold crF;rw [hE,if_pos cq]
 obtain ⟨p1,c1,rfl,-⟩:=id (ha [] (by simp));obtain ⟨p2,c2,rfl,-⟩:=id (hb [] (by simp));refine QO ?_;apply Z7 (vs:=[(0,str r.name),(1,.I r.frm),(2,str r.on),(3,.slice p1 (ZU r.cnd).length c1),(4,.slice p2 (ZU r.due).length c2),(5,str r.unl),(6,str r.els)]) rfl (Zeu ⟨r.name,r.frm,r.on,ZU r.cnd,ZU r.due,r.unl,r.els⟩ _ _ _ _ _ _) rfl;refine SB (us:=crC ⟨r.name,r.frm,r.on,ZU r.cnd,ZU r.due,r.unl,r.els⟩ (.slice p1 (ZU r.cnd).length c1) (.slice p2 (ZU r.due).length c2)) (Z0g (q:=⟨r.name,r.frm,r.on,ZU r.cnd,ZU r.due,r.unl,r.els⟩) (ha [] (by simp)) (hb [] (by simp))) e2 ?_;rintro _ w9 ⟨hT,e2⟩;refine W ?_;refine Zj rfl rfl rfl e2 rfl rfl ?_;exact .mk ⟨_,by rw [hE,cq],λX hX=>by
  rw [hC];exact ⟨_,_,rfl,((ha X hX).ext hT (by simp) (λ_ h=>.inl h)).wk (λb h=>by simp [h]),((hb X hX).ext hT (by simp) (λ_ h=>.inl h)).wk (λb h=>by simp [h])⟩,hS.ow hT⟩
theorem Z50 (va vb:Value) (xs ys:List Int) (w) (ha:SlV [] w va xs) (hb:SlV [] w vb ys) :
 CC 298 #[va,vb] w λr w'=>r=.B (decide (xs=ys))/\Stp [] w w':=by
 have th:=ha.max;have s4:=hb.max;refine cW2 26 Tryz.func298 ?_;refine W ?_;by_cases hl:xs.length=ys.length
 case neg=>
  refine RT ?_;exact ⟨by congr 1;rw [eq_comm,decide_eq_false_iff_not];exact λh=>hl (by rw [h]),Stp.refl _ _⟩
 refine QO ?_;refine LP (σ:=Nat) (λj=>[(0,va),(1,vb),(4,.B false),(12,.I (xs.length:Int)),(13,.I (j:Int))]) (λj w'=>j<=xs.length/\Stp [] w w'/\∀ i (h:i<xs.length),i<j->xs[i]=ys[i]'(by omega)) (λj=>xs.length - j) 0 ⟨Xq _,Stp.refl _ _,λi _ h=>absurd h (Xt _)⟩ ?_;rintro j w2 ⟨hj,hS,cX⟩
 try dsimp only at hj cX ⊢
 replace ha:=ha.up hS;replace hb:=hb.up hS;by_cases hlt:j<xs.length;have eF:j<ys.length:=by omega
 refine QO ?_;refine ZDr 9 [] [] [(0,0),(1,0),(2,0),(3,1),(4,0),(5,0),(6,0),(7,1),(8,0)] (λw1 ae=>?_);replace ha:=ha.up ae;replace hb:=hb.up ae;replace hS:=hS.trans ae;refine D ?_
 (refine QP ?_ ?_<;>intro hc)
 refine RU ?_;exact ⟨by congr 1;rw [eq_comm,decide_eq_false_iff_not];exact λh=>hc (by simp [h]),hS⟩;have he:xs[j]=ys[j]:=Decidable.byContradiction hc;have hk:∀ i (h:i<xs.length),i<j+1->xs[i]=ys[i]'(by omega):=λi h hi=>by
  by_cases dC:i=j;subst dC;exact he;exact cX i h (by omega)
 exact QL (j+1) ⟨hlt,hS,hk⟩ (XN hlt (XT j));have ea:j=xs.length:=by omega
 subst ea;refine RT ?_;exact ⟨by congr 1;rw [eq_comm,decide_eq_true_eq];exact Yay hl (λi h h'=>cX i h h),hS⟩
abbrev RwZ (w w':World) (v:Value) (xs:List Int):Prop:=ZE 3 w w' v xs
theorem ZfK (k:Nat) (w) (hk:k<=1000000):CC 335 #[.N,.I (k:Int)] w λr w'=>RwZ w w' r []:=by
 refine cW2 27 Tryz.func335 ?_;refine W ?_;have h0:SlV (α:=Int) [] w (.N) []:=Zk _ _;have cB:([]:List Int).length=0:=rfl;repeat'(first|refine W1 ?_|omega|refine VG ?_ ?_<;>intro hg|refine VC ?_ ?_<;>intro hc)
 apply Z8 (Zaj rfl) rfl;by_cases fh:k=0;subst fh;refine QO ?_;refine WR ?_;exact .mk ZE.nil;refine QO ?_;apply Z8 (Zaj rfl) rfl;apply Z8 (Z7L rfl rfl) rfl;refine W ?_;refine Z0 (Zma (k:=k) rfl rfl rfl (by omega) (by simp [maxLen];omega) (by omega)) rfl ?_;rintro _ w1 ⟨c,rfl,cb,hS⟩;replace h0:=h0.up hS;have hr:RwZ w w1 (.slice (some ⟨w.heap.size,0,none⟩) 0 c) []:=⟨⟨[],rfl,λi h=>absurd h (Xt _),cb⟩,hS⟩
 refine W ?_;apply Z8 (Z9f rfl rfl) rfl;refine W ?_;refine WR ?_;exact .mk hr
theorem ZbK (v:Value) (xss:List (Sl Int)) (w) (hs:SlV [] w v xss) (hl:xss.length<=1000) (ai:(xss.flatMap Sl.l).length<=100000):CC 299 #[v] w λr w'=>RwZ w w' r (xss.flatMap Sl.l):=by
 have cw:∀ j,((xss.take j).flatMap Sl.l).length<=(xss.flatMap Sl.l).length:=λj=>by
  rw [<- XI j xss,Yai,Xc];simp only [XI];have:(xss.take j).flatMap Sl.l=((xss.take j++xss.drop j).take j).flatMap Sl.l:=by rw [XI]
  omega
 have hstep:∀ j (h:j<xss.length),(xss.take (j+1)).flatMap Sl.l=(xss.take j).flatMap Sl.l++xss[j].l:=λj h=>by
  rw [Xi h,Yai];simp
 refine cW1 36 Tryz.func299 ?_;refine W ?_;refine Z0f (σ:=Unit) (λ_=>[(0,v),(3,.I ((xss.flatMap Sl.l).length:Int))]) (λ_ w'=>w'=w) ?_ ?_;refine LP (σ:=Nat) (λj=>[(0,v),(9,v),(10,.I (xss.length:Int)),(3,.I (((xss.take j).flatMap Sl.l).length:Int)),(11,.I (j:Int))]) (λj w'=>j<=xss.length/\w'=w) (λj=>xss.length - j) 0 ⟨Xq _,rfl⟩ ?_;rintro j w2 ⟨hj,rfl⟩;by_cases hlt:j<xss.length;obtain ⟨u,ar,fB⟩:=hs.sub hlt;have oA:=fB.max;have h1:=cw j;have h2:=cw (j+1);have h3:=hstep j hlt;have h4:((xss.take (j+1)).flatMap Sl.l).length=((xss.take j).flatMap Sl.l).length+xss[j].l.length:=by rw [h3,Xc]
 refine QO ?_;apply Z8 (Jl rfl rfl ar) rfl;refine QO ?_;refine Zw (j+1) ⟨rfl,rfl,rfl,by rw [h4,Ybl];rfl,rfl,trivial⟩ ⟨hlt,rfl⟩ (by omega);have ea:j=xss.length:=by omega
 subst ea;rw [Xp];refine QO ?_;exact QT () rfl;rintro _ w2 rfl;refine W ?_;refine Z0 (Z4 rfl (Zf rfl rfl) (ZfK _ _ (by omega))) rfl ?_;rintro g w3 hr;refine W ?_;have ey:=hs.up hr.2;refine W ?_;refine LP (σ:=Nat×Value) (λq=>[(6,q.2),(25,v),(26,.I (xss.length:Int)),(27,.I (q.1:Int))]) (λq w'=>q.1<=xss.length/\RwZ w2 w' q.2 ((xss.take q.1).flatMap Sl.l)) (λq=>xss.length - q.1) (0,g) ⟨Xq _,by simpa using hr⟩ ?_;clear hr ey;rintro ⟨j,g⟩ w4 ⟨hj,hr⟩;dsimp only at hj hr ⊢;by_cases hlt:j<xss.length;have dz:SlV (ob g) w4 v xss:=hs.ext hr.2 (by simp) (λb hb=>.inr (hr.ob_le b hb).1);obtain ⟨u,ar,fB⟩:=dz.sub hlt;have h1:=cw j;have h2:=cw (j+1);have h3:=hstep j hlt;have h4:((xss.take (j+1)).flatMap Sl.l).length=((xss.take j).flatMap Sl.l).length+xss[j].l.length:=by rw [h3,Xc]
 refine QO ?_;apply Z8 (Jl rfl rfl ar) rfl;refine QO ?_;refine Z0 (Jy rfl (by decide) rfl rfl hr fB (by omega) (by simp only [maxLen];omega)) rfl ?_;rintro g' w5 ⟨bM,-,-⟩;refine W ?_;exact QL (j+1,g') ⟨hlt,by dsimp only;rw [h3];exact bM⟩ (by dsimp only;omega);have ea:j=xss.length:=by omega
 subst ea;rw [Xp] at hr;refine QO ?_;refine WR ?_;exact .mk hr
end Go.Proofs.YtipfkbkkndacjaaGreatDoor
namespace Go.Eng
open Go
theorem Z4k {P:Program} {n:Nat} {fn:Func} {R:Ending->World->Prop} {e:Env} {w} {t u s q:Nat} {v x y z:Value} (hr:fn.results=#[.tmp t,.tmp u,.tmp s,.tmp q]) (ht:look e t=some v) (hu:look e u=some x) (hs:look e s=some y) (hq:look e q=some z) (h:R (.returned (.tuple #[v,x,y,z])) w):WQ n (bodyPost P fn R) .ret e w:=
 ⟨λa ha=>⟨ha.defers,.tuple #[v,x,y,z],by simp [results,hr];simpa [Xz] using And.intro (ha.vals t v ht) (And.intro (ha.vals u x hu) (And.intro (ha.vals s y hs) (ha.vals q z hq))),h⟩⟩
end Go.Eng
namespace Go.Proofs.YtipfkbkkndacjaaGreatDoor
open Go Go.Eng Go.RowKit
def opP (k:Int):Prop:=k=1\/k=2\/k=4\/k=15\/k=24
def Zz (x:Ins):List Int×List Int×List Int×Bool:=
 if x.op=1 then ([],[],[1],decide (-2147483647<=x.n/\x.n<=2147483647))
 else if x.op=2 then ([],[],[2],decide (x.n=0\/x.n=1))
 else if x.op=3 then ([],[],[3],decide (0<=x.n/\x.n<=3652058))
 else if x.op=4 then ([],[],[if x.n=0\/x.n=1 then 3 else 1],decide (0<=x.n/\x.n<7))
 else if x.op=13 then ([],[],[],true)
 else if x.op=14 then ([2],[],[],true)
 else if x.op=5\/x.op=6\/x.op=7 then ([1,1],[],[1],decide (x.n=0))
 else if x.op=8 then ([1],[],[1],decide (x.n=0))
 else if x.op=9\/x.op=10\/x.op=11 then ([1,1],[3,3],[2],decide (x.n=0))
 else if x.op=12 then ([2],[],[2],decide (x.n=0))
 else if x.op=15\/x.op=16\/x.op=17\/x.op=18 then ([3,1],[],[3],decide (x.n=0))
 else if x.op=19\/x.op=20 then ([3],[],[3],decide (x.n=0))
 else if x.op=21\/x.op=22 then ([3,3],[],[3],decide (x.n=0))
 else if x.op=23 then ([3,3],[],[1],decide (x.n=0))
 else if x.op=24 then ([],[],[],decide (x.n=0))
 else ([],[],[],false)
def ZvJ (X:List Nat) (w:World) (x:Ins) (r:Value) (w':World):Prop:=∃ a b c,r=.tuple #[a,b,c,.B (Zz x).2.2.2]/\SlV X w' a (Zz x).1/\SlV X w' b (Zz x).2.1/\SlV X w' c (Zz x).2.2.1/\Stp [] w w'
theorem Z4l {X:List Nat} {w w':World} {x:Ins} {a b c:Value} {p ok:Bool} {ta al gi:List Int} (cX:Zz x=(ta,al,gi,ok)) (hp:p=ok) (ha:SlV X w' a ta) (hb:SlV X w' b al) (hc:SlV X w' c gi) (hS:Stp [] w w'):Ret (ZvJ X w x) (.returned (.tuple #[a,b,c,.B p])) w':=by
 refine .mk ⟨a,b,c,?_,?_,?_,?_,hS⟩<;>rw [cX];rw [hp];exact ha;exact hb;exact hc
theorem Zdw (X:List Nat) (x:Ins) (w:World) (gh:∀ b∈X,b<w.heap.size) (fD:opP x.op) :
 Calls Tryz.prog 297 #[agg x] w (Ret (ZvJ X w x)):=by
 refine cW1 117 Tryz.func297 ?_;refine W ?_;refine Z0 (Zo rfl) rfl ?_;rintro _ w0 ⟨b,rfl,hb,ac,hS⟩;replace ac:Blk w0 b _ [.I x.op,.I x.n]:=ac;have hX:∀ b∈X,b<w0.heap.size:=λb hb=>Xa (gh b hb) hS.size;refine W ?_;by_cases h1:x.op=1
 . have cX:Zz x=([],[],[1],decide (-2147483647<=x.n/\x.n<=2147483647)):=by simp [Zz,h1]
   refine QO ?_;refine ZDr 13 [] [] [(1,0),(2,1),(3,0),(4,0),(5,0),(6,1),(7,0),(8,0),(9,0),(10,0),(0,2),(11,0),(12,0)] (λw1 ae=>?_);replace ac:=ac.up ae;replace hS:=hS.trans ae;replace hX:=λb hb=>Xa (hX b hb) ae.size
   (refine QE ?_ ?_<;>intro hg)
   all_goals
    refine Za rfl trivial (Z1 (vs:=[(0,.I 1)]) rfl (Zp _)) (λ_ _ h=>Z9.stp h) rfl ?_;rintro g wq hN;have s_g:SlV X wq g [(1:Int)]:=hN.slv hX rfl rfl (by simp [maxLen]);have hT:=Z9.stp hN;clear hN;replace ac:=ac.up hT;replace hS:=hS.trans hT;clear hT;refine D ?_;refine W ?_;refine Z4k rfl rfl rfl rfl rfl ?_;refine Z4l cX ?_ (Zk _ _) (Zk _ _) (s_g) hS;first|rfl|(simp only [decide_eq_decide];omega)|(symm;simp only [decide_eq_true_eq,decide_eq_false_iff_not];omega)|(simp only [decide_eq_true_eq,decide_eq_false_iff_not];omega)
 by_cases h2:x.op=2
 . have cX:Zz x=([],[],[2],decide (x.n=0\/x.n=1)):=by simp [Zz,h2]
   refine QO ?_;refine ZDr 13 [] [] [(1,0),(2,1),(3,0),(4,0),(5,0),(6,1),(7,0),(8,0),(9,0),(10,0),(0,2),(11,0),(12,0)] (λw1 ae=>?_);replace ac:=ac.up ae;replace hS:=hS.trans ae;replace hX:=λb hb=>Xa (hX b hb) ae.size
   (refine QE ?_ ?_<;>intro hg)
   all_goals
    refine Za rfl trivial (Z1 (vs:=[(0,.I 2)]) rfl (Zp _)) (λ_ _ h=>Z9.stp h) rfl ?_;rintro g wq hN;have s_g:SlV X wq g [(2:Int)]:=hN.slv hX rfl rfl (by simp [maxLen]);have hT:=Z9.stp hN;clear hN;replace ac:=ac.up hT;replace hS:=hS.trans hT;clear hT;refine D ?_;refine W ?_;refine Z4k rfl rfl rfl rfl rfl ?_;refine Z4l cX ?_ (Zk _ _) (Zk _ _) (s_g) hS;first|rfl|(simp only [decide_eq_decide];omega)|(symm;simp only [decide_eq_true_eq,decide_eq_false_iff_not];omega)|(simp only [decide_eq_true_eq,decide_eq_false_iff_not];omega)
 by_cases h4:x.op=4;by_cases gY:x.n=0\/x.n=1
 . have cX:Zz x=([],[],[3],decide (0<=x.n/\x.n<7)):=by simp [Zz,h4,gY]
   repeat'(first|refine W1 ?_|omega|refine VG ?_ ?_<;>intro hg|refine VC ?_ ?_<;>intro hc)
   all_goals
    refine ZDr 14 [] [] [(0,0),(2,0),(3,1),(4,0),(5,0),(6,0),(7,1),(8,0),(9,0),(10,0),(11,0),(1,2),(12,0),(13,0)] (λw1 ae=>?_);replace ac:=ac.up ae;replace hS:=hS.trans ae;replace hX:=λb hb=>Xa (hX b hb) ae.size;refine QD ?_
    all_goals
     refine Za rfl trivial (Z1 (vs:=[(0,.I 3)]) rfl (Zp _)) (λ_ _ h=>Z9.stp h) rfl ?_;rintro g wq hN;have s_g:SlV X wq g [(3:Int)]:=hN.slv hX rfl rfl (by simp [maxLen]);have hT:=Z9.stp hN;clear hN;replace ac:=ac.up hT;replace hS:=hS.trans hT;clear hT;refine D ?_;refine W ?_;refine Z4k rfl rfl rfl rfl rfl ?_;refine Z4l cX ?_ (Zk _ _) (Zk _ _) (s_g) hS;first|rfl|(simp only [decide_eq_decide];omega)|(symm;simp only [decide_eq_true_eq,decide_eq_false_iff_not];omega)|(simp only [decide_eq_true_eq,decide_eq_false_iff_not];omega)
 . have cX:Zz x=([],[],[1],decide (0<=x.n/\x.n<7)):=by simp [Zz,h4,gY]
   refine QO ?_
   all_goals
    refine ZDr 14 [] [] [(0,0),(2,0),(3,1),(4,0),(5,0),(6,0),(7,1),(8,0),(9,0),(10,0),(11,0),(1,2),(12,0),(13,0)] (λw1 ae=>?_);replace ac:=ac.up ae;replace hS:=hS.trans ae;replace hX:=λb hb=>Xa (hX b hb) ae.size
    (refine QE ?_ ?_<;>intro hg)
    all_goals
     refine Za rfl trivial (Z1 (vs:=[(0,.I 1)]) rfl (Zp _)) (λ_ _ h=>Z9.stp h) rfl ?_;rintro g wq hN;have s_g:SlV X wq g [(1:Int)]:=hN.slv hX rfl rfl (by simp [maxLen]);have hT:=Z9.stp hN;clear hN;replace ac:=ac.up hT;replace hS:=hS.trans hT;clear hT;refine D ?_;refine W ?_;refine Z4k rfl rfl rfl rfl rfl ?_;refine Z4l cX ?_ (Zk _ _) (Zk _ _) (s_g) hS;first|rfl|(simp only [decide_eq_decide];omega)|(symm;simp only [decide_eq_true_eq,decide_eq_false_iff_not];omega)|(simp only [decide_eq_true_eq,decide_eq_false_iff_not];omega)
 by_cases qx:x.op=15
 . have cX:Zz x=([3,1],[],[3],decide (x.n=0)):=by simp [Zz,qx]
   refine QO ?_
   all_goals
    refine Z0 (Z1 (vs:=[(0,.I 3),(1,.I 1)]) rfl (JU _ _)) rfl ?_;rintro t wq hN;have s_t:SlV X wq t [(3:Int),(1:Int)]:=hN.slv hX rfl rfl (by simp [maxLen]);have hT:=Z9.stp hN;clear hN;replace ac:=ac.up hT;replace hS:=hS.trans hT;replace hX:=λb hb=>Xa (hX b hb) hT.size;clear hT;refine Z0 (Z1 (vs:=[(0,.I 3)]) rfl (Zp _)) rfl ?_;rintro g wq hN;have s_g:SlV X wq g [(3:Int)]:=hN.slv hX rfl rfl (by simp [maxLen]);have hT:=Z9.stp hN;clear hN;replace ac:=ac.up hT;replace hS:=hS.trans hT;replace hX:=λb hb=>Xa (hX b hb) hT.size;replace s_t:=s_t.up hT;clear hT;refine W ?_;refine ZDr 10 [] [] [(0,0),(1,0),(2,0),(3,0),(4,1),(5,0),(6,0),(7,0),(8,0),(9,0)] (λw1 ae=>?_);replace ac:=ac.up ae;replace hS:=hS.trans ae;replace s_t:=s_t.up ae;replace s_g:=s_g.up ae;refine D ?_;refine W ?_;refine Z4k rfl rfl rfl rfl rfl ?_;refine Z4l cX ?_ (s_t) (Zk _ _) (s_g) hS;first|rfl|(simp only [decide_eq_decide];omega)|(symm;simp only [decide_eq_true_eq,decide_eq_false_iff_not];omega)|(simp only [decide_eq_true_eq,decide_eq_false_iff_not];omega)
 by_cases cW:x.op=24;have cX:Zz x=([],[],[],decide (x.n=0)):=by simp [Zz,cW]
 refine QO ?_;refine ZDr 10 [] [] [(0,0),(1,0),(2,0),(3,0),(4,1),(5,0),(6,0),(7,0),(8,0),(9,0)] (λw1 ae=>?_);replace ac:=ac.up ae;replace hS:=hS.trans ae;refine D ?_;refine W ?_;refine Z4k rfl rfl rfl rfl rfl ?_;refine Z4l cX ?_ (Zk _ _) (Zk _ _) (Zk _ _) hS;first|rfl|(simp only [decide_eq_decide];omega)|(symm;simp only [decide_eq_true_eq,decide_eq_false_iff_not];omega)|(simp only [decide_eq_true_eq,decide_eq_false_iff_not];omega)
 exfalso;unfold opP at fD;omega
abbrev Shp:=List Int
def Je (x:Ins) (s:Shp):Option Shp:=
 let e:=Zz x
 let k:=s.length - e.1.length
 if e.2.2.2=true/\e.1.length<=s.length/\(s.drop k=e.1\/e.2.1≠[]/\s.drop k=e.2.1)/\(s.take k++e.2.2.1).length<=16 then some (s.take k++e.2.2.1) else none
def JA (st:List (Option Shp)) (t:Int) (sh:Shp):Option (List (Option Shp)):=
 if 0<=t/\t<st.length then
  match st.getD t.toNat none with
  | some s=>if s=sh then some st else none
  | none=>some (st.set t.toNat (some sh))
 else none
def JG (st:List (Option Shp)) (i:Nat) (x:Ins):Option (List (Option Shp)):=
 match st.getD i none with
 | none=>none
 | some s=>
   match Je x s with
   | none=>none
   | some nx=>
     if x.op=24 then (if i+1=st.length/\s.length=1 then some st else none)
     else if x.op=13 then (if x.n > i then JA st x.n nx else none)
     else if x.op=14 then (if x.n > i then (JA st x.n nx).bind (λst'=>JA st' ((i:Int)+1) nx) else none)
     else JA st ((i:Int)+1) nx
def Z3g (code:List Ins):Nat->List (Option Shp)->Option (List (Option Shp))
 | 0,st=>some st
 | k+1,st=>(Z3g code k st).bind (λst'=>JG st' k (code.getD k ⟨0,0⟩))
def Z1t (code:List Ins):Int×Int:=
 if code.length=0\/code.length > 200 then (0,22) else
  match Z3g code code.length ((some []) :: List.replicate (code.length - 1) none) with
  | none=>(0,22)
  | some st=>(((st.getD (code.length - 1) none).getD []).headD 0,0)
theorem Jv {st st':List (Option Shp)} {t:Int} {sh:Shp} (h:JA st t sh=some st'):st'.length=st.length:=by
 unfold JA at h;split at h;split at h;split at h;cases h;rfl;cases h;cases h;simp;cases h
end Go.Proofs.YtipfkbkkndacjaaGreatDoor
namespace Go.Eng
open Go Go.RowKit Go.Proofs
theorem Row.slvX {α:Type} [Z5 α] {X:List Nat} {w} {base T:Nat} {v:Value} {xs:List α} (h:Row X w base T v xs) (hX:∀ b∈X,b∉ob v):SlV X w v xs:=by
 obtain ⟨css,hl,hr,ho⟩:=h;have hk:∀ c∈css,c.length=Z5.k α:=by
  intro c hc;obtain ⟨i,hi,rfl⟩:=Xr hc;exact Z5.len (hr i (by omega) hi)
 rcases ho.2 with ⟨rfl,hn⟩|⟨q,cap,cur,rfl,hb,hg,cM,bU,aV,ht⟩
 exact ⟨none,0,by rw [hn],by omega,by simp [maxLen],λ_=>rfl,λi hi=>by omega⟩;refine ⟨some ⟨q,0,none⟩,cap,rfl,cM,bU,λh=>by simp at h,λi hi=>?_⟩;refine ⟨q,0,css[i]'(by omega),rfl,(Xk.1 hg).1,λhx=>hX q hx (by simp [ob]),?_,λj u hu=>?_⟩;exact Z5.ext (hr i hi (by omega)) (Stp.refl [] w) (by simp) (λb hb=>.inl (by simp [hb]));have h1:=Z0i css hk i (by omega) j u hu;rw [<- ht,Yae] at h1;split at h1;have h2:cur[i * Z5.k α+j]?=some u:=by simpa using h1
 rw [XK,cell_of_row w q _ cur T (0,0) hg];exact h2;cases h1
end Go.Eng
namespace Go.Proofs.YtipfkbkkndacjaaGreatDoor
open Go Go.Eng Go.RowKit
abbrev Z0S (st:List (Option Shp)):List (Sl Int):=st.map (λo=>⟨o.getD []⟩)
abbrev JP (st:List (Option Shp)):List Bool:=st.map Option.isSome
structure Vf (w:World) (bv base:Nat) (cv hv sv:Value) (code:List Ins) (st:List (Option Shp)):Prop where
 blk:Blk w bv 318 [cv,hv,sv]
 cod:SlV (bv :: (ob hv++ob sv)) w cv code
 shp:Row (bv :: ob sv) w base 23 hv (Z0S st)
 seen:Row [] w base 4 sv (JP st)
 nh:bv∉ob hv
 ns:bv∉ob sv
 hi:base<=w.heap.size
 apart:∀ b∈ob hv,b∉ob sv
 len:st.length=code.length
theorem Vf.up {w w':World} {bv base:Nat} {cv hv sv:Value} {code:List Ins} {st:List (Option Shp)} (h:Vf w bv base cv hv sv code st) (hS:Stp [] w w'):Vf w' bv base cv hv sv code st:=
 ⟨h.blk.up hS,h.cod.up hS,h.shp.up hS,h.seen.up hS,h.nh,h.ns,Xg h.hi hS.size,h.apart,h.len⟩
theorem Z4m (bv base:Nat) (cv hv sv uv:Value) (code:List Ins) (st:List (Option Shp)) (t:Int) (s:Shp) (w) (h:Vf w bv base cv hv sv code st) (ht:0<=t) (hs:SlV (bv :: (ob hv++ob sv)) w uv s) :
 CC 300 #[pQ bv,.I t,uv] w λr w'=>Stp (bv :: (ob hv++ob sv)) w w'/\r=.B (JA st t s).isSome/\∀ st',JA st t s=some st'->Vf w' bv base cv hv sv code st':=by
 have ac:=h.blk;have m6:=h.cod;have aT:=m6.max;have ai:=h.len;have m8:=h.nh;have dD:=h.ns;have jp:=h.shp.slvX (λb hb=>by
  rcases Xb.1 hb with rfl|hb
  exact m8;exact λdr=>h.apart b dr hb)
 have ig:=h.seen.slv0;have fe:(Z0S st).length=st.length:=by simp [Z0S]
 have dR:(JP st).length=st.length:=by simp [JP]
 refine cW3 45 Tryz.func300 ?_;refine W ?_;by_cases hlt:t<code.length
 case neg=>
  have hr:JA st t s=none:=by rw [JA,if_neg (by omega)]
  refine RT ?_;exact ⟨Stp.refl _ _,by rw [hr];rfl,λst' h=>by rw [hr] at h;cases h⟩
 obtain ⟨k,rfl⟩:∃ k:Nat,t=(k:Int):=⟨t.toNat,by omega⟩
 have hk:k<st.length:=by omega
 have bG:k<(Z0S st).length:=by omega
 have db:k<(JP st).length:=by omega
 have jq:(JP st)[k]=(st[k]).isSome:=by simp [JP]
 have lK:st.getD ((k:Int)).toNat none=st[k]:=by simp [List.getD,hk]
 cases ay:st[k] with
 | some s0=>
   have aX:(JP st)[k]=true:=by rw [jq,ay];rfl
   have m9:JA st (k:Int) s=if s0=s then some st else none:=by
    rw [JA,if_pos (by omega),lK,ay]
   (refine QP ?_ ?_<;>intro hc)
   obtain ⟨u,ar,fB⟩:=jp.sub bG;have qc:(Z0S st)[k].l=s0:=by simp [Z0S,ay]
   apply Z8 (Jl rfl rfl ar) rfl;refine W ?_;refine CM (Zf rfl rfl) (Z50 _ _ _ _ _ (fB.wk (by simp)) (hs.wk (by simp))) ?_;rintro _ w2 ⟨rfl,hS⟩;refine W ?_;refine WR ?_;rw [qc];refine .mk ⟨hS.mn,?_,λst' h'=>?_⟩;rw [m9];by_cases he:s0=s<;>simp [he];rw [m9] at h';split at h';cases h';exact h.up hS;cases h';rw [aX] at hc;exact absurd hc (by simp)
 | none=>
   have aX:(JP st)[k]=false:=by rw [jq,ay];rfl
   have m9:JA st (k:Int) s=some (st.set k (some s)):=by
    rw [JA,if_pos (by omega),lK,ay];simp
   (refine QP ?_ ?_<;>intro hc)
   rw [aX] at hc;exact absurd hc (by simp);refine WC_drawn 15 (ob hv++ob sv) [] [(0,0),(1,0),(2,0),(3,1),(4,0),(5,0),(6,0),(7,0),(8,1),(9,0),(10,0),(11,0),(12,2),(13,0),(14,2)] rfl mixed (by kernel_rfl) (by kernel_rfl) (by kernel_rfl) (λw1 ae=>?_);have nb:bv∉ob hv++ob sv:=λhb=>(Xh.1 hb).elim m8 dD;replace ac:=ac.up ae;have qy:=ig.up ae;have ti:=jp.up ae;have rs:=h.seen.up ae;have rh:=h.shp.up ae;refine D ?_
   try (refine WD_read rfl trivial (λw' aP=>ZZ rfl rfl (ac.ext aP nb) rfl) rfl ?_)
   refine D ?_
   try (refine WD_read rfl trivial (λw' aP=>ZZ rfl rfl (ac.ext aP nb) rfl) rfl ?_)
   refine D ?_;refine Z0p rfl trivial (Z3D (α:=Bool) (y':=true) (u:=.B true) rfl rfl rfl rfl rs db) (λ_ _ h=>h.2.mono (by simp_all)) ?_;rintro _ w3 ⟨rs3,am⟩;replace rh:=rh.ext (X':=bv :: ob sv) am (λb hb=>⟨XE _ hb,λdr=>h.apart b dr hb⟩) (λ_ h=>.inl h);have tj:=rh.slvX (λb hb=>by
    rcases Xb.1 hb with rfl|hb
    exact m8;exact λdr=>h.apart b dr hb)
   have cP:Stp (bv :: (ob hv++ob sv)) w w3:=ae.mn.trans (am.mono (λb hb=>by simp [hb]));have ey:=hs.ext cP (λ_ h=>h) (λ_ h=>.inl h);refine D ?_;refine Z0p rfl trivial (Z3D (α:=Sl Int) (y':=⟨s⟩) (u:=uv) rfl rfl rfl ⟨uv,ey.cells,ey.wk (λb hb=>by simp at hb;rcases hb with h|h|h<;>simp [h])⟩ rh bG) (λ_ _ h=>h.2.mono (by simp_all)) ?_;rintro _ w4 ⟨rh4,aJ⟩;refine D ?_;refine W ?_;refine WR ?_;have kO:Stp (bv :: (ob hv++ob sv)) w w4:=cP.trans (aJ.mono (λb hb=>by simp [hb]));refine .mk ⟨kO,by rw [m9];rfl,λst' h'=>?_⟩;rw [m9] at h';cases h';have rs4:=rs3.keep aJ (λb hb=>h.apart b hb);refine ⟨(ac.ext am dD).ext aJ m8,h.cod.ext kO (λ_ h=>h) (λ_ h=>.inl h),?_,?_,m8,dD,Xg h.hi kO.size,h.apart,by simpa using h.len⟩;have e:Z0S (st.set k (some s))=(Z0S st).set k ⟨s⟩:=by simp [Z0S,List.map_set]
   rw [e];exact rh4;have e:JP (st.set k (some s))=(JP st).set k true:=by simp [JP,List.map_set]
   rw [e];exact rs4
def okS (s:Shp):Prop:=∀ k∈s,k=1\/k=2\/k=3
theorem Zjb {s:Shp} (h:okS s) (k:Nat):okS (s.take k):=λa ha=>h a (Yar ha)
theorem Zml {s t:Shp} (h:okS s) (h':okS t):okS (s++t):=λa ha=>(Xh.1 ha).elim (h a) (h' a)
theorem Zjc {op n:Int} (h:¬ (1<=op/\op<=24)):Zz ⟨op,n⟩=([],[],[],false):=by
 have h1:∀ k:Int,1<=k->k<=24->¬ op=k:=λk h1 h2 e=>h (by omega)
 simp only [Zz];rw [if_neg (h1 1 (by decide) (by decide))];rw [if_neg (h1 2 (by decide) (by decide))];rw [if_neg (h1 3 (by decide) (by decide))];rw [if_neg (h1 4 (by decide) (by decide))];rw [if_neg (h1 13 (by decide) (by decide))];rw [if_neg (h1 14 (by decide) (by decide))];rw [if_neg (not_or.2 ⟨h1 5 (by decide) (by decide),(not_or.2 ⟨h1 6 (by decide) (by decide),(h1 7 (by decide) (by decide))⟩)⟩)];rw [if_neg (h1 8 (by decide) (by decide))];rw [if_neg (not_or.2 ⟨h1 9 (by decide) (by decide),(not_or.2 ⟨h1 10 (by decide) (by decide),(h1 11 (by decide) (by decide))⟩)⟩)];rw [if_neg (h1 12 (by decide) (by decide))];rw [if_neg (not_or.2 ⟨h1 15 (by decide) (by decide),(not_or.2 ⟨h1 16 (by decide) (by decide),(not_or.2 ⟨h1 17 (by decide) (by decide),(h1 18 (by decide) (by decide))⟩)⟩)⟩)];rw [if_neg (not_or.2 ⟨h1 19 (by decide) (by decide),(h1 20 (by decide) (by decide))⟩)];rw [if_neg (not_or.2 ⟨h1 21 (by decide) (by decide),(h1 22 (by decide) (by decide))⟩)];rw [if_neg (h1 23 (by decide) (by decide))];rw [if_neg (h1 24 (by decide) (by decide))]
def ZbL (st:List (Option Shp)):Prop:=∀ s,some s∈st->okS s
theorem ZfL (x:Ins):okS (Zz x).2.2.1:=by
 obtain ⟨op,n⟩:=x;by_cases hr:1<=op/\op<=24;have hn:op=1\/op=2\/op=3\/op=4\/op=5\/op=6\/op=7\/op=8\/op=9\/op=10\/op=11\/op=12\/op=13\/op=14\/op=15\/op=16\/op=17\/op=18\/op=19\/op=20\/op=21\/op=22\/op=23\/op=24:=by omega
 rcases hn with rfl|rfl|rfl|rfl|rfl|rfl|rfl|rfl|rfl|rfl|rfl|rfl|rfl|rfl|rfl|rfl|rfl|rfl|rfl|rfl|rfl|rfl|rfl|rfl
 intro k hk;simp [Zz] at hk;omega;intro k hk;simp [Zz] at hk;omega;intro k hk;simp [Zz] at hk;omega;show okS [if n=0\/n=1 then 3 else 1];intro k hk;simp at hk;subst hk;split<;>simp;intro k hk;simp [Zz] at hk;omega;intro k hk;simp [Zz] at hk;omega;intro k hk;simp [Zz] at hk;omega;intro k hk;simp [Zz] at hk;omega;intro k hk;simp [Zz] at hk;omega;intro k hk;simp [Zz] at hk;omega;intro k hk;simp [Zz] at hk;omega;intro k hk;simp [Zz] at hk;omega;intro k hk;simp [Zz] at hk;intro k hk;simp [Zz] at hk;intro k hk;simp [Zz] at hk;omega;intro k hk;simp [Zz] at hk;omega;intro k hk;simp [Zz] at hk;omega;intro k hk;simp [Zz] at hk;omega;intro k hk;simp [Zz] at hk;omega;intro k hk;simp [Zz] at hk;omega;intro k hk;simp [Zz] at hk;omega;intro k hk;simp [Zz] at hk;omega;intro k hk;simp [Zz] at hk;omega;intro k hk;simp [Zz] at hk;rw [Zjc hr];intro k hk;simp at hk
theorem Zmm {x:Ins} {s nx:Shp} (hs:okS s) (h:Je x s=some nx):okS nx:=by
 unfold Je at h;dsimp only at h;split at h;cases h;exact Zml (Zjb hs _) (ZfL x);cases h
theorem Z5u {st st':List (Option Shp)} {t:Int} {nx:Shp} (ay:ZbL st) (hn:okS nx) (h:JA st t nx=some st'):ZbL st':=by
 unfold JA at h;split at h;split at h;split at h;cases h;exact ay;cases h;cases h;intro s hs;rcases List.mem_or_eq_of_mem_set hs with h|h
 exact ay s h;cases h;exact hn;cases h
theorem Zmn {st st':List (Option Shp)} {i:Nat} {x:Ins} (ay:ZbL st) (h:JG st i x=some st'):ZbL st'/\st'.length=st.length:=by
 unfold JG at h;split at h;cases h;rename_i s hs;have bg:okS s:=by
  refine ay s ?_;have hi:i<st.length:=Nat.lt_of_not_le λcQ=>by simp [List.getD,Nat.not_lt.2 cQ] at hs
  have:st.getD i none=st[i]:=by simp [List.getD,hi]
  rw [<- hs,this];exact Xd hi
 split at h;cases h;rename_i nx hn;have dg:=Zmm bg hn;split at h;split at h;cases h;exact ⟨ay,rfl⟩;cases h;split at h;split at h;exact ⟨Z5u ay dg h,Jv h⟩;cases h;split at h;split at h;obtain ⟨s1,h1,h2⟩:=XX.1 h;exact ⟨Z5u (Z5u ay dg h1) dg h2,by rw [Jv h2,Jv h1]⟩;cases h;exact ⟨Z5u ay dg h,Jv h⟩
theorem Z51 {st:List (Option Shp)} {t:Int} {nx:Shp} (h:¬ t<st.length):JA st t nx=none:=if_neg (λh'=>h h'.2)
theorem Zjd {code:List Ins} {st0:List (Option Shp)} (h0:ZbL st0):∀ k st,Z3g code k st0=some st->ZbL st/\st.length=st0.length
 | 0,st,h=>by cases h;exact ⟨h0,rfl⟩
 | k + 1, st, h => by
   obtain ⟨s1,h1,h2⟩:=XX.1 h;obtain ⟨a,b⟩:=Zjd h0 k s1 h1;obtain ⟨c,d⟩:=Zmn a h2;exact ⟨c,by omega⟩
theorem Zje (p q:Option Addr) (l m c d:Nat) (w):(Instr.buildSlice 312 2 #[(0,.slice p l c),(1,.slice q m d)]).run Tryz.prog w=.ok (.slice (some ⟨w.heap.size,0,none⟩) 2 2) (w.alloc (.cells #[.slice p l c,.slice q m d] 23)):=by kernel_rfl
theorem Vf.shps {w} {bv base:Nat} {cv hv sv:Value} {code:List Ins} {st:List (Option Shp)} (h:Vf w bv base cv hv sv code st):SlV (bv :: ob sv) w hv (Z0S st):=
 h.shp.slvX (λb hb=>by
  rcases Xb.1 hb with rfl|hb
  exact h.nh;exact λdr=>h.apart b dr hb)
theorem Vf.bounds {w} {bv base:Nat} {cv hv sv:Value} {code:List Ins} {st:List (Option Shp)} (h:Vf w bv base cv hv sv code st):∀ b∈bv :: (ob hv++ob sv),b<w.heap.size:=λb hb=>by
 have:=h.blk.lt;simp only [Xb,Xh] at hb;rcases hb with rfl|hb|hb
 omega;exact (h.shp.ob_le b hb).2;exact (h.seen.ob_le b hb).2
theorem Zmo (x:Ins):(Zz x).1.length<=2/\(Zz x).2.1.length<=2/\(Zz x).2.2.1.length<=1:=by
 obtain ⟨op,n⟩:=x;by_cases hr:1<=op/\op<=24;have hn:op=1\/op=2\/op=3\/op=4\/op=5\/op=6\/op=7\/op=8\/op=9\/op=10\/op=11\/op=12\/op=13\/op=14\/op=15\/op=16\/op=17\/op=18\/op=19\/op=20\/op=21\/op=22\/op=23\/op=24:=by omega
 rcases hn with rfl|rfl|rfl|rfl|rfl|rfl|rfl|rfl|rfl|rfl|rfl|rfl|rfl|rfl|rfl|rfl|rfl|rfl|rfl|rfl|rfl|rfl|rfl|rfl<;>simp [Zz]
 rw [Zjc hr];simp
theorem Zjf (bv base:Nat) (cv hv sv:Value) (code:List Ins) (st:List (Option Shp)) (i:Nat) (w) (h:Vf w bv base cv hv sv code st) (hi:i<code.length) (hn:code.length<=1000) (gk:∀ s,some s∈st->s.length<=16) (fD:opP code[i].op) :
 CC 250 #[pQ bv,.I (i:Int)] w λr w'=>Stp (bv :: (ob hv++ob sv)) w w'/\r=.B (JG st i code[i]).isSome/\∀ st',JG st i code[i]=some st'->Vf w' bv base cv hv sv code st':=by
 have ai:=h.len;have bG:i<(Z0S st).length:=by simp [Z0S];omega
 have db:i<(JP st).length:=by simp [JP];omega
 have nf:i<st.length:=by omega
 refine cW2 140 Tryz.func250 ?_;refine W ?_;refine Zft 17 ([w.heap.size]) [] [(0,0),(1,0),(2,0),(3,1),(4,0),(5,0),(6,1),(7,0),(8,0),(9,0),(10,1),(11,0),(12,0),(13,1),(14,2),(15,2),(16,0)] rfl mixed (by kernel_rfl) (by kernel_rfl) (by kernel_rfl) (λw1 ae fK=>?_);replace h:=h.up ae;have jU:=h.bounds;have hX:∀ b∈bv :: (ob hv++ob sv),b∉[w.heap.size]:=λb hb dr=>by
  have:=jU b hb;simp at dr;omega
 obtain ⟨cbl,io,bB⟩:Blk w1 bv 318 [cv,hv,sv]/\SlV [w.heap.size] w1 cv code/\SlV [w.heap.size] w1 hv (Z0S st):=⟨h.blk,h.cod.ext (Stp.refl [] _) (by simp) (λb hb=>.inr (by simp at hb;omega)),h.shps.ext (Stp.refl [] _) (by simp) (λb hb=>.inr (by simp at hb;omega))⟩
 have nb:bv∉[w.heap.size]:=hX bv (by simp);obtain ⟨u,ar,fB⟩:=bB.sub bG;refine D ?_;refine WD_read rfl trivial (λw' aP=>Jl rfl rfl (Z28 bB bG aP ar)) rfl ?_;refine D ?_;refine Za rfl trivial Zfu (λ_ _ h=>h.2.2.mn) rfl ?_;rintro _ w2 ⟨rfl,ac,ah⟩;rw [fK] at ac ⊢;refine Z0p rfl trivial (Zi (us:=Z3.enc code[i]) rfl rfl rfl rfl (Z3.one _) ac rfl) (λ_ _ h=>h.1) ?_;rintro _ w3 ⟨am,aL⟩;have cP:Stp [] w1 w3:=ah.ow am;replace h:=h.up cP;replace hS:=ae.trans cP;replace io:=h.cod;replace cbl:=h.blk;replace bB:=h.shps;have eT:=h.seen.slv0;replace jU:=h.bounds;have ng:SlV [w.heap.size] w3 u (Z0S st)[i].l:=fB.ext (ah.mn.trans am) (by simp) (λ_ h=>.inl h);clear ac ae cP ah am fB ar;refine D ?_;refine W ?_;refine CM (ZN rfl) (Zdw (w.heap.size :: bv :: (ob hv++ob sv)) code[i] _ (λb hb=>by rcases Xb.1 hb with rfl|hb;exact aL.lt;exact jU b hb) fD) ?_;rintro _ w4 ⟨va,vb,vc,rfl,sa,sb,sc,aJ⟩;have dz:=ng.up aJ;replace aL:=aL.up aJ;replace h:=h.up aJ;replace eT:=eT.up aJ;replace hS:=hS.trans aJ;replace cbl:=cbl.up aJ;clear aJ ng;have hM:JG st i code[i]=JG st i code[i]:=rfl
 conv at hM=>rhs;unfold JG Je
 have lK:st.getD i none=st[i]:=by simp [List.getD,nf]
 have dH:(Z0S st)[i].l=(st[i]).getD []:=by simp [Z0S]
 have jq:(JP st)[i]=(st[i]).isSome:=by simp [JP]
 rw [lK] at hM;have qz:(Z0S st)[i].l.length<=16:=by
  rw [dH];cases ay:st[i] with
  | none=>simp
  | some s=>exact gk s (by rw [<- ay];exact Xd nf)
 obtain ⟨el1,el2,el3⟩:=Zmo code[i];generalize Zz code[i]=E at *;obtain ⟨ta,al,gi,ok⟩:=E;dsimp only at sa sb sc el1 el2 el3 hM;generalize iR:(Z0S st)[i].l=s at *;refine W ?_
 refine Z5n (σ:=Bool) (λq=>[(0,pQ bv),(1,.I (i:Int)),(4,.B false),(5,.pointer (some ⟨w.heap.size,0,none⟩)),(6,u),(9,vc),(11,.I ((s.length:Int) - (ta.length:Int))),(75,.B q)])
  (λq w'=>Stp [] w4 w'/\q=! (decide (st[i].isSome=true/\ok=true/\ta.length<=s.length/\(s.drop (s.length - ta.length)=ta\/al≠[]/\s.drop (s.length - ta.length)=al)))) ?_ ?_
 . cases ok with
   | false=>
     refine QO ?_;exact QT true ⟨Stp.refl _ _,by simp⟩
   | true=>
     cases ay:st[i].isSome with
     | false=>
       rw [ay] at jq;repeat'(first|refine W1 ?_|omega|refine VG ?_ ?_<;>intro hg|refine VC ?_ ?_<;>intro hc)
       exact QT true ⟨Stp.refl _ _,by simp⟩;exact QT true ⟨Stp.refl _ _,by simp⟩;exact absurd (show (!(JP st)[i])=false by assumption) (by rw [jq];decide)
     | true=>
       rw [ay] at jq;by_cases hk:ta.length<=s.length
       case neg=>
        (refine QP ?_ ?_<;>intro hg)
        exact absurd (show (!(JP st)[i])=true by assumption) (by rw [jq];decide);exact QT true ⟨Stp.refl _ _,by simp [hk]⟩
       have ew:(s.length:Int) - (ta.length:Int)=((s.length - ta.length:Nat):Int):=by omega
       have sd:SlV [w.heap.size] w4 (slc u (s.length - ta.length) s.length 1) (s.drop (s.length - ta.length)):=by
        have:=dz.slc (l:=s.length - ta.length) (r:=s.length) (by omega) (by omega);rw [Xp] at this;exact this
       (refine QP ?_ ?_<;>intro hg)
       exact absurd (show (!(JP st)[i])=true by assumption) (by rw [jq];decide);refine Z4P rfl dz rfl ew (by omega) rfl ?_;refine W ?_;refine CM (Zf rfl rfl) (Z50 _ _ _ _ _ (sd.wk (by simp)) (sa.wk (by simp))) ?_;rintro _ w5 ⟨rfl,aD⟩;replace sb:=sb.up aD;replace dz:=dz.up aD;replace sd:=sd.up aD;repeat'(first|refine W1 ?_|omega|refine VG ?_ ?_<;>intro hg|refine VC ?_ ?_<;>intro hc)
       have h1:¬ s.drop (s.length - ta.length)=ta:=by assumption
       have h2:(al.length:Int)=0:=by assumption
       have h3:al=[]:=Xv.1 (by omega);exact QT true ⟨aD,by simp [h1,h3]⟩;have h1:¬ s.drop (s.length - ta.length)=ta:=by assumption
       have h2:¬ (al.length:Int)=0:=by assumption
       have h3:al≠[]:=λh=>h2 (by simp [h])
       refine Z4P rfl dz rfl ew (by omega) rfl ?_;refine W ?_;refine CM (Zf rfl rfl) (Z50 _ _ _ _ _ (sd.wk (by simp)) (sb.wk (by simp))) ?_;rintro _ w6 ⟨rfl,dh⟩;refine W ?_;refine QT _ ⟨aD.trans dh,?_⟩;by_cases h4:s.drop (s.length - ta.length)=al<;>simp [h1,h3,h4,hk];have h1:s.drop (s.length - ta.length)=ta:=Classical.not_not.1 (by assumption);exact QT false ⟨aD,by simp [h1,hk]⟩
 rintro q w5 ⟨aD,hq⟩
 try dsimp only at hq ⊢
 replace dz:=dz.up aD;replace sc:=sc.up aD;replace aL:=aL.up aD;replace h:=h.up aD;replace cbl:=cbl.up aD;replace hS:=hS.trans aD;clear aD;by_cases hC:st[i].isSome=true/\ok=true/\ta.length<=s.length/\(s.drop (s.length - ta.length)=ta\/al≠[]/\s.drop (s.length - ta.length)=al)
 case neg=>
  obtain rfl:q=true:=by rw [hq,decide_eq_false hC];rfl
  have fp:JG st i code[i]=none:=by
   rw [hM];cases ay:st[i] with
   | none=>rfl
   | some s0=>
     obtain rfl:s=s0:=by rw [dH,ay];rfl
     dsimp only;rw [if_neg (λh=>hC ⟨by rw [ay];rfl,h.1,h.2.1,h.2.2.1⟩)]
  refine RT ?_;exact ⟨hS.mn,by rw [fp];rfl,λst' h=>by rw [fp] at h;cases h⟩
 obtain rfl:q=false:=by rw [hq,decide_eq_true hC];rfl
 obtain ⟨ni,aO,hk,vh⟩:=hC;have ay:st[i]=some s:=by
  cases ay:st[i] with
  | none=>rw [ay] at ni;cases ni
  | some s0=>rw [dH,ay];rfl
 rw [ay] at hM;dsimp only at hM;have ew:(s.length:Int) - (ta.length:Int)=((s.length - ta.length:Nat):Int):=by omega
 have sk:SlV [w.heap.size] w5 (slc u 0 (s.length - ta.length) 1) (s.take (s.length - ta.length)):=by
  have:=dz.slc (l:=0) (r:=s.length - ta.length) (by omega) (by omega);rw [YbH] at this;exact this
 obtain ⟨p2,c2,gW⟩:=sk.len;obtain ⟨p3,c3,rfl⟩:=sc.len;refine W ?_;refine ZcY rfl dz rfl ew (by omega) rfl ?_;rw [gW] at sk ⊢;refine W ?_;refine Z0 (Z1 (vs:=[(0,.slice p2 (s.take (s.length - ta.length)).length c2),(1,.slice p3 gi.length c3)]) rfl (Zje _ _ _ _ _ _)) rfl ?_;rintro bl w6 hN;have sbl:SlV [] w6 bl [(⟨s.take (s.length - ta.length)⟩:Sl Int),⟨gi⟩]:=hN.slvS (X:=[]) (by simp) rfl rfl (λi hi cA=>match i,hi with|0,_=>sk.wk (by simp)|1,_=>sc.wk (by simp)) (by simp [maxLen]);have hT:=Z9.stp hN;clear hN;replace dz:=dz.up hT;replace aL:=aL.up hT;replace h:=h.up hT;replace cbl:=cbl.up hT;replace hS:=hS.trans hT;clear hT;refine CM (ZN rfl) (ZbK _ _ _ sbl (by simp) (by simp;omega)) ?_;rintro rv w7 ab;have qA:[(⟨s.take (s.length - ta.length)⟩:Sl Int),⟨gi⟩].flatMap Sl.l=s.take (s.length - ta.length)++gi:=by simp
 rw [qA] at ab;have aR:=ab.2;have sr:=ab.slv h.bounds;replace dz:=dz.up aR;replace aL:=aL.up aR;replace h:=h.up aR;replace cbl:=cbl.up aR;replace hS:=hS.trans aR;clear aR ab;by_cases nj:(s.take (s.length - ta.length)++gi).length<=16
 case neg=>
  have fp:JG st i code[i]=none:=by
   rw [hM,if_neg (λh=>nj h.2.2.2)]
  refine RT ?_;exact ⟨hS.mn,by rw [fp];rfl,λst' h=>by rw [fp] at h;cases h⟩
 rw [if_pos ⟨aO,hk,vh,nj⟩] at hM;dsimp only at hM;generalize s.take (s.length - ta.length)++gi=nx at *;have kC:=h.cod;by_cases cW:code[i].op=24;rw [if_pos cW] at hM
 (refine QP ?_ ?_<;>intro hg)
 refine WR ?_;by_cases fe:s.length=1;have hn:JG st i code[i]=some st:=by rw [hM,if_pos ⟨by omega,fe⟩]
 exact .mk ⟨hS.mn,by rw [hn];congr 1;exact decide_eq_true (by omega),λst' h'=>by rw [hn] at h';cases h';exact h⟩;have hn:JG st i code[i]=none:=by rw [hM,if_neg (λh=>fe h.2)]
 exact .mk ⟨hS.mn,by rw [hn];congr 1;exact decide_eq_false (by omega),λst' h'=>by rw [hn] at h';cases h'⟩;refine WR ?_;have hn:JG st i code[i]=none:=by rw [hM,if_neg (λh=>by omega)]
 exact .mk ⟨hS.mn,by rw [hn];rfl,λst' h=>by rw [hn] at h;cases h⟩;rw [if_neg cW] at hM;by_cases cT:code[i].op=13;rw [if_pos cT] at hM;by_cases iZ:code[i].n > (i:Int);rw [if_pos iZ] at hM;refine QO ?_;refine CM (ZI rfl rfl rfl) (Z4m bv base cv hv sv _ code st code[i].n nx _ h (by omega) sr) ?_;rintro _ w8 ⟨cJ,rfl,hV⟩;refine W ?_;refine WR ?_;rw [<- hM] at hV;exact .mk ⟨hS.mn.trans cJ,by rw [hM],hV⟩;rw [if_neg iZ] at hM;refine RT ?_;exact ⟨hS.mn,by rw [hM];rfl,λst' h=>by rw [hM] at h;cases h⟩;rw [if_neg cT] at hM;by_cases dW:code[i].op=14;rw [if_pos dW] at hM;by_cases iZ:code[i].n > (i:Int)
 . rw [if_pos iZ] at hM
   refine QO ?_;refine CM (ZI rfl rfl rfl) (Z4m bv base cv hv sv _ code st code[i].n nx _ h (by omega) sr) ?_;rintro _ w8 ⟨cJ,rfl,hV⟩;have sr8:=sr.ext (X':=bv :: (ob hv++ob sv)) cJ (λ_ h=>h) (λ_ h=>.inl h);cases hr:JA st code[i].n nx with
   | none=>
     rw [hr] at hM;refine RT ?_;exact ⟨hS.mn.trans cJ,by rw [hM];rfl,λst' h=>by rw [hM] at h;cases h⟩
   | some st1=>
     rw [hr] at hM;have h8:=hV st1 hr;refine W ?_;refine CM (ZI rfl rfl rfl) (Z4m bv base cv hv sv _ code st1 ((i:Int)+1) nx _ h8 (by omega) sr8) ?_;rintro _ w9 ⟨gf,rfl,vi⟩;refine RT ?_;exact ⟨(hS.mn.trans cJ).trans gf,by rw [hM];rfl,λst' h=>vi st' (by rw [hM] at h;exact h)⟩
 rw [if_neg iZ] at hM;refine RT ?_;exact ⟨hS.mn,by rw [hM];rfl,λst' h=>by rw [hM] at h;cases h⟩;rw [if_neg dW] at hM;refine QO ?_;refine CM (ZI rfl rfl rfl) (Z4m bv base cv hv sv _ code st ((i:Int)+1) nx _ h (by omega) sr) ?_;rintro _ w8 ⟨cJ,rfl,hV⟩;refine W ?_;refine WR ?_;rw [<- hM] at hV;exact .mk ⟨hS.mn.trans cJ,by rw [hM],hV⟩
theorem Zev (p q r:Option Addr) (l m k c d f:Nat) (w):(Instr.build 318 #[(0,.slice p l c),(1,.slice q m d),(2,.slice r k f)]).run Tryz.prog w=.ok (.agg #[.slice p l c,.slice q m d,.slice r k f]) w:=by kernel_rfl
theorem Zjg {st st':List (Option Shp)} {i:Nat} {x:Ins} (h0:∀ s,some s∈st->s.length<=16) (h:JG st i x=some st'):∀ s,some s∈st'->s.length<=16:=by
 have hr:∀ {st st':List (Option Shp)} {t:Int} {nx:Shp},(∀ s,some s∈st->s.length<=16)->nx.length<=16->JA st t nx=some st'->∀ s,some s∈st'->s.length<=16:=by
  intro st st' t nx ay hn h;unfold JA at h;split at h;split at h;split at h;cases h;exact ay;cases h;cases h;intro s hs;rcases List.mem_or_eq_of_mem_set hs with h|h
  exact ay s h;cases h;exact hn;cases h
 have hn:∀ {s nx:Shp},Je x s=some nx->nx.length<=16:=by
  intro s nx h;unfold Je at h;dsimp only at h;split at h;rename_i hc;cases h;exact hc.2.2.2;cases h
 unfold JG at h;split at h;cases h;split at h;cases h;rename_i nx oy;have dg:=hn oy;split at h;split at h;cases h;exact h0;cases h;split at h;split at h;exact hr h0 dg h;cases h;split at h;split at h;obtain ⟨s1,h1,h2⟩:=XX.1 h;exact hr (hr h0 dg h1) dg h2;cases h;exact hr h0 dg h
theorem Z9k {code:List Ins} {st0:List (Option Shp)} {k:Nat} (h:Z3g code k st0=none):∀ m,k<=m->Z3g code m st0=none
 | 0, hm => by
   obtain rfl:k=0:=by omega
   exact h
 | m + 1, hm => by
   by_cases hk:k=m+1;subst hk;exact h;rw [Z3g,Z9k h m (by omega)];rfl
theorem Z7Z {code:List Ins} {st0:List (Option Shp)}:∀ {k:Nat} {st:List (Option Shp)},Z3g code k st0=some st->st.length=st0.length
 | 0,st,h=>by cases h;rfl
 | k + 1, st, h => by
   obtain ⟨s1,h1,h2⟩:=XX.1 h;have e1:=Z7Z h1;have e2:st.length=s1.length:=by
    unfold JG at h2;split at h2;cases h2;split at h2;cases h2;split at h2;split at h2;cases h2;rfl;cases h2;split at h2;split at h2;exact Jv h2;cases h2;split at h2;split at h2;obtain ⟨s2,h3,h4⟩:=XX.1 h2;rw [Jv h4,Jv h3];cases h2;exact Jv h2
   omega
theorem ZfM {st st':List (Option Shp)} {i:Nat} {x:Ins} (hi:i+1=st.length) (h:JG st i x=some st'):st'=st/\∃ k,st.getD i none=some [k]:=by
 unfold JG at h;cases hs:st.getD i none with
 | none=>rw [hs] at h;cases h
 | some s=>
   rw [hs] at h;dsimp only at h;split at h;cases h;rename_i nx hn;split at h;split at h;rename_i hc;cases h;obtain ⟨k,hk⟩:=Ya9.1 hc.2;exact ⟨rfl,k,by rw [hk]⟩;cases h;split at h;split at h;rw [Z51 (by omega)] at h;cases h;cases h;split at h;split at h;rw [Z51 (by omega)] at h;cases h;cases h;rw [Z51 (by omega)] at h;cases h
theorem Z80 (v:Value) (code:List Ins) (w) (hs:SlV [] w v code) (fD:∀ x∈code,opP x.op) :
 CC 190 #[v] w λr w'=>r=.tuple #[.I (Z1t code).1,.I (Z1t code).2]/\Stp [] w w':=by
 have aT:=hs.max;obtain ⟨p,c,rfl,-⟩:=id hs;refine cW1 49 Tryz.func190 ?_;refine W ?_;by_cases h0:code.length=0\/code.length > 200
 . have hM:Z1t code=(0,22):=if_pos h0
   repeat'(first|refine W1 ?_|omega|refine VG ?_ ?_<;>intro hg|refine VC ?_ ?_<;>intro hc)
   all_goals
    refine RU ?_;exact ⟨by rw [hM],Stp.refl _ _⟩
 refine QO ?_;have lZ:0<code.length:=by omega
 have tk:code.length<=200:=by omega
 refine JE (σ:=Nat×Value×Value) (λq=>[(0,.slice p code.length c),(4,.pointer (some ⟨q.1,0,none⟩))]) (λq w'=>Vf w' q.1 w.heap.size (.slice p code.length c) q.2.1 q.2.2 code (List.replicate code.length none)/\w.heap.size<=q.1/\Stp [] w w') ?_ ?_;refine ZDr 10 [] [] [(0,0),(1,0),(2,0),(4,0),(5,0),(3,9),(6,2),(7,0),(8,2),(9,0)] (λw1 ae=>?_);have fK:=ae.size;refine D ?_;apply Za1;rfl;refine Z1d rfl trivial (Z1g (α:=Sl Int) (k:=code.length) (a0:=⟨[]⟩) rfl rfl (λX w=>⟨_,rfl,Zk _ _⟩) rfl rfl (by simp [maxLen];omega) (by omega)) (λ_ _ h=>h.2) rfl ?_;rintro hv w2 ⟨rh,ah⟩;refine D ?_;refine Za rfl trivial (Z1g (α:=Bool) (k:=code.length) (a0:=false) rfl rfl (λX w=>rfl) rfl rfl (by simp [maxLen];omega) (by omega)) (λ_ _ h=>h.2) rfl ?_;rintro sv w3 ⟨rs,am⟩;refine D ?_;obtain ⟨ph,ch,qB⟩:∃ p c,hv=.slice p code.length c:=by
  have:=((rh []).slv0).len;simpa using this
 obtain ⟨ps,cs,bO⟩:∃ p c,sv=.slice p code.length c:=by
  have:=((rs []).slv0).len;simpa using this
 have hap:∀ b∈ob hv,b∉ob sv:=λb h1 h2=>by
  have:=(rh []).ob_le b h1;have:=(rs []).ob_le b h2;omega
 subst qB bO;refine Z2s rfl trivial (vs:=[(0,.slice p code.length c),(1,.slice ph code.length ch),(2,.slice ps code.length cs)]) rfl (Zev _ _ _ _ _ _ _ _ _) rfl ?_;refine Za rfl trivial (Zo rfl) (λ_ _ h=>h.choose_spec.2.2.2) rfl ?_;rintro _ w4 ⟨bv,rfl,lW,ac,aJ⟩;have hS:=(ae.trans ah).trans (am.trans aJ);have kP:=ah.size;have vj:=am.size;refine D ?_;refine QT (bv,.slice ph code.length ch,.slice ps code.length cs) ⟨?_,by omega,hS⟩;have b1:∀ b∈ob (.slice ph code.length ch),w.heap.size<=b/\b<w3.heap.size:=λb h=>by have:=(rh []).ob_le b h;omega
 have b2:∀ b∈ob (.slice ps code.length cs),w.heap.size<=b/\b<w3.heap.size:=λb h=>by have:=(rs []).ob_le b h;omega
 have e1:Z0S (List.replicate code.length none)=List.replicate code.length ⟨[]⟩:=by simp [Z0S]
 have e2:JP (List.replicate code.length none)=List.replicate code.length false:=by simp [JP]
 refine ⟨ac,hs.ext hS (by simp) (λb hb=>.inr ?_),by rw [e1];exact ((rh _).lower ae.size).up (am.trans aJ),by rw [e2];exact ((rs _).lower (Xg ae.size ah.size)).up aJ,λh=>by have:=b1 bv h;omega,λh=>by have:=b2 bv h;omega,hS.size,hap,by simp⟩;simp only [Xb,Xh] at hb;rcases hb with rfl|h|h
 omega;exact (b1 b h).1;exact (b2 b h).1;refine Z1d rfl trivial (Z1g (α:=Bool) (k:=code.length) (a0:=false) rfl rfl (λX w=>rfl) rfl rfl (by simp [maxLen];omega) (by omega)) (λ_ _ h=>h.2) rfl ?_;rintro sv w2 ⟨rs,ah⟩;refine Za rfl trivial (Z1g (α:=Sl Int) (k:=code.length) (a0:=⟨[]⟩) rfl rfl (λX w=>⟨_,rfl,Zk _ _⟩) rfl rfl (by simp [maxLen];omega) (by omega)) (λ_ _ h=>h.2) rfl ?_;rintro hv w3 ⟨rh,am⟩;refine D ?_;obtain ⟨ph,ch,qB⟩:∃ p c,hv=.slice p code.length c:=by
  have:=((rh []).slv0).len;simpa using this
 obtain ⟨ps,cs,bO⟩:∃ p c,sv=.slice p code.length c:=by
  have:=((rs []).slv0).len;simpa using this
 have hap:∀ b∈ob hv,b∉ob sv:=λb h1 h2=>by
  have:=(rh []).ob_le b h1;have:=(rs []).ob_le b h2;omega
 subst qB bO;refine Z2s rfl trivial (vs:=[(0,.slice p code.length c),(1,.slice ph code.length ch),(2,.slice ps code.length cs)]) rfl (Zev _ _ _ _ _ _ _ _ _) rfl ?_;refine Za rfl trivial (Zo rfl) (λ_ _ h=>h.choose_spec.2.2.2) rfl ?_;rintro _ w4 ⟨bv,rfl,lW,ac,aJ⟩;have hS:=(ae.trans ah).trans (am.trans aJ);have kP:=ah.size;have vj:=am.size;refine D ?_;refine QT (bv,.slice ph code.length ch,.slice ps code.length cs) ⟨?_,by omega,hS⟩;have b1:∀ b∈ob (.slice ph code.length ch),w.heap.size<=b/\b<w3.heap.size:=λb h=>by have:=(rh []).ob_le b h;omega
 have b2:∀ b∈ob (.slice ps code.length cs),w.heap.size<=b/\b<w3.heap.size:=λb h=>by have:=(rs []).ob_le b h;omega
 have e1:Z0S (List.replicate code.length none)=List.replicate code.length ⟨[]⟩:=by simp [Z0S]
 have e2:JP (List.replicate code.length none)=List.replicate code.length false:=by simp [JP]
 refine ⟨ac,hs.ext hS (by simp) (λb hb=>.inr ?_),by rw [e1];exact ((rh _).lower (Xg ae.size ah.size)).up aJ,by rw [e2];exact ((rs _).lower ae.size).up (am.trans aJ),λh=>by have:=b1 bv h;omega,λh=>by have:=b2 bv h;omega,hS.size,hap,by simp⟩;simp only [Xb,Xh] at hb;rcases hb with rfl|h|h
 omega;exact (b1 b h).1;exact (b2 b h).1;rintro ⟨bv,hv,sv⟩ w2 ⟨h,lW,hS⟩;dsimp only at h lW ⊢;have ac:=h.blk;have eT:=h.seen.slv0;have cB:(JP (List.replicate code.length none)).length=code.length:=by simp [JP]
 have fh:0<(JP (List.replicate code.length none)).length:=by omega
 refine W ?_;refine Z6 (Z3D (α:=Bool) (y':=true) (u:=.B true) rfl rfl rfl rfl h.seen fh) ?_;rintro _ w3 ⟨rs3,am⟩;have cP:Stp (bv :: (ob hv++ob sv)) w2 w3:=am.mono (λb hb=>by simp [hb]);generalize ix:(some [] :: List.replicate (code.length - 1) none:List (Option Shp))=st0 at *;have dJ:st0.length=code.length:=by rw [<- ix];simp;omega
 obtain ⟨m,hm⟩:∃ m,code.length=m+1:=⟨code.length - 1,by omega⟩
 have e1:Z0S st0=Z0S (List.replicate code.length none):=by rw [<- ix,hm];simp [Z0S,YaZ]
 have e2:JP st0=(JP (List.replicate code.length none)).set 0 true:=by rw [<- ix,hm];simp [JP,YaZ]
 have h3:Vf w3 bv w.heap.size (.slice p code.length c) hv sv code st0:=by
  refine ⟨h.blk.ext am h.ns,h.cod.ext cP (λ_ h=>h) (λ_ h=>.inl h),?_,?_,h.nh,h.ns,Xg h.hi am.size,h.apart,dJ⟩;rw [e1];exact h.shp.ext (X':=bv :: ob sv) am (λb hb=>⟨XE _ hb,λdr=>h.apart b dr hb⟩) (λ_ h=>.inl h);rw [e2];exact rs3
 have hB:∀ b∈bv :: (ob hv++ob sv),w.heap.size<=b:=λb hb=>by
  simp only [Xb,Xh] at hb;rcases hb with rfl|hb|hb
  exact lW;exact (h.shp.ob_le b hb).1;exact (h.seen.ob_le b hb).1
 have aP:=hS.own cP (λb hb=>.inr (hB b hb));have qC:∀ s,some s∈st0->s.length<=16:=by
  intro s hs;rw [<- ix] at hs;simp at hs;rw [hs];simp
 have jW:Z1t code=match Z3g code code.length st0 with
  | none=>(0,22)
  | some st=>(((st.getD (code.length - 1) none).getD []).headD 0,0):=by
  rw [<- ix];exact if_neg h0
 clear eT ac h e1 e2 am cP rs3 hS;refine W ?_
 refine Zr (σ:=Nat×List (Option Shp)) (λq=>[(0,.slice p code.length c),(4,pQ bv),(29,.I (code.length:Int)),(30,.I (q.1:Int))])
  (λq w'=>q.1<=code.length/\Z3g code q.1 st0=some q.2/\Vf w' bv w.heap.size (.slice p code.length c) hv sv code q.2/\(∀ s,some s∈q.2->s.length<=16)/\Stp [] w w') (λq=>code.length - q.1) (0,st0) ⟨rfl,rfl,rfl,rfl,trivial⟩ ⟨Xq _,rfl,h3,qC,aP⟩ ?_
 rintro ⟨k,st⟩ w4 ⟨hk,bj,h4,gk,aJ⟩
 try dsimp only at hk bj h4 gk ⊢
 by_cases hlt:k<code.length
 . refine QO ?_
   refine CM (Zf rfl rfl) (Zjf bv w.heap.size _ hv sv code st k _ h4 hlt (by omega) gk (fD _ (Xd hlt))) ?_;rintro _ w5 ⟨aD,rfl,hV⟩;replace aD:=aJ.own aD (λb hb=>.inr (hB b hb));have vk:code.getD k ⟨0,0⟩=code[k]:=by simp [List.getD,hlt]
   have dK:Z3g code (k+1) st0=JG st k code[k]:=by rw [Z3g,bj,XO,vk]
   cases ay:JG st k code[k] with
   | none=>
     have hn:Z1t code=(0,22):=by rw [jW,Z9k (dK.trans ay) code.length hlt]
     refine RT ?_;exact ⟨by rw [hn],aD⟩
   | some st1=>
     refine W ?_;exact QL (k+1,st1) ⟨hlt,dK.trans ay,hV st1 ay,Zjg gk ay,aD⟩ (XN hlt (XT k))
 obtain rfl:k=code.length:=by omega
 have vl:=Z7Z bj;have dL:∃ a,st.getD (code.length - 1) none=some [a]:=by
  rw [hm,Z3g] at bj;obtain ⟨s1,r1,r2⟩:=XX.1 bj;have fe:=Z7Z r1;obtain ⟨rfl,a,ha⟩:=ZfM (by omega) r2;exact ⟨a,by rw [hm];exact ha⟩
 obtain ⟨a,ha⟩:=dL;have vm:Z1t code=(a,0):=by rw [jW,bj];dsimp only;rw [ha];rfl
 have ac:=h4.blk;have jp:=h4.shps;have vn:(Z0S st).length=code.length:=by simp [Z0S];omega
 have gH:m<(Z0S st).length:=by omega
 have ew:(code.length:Int) - 1=(m:Int):=by omega
 obtain ⟨u,ar,fB⟩:=jp.sub gH;have eu:(Z0S st)[m].l=[a]:=by
  have:st.getD m none=some [a]:=by rw [<- ha,hm];rfl
  have h2:st.getD m none=st[m]'(by omega):=by simp [List.getD,show m<st.length by omega]
  have h5:(Z0S st)[m]=⟨(st[m]'(by omega)).getD []⟩:=by simp [Z0S]
  rw [h5,<- h2,this];rfl
 rw [eu] at fB;refine QO ?_;apply Z8 (Jl rfl rfl ar) rfl;have gY:0 < [a].length:=by simp
 refine RT ?_;exact ⟨by rw [vm];rfl,aJ⟩
open Go Go.Eng Go.RowKit Go.Proofs Go.ChangeShapes Go.WideShapes Go.Deep
theorem Zwm:ownKnob Tryz.prog.godebug=none:=by kernel_rfl
theorem ZvK:laidOutB Tryz.prog=true:=by kernel_rfl
section
variable {H:Type} {enc:TypeId×Value->H} {w:World} {base:Nat} {spare:Nat->Bool} {bJ:Bool}
theorem ZvL {r:Reach} {b0:Nat} {v:Value} {d:DataW H} {p:List MemPlace} (hv:Value.okWide Tryz.prog w r b0 3 v) (h:DataW.Trod enc Tryz.prog w base spare bJ 3 v d p):∃ z:Int,v=.I z/\I64 z:=by
 obtain ⟨z,rfl,_,_,hw⟩:=open_int Tryz.underlying3 hv h;exact ⟨z,rfl,by simpa [I64,Lit.wf,IntKind.min,IntKind.max,IntKind.signed,IntKind.bits] using hw⟩
theorem ZsN {r:Reach} {b0:Nat} {v:Value} {d:DataW H} {p:List MemPlace} (hv:Value.okWide Tryz.prog w r b0 23 v) (h:DataW.Trod enc Tryz.prog w base spare bJ 23 v d p) :
 ∃ l:List Int,SlV [] w v l/\(∀ x∈l,I64 x)/\Zfv d=l.length:=by
 obtain ⟨fuel,h⟩:=h;obtain ⟨u,l,hu,hs,aO,il⟩:=ZiX Tryz.underlying23 (by kernel_rfl) Tryz.underlying3 h;obtain ⟨a,m,c,rfl⟩:=okWide_slice Tryz.underlying23 hv;have qD:Value.slice a m c=u:=by simpa [Value.cells] using hu
 subst qD;exact ⟨l,hs,aO,il⟩
end
end Go.Proofs.YtipfkbkkndacjaaGreatDoor
namespace Go.Eng
open Go Go.RowKit Go.Proofs Go.ChangeShapes Go.WideShapes Go.Deep
section
variable {H:Type} {enc:TypeId×Value->H} {P:Program} {w:World} {base:Nat} {spare:Nat->Bool} {bJ:Bool}
theorem Zas {α:Type} [Z5 α] {t e:TypeId} {fuel:Nat} {cs:List Value} {x:DataW H×List MemPlace} (ht:P.underlying t=some (.slice e)) (hC:P.cellsOf e=Z5.k α) (aW:0<Z5.k α)
 (ir:∀ n cs' d q,SizeOf.sizeOf d<SizeOf.sizeOf x.1->cs'.length=Z5.k α->DataW.trod enc P w base spare bJ n e cs'=some (d,q)->∃ a:α,Z5.rep [] w a cs')
 (h:DataW.trod enc P w base spare bJ fuel t cs=some x):∃ (v:Value) (xs:List α),cs=[v]/\SlV [] w v xs/\Zfv x.1=xs.length:=by
 rcases open_slice ht h with ⟨rfl,rfl⟩|⟨a,len,cap,m,n,D,Pl,rfl,hb,hl,hm,eQ,hx,hi⟩
 exact ⟨_,[],rfl,⟨none,0,rfl,Xn _,by simp [maxLen],λ_=>rfl,λi h=>absurd h (Xt _)⟩,rfl⟩;have cp:len<=m:=by rw [eQ];split<;>omega
 have aA:∀ i:Fin len,∃ (y:α) (cs':List Value),Z5.rep [] w y cs'/\cs'.length=Z5.k α/\∀ j u,cs'[j]?=some u->w.cell? (a.add (i * Z5.k α+j))=some u:=by
  intro i;obtain ⟨cs',hc,mT⟩:=hi i (by omega);rw [hC] at hc;obtain ⟨_,bZ,fz⟩:=World.cells?_some hc;have bE:SizeOf.sizeOf (D i)<SizeOf.sizeOf x.1:=by
   rw [hx];have kQ:D i∈(List.range len).map D:=XG.2 ⟨i,Ybr.2 i.2,rfl⟩;have:=List.sizeOf_lt_of_mem kQ;simp only [DataW.slice.sizeOf_spec];omega
  obtain ⟨y,hr⟩:=ir n cs' _ _ bE bZ mT;refine ⟨y,cs',hr,bZ,λj u hu=>?_⟩;have hj:j<Z5.k α:=by
   have:=(Xu.1 hu).1;omega
  have:=fz j hj;rw [hu] at this;rw [<- this,Go.Deep.add_add]
 let f:Fin len->α:=λi=>(aA i).choose
 have hf:∀ i:Fin len,∃ (cs':List Value),Z5.rep [] w (f i) cs'/\cs'.length=Z5.k α/\∀ j u,cs'[j]?=some u->w.cell? (a.add (i * Z5.k α+j))=some u:=λi=>(aA i).choose_spec;refine ⟨_,List.ofFn f,rfl,⟨some a,cap,by simp,by simpa using hl,hm,by simp,λi cA=>?_⟩,by rw [hx];simp [Zfv]⟩;have it:i<len:=by simpa using cA
 obtain ⟨cs',hr,bZ,fz⟩:=hf ⟨i,it⟩;obtain ⟨cs0,kK,qE,qF⟩:=hf ⟨0,by omega⟩;have bQ:=qF 0 (cs0[0]'(by omega)) (XB _);have gz:=fz 0 (cs'[0]'(by omega)) (XB _);have bB:a.spot=none:=by
  have e0:a.add ((⟨0,by omega⟩:Fin len).val * Z5.k α+0)=a:=by simp [Addr.add]
  rw [e0] at bQ;unfold World.cell? at bQ;split at bQ
  . cases hs:a.spot with
    | none=>rfl
    | some s=>simp [hs] at bQ
  cases bQ
 obtain ⟨b,o,sp⟩:=a;cases bB;refine ⟨b,o,cs',rfl,?_,by simp,?_,λj u hu=>?_⟩;have:=block_lt_of_cell (a:=(⟨b,o,none⟩:Addr).add (i * Z5.k α+0)) gz;simpa [Z5o] using this;rw [List.getElem_ofFn];exact hr;have:=fz j u hu;rw [Z5o] at this;rw [show o+i * Z5.k α+j=o+(i * Z5.k α+j) from Yaq _ _ _];exact this
end
end Go.Eng
namespace Go.Proofs.YtipfkbkkndacjaaGreatDoor
open Go Go.Eng Go.RowKit Go.Proofs Go.ChangeShapes Go.WideShapes Go.Deep
section
variable {H:Type} {enc:TypeId×Value->H} {w:World} {base:Nat} {spare:Nat->Bool} {bJ:Bool}
theorem k3:Tryz.prog.cellsOf 3=1:=by kernel_rfl
theorem k9:Tryz.prog.cellsOf 9=1:=by kernel_rfl
end
end Go.Proofs.YtipfkbkkndacjaaGreatDoor
