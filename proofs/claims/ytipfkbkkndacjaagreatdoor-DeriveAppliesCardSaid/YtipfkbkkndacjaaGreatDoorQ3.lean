/-
Contracts and plain laws, merged out of own texts.
-/
import Derived.Test.YtipfkbkkndacjaaGreatDoorQ2
import Derived.Carry
import Derived.ChangeOld
import Derived.ProofKit
import Derived.OpenShut
import Derived.SizedLaws
import Derived.HandedShaped
import Derived.LaidMore
import Derived.Stop.Joined
import Derived.SevenTiedAt
import Derived.MakeChecks
import Derived.Lib.ConvBytes
import Derived.Laws.AppendOwn
import Derived.Laws.BitsAllLaws
import Derived.Laws.Bits64
import Derived.Lib.SlBytesRow
import Derived.Lib.AppendStr
import Derived.Laws.BytesArg
import Derived.Laws.Cover3
import Derived.Shelf.Strings.Builder1
import Derived.Shelf.Strings.Builder2
import Derived.Shelf.Small.Utf8
import Derived.Shelf.Small.Bits
import Derived.Shelf.Small.Strs
import Derived.Shelf.Small.Wraps
import Derived.Shelf.Strings.BuilderF
import Derived.Shelf.Strconv.Atoi
import Derived.Shelf.Strconv.Itoa0
import Derived.Shelf.Strconv.Itoa1
import Derived.Shelf.LaysM
import Derived.Shelf.Strconv.Itoa2
import Derived.Shelf.Strconv.Itoa3
import Derived.Shelf.Strconv.AtoiErrFast
import Derived.Shelf.Strconv.ParseIntEmpty
import Derived.Shelf.Strconv.AtoiFail
import Derived.Shelf.Strconv.Clone
import Derived.Shelf.Strconv.SyntaxError
import Derived.Shelf.LaysC
import Derived.Shelf.Strconv.ToError
import Derived.Shelf.Strconv.Lower
import Derived.Shelf.Strconv.ParseUint10
import Derived.Shelf.Strconv.ParseUint10Empty
import Derived.Shelf.Strconv.ParseUint10Any
import Derived.Shelf.Strconv.ParseInt10
import Derived.Shelf.Strconv.AtoiLong
import Derived.Shelf.Strconv.AtoiInnerAll
import Derived.Shelf.Strconv.RangeError
import Derived.Shelf.Strconv.ToErrorRange
import Derived.Shelf.Strconv.AtoiAll
import Derived.Shelf.Strconv.ErrVarAll
import Derived.Shelf.Strings.Search1
import Derived.Shelf.Strings.Search2
import Derived.Shelf.Strings.Search3
import Derived.Shelf.Strings.Shaped
import Derived.Shelf.Sort.Plain
import Derived.Shelf.Strings.Prefix
import Derived.Shelf.Strings.Runes
import Derived.Shelf.Bits.Mul64
import Derived.Shelf.Strings.Repeat
import Derived.Shelf.Slices.Turned
import Derived.Ground.Names2Prog
import Derived.Shelf.Slices.CompactI
import Derived.Shelf.Slices.SearchI
import Derived.Shelf.Slices.Cells
import Derived.Shelf.Slices.In.SortNone
import Derived.Test.YtipfkbkkndacjaaGreatDoorProg
import Derived.Scope
import Derived.Laws.Runes
import Derived.Lib.IndexLaws
import Derived.Lib.AtoiAll
import Derived.Test.YtipfkbkkndacjaaGreatDoorRows
import Derived.Test.YtipfkbkkndacjaaGreatDoorTie
import Derived.Test.YtipfkbkkndacjaaGreatDoorCards
set_option linter.unusedVariables false
set_option linter.unusedSimpArgs false
set_option maxHeartbeats 4000000
set_option maxRecDepth 20000
namespace Go.Eng
open Go Go.RowKit Go.Proofs Go.ChangeShapes Go.WideShapes
section
variable {H:Type} {enc:TypeId×Value->H} {P:Program}
def ZeZ (P:Program) (ts:List TypeId):Bool:=ts.all λt=>P.readableRec t && decide (t<P.types.size)
theorem Z4V (hl:laidOutB P=true) {W W':World} (hb:Below W.heap.size W W') {sp:Nat->Bool}:∀ {ts:List TypeId} {vs:List Value} {ds:List (DataW H)} {ps:List MemPlace},ZeZ P ts=true->
 DataW.TrodAll enc P W 0 (λ_=>true) true ts vs ds ps->(∀ x∈ps,x.block<W.heap.size)->(∀ x∈ps,sp x.block=true)->DataW.TrodAll enc P W' 0 sp true ts vs ds ps
 | [],[],[],_,_,h,_,_=>h
 | t :: ts, v :: vs, d :: ds, ps, hr, h, hlt, hs => by
   obtain ⟨p,q,h1,h2,rfl⟩:=h;simp only [ZeZ,Ya6,Xm,decide_eq_true_eq] at hr;obtain ⟨⟨r1,r2⟩,r3⟩:=hr;exact ⟨p,q,WideElems.Trod_stays hl r1 r2 h1 (λx hx=>hb.same (hlt x (by simp [hx]))) (λx hx=>hs x (by simp [hx])),Z4V hl hb (by simpa [ZeZ] using r3) h2 (λx hx=>hlt x (by simp [hx])) (λx hx=>hs x (by simp [hx])),rfl⟩
 | [],_ :: _,_,_,_,h,_,_=>h.elim
 | [],[],_ :: _,_,_,h,_,_=>h.elim
 | _ :: _,[],_,_,_,h,_,_=>h.elim
 | _ :: _,_ :: _,[],_,_,h,_,_=>h.elim
section
variable {f:Func} {s:ChangeSpec} {apart fresh handsOn again:Bool} {W W':World} {args:Array Value} {v:Value} {ds gs:List (DataW H)} {before pa pv:List MemPlace}
theorem Z96
 (hW:DataW.Whole enc P f.params.toList s.vars apart W args.toList ds gs before)
 (az:∀ (b:Nat) (sp:Nat->Bool) (hd:Bool),DataW.TrodAll enc P W' b sp hd f.resultTypes.toList (v.resultList f.resultTypes.size) (s.fn H (ds++gs)).results [])
 (kg:∀ sp:Nat->Bool,(∀ p∈before,sp p.block=true)->DataW.TrodAll enc P W' 0 sp true f.params.toList args.toList (s.fn H (ds++gs)).args pa)
 (kh:∀ sp:Nat->Bool,(∀ p∈before,sp p.block=true)->DataW.TrodVars enc P W' sp s.vars (s.fn H (ds++gs)).vars pv)
 (bP:before=pa++pv) (hb:Below W.heap.size W W')
 (aO:∀ (j:Nat) (t:TypeId) (r:Value),f.resultTypes[j]?=some t->(v.resultList f.resultTypes.size)[j]?=some r->Value.okWide P W' .any 0 t r) :
 s.post enc P f apart fresh handsOn again W args v W':=by
 have hlt:∀ p∈before,p.block<W.heap.size:=λp hp=>hW.lt p hp;have m5:∀ p∈before,(λb=>decide (b<W.heap.size)) p.block=true:=λp hp=>by simpa using hlt p hp
 refine ⟨ds,gs,before,[],pa,pv,hW,az _ _ _,kg _ m5,kh _ m5,World.keptBut_mono (λp hp=>⟨hp,?_⟩) (hb.frame (·∈before)),λ_=>?_⟩;rw [bP,Xf] at hp;exact Or.inr hp;obtain ⟨_,_,_,_,_,hz,hn⟩:=hW;refine ⟨aO,_,_,([]++pa)++pv,⟨[]++pa,pv,trodAll_append (kg _ (λ_ _=>rfl)) (az _ _ _),kh _ (λ_ _=>rfl),rfl,?_,?_⟩,?_⟩;intro b off hp;have bM:MemPlace.cell b off∈before:=by rw [bP];simpa using hp
 rw [hb.frozen (hlt _ bM)];exact hz b off bM;intro ha;have:=hn ha;rw [bP] at this;simpa using this;intro p hp _;rw [bP];simpa using hp
end
def Zn0 (s:ChangeSpec) (k:Nat):Prop:=s.vars=[]/\∀ (H:Type) (ds:List (DataW H)),ds.length=k->(s.fn H ds).results=[.lit (.bool true)]/\(s.fn H ds).args=ds/\(s.fn H ds).vars=[]
theorem Z72 {W:World} {base:Nat} {sp:Nat->Bool} {hd:Bool}:∀ {ts:List TypeId} {vs:List Value} {ds:List (DataW H)} {ps:List MemPlace},DataW.TrodAll enc P W base sp hd ts vs ds ps->ds.length=ts.length
 | [],[],[],_,_=>rfl
 | t :: ts, v :: vs, d :: ds, ps, h => by
   obtain ⟨p,q,h1,h2,rfl⟩:=h;simp [Z72 h2]
 | [],_ :: _,_,_,h=>h.elim
 | [],[],_ :: _,_,h=>h.elim
 | _ :: _,[],_,_,h=>h.elim
 | _ :: _,_ :: _,[],_,h=>h.elim
theorem Zwu {fn:Func} {K tb:Nat} {s:ChangeSpec} {fresh handsOn again:Bool} {W:World} {args:Array Value} {ds gs:List (DataW H)} {before:List MemPlace} (hl:laidOutB P=true) (hr:ZeZ P fn.params.toList=true)
 (az:fn.resultTypes=#[tb]) (hb:P.underlying tb=some .bool) (hs:Zn0 s fn.params.size)
 (hW:DataW.Whole enc P fn.params.toList s.vars false W args.toList ds gs before) (hc:Calls P K args W (Ret λr w'=>r=.bool true/\Stp [] W w')) :
 Calls P K args W λe W'=>∃ v,e=.returned v/\s.post enc P fn false fresh handsOn again W args v W':=by
 refine hc.mono ?_;rintro _ w' ⟨_,rfl,rfl,hS⟩;refine ⟨_,rfl,?_⟩;have tk:=hW;obtain ⟨p,q,hA,hV,qq,yb,go⟩:=hW;rw [hs.1] at hV;obtain ⟨rfl,rfl⟩:=trodVars_none hV;have ai:(ds++[]).length=fn.params.size:=by simpa using Z72 hA
 obtain ⟨s1,s2,s3⟩:=hs.2 H (ds++[]) ai;have hlt:∀ x∈before,x.block<W.heap.size:=λx hx=>tk.lt x hx;refine Z96 (pa:=p) (pv:=[]) tk (λb sp hd=>?_) (λsp bt=>?_) (λsp _=>?_) qq hS.below ?_;rw [s1,az];exact trodAll_mk1 ⟨1,by simp [DataW.trod,Value.cells,hb]⟩;rw [s2];simp only [XC] at qq ⊢;subst qq;exact Z4V hl hS.below hr hA hlt bt;rw [s3,hs.1];rfl;exact ok_one az rfl (by simp [Value.okWide,hb,Cell.okWide,Cell.ok])
end
open Go Go.RowKit Go.Proofs Go.ChangeShapes Go.WideShapes Go.Deep
section
variable {H:Type} {enc:TypeId×Value->H}
theorem Zju {a:Assume} {C:Checked} {os:Os} {f:FuncId} {fn:Func} {s:ChangeSpec} {conds:List PathCond} {apart fresh handsOn again:Bool} {X:World->Array Value->Prop}
 (hX:∀ (w w':World) (args:Array Value),w.heap=w'.heap->X w args->X w' args)
 (own:ownKnob C.prog.godebug=none) (started:os.Started) (noInit:C.prog.inits.idxOf? f=none) (qr:C.prog.funcs[f]?=some fn)
 (witness : ∃ (w : World) (tape : Tape) (i : Input), w.os = os /\ (w.forCall tape i).Shaped C.prog /\ i.vars = [] /\ Input.okWide C.prog (w.forCall tape i) .any w.heap.size f i/\
   ((s.pre enc C.prog fn conds apart (w.forCall tape i).memory i.args/\X (w.forCall tape i).memory i.args)/\sizedMet enc C.prog fn (OpenSpec.ofChange s) apart (w.forCall tape i).memory i.args)/\a.holds C.prog (lone (Frame.enter C.prog f i.args .normal) [] (w.forCall tape i)))
 (contract : ∀ (W : World) (base : Nat) (args : Array Value) (ds gs : List (DataW H)) (before : List MemPlace),
   (∀ (j:Nat) t v,fn.params[j]?=some t->args[j]?=some v->Value.okWide C.prog W .any base t v)->
   DataW.Whole enc C.prog fn.params.toList s.vars apart W args.toList ds gs before->
   (DataW.weightsEach C.prog (fn.params.toList++s.plain.varTypes C.prog) (ds++gs)).all (·<=reachBytes)=true->X W args->W.ShapedOpen C.prog->
   Calls C.prog f args W λe W'=>∃ v,e=.returned v/\s.post enc C.prog fn apart fresh handsOn again W args v W') :
 ReturnsInHanded a C os f .any (λw args=>(s.pre enc C.prog fn conds apart w args/\X w args)/\sizedMet enc C.prog fn (OpenSpec.ofChange s) apart w args) (s.post enc C.prog fn apart fresh handsOn again):=by
 refine returnsInHanded_of_calls own started noInit witness ?_;intro w tape i _ dJ _ aO cw hholds;obtain ⟨_,_,_,fn',qt,_,_,_,_,qu⟩:=aO;have e:fn'=fn:=XT (qt.symm.trans qr);subst e;obtain ⟨⟨⟨ds,gs,before,hw,hc⟩,hx⟩,hz⟩:=cw;have vk:=DataW.Whole.of_heap (w':=w.forCall tape i) (by rfl) hw;refine (contract (w.forCall tape i) w.heap.size i.args ds gs before qu vk (hz.weights hw) (hX _ _ _ (by rfl) hx) dJ).mono λe W' ⟨v,he,hp⟩=>?_
 subst he;exact ChangeSpec.post_blind hp
end
instance:Z3 UInt8 where
 k:=1
 enc:=λb=>[.int .u8 (b.toNat:Int)]
 len:=λ_=>rfl
 one:=by intro x u hu;simp at hu;subst hu;rfl
section
variable {P:Program} {n:Nat} {e:Env} {w:World} {d:Option Nat} {ty:TypeId} {pos:String} {af:Array Edge} {g:Option (Nat×Bool)}
theorem Zc1 {src dst el:TypeId} {x:Operand} {s:Str} [hs:Und P src .string] [hd:Und P dst (.slice el)] [he:Und P el (.int .u8)] (hx:ev e x=some (str s)) (hl:s.length<=1000000) :
 OE P n ⟨d,.convert src dst x,ty,pos,af,g⟩ e w (λv w'=>(∀ X:List Nat,(∀ b∈X,b<w.heap.size)->SlV X w' v s)/\Stp [] w w'):=by
 refine Jf (v:=.slice (some ⟨w.heap.size,0,none⟩) s.length (grownCap w s.length 0 el)) (w':=Go.Lib.bytesWorld w el ⟨s.toArray⟩) (λa ha=>?_) ⟨λX hX=>?_,?_⟩;have h:=Go.Lib.run_convert_string_bytes (P:=P) w src dst el ⟨s.toArray⟩ hs.h hd.h he.h;simp only [Z0o] at h;simp [execOp,ha.ev hx,h];refine ⟨some ⟨w.heap.size,0,none⟩,_,rfl,grownCap_ge w _ _ _,grownCap_le_maxLen w _ _ _ (by simp [maxLen];omega),(λh=>by cases h),λi hi=>⟨w.heap.size,0,Z3.enc s[i],rfl,?_,λh=>by have:=hX _ h;omega,rfl,λj u hu=>?_⟩⟩;rw [Go.Lib.bytesWorld_size];omega;have hj:j=0:=by
  have:=(Xu.1 hu).1;simp [Z3.enc] at this;exact this
 subst hj;have hc:=Go.Lib.bytesWorld_cell w el ⟨s.toArray⟩ i (by rw [Z0o];exact hi);simp only [Z3.enc,List.getElem?_cons_zero,XH] at hu;subst hu;have e1:(0+i * Z5.k UInt8+0)=i:=by show 0+i * 1+0=i;omega
 rw [e1,hc];simp [List.getD,hi];refine ⟨rfl,rfl,rfl,?_,λb hb _=>Go.Lib.bytesWorld_at_old w el _ b hb⟩;rw [Go.Lib.bytesWorld_size];omega
end
section
variable {P:Program} {n:Nat} {e:Env} {w:World} {d:Option Nat} {ty:TypeId} {pos:String} {af:Array Edge} {g:Option (Nat×Bool)}
theorem Zn1 {src dst:TypeId} {k k':IntKind} {x:Operand} {a:Int} {D:TypeDesc} [hs:Und P src D] [hd:Und P dst (.int k)] (hx:ev e x=some (.int k' a)) :
 PR P n ⟨d,.convert src dst x,ty,pos,af,g⟩ e w (.int k (k.wrap a)):=
 ⟨λc ha => by
   have hk:P.intKind dst=k:=by simp [Program.intKind,hd.h]
   have:=run_convert_int (P:=P) w src dst k' a (by rw [hs.h];rfl) (by rw [hk];exact hd.h);simp [execOp,ha.ev hx,this,hk]⟩
theorem Z4s {src dst:TypeId} {k k':IntKind} {x:Operand} {a b:Int} {D:TypeDesc} [hs:Und P src D] [hd:Und P dst (.int k)] (hx:ev e x=some (.int k' a)) (hb:k.wrap a=b) :
 PR P n ⟨d,.convert src dst x,ty,pos,af,g⟩ e w (.int k b):=hb ▸ Zn1 hx
end
end Go.Eng
namespace Go.Proofs.YtipfkbkkndacjaaGreatDoor
open Go Go.Eng Go.RowKit Go.Proofs
def Z5G:List Int:=[0,31,28,31,30,31,30,31,31,30,31,30,31]
def Z0x (w:World):Prop:=∀ i u,Z5G[i]?=some u->w.cell? ⟨3,i,none⟩=some (.I u)
theorem Z0x.ext {S:List Nat} {w w':World} (h:Z0x w) (hS:Stp S w w') (hb:3∉S):Z0x w':=λi u hu=>hS.cell hb (h i u hu)
theorem Z0x.up {w w':World} (h:Z0x w) (hS:Stp [] w w'):Z0x w':=h.ext hS (by simp)
theorem Zjv (y:Int) (w) (h0:0<=y) (h1:y<=100000):CC 314 #[.I y] w λr w'=>r=.B (Z16 y)/\w'=w:=by
 unfold Z16;refine cW1 16 Tryz.func314 ?_;repeat'(first|refine W1 ?_|omega|refine VG ?_ ?_<;>intro hg|refine VC ?_ ?_<;>intro hc)
 all_goals refine WR ?_
 all_goals refine .mk ⟨?_,rfl⟩
 all_goals congr 1
 all_goals (first|done|(rw [X7];simp;omega)|(simp [*]))
theorem Z3d (y m:Int) (w) (hL:Z0x w) (h0:0<=y) (h1:y<=100000):CC 262 #[.I y,.I m] w λr w'=>r=.I (ZM y m)/\w'=w:=by
 unfold ZM;refine cW2 22 Tryz.func262 ?_;by_cases hm:m<1\/12<m
 . rw [if_pos hm]
   repeat'(first|refine W1 ?_|omega|refine VG ?_ ?_<;>intro hg|refine VC ?_ ?_<;>intro hc)
   all_goals refine WR ?_
   all_goals exact .mk ⟨rfl,rfl⟩
 rw [if_neg hm];obtain ⟨k,rfl⟩:∃ k:Nat,m=(k:Int):=⟨m.toNat,by omega⟩
 have hk:k<13:=by omega
 have an:w.cell? ⟨3,0+k * 1,none⟩=some (.I (Z5G.getD k 0)):=hL _ _ (by
  have:k<Z5G.length:=hk;simp [List.getD,this])
 by_cases h2:(k:Int)=2;rw [if_pos h2];refine QO ?_;refine CL (Zjv y _ h0 h1) ?_;rintro _ _ ⟨rfl,rfl⟩;cases hl:Z16 y;refine W ?_;refine Z8 (JI rfl rfl an) rfl ?_;refine W ?_;refine WR ?_;obtain rfl:k=2:=by omega
 exact .mk ⟨rfl,rfl⟩;refine RT ?_;exact ⟨rfl,rfl⟩;rw [if_neg h2];refine QO ?_;refine Z8 (JI rfl rfl an) rfl ?_;refine W ?_;refine WR ?_;refine .mk ⟨?_,rfl⟩;congr 1;have:k=1\/k=3\/k=4\/k=5\/k=6\/k=7\/k=8\/k=9\/k=10\/k=11\/k=12:=by omega
 rcases this with rfl|rfl|rfl|rfl|rfl|rfl|rfl|rfl|rfl|rfl|rfl<;>rfl
abbrev Zjw (y m d:Int):Value:=.agg #[.I y,.I m,.I d]
def Z1Z (y m d:Int):Prop:=y<1\/9999<y\/m<1\/12<m\/d<1\/ZM y m<d
instance (y m d:Int):Decidable (Z1Z y m d):=by unfold Z1Z;infer_instance
theorem ZdV (y m d:Int) (w) (hL:Z0x w):CC 336 #[Zjw y m d] w λr w'=>r=.I (if Z1Z y m d then 5 else 0)/\Stp [] w w':=by
 refine cW1 36 Tryz.func336 ?_;refine W ?_;refine Z0 (Zr rfl) rfl ?_;rintro _ w1 ⟨b,rfl,hb,ac,hS⟩;replace ac:Blk w1 b 132 [.I y,.I m,.I d]:=ac;replace hL:=hL.up hS;refine W ?_;refine ZDr 33 [] [] [(0,0),(1,1),(2,0),(3,0),(4,0),(5,1),(6,0),(7,0),(8,0),(9,0),(10,1),(11,0),(12,0),(13,0),(14,0),(15,1),(16,0),(17,0),(18,0),(19,0),(20,1),(21,0),(22,0),(23,0),(24,0),(25,1),(26,0),(27,1),(28,0),(29,1),(30,2),(31,0),(32,0)] (λw1 ae=>?_);replace ac:=ac.up ae;replace hL:=hL.up ae;replace hS:=hS.trans ae;clear ae;by_cases hg:y<1\/9999<y\/m<1\/12<m\/d<1
 . have fS:Z1Z y m d:=by unfold Z1Z;omega
   rw [if_pos fS];repeat'(first|refine D1 ?_|omega|refine Zk rfl rfl rfl rfl (λhg=>?_) (λhg=>?_)|(refine Zh rfl rfl rfl rfl (λhg=>?_) (λhg=>?_)<;>refine D1 ?_)|fail)
   all_goals refine QO ?_
   all_goals refine WR ?_
   all_goals exact .mk ⟨rfl,hS⟩
 . refine QD ?_
   refine Za rfl rfl (Z4 rfl (Zd rfl rfl) (Z3d y m _ hL (by omega) (by omega))) (λ_ _ h=>by rw [h.2];exact Stp.refl _ _) rfl ?_;rintro _ w3 ⟨rfl,rfl⟩;refine QD ?_;all_goals (refine QP ?_ ?_<;>intro hc)
   refine RU ?_;exact ⟨by rw [if_pos (by unfold Z1Z;omega)],hS⟩;refine RU ?_;exact ⟨by rw [if_neg (by unfold Z1Z;omega)],hS⟩
theorem Z5h (y m d:Int) (w) (hy:0<=y) (eB:y<=100000) (hm:1<=m) (eW:m<=12) (hd:0<=d) (kU:d<=100000) (h1:m - 3<0->1<=y):CC 263 #[Zjw y m d] w λr w'=>r=.I (Z08 y m d)/\Stp [] w w':=by
 refine cW1 36 Tryz.func263 ?_;refine W ?_;refine Z0 (Zr rfl) rfl ?_;rintro _ w1 ⟨b,rfl,hb,ac,hS⟩;replace ac:Blk w1 b 132 [.I y,.I m,.I d]:=ac;refine W ?_;refine ZDr 7 [] [] [(0,0),(1,1),(2,0),(3,1),(4,0),(5,0),(6,0)] (λw1 ae=>?_);replace ac:=ac.up ae;replace hS:=hS.trans ae;clear ae;refine D ?_
 (refine QP ?_ ?_<;>intro hc)
 all_goals refine WR ?_
 all_goals refine .mk ⟨?_,hS⟩
 all_goals unfold Z08
 rw [if_pos (by assumption)];congr 1;dsimp only;omega;rw [if_neg (by assumption)]
theorem Z8b (y m d:Int) (w) (hL:Z0x w):CC 304 #[Zjw y m d] w λr w'=>r=.tuple #[.I (if Z1Z y m d then 0 else Z08 y m d),.I (if Z1Z y m d then 5 else 0)]/\Stp [] w w':=by
 refine cW1 12 Tryz.func304 ?_;refine W ?_;refine Z0 (Zr rfl) rfl ?_;rintro _ w1 ⟨b,rfl,hb,ac,hS⟩;replace ac:Blk w1 b 132 [.I y,.I m,.I d]:=ac;replace hL:=hL.up hS;refine W ?_;refine CL (ZdV y m d _ hL) ?_;rintro _ w2 ⟨rfl,hT⟩;replace ac:=ac.up hT;replace hS:=hS.trans hT;clear hT;by_cases fS:Z1Z y m d;rw [if_pos fS,if_pos fS];refine RT ?_;exact ⟨rfl,hS⟩;rw [if_neg fS,if_neg fS];refine W ?_;have qj:=Z39 y m;unfold Z1Z at fS;refine CM (ZR rfl) (Z5h y m d _ (by omega) (by omega) (by omega) (by omega) (by omega) (by omega) (by omega)) ?_;rintro _ w3 ⟨rfl,hT⟩;refine RT ?_;exact ⟨rfl,hS.trans hT⟩
end Go.Proofs.YtipfkbkkndacjaaGreatDoor
namespace Go.Eng
open Go Go.RowKit Go.Proofs
def Z5i (s:Str):Int:=s.foldl (λn c=>10 * n+(c.toNat:Int) - 48) 0
theorem Z8c (a:Str) (c:UInt8):Z5i (a++[c])=10 * Z5i a+(c.toNat:Int) - 48:=by simp [Z5i,YaI]
theorem Z8d {s:Str} (h:s.all J9=true):Z5i s=(Z1G s:Int):=by
 have key:∀ (s:Str) (z:Int) (n:Nat),z=(n:Int)->s.all J9=true->s.foldl (λn c=>10 * n+(c.toNat:Int) - 48) z=((s.foldl (λn c=>10 * n+(c.toNat - 48)) n:Nat):Int):=by
  intro s
  induction s with
  | nil=>intro z n hz _;exact hz
  | cons c r ih=>
    intro z n hz h;simp only [Ya6,Xm] at h;have hc:48<=c.toNat/\c.toNat<=57:=by simpa [J9] using h.1
    exact ih _ _ (by dsimp only;omega) h.2
 exact key s 0 0 rfl h
def Zg5:Nat->Int
 | 0=>0
 | k+1=>10 * Zg5 k+300
theorem Zc2:∀ (k:Nat) (s:Str),s.length=k->-Zg5 k<=Z5i s/\Z5i s<=Zg5 k
 | 0, s, h => by
   have:s=[]:=Xw.1 h;subst this;simp [Z5i,Zg5]
 | k + 1, s, h => by
   have aU:s≠[]:=by rintro rfl;simp at h
   obtain ⟨a,c,rfl⟩:∃ a c,s=a++[c]:=⟨s.dropLast,s.getLast aU,(List.dropLast_concat_getLast aU).symm⟩
   have ih:=Zc2 k a (by simpa using h);have hc:=c.toNat_lt;rw [Z8c];simp only [Zg5];omega
theorem Zn2 {k:Nat} (h:k<=4):Zg5 k<=400000:=by
 have:k=0\/k=1\/k=2\/k=3\/k=4:=by omega
 rcases this with rfl|rfl|rfl|rfl|rfl<;>decide
end Go.Eng
namespace Go.Proofs.YtipfkbkkndacjaaGreatDoor
open Go Go.Eng Go.RowKit Go.Proofs
theorem Z8e (s:Str) (f u bs be:Nat) (e0:Int) (w) (vl:f<=u) (hu:u<=s.length) (h4:u<=f+4) (aU:bs≠be) (hs:Blk w bs 9 [str s]) (he:Blk w be 92 [.I e0]) :
 CC 326 #[.I (f:Int),.I (u:Int),pQ bs,pQ be] w
  λr w'=>r=.I (Z5i ((s.take u).drop f))/\Blk w' bs 9 [str s]/\Blk w' be 92 [.I (if ((s.take u).drop f).all J9 then e0 else 7)]/\Stp [be] w w':=by
 refine cW4 34 Tryz.func326 ?_;refine W ?_;refine Z5t rfl rfl rfl rfl rfl vl hu rfl ?_;have ai:((s.take u).drop f).length=u - f:=by simp;omega
 generalize (s.take u).drop f=t at *;refine Z0 (Zc1 rfl (by omega)) rfl ?_;rintro bv w1 ⟨hb,hS⟩;have oM:be<w.heap.size:=he.lt;have aq:=hb [be] (by simpa using oM);clear hb;replace hs:=hs.up hS;replace he:=he.up hS;replace hS:=hS.mono (S':=[be]) (by simp);refine W ?_
 refine Zu (σ:=Nat) (λq=>[(2,pQ bs),(3,pQ be),(7,.I (Z5i (t.take q))),(14,bv),(15,.I (t.length:Int)),(16,.I (q:Int))])
  (λq w'=>q<=t.length/\SlV [be] w' bv t/\Blk w' bs 9 [str s]/\Blk w' be 92 [.I (if (t.take q).all J9 then e0 else 7)]/\Stp [be] w w')
  (λq=>t.length - q) 0 ⟨rfl,rfl,rfl,rfl,rfl,rfl,trivial⟩ ⟨Xq _,aq,hs,he,hS⟩ ?_
 clear aq hs he hS;rintro q w2 ⟨hq,aq,hs,he,hS⟩;have ii:=Zc2 q (t.take q) (by simp;omega);have bE:=Zn2 (k:=q) (by omega);by_cases hlt:q<t.length;have fI:t.take (q+1)=t.take q++[t[q]]:=(List.take_append_getElem hlt).symm;have hc:=(t[q]).toNat_lt;have iY:J9 t[q]=true↔48<=(t[q]).toNat/\(t[q]).toNat<=57:=by simp [J9]
 have fin:∀ w3,SlV [be] w3 bv t->Blk w3 bs 9 [str s]->Blk w3 be 92 [.I (if J9 t[q]=true then (if (t.take q).all J9 then e0 else 7) else 7)]->Stp [be] w w3->
  (q+1<=t.length/\SlV [be] w3 bv t/\Blk w3 bs 9 [str s]/\Blk w3 be 92 [.I (if (t.take (q+1)).all J9 then e0 else 7)]/\Stp [be] w w3):=by
  intro w3 h1 h2 h3 h4;refine ⟨hlt,h1,h2,?_,h4⟩;rw [fI];have:((t.take q++[t[q]]).all J9)=((t.take q).all J9 && J9 t[q]):=by rw [List.all_append];simp only [Ya6,List.all_nil,Ybk]
  rw [this];by_cases hd:J9 t[q]=true;rw [if_pos hd] at h3;rw [hd,Ybk];exact h3;rw [if_neg hd] at h3;rw [Bool.not_eq_true] at hd;rw [hd,YbN];exact h3
 by_cases hd:J9 t[q]=true;have oN:=iY.1 hd;refine QO ?_;refine Z8 (Z4s (b:=((t[q]).toNat:Int)) rfl (Z09 (by unfold I64;omega))) rfl ?_;refine W ?_;refine Zx (q+1) ⟨rfl,rfl,?_,rfl,rfl,rfl,trivial⟩ (fin _ aq hs (by rw [if_pos hd];exact he) hS) (by omega);rw [fI,Z8c];rfl
 . have oN:(t[q]).toNat<48\/57<(t[q]).toNat:=by
    rcases Yay (t[q]).toNat 48 with h|h
    exact .inl h;rcases Yay 57 (t[q]).toNat with h'|h'
    exact .inr h';exact absurd (iY.2 ⟨h,h'⟩) hd
   repeat'(first|refine W1 ?_|omega|refine VG ?_ ?_<;>intro hg|refine VC ?_ ?_<;>intro hc)
   all_goals
    refine SB (us:=[.I 7]) (by simp;rfl) he ?_;rintro _ w3 ⟨hT,vm⟩;refine W ?_;refine Z8 (Z4s (b:=((t[q]).toNat:Int)) rfl (Z09 (by unfold I64;omega))) rfl ?_;refine W ?_;refine Zx (q+1) ⟨rfl,rfl,?_,rfl,rfl,rfl,trivial⟩ (fin _ (aq.ext hT (λ_ h=>h) (λ_ h=>.inl h)) (hs.ext hT (by simpa using aU)) (by rw [if_neg hd];exact vm) (hS.trans hT)) (by omega);rw [fI,Z8c];rfl
 have:q=t.length:=by omega
 subst this;rw [Xp] at *;refine RT ?_;exact ⟨rfl,hs,he,hS⟩
theorem Z5H (y m d:Int) (w):(Instr.build 132 #[(0,.I y),(1,.I m),(2,.I d)]).run Tryz.prog w=.ok (Zjw y m d) w:=by kernel_rfl
theorem ZdW (s:Str) (w) (hL:Z0x w) (hl:s.length=10):CC 277 #[str s] w λr w'=>r=.tuple #[.I (Z1C s).1,.I (Z1C s).2]/\Stp [] w w':=by
 have h5:3<w.heap.size:=by have:=block_lt_of_cell (hL 0 0 rfl);simpa using this
 refine cW1 35 Tryz.func277 ?_;refine W ?_;refine Z0 (Zr rfl) rfl ?_;rintro _ w1 ⟨bs,rfl,dD,es,hS⟩;replace es:Blk w1 bs 9 [str s]:=es;replace hL:=hL.up hS;have b45:∀ i,i<10->(Jg s i=45↔s.getD i 0=45):=λi hi=>by
  unfold Jg;constructor;intro h;have oO:(45:UInt8).toNat=45:=rfl;have:(s.getD i 0).toNat=(45:UInt8).toNat:=by omega
  exact UInt8.toNat_inj.1 this;intro h;rw [h];rfl
 by_cases oO:Jg s 4=45/\Jg s 7=45;obtain ⟨h4,h7⟩:=oO;refine QO ?_;refine Jb (i:=4) rfl rfl rfl (by omega) rfl ?_;refine QO ?_;refine Jb (i:=7) rfl rfl rfl (by omega) rfl ?_;refine QO ?_;refine Z0 Z2 rfl ?_;rintro _ w2 ⟨be,rfl,lT,ee,hT⟩;have nbe:bs≠be:=by have:=es.lt;omega
 replace es:=es.up hT;refine SB (us:=[.I 0]) (by simp;rfl) ee ?_;rintro _ w3 ⟨ar,ee'⟩;have vn:w.heap.size<=be:=Xh hS.size lT;replace es:=es.ext ar (by simpa using nbe);replace hT:=hT.ow ar;replace hL:=hL.up hT;replace hS:=hS.trans hT;clear hT ar ee lT;refine W ?_;refine Z0 (Z00 rfl (Zd rfl rfl) rfl (Z8e s 0 4 bs be 0 _ (by omega) (by omega) (by omega) nbe es ee')) rfl ?_;rintro _ w4 ⟨rfl,es4,ee4,hT⟩;replace hL:=hL.ext hT (by simp only [Xi];omega);replace hS:=hS.ow hT;clear hT;refine W ?_;refine Z0 (Z00 rfl (Zd rfl rfl) rfl (Z8e s 5 7 bs be _ _ (by omega) (by omega) (by omega) nbe es4 ee4)) rfl ?_;rintro _ w5 ⟨rfl,es5,ee5,hT⟩;replace hL:=hL.ext hT (by simp only [Xi];omega);replace hS:=hS.ow hT;clear hT es4 ee4;refine W ?_;refine Z0 (Z00 rfl (Zd rfl rfl) rfl (Z8e s 8 10 bs be _ _ (by omega) (by omega) (by omega) nbe es5 ee5)) rfl ?_;rintro _ w6 ⟨rfl,es6,ee6,hT⟩;replace hL:=hL.ext hT (by simp only [Xi];omega);replace hS:=hS.ow hT;clear hT es5 ee5;have e0:(s.take 4).drop 0=s.take 4:=rfl;have e1:(s.take 7).drop 5=(s.drop 5).take 2:=by rw [Ybt]
 have e2:(s.take 10).drop 8=s.drop 8:=by rw [XL (by omega)]
 rw [e0,e1,e2] at ee6;rw [e0,e1,e2];refine Z7 (vs:=[(0,.I (Z5i (s.take 4))),(1,.I (Z5i ((s.drop 5).take 2))),(2,.I (Z5i (s.drop 8)))]) rfl (Z5H _ _ _) rfl ?_;refine Z0 Z2 rfl ?_;rintro _ w7 ⟨bd,rfl,kj,ed,hT⟩;have nbd:be≠bd:=by have:=ee6.lt;omega
 replace ee6:=ee6.up hT;refine Z6 (Zj (us:=[.I (Z5i (s.take 4)),.I (Z5i ((s.drop 5).take 2)),.I (Z5i (s.drop 8))]) rfl rfl rfl rfl (by intro c hc;simp at hc;rcases hc with rfl|rfl|rfl<;>rfl) ed rfl) ?_;rintro _ w8 ⟨ar,ed'⟩;replace ee6:=ee6.ext ar (by simpa using nbd);replace hT:=hT.ow ar;replace hL:=hL.up hT;replace hS:=hS.trans hT;clear hT ar ed kj es6;by_cases aB:(s.take 4).all J9=true/\((s.drop 5).take 2).all J9=true/\(s.drop 8).all J9=true;obtain ⟨a1,a2,a3⟩:=aB;have hP:Z1C s=(let y:Int:=Z1G (s.take 4);let m:Int:=Z1G ((s.drop 5).take 2);let d:Int:=Z1G (s.drop 8);if Z1Z y m d then (0,5) else (Z08 y m d,0)):=by
  unfold Z1C;rw [if_pos ⟨hl,(b45 4 (by omega)).1 h4,(b45 7 (by omega)).1 h7,a1,a2,a3⟩];rfl
 rw [if_pos a1,if_pos a2,if_pos a3] at ee6;rw [Z8d a1,Z8d a2,Z8d a3] at ed';refine W ?_;refine CL (Z8b _ _ _ _ hL) ?_;rintro _ w9 ⟨rfl,hT⟩;replace hS:=hS.trans hT;refine W ?_;refine WR ?_;refine .mk ⟨?_,hS⟩;rw [hP];dsimp only;split<;>rfl
 have hP:Z1C s=(0,7):=by
  unfold Z1C;rw [if_neg (λh=>aB h.2.2.2)]
 have hE:(if (s.drop 8).all J9=true then (if ((s.drop 5).take 2).all J9=true then (if (s.take 4).all J9=true then (0:Int) else 7) else 7) else 7)=7:=by
  by_cases g3:(s.drop 8).all J9=true;rw [if_pos g3];by_cases g2:((s.drop 5).take 2).all J9=true;rw [if_pos g2];by_cases g1:(s.take 4).all J9=true;exact absurd ⟨g1,g2,g3⟩ aB;rw [if_neg g1];rw [if_neg g2];rw [if_neg g3]
 rw [hE] at ee6;refine W ?_;refine ZDr 3 [] [] [(0,1),(1,0),(2,0)] (λw1 ae=>?_);replace ee6:=ee6.up ae;replace hS:=hS.trans ae;refine D ?_;refine W ?_;refine WR ?_;rw [hP];exact .mk ⟨rfl,hS⟩;have hP:Z1C s=(0,7):=by
  unfold Z1C;rw [if_neg (λh=>oO ⟨(b45 4 (by omega)).2 h.2.1,(b45 7 (by omega)).2 h.2.2.1⟩)]
 by_cases h4:Jg s 4=45;have h7:¬ Jg s 7=45:=λh=>oO ⟨h4,h⟩;refine QO ?_;refine Jb (i:=4) rfl rfl rfl (by omega) rfl ?_;refine QO ?_;refine Jb (i:=7) rfl rfl rfl (by omega) rfl ?_;refine QO ?_;refine WR ?_;rw [hP];exact .mk ⟨rfl,hS⟩;refine QO ?_;refine Jb (i:=4) rfl rfl rfl (by omega) rfl ?_;refine QO ?_;refine WR ?_;rw [hP];exact .mk ⟨rfl,hS⟩
end Go.Proofs.YtipfkbkkndacjaaGreatDoor
namespace Go.Proofs
theorem fxT {P:Go.Program} {f:Nat} {a b:Go.Func} (h:P.funcs[f]?=some a) (e:a=b:=by kernel_rfl):P.funcs[f]?=some b:=h.trans (congrArg some e)
open Go.Shelf
def Tryz.lays119_ren:Go.Shelf.Ren:=⟨fun|119=>321|n=>n,fun|21=>21|4=>4|n=>n,fun|n=>n⟩
theorem Tryz.lays119:Go.Proofs.Lays.n119 Tryz.prog Tryz.lays119_ren:={
 mixed:=by kernel_rfl
 f119:=fxT Tryz.func321
 t4:=Tryz.underlying4
 a4:=Tryz.isAgg4
 z4:=Tryz.sizeOf4
 v4:=Tryz.zeroValue4
 t21:=Tryz.underlying21
 a21:=Tryz.isAgg21
 z21:=Tryz.sizeOf21
 v21:=Tryz.zeroValue21 }
theorem Tryz.utf8_ValidRune (r:Int) (w:World) :
 Calls Tryz.prog 321 #[.int .i32 r] w λe w'=>e=.returned (.bool (Lib.validRune r))/\w'=w:=Any.utf8_ValidRune Tryz.lays119 r w
def Tryz.lays137_ren:Go.Shelf.Ren:=⟨fun|137=>273|217=>320|266=>348|n=>n,fun|9=>9|5=>5|3=>3|n=>n,fun|n=>n⟩
theorem Tryz.lays137:Go.Proofs.Lays.n137 Tryz.prog Tryz.lays137_ren:={
 mixed:=by kernel_rfl
 f137:=fxT Tryz.func273
 f217:=fxT Tryz.func320
 f266:=fxT Tryz.func348
 t3:=Tryz.underlying3
 a3:=Tryz.isAgg3
 z3:=Tryz.sizeOf3
 v3:=Tryz.zeroValue3
 t5:=Tryz.underlying5
 a5:=Tryz.isAgg5
 z5:=Tryz.sizeOf5
 v5:=Tryz.zeroValue5
 t9:=Tryz.underlying9
 a9:=Tryz.isAgg9
 z9:=Tryz.sizeOf9
 v9:=Tryz.zeroValue9 }
open Go.RowKit in
theorem Tryz.strings_IndexByte (s:ByteArray) (c:Int) (w:World) :
 Calls Tryz.prog 273 #[.string s,.int .u8 c] w λe w'=>e=.returned (.int .i64 (Lib.indexByte s.data.toList c.toNat.toUInt8))/\w'=w:=Any.strings_IndexByte Tryz.lays137 s c w
def Tryz.lays215_ren:Go.Shelf.Ren:=⟨fun|215=>125|n=>n,fun|3=>3|4=>4|n=>n,fun|n=>n⟩
def Tryz.lays122_ren:Go.Shelf.Ren:=⟨fun|122=>75|215=>125|n=>n,fun|3=>3|4=>4|n=>n,fun|n=>n⟩
theorem Tryz.lays122:Go.Proofs.Lays.n122 Tryz.prog Tryz.lays122_ren:={
 mixed:=by kernel_rfl
 f122:=fxT Tryz.func75
 f215:=fxT Tryz.func125
 t3:=Tryz.underlying3
 a3:=Tryz.isAgg3
 z3:=Tryz.sizeOf3
 v3:=Tryz.zeroValue3
 t4:=Tryz.underlying4
 a4:=Tryz.isAgg4
 z4:=Tryz.sizeOf4
 v4:=Tryz.zeroValue4 }
open Go.RowKit in
theorem Tryz.cmp_Compare_int (x y:Int) (w:World) :
 Calls Tryz.prog 75 #[.int .i64 x,.int .i64 y] w λe w'=>e=.returned (.int .i64 (Lib.compareInt x y))/\w'=w:=Any.cmp_Compare_int Tryz.lays122 x y w
def Tryz.lays172_ren:Go.Shelf.Ren:=⟨fun|172=>276|244=>324|245=>325|247=>349|279=>350|280=>351|281=>352|282=>353|287=>362|316=>363|171=>62|205=>364|321=>368|322=>369|243=>94|246=>172|283=>235|284=>236|285=>237|286=>238|129=>124|317=>291|318=>292|319=>293|320=>294|337=>331|338=>332|n=>n,fun|9=>9|3=>3|75=>197|76=>198|4=>4|5=>5|167=>389|37=>192|0=>0|85=>390|2=>2|168=>392|53=>222|175=>401|46=>157|210=>405|127=>251|145=>412|143=>410|21=>21|171=>301|173=>303|212=>360|51=>220|20=>20|213=>361|232=>395|233=>396|80=>200|n=>n,fun|15=>7|16=>8|17=>1|18=>5|19=>6|n=>n⟩
def Tryz.laysC172_ren:Go.Shelf.Ren:=⟨fun|172=>276|244=>324|245=>325|247=>349|279=>350|280=>351|281=>352|282=>353|287=>362|316=>363|171=>62|205=>364|321=>368|322=>369|243=>94|246=>172|283=>235|284=>236|285=>237|286=>238|129=>124|317=>291|318=>292|319=>293|320=>294|337=>331|338=>332|n=>n,fun|9=>9|3=>3|75=>197|76=>198|4=>4|5=>5|167=>389|37=>192|0=>0|85=>390|2=>2|168=>392|53=>222|175=>401|46=>157|210=>405|127=>251|145=>412|143=>410|21=>21|171=>301|173=>303|212=>360|51=>220|20=>20|213=>361|232=>395|233=>396|80=>200|n=>n,fun|15=>7|16=>8|17=>1|18=>5|19=>6|n=>n⟩
theorem Tryz.laysC172:Go.Proofs.LaysC.n172 Tryz.prog Tryz.laysC172_ren:={
 mixed:=by kernel_rfl
 f129:=fxT Tryz.func124
 f171:=fxT Tryz.func62
 f172:=fxT Tryz.func276
 f205:=fxT Tryz.func364
 f243:=fxT Tryz.func94
 f244:=fxT Tryz.func324
 f245:=fxT Tryz.func325
 f246:=fxT Tryz.func172
 f247:=fxT Tryz.func349
 f279:=fxT Tryz.func350
 f280:=fxT Tryz.func351
 f281:=fxT Tryz.func352
 f282:=fxT Tryz.func353
 f283:=fxT Tryz.func235
 f284:=fxT Tryz.func236
 f285:=fxT Tryz.func237
 f286:=fxT Tryz.func238
 f287:=fxT Tryz.func362
 f316:=fxT Tryz.func363
 f317:=fxT Tryz.func291
 f318:=fxT Tryz.func292
 f319:=fxT Tryz.func293
 f320:=fxT Tryz.func294
 f321:=fxT Tryz.func368
 f322:=fxT Tryz.func369
 f337:=fxT Tryz.func331
 f338:=fxT Tryz.func332
 t0:=Tryz.underlying0
 a0:=Tryz.isAgg0
 z0:=Tryz.sizeOf0
 v0:=Tryz.zeroValue0
 t2:=Tryz.underlying2
 a2:=Tryz.isAgg2
 z2:=Tryz.sizeOf2
 v2:=Tryz.zeroValue2
 t3:=Tryz.underlying3
 a3:=Tryz.isAgg3
 z3:=Tryz.sizeOf3
 v3:=Tryz.zeroValue3
 t4:=Tryz.underlying4
 a4:=Tryz.isAgg4
 z4:=Tryz.sizeOf4
 v4:=Tryz.zeroValue4
 t5:=Tryz.underlying5
 a5:=Tryz.isAgg5
 z5:=Tryz.sizeOf5
 v5:=Tryz.zeroValue5
 t9:=Tryz.underlying9
 a9:=Tryz.isAgg9
 z9:=Tryz.sizeOf9
 v9:=Tryz.zeroValue9
 t20:=Tryz.underlying20
 a20:=Tryz.isAgg20
 z20:=Tryz.sizeOf20
 v20:=Tryz.zeroValue20
 t21:=Tryz.underlying21
 a21:=Tryz.isAgg21
 z21:=Tryz.sizeOf21
 v21:=Tryz.zeroValue21
 t37:=Tryz.underlying192
 a37:=Tryz.isAgg192
 z37:=Tryz.sizeOf192
 v37:=Tryz.zeroValue192
 t46:=Tryz.underlying157
 a46:=Tryz.isAgg157
 z46:=Tryz.sizeOf157
 v46:=Tryz.zeroValue157
 t51:=Tryz.underlying220
 a51:=Tryz.isAgg220
 z51:=Tryz.sizeOf220
 v51:=Tryz.zeroValue220
 t53:=Tryz.underlying222
 a53:=Tryz.isAgg222
 z53:=Tryz.sizeOf222
 v53:=Tryz.zeroValue222
 t75:=Tryz.underlying197
 a75:=Tryz.isAgg197
 z75:=Tryz.sizeOf197
 v75:=Tryz.zeroValue197
 t76:=Tryz.underlying198
 a76:=Tryz.isAgg198
 z76:=Tryz.sizeOf198
 v76:=Tryz.zeroValue198
 t85:=Tryz.underlying390
 a85:=Tryz.isAgg390
 z85:=Tryz.sizeOf390
 v85:=Tryz.zeroValue390
 t127:=Tryz.underlying251
 a127:=Tryz.isAgg251
 z127:=Tryz.sizeOf251
 v127:=Tryz.zeroValue251
 t143:=Tryz.underlying410
 a143:=Tryz.isAgg410
 z143:=Tryz.sizeOf410
 v143:=Tryz.zeroValue410
 t145:=Tryz.underlying412
 a145:=Tryz.isAgg412
 z145:=Tryz.sizeOf412
 v145:=Tryz.zeroValue412
 t167:=Tryz.underlying389
 a167:=Tryz.isAgg389
 z167:=Tryz.sizeOf389
 v167:=Tryz.zeroValue389
 t168:=Tryz.underlying392
 a168:=Tryz.isAgg392
 z168:=Tryz.sizeOf392
 v168:=Tryz.zeroValue392
 t171:=Tryz.underlying301
 a171:=Tryz.isAgg301
 z171:=Tryz.sizeOf301
 v171:=Tryz.zeroValue301
 t173:=Tryz.underlying303
 a173:=Tryz.isAgg303
 z173:=Tryz.sizeOf303
 v173:=Tryz.zeroValue303
 t175:=Tryz.underlying401
 a175:=Tryz.isAgg401
 z175:=Tryz.sizeOf401
 v175:=Tryz.zeroValue401
 t210:=Tryz.underlying405
 a210:=Tryz.isAgg405
 z210:=Tryz.sizeOf405
 v210:=Tryz.zeroValue405
 t212:=Tryz.underlying360
 a212:=Tryz.isAgg360
 z212:=Tryz.sizeOf360
 v212:=Tryz.zeroValue360
 t213:=Tryz.underlying361
 a213:=Tryz.isAgg361
 z213:=Tryz.sizeOf361
 t232:=Tryz.underlying395
 a232:=Tryz.isAgg395
 z232:=Tryz.sizeOf395
 v232:=Tryz.zeroValue395
 t233:=Tryz.underlying396
 a233:=Tryz.isAgg396
 z233:=Tryz.sizeOf396
 v233:=Tryz.zeroValue396
 g15:=by kernel_rfl
 g16:=by kernel_rfl
 g17:=by kernel_rfl
 g18:=by kernel_rfl
 g19:=by kernel_rfl
 t80:=Tryz.underlying200
 a80:=Tryz.isAgg200
 z80:=Tryz.sizeOf200
 v80:=Tryz.zeroValue200
 i0:=by kernel_rfl
 i2:=by kernel_rfl
 i3:=by kernel_rfl
 i4:=by kernel_rfl
 i5:=by kernel_rfl
 i9:=by kernel_rfl
 i20:=by kernel_rfl
 i21:=by kernel_rfl
 i37:=by kernel_rfl
 i46:=by kernel_rfl
 i51:=by kernel_rfl
 i53:=by kernel_rfl
 i75:=by kernel_rfl
 i76:=by kernel_rfl
 i80:=by kernel_rfl
 i85:=by kernel_rfl
 i127:=by kernel_rfl
 i143:=by kernel_rfl
 i145:=by kernel_rfl
 i167:=by kernel_rfl
 i168:=by kernel_rfl
 i171:=by kernel_rfl
 i173:=by kernel_rfl
 i175:=by kernel_rfl
 i210:=by kernel_rfl
 i212:=by kernel_rfl
 i232:=by kernel_rfl
 i233:=by kernel_rfl
 m15:=by kernel_rfl
 m16:=by kernel_rfl
 m17:=by kernel_rfl
 m18:=by kernel_rfl
 m19:=by kernel_rfl
 c0:=by kernel_rfl
 c2:=by kernel_rfl
 c3:=by kernel_rfl
 c4:=by kernel_rfl
 c5:=by kernel_rfl
 c9:=by kernel_rfl
 c20:=by kernel_rfl
 c21:=by kernel_rfl
 c37:=by kernel_rfl
 c46:=by kernel_rfl
 c51:=by kernel_rfl
 c53:=by kernel_rfl
 c75:=by kernel_rfl
 c76:=by kernel_rfl
 c80:=by kernel_rfl
 c85:=by kernel_rfl
 c127:=by kernel_rfl
 c143:=by kernel_rfl
 c145:=by kernel_rfl
 c167:=by kernel_rfl
 c168:=by kernel_rfl
 c171:=by kernel_rfl
 c173:=by kernel_rfl
 c175:=by kernel_rfl
 c210:=by kernel_rfl
 c212:=by kernel_rfl
 c213:=by kernel_rfl
 c232:=by kernel_rfl
 c233:=by kernel_rfl }
open Go.RowKit in
theorem Tryz.strconv_Atoi_ok (s:ByteArray) (aS:s.size<=9223372036854775806) (v:Int) (h:Lib.atoiAll s.data.toList=.ok v) (w:World) :
 Calls Tryz.prog 276 #[.string s] w λe w'=>e=.returned (.tuple #[.int .i64 v,.nilIface])/\(w'=w\/∃ t,w'=Lib.bytesWorld w 5 t):=Any.strconv_Atoi_ok Tryz.laysC172 s aS v h w
open Go.RowKit in
theorem Tryz.strconv_Atoi_range (s:ByteArray) (qw:s.size<=281474976710656) (h:Lib.atoiAll s.data.toList=.range) (ev:Value) (w:World) (hv:w.cell? ⟨8,0,none⟩=some ev) (bF:ev=.nilIface\/∃ te pe,ev=.iface te pe) :
 Calls Tryz.prog 276 #[.string s] w λe w'=>∃ N,e=.returned (.tuple #[.int .i64 (Lib.atoiSat s.data.toList),.iface 392 (.pointer (some ⟨N,0,none⟩))])/\w.heap.size<=N/\w'.heap[N]?=some (.cells #[.string ⟨#[65,116,111,105]⟩,.string s,ev] 405 (0,0))/\Below w.heap.size w w':=Any.strconv_Atoi_range Tryz.laysC172 s qw h ev w hv bF
def Tryz.lays219_ren:Go.Shelf.Ren:=⟨fun|219=>330|217=>320|225=>323|224=>322|267=>355|266=>348|314=>365|n=>n,fun|9=>9|3=>3|4=>4|5=>5|46=>157|146=>247|51=>220|n=>n,fun|1=>2|n=>n⟩
def Tryz.lays144_ren:Go.Shelf.Ren:=⟨fun|144=>227|143=>281|219=>330|217=>320|225=>323|224=>322|267=>355|266=>348|314=>365|n=>n,fun|9=>9|4=>4|3=>3|5=>5|46=>157|146=>247|51=>220|n=>n,fun|1=>2|n=>n⟩
theorem Tryz.lays144:Go.Proofs.Lays.n144 Tryz.prog Tryz.lays144_ren:={
 mixed:=by kernel_rfl
 f143:=fxT Tryz.func281
 f144:=fxT Tryz.func227
 f217:=fxT Tryz.func320
 f219:=fxT Tryz.func330
 f224:=fxT Tryz.func322
 f225:=fxT Tryz.func323
 f266:=fxT Tryz.func348
 f267:=fxT Tryz.func355
 f314:=fxT Tryz.func365
 t3:=Tryz.underlying3
 a3:=Tryz.isAgg3
 z3:=Tryz.sizeOf3
 v3:=Tryz.zeroValue3
 t4:=Tryz.underlying4
 a4:=Tryz.isAgg4
 z4:=Tryz.sizeOf4
 v4:=Tryz.zeroValue4
 t5:=Tryz.underlying5
 a5:=Tryz.isAgg5
 z5:=Tryz.sizeOf5
 v5:=Tryz.zeroValue5
 t9:=Tryz.underlying9
 a9:=Tryz.isAgg9
 z9:=Tryz.sizeOf9
 v9:=Tryz.zeroValue9
 t46:=Tryz.underlying157
 a46:=Tryz.isAgg157
 z46:=Tryz.sizeOf157
 v46:=Tryz.zeroValue157
 t51:=Tryz.underlying220
 a51:=Tryz.isAgg220
 z51:=Tryz.sizeOf220
 v51:=Tryz.zeroValue220
 t146:=Tryz.underlying247
 a146:=Tryz.isAgg247
 z146:=Tryz.sizeOf247
 v146:=Tryz.zeroValue247
 g1:=by kernel_rfl }
open Go.RowKit Go.Lib in
theorem Tryz.strings_Contains (s sub:ByteArray) (m:Int) (w:World) (hs:s.size<4294967281) (hm:w.cell? ⟨2,0,none⟩=some (.int .i64 m)) :
 Calls Tryz.prog 227 #[.string s,.string sub] w λe w'=>e=.returned (.bool (Lib.contains s.data.toList sub.data.toList))/\w'=w:=Any.strings_Contains Tryz.lays144 s sub m w hs hm
def Tryz.laysM144_ren:Go.Shelf.Ren:=⟨fun|144=>227|143=>281|219=>330|217=>320|225=>323|224=>322|267=>355|266=>348|314=>365|n=>n,fun|9=>9|4=>4|3=>3|5=>5|46=>157|146=>247|51=>220|n=>n,fun|1=>2|n=>n⟩
theorem Tryz.laysM144:Go.Proofs.LaysM.n144 Tryz.prog Tryz.laysM144_ren:={
 mixed:=by kernel_rfl
 f143:=fxT Tryz.func281
 f144:=fxT Tryz.func227
 f217:=fxT Tryz.func320
 f219:=fxT Tryz.func330
 f224:=fxT Tryz.func322
 f225:=fxT Tryz.func323
 f266:=fxT Tryz.func348
 f267:=fxT Tryz.func355
 f314:=fxT Tryz.func365
 t3:=Tryz.underlying3
 a3:=Tryz.isAgg3
 z3:=Tryz.sizeOf3
 v3:=Tryz.zeroValue3
 t4:=Tryz.underlying4
 a4:=Tryz.isAgg4
 z4:=Tryz.sizeOf4
 v4:=Tryz.zeroValue4
 t5:=Tryz.underlying5
 a5:=Tryz.isAgg5
 z5:=Tryz.sizeOf5
 v5:=Tryz.zeroValue5
 t9:=Tryz.underlying9
 a9:=Tryz.isAgg9
 z9:=Tryz.sizeOf9
 v9:=Tryz.zeroValue9
 t46:=Tryz.underlying157
 a46:=Tryz.isAgg157
 z46:=Tryz.sizeOf157
 v46:=Tryz.zeroValue157
 t51:=Tryz.underlying220
 a51:=Tryz.isAgg220
 z51:=Tryz.sizeOf220
 v51:=Tryz.zeroValue220
 t146:=Tryz.underlying247
 a146:=Tryz.isAgg247
 z146:=Tryz.sizeOf247
 v146:=Tryz.zeroValue247
 g1:=by kernel_rfl
 i3:=by kernel_rfl
 i4:=by kernel_rfl
 i5:=by kernel_rfl
 i9:=by kernel_rfl
 i46:=by kernel_rfl
 i51:=by kernel_rfl
 i146:=by kernel_rfl
 m1:=by kernel_rfl
 s1_3:=λw h=>Go.Proofs.cell_of_shapedOpen_int (zero:=#[.int .i64 0]) (t:=3) h (of_decide_eq_true (by kernel_rfl)) (by kernel_rfl) rfl (by kernel_rfl) (by kernel_rfl) Tryz.underlying3 }
def Tryz.lays189_ren:Go.Shelf.Ren:=⟨fun|189=>259|125=>73|257=>313|128=>123|129=>124|294=>337|295=>338|296=>339|297=>340|298=>341|299=>342|216=>343|300=>344|301=>345|328=>357|329=>197|330=>198|331=>358|332=>359|215=>125|343=>366|n=>n,fun|28=>23|3=>3|46=>157|0=>0|51=>220|53=>222|4=>4|183=>214|182=>213|131=>57|5=>5|9=>9|218=>271|222=>275|228=>327|229=>283|n=>n,fun|n=>n⟩
theorem Tryz.lays189:Go.Proofs.Lays.n189 Tryz.prog Tryz.lays189_ren:={
 mixed:=by kernel_rfl
 f125:=fxT Tryz.func73
 f128:=fxT Tryz.func123
 f129:=fxT Tryz.func124
 f189:=fxT Tryz.func259
 f215:=fxT Tryz.func125
 f216:=fxT Tryz.func343
 f257:=fxT Tryz.func313
 f294:=fxT Tryz.func337
 f295:=fxT Tryz.func338
 f296:=fxT Tryz.func339
 f297:=fxT Tryz.func340
 f298:=fxT Tryz.func341
 f299:=fxT Tryz.func342
 f300:=fxT Tryz.func344
 f301:=fxT Tryz.func345
 f328:=fxT Tryz.func357
 f329:=fxT Tryz.func197
 f330:=fxT Tryz.func198
 f331:=fxT Tryz.func358
 f332:=fxT Tryz.func359
 f343:=fxT Tryz.func366
 t0:=Tryz.underlying0
 a0:=Tryz.isAgg0
 z0:=Tryz.sizeOf0
 v0:=Tryz.zeroValue0
 t3:=Tryz.underlying3
 a3:=Tryz.isAgg3
 z3:=Tryz.sizeOf3
 v3:=Tryz.zeroValue3
 t4:=Tryz.underlying4
 a4:=Tryz.isAgg4
 z4:=Tryz.sizeOf4
 v4:=Tryz.zeroValue4
 t5:=Tryz.underlying5
 a5:=Tryz.isAgg5
 z5:=Tryz.sizeOf5
 v5:=Tryz.zeroValue5
 t9:=Tryz.underlying9
 a9:=Tryz.isAgg9
 z9:=Tryz.sizeOf9
 v9:=Tryz.zeroValue9
 t28:=Tryz.underlying23
 a28:=Tryz.isAgg23
 z28:=Tryz.sizeOf23
 v28:=Tryz.zeroValue23
 t46:=Tryz.underlying157
 a46:=Tryz.isAgg157
 z46:=Tryz.sizeOf157
 v46:=Tryz.zeroValue157
 t51:=Tryz.underlying220
 a51:=Tryz.isAgg220
 z51:=Tryz.sizeOf220
 v51:=Tryz.zeroValue220
 t53:=Tryz.underlying222
 a53:=Tryz.isAgg222
 z53:=Tryz.sizeOf222
 v53:=Tryz.zeroValue222
 t131:=Tryz.underlying57
 a131:=Tryz.isAgg57
 z131:=Tryz.sizeOf57
 v131:=Tryz.zeroValue57
 t182:=Tryz.underlying213
 a182:=Tryz.isAgg213
 z182:=Tryz.sizeOf213
 v182:=Tryz.zeroValue213
 t183:=Tryz.underlying214
 a183:=Tryz.isAgg214
 z183:=Tryz.sizeOf214
 v183:=Tryz.zeroValue214
 t218:=Tryz.underlying271
 a218:=Tryz.isAgg271
 z218:=Tryz.sizeOf271
 v218:=Tryz.zeroValue271
 t222:=Tryz.underlying275
 a222:=Tryz.isAgg275
 z222:=Tryz.sizeOf275
 v222:=Tryz.zeroValue275
 t228:=Tryz.underlying327
 a228:=Tryz.isAgg327
 z228:=Tryz.sizeOf327
 v228:=Tryz.zeroValue327
 t229:=Tryz.underlying283
 a229:=Tryz.isAgg283
 z229:=Tryz.sizeOf283
 v229:=Tryz.zeroValue283 }
open Go.Sort Go.RowKit in
theorem Tryz.slices_Sort_int (blk off cap:Nat) (zs:List Int) (w:World) (hH:Holds (Value.int .i64) w blk off zs.toArray) (ac:blk<w.heap.size) (bG:zs.length<4611686018427387904) :
 Calls Tryz.prog 259 #[.slice (some ⟨blk,off,none⟩) zs.length cap] w λe w'=>
  e=.returned (.tuple #[])/\∃ n os,w'=grow (putRow (Value.int .i64) (Sort.ahead w n) blk off (zs.mergeSort λx y=>decide (x<=y)).toArray) os:=Any.slices_Sort_int Tryz.lays189 blk off cap zs w hH ac bG
def Tryz.lays206_ren:Go.Shelf.Ren:=⟨fun|206=>175|n=>n,fun|9=>9|4=>4|3=>3|n=>n,fun|n=>n⟩
def Tryz.lays99_ren:Go.Shelf.Ren:=⟨fun|99=>96|206=>175|n=>n,fun|9=>9|4=>4|3=>3|n=>n,fun|n=>n⟩
theorem Tryz.lays99:Go.Proofs.Lays.n99 Tryz.prog Tryz.lays99_ren:={
 mixed:=by kernel_rfl
 f99:=fxT Tryz.func96
 f206:=fxT Tryz.func175
 t3:=Tryz.underlying3
 a3:=Tryz.isAgg3
 z3:=Tryz.sizeOf3
 v3:=Tryz.zeroValue3
 t4:=Tryz.underlying4
 a4:=Tryz.isAgg4
 z4:=Tryz.sizeOf4
 v4:=Tryz.zeroValue4
 t9:=Tryz.underlying9
 a9:=Tryz.isAgg9
 z9:=Tryz.sizeOf9
 v9:=Tryz.zeroValue9 }
open Go.RowKit Go.Lib in
theorem Tryz.strings_HasPrefix (s p:ByteArray) (w:World) :
 Calls Tryz.prog 96 #[.string s,.string p] w λe w'=>e=.returned (.bool (Lib.hasPrefix s.data.toList p.data.toList))/\w'=w:=Any.strings_HasPrefix Tryz.lays99 s p w
def Tryz.lays151_ren:Go.Shelf.Ren:=⟨fun|151=>216|152=>274|137=>273|119=>321|224=>322|225=>323|217=>320|266=>348|n=>n,fun|9=>9|21=>21|4=>4|3=>3|5=>5|0=>0|46=>157|n=>n,fun|n=>n⟩
theorem Tryz.lays151:Go.Proofs.Lays.n151 Tryz.prog Tryz.lays151_ren:={
 mixed:=by kernel_rfl
 f119:=fxT Tryz.func321
 f137:=fxT Tryz.func273
 f151:=fxT Tryz.func216
 f152:=fxT Tryz.func274
 f217:=fxT Tryz.func320
 f224:=fxT Tryz.func322
 f225:=fxT Tryz.func323
 f266:=fxT Tryz.func348
 t0:=Tryz.underlying0
 a0:=Tryz.isAgg0
 z0:=Tryz.sizeOf0
 v0:=Tryz.zeroValue0
 t3:=Tryz.underlying3
 a3:=Tryz.isAgg3
 z3:=Tryz.sizeOf3
 v3:=Tryz.zeroValue3
 t4:=Tryz.underlying4
 a4:=Tryz.isAgg4
 z4:=Tryz.sizeOf4
 v4:=Tryz.zeroValue4
 t5:=Tryz.underlying5
 a5:=Tryz.isAgg5
 z5:=Tryz.sizeOf5
 v5:=Tryz.zeroValue5
 t9:=Tryz.underlying9
 a9:=Tryz.isAgg9
 z9:=Tryz.sizeOf9
 v9:=Tryz.zeroValue9
 t21:=Tryz.underlying21
 a21:=Tryz.isAgg21
 z21:=Tryz.sizeOf21
 v21:=Tryz.zeroValue21
 t46:=Tryz.underlying157
 a46:=Tryz.isAgg157
 z46:=Tryz.sizeOf157
 v46:=Tryz.zeroValue157 }
open Go.RowKit Go.Lib in
theorem Tryz.strings_ContainsRune_ascii (s:ByteArray) (r:Int) (w:World) (h0:0<=r) (h1:r<128) :
 Calls Tryz.prog 216 #[.string s,.int .i32 r] w λe w'=>e=.returned (.bool (decide (0<=Lib.indexByte s.data.toList r.toNat.toUInt8)))/\w'=w:=Any.strings_ContainsRune_ascii Tryz.lays151 s r w h0 h1
def Tryz.laysNm220_ren:Go.Shelf.Ren:=⟨fun|20=>260|n=>n,fun|22=>23|3=>3|4=>4|0=>0|n=>n,fun|n=>n⟩
theorem Tryz.laysNm220:Go.Proofs.Lays2.n20 Tryz.prog Tryz.laysNm220_ren:={
 mixed:=by kernel_rfl
 f20:=fxT Tryz.func260
 t0:=Tryz.underlying0
 a0:=Tryz.isAgg0
 z0:=Tryz.sizeOf0
 v0:=Tryz.zeroValue0
 t3:=Tryz.underlying3
 a3:=Tryz.isAgg3
 z3:=Tryz.sizeOf3
 v3:=Tryz.zeroValue3
 t4:=Tryz.underlying4
 a4:=Tryz.isAgg4
 z4:=Tryz.sizeOf4
 v4:=Tryz.zeroValue4
 t22:=Tryz.underlying23
 a22:=Tryz.isAgg23
 z22:=Tryz.sizeOf23
 v22:=Tryz.zeroValue23
 i3:=by kernel_rfl }
open Go.RowKit Go.Lib Go.Sort in
theorem Tryz.slices_Compact_int (blk off cap:Nat) (zs:List Int) (w:World) (hH:Holds (Value.int .i64) w blk off zs.toArray) (bG:zs.length<=9223372036854775807) (qx:zs.length<=cap) :
 Calls Tryz.prog 260 #[.slice (some ⟨blk,off,none⟩) zs.length cap] w λe w'=>e=.returned (.slice (some ⟨blk,off,none⟩) (Lib.compact zs).length cap)/\∃ q,w'=putRow (Value.int .i64) (Sort.ahead w q) blk off (Lib.compact zs++List.replicate (zs.length - (Lib.compact zs).length) 0).toArray:=Any.slices_Compact_int Tryz.laysNm220 blk off cap zs w hH bG qx
open Go.RowKit Go.Lib Go.Sort in
theorem Tryz.slices_Compact_int_empty (a:Option Addr) (cap:Nat) (w:World) :
 Calls Tryz.prog 260 #[.slice a 0 cap] w λe w'=>e=.returned (.slice a 0 cap)/\w'=w:=Any.slices_Compact_int_empty Tryz.laysNm220 a cap w
open Go.RowKit Go.Sort in
theorem Tryz.slices_Sort_int_none (p:Option Addr) (cap:Nat) (w:World) :
 Calls Tryz.prog 259 #[.slice p 0 cap] w λe w'=>e=.returned (.tuple #[])/\w'=w:=Any.slices_Sort_int_none Tryz.lays189 p cap w
end Go.Proofs
namespace Go.Eng
open Go Go.RowKit Go.Proofs
structure Fl where
 i:Nat
 d:Nat
 T:Nat
 z:Value
section
variable {P:Program} {n:Nat} {Q:Exit->Act->World->Prop} {e:Env} {w:World}
theorem Z8f {c:Code} (h:WC P n c (Exit.noGoto Q) e w):WC P n (.scope c) Q e w:=⟨λa ha=>wp_scope_straight (h.h a ha)⟩
theorem Zjx {l:Nat} (h:WQ n Q .normal e w):WC P n (.label l) Q e w:=⟨λa ha=>wp_label (h.h a ha)⟩
theorem JW (h:WQ n Q .ret e w):WQ n (Exit.noGoto Q) .ret e w:=⟨λa ha=>h.h a ha⟩
theorem Z05 {i:Nat} (h:WQ n Q (.exit i) e w):WQ n (Exit.noGoto Q) (.exit i) e w:=⟨λa ha=>h.h a ha⟩
end
def Z0c:Str:=[9,10,13,32]
theorem Z8g (c:UInt8):Z6q c=decide (c∈Z0c):=by
 unfold Z6q Z0c;rw [X7];simp [or_assoc]
theorem Z8h (l:Str) (c:UInt8):decide (0<=Lib.indexByte l c)=decide (c∈l):=by
 rw [decide_eq_decide]
 induction l with
 | nil=>simp [Lib.indexByte]
 | cons a r ih=>
   unfold Lib.indexByte;by_cases h:a=c;subst h;simp;have hb:(a == c)=false:=by simpa using h
   rw [hb];simp only [XS,if_false,Xb];have ke:=Lib.indexByte_ge r c;have h':¬ c=a:=λe=>h e.symm;split;rename_i h1;have:Lib.indexByte r c=-1:=by simpa using h1
   rw [<- ih];simp [h'];omega;rename_i h1;have h2:¬ Lib.indexByte r c=-1:=by simpa using h1
   have:0<=Lib.indexByte r c:=by omega
   simp [h',ih.1 this];omega
theorem Zwv (s:Str) (a b:UInt8):Lib.hasPrefix s [a,b]=decide (s.take 2=[a,b]):=by
 unfold Lib.hasPrefix
 match s with
 | []=>rfl
 | [x]=>simp [List.isPrefixOf]
 | x :: y :: r=>
   rw [X7];simp only [List.isPrefixOf,Ybk,Xm,beq_iff_eq,decide_eq_true_eq,Ya2,YbM,Ybn,and_true];constructor;rintro ⟨rfl,rfl⟩;exact ⟨rfl,rfl⟩;rintro ⟨rfl,rfl⟩;exact ⟨rfl,rfl⟩
theorem Zc3 {s:Str} (aU:s≠[]) (h:s.all J9=true):Lib.atoiAll s=if Z1G s<=9223372036854775807 then .ok (Z1G s:Int) else .range:=by
 have key:∀ (s:Str) (acc N:Nat),acc<18446744073709551616->s.all J9=true->s.foldl (λn c=>10 * n+(c.toNat - 48)) acc=N->Lib.parseUint10 acc s=if N<18446744073709551616 then .ok N else .range:=by
  intro s
  induction s with
  | nil=>
    intro acc N ha _ hN;have:acc=N:=hN;subst this;rw [if_pos ha];rfl
  | cons c r ih=>
    intro acc N ha h hN;simp only [Ya6,Xm] at h;have hc:48<=c.toNat/\c.toNat<=57:=by simpa [J9] using h.1
    have m6:∀ (r:Str) (a:Nat),a<=r.foldl (λn c=>10 * n+(c.toNat - 48)) a:=by
     intro r
     induction r with
     | nil=>intro a;exact Xn _
     | cons x q ihq=>intro a;have:=ihq (10 * a+(x.toNat - 48));simp only [X2];omega
    have h1:=m6 r (10 * acc+(c.toNat - 48));have tq:r.foldl (λn c=>10 * n+(c.toNat - 48)) (10 * acc+(c.toNat - 48))=N:=hN;rw [tq] at h1;simp only [Lib.parseUint10];rw [if_pos hc];split;rw [if_neg (by omega)];split;rw [if_neg (by omega)];rw [show acc * 10+(c.toNat - 48)=10 * acc+(c.toNat - 48) by omega];exact ih _ _ (by omega) h.2 tq
 obtain ⟨c,r,rfl⟩:∃ c r,s=c :: r:=by cases s with|nil=>exact absurd rfl aU|cons c r=>exact ⟨c,r,rfl⟩
 have hk:=key (c :: r) 0 (Z1G (c :: r)) (by omega) h rfl;have cX:48<=c.toNat/\c.toNat<=57:=by
  simp only [Ya6,Xm] at h;simpa [J9] using h.1
 unfold Lib.atoiAll;simp only;rw [if_neg (by omega)];unfold Lib.parseMag;rw [if_neg (by simp),hk];by_cases h1:Z1G (c :: r)<18446744073709551616;rw [if_pos h1];simp only;by_cases h2:Z1G (c :: r)<=9223372036854775807;rw [if_pos h2,if_neg (by omega),if_neg (by omega),if_neg (by omega)];rw [if_neg h2,if_pos (by omega)];rw [if_neg h1,if_neg (by omega)]
end Go.Eng
namespace Go.Proofs.YtipfkbkkndacjaaGreatDoor
open Go Go.Eng Go.RowKit Go.Proofs
theorem Zc4 (c:UInt8):((c.toNat:Int)).toNat.toUInt8=c:=by
 rw [Ybx];exact UInt8.ofNat_toNat
theorem Z73 (s:Str) (c:UInt8) (w):CC 273 #[str s,.int .u8 (c.toNat:Int)] w λr w'=>r=.I (Lib.indexByte s c)/\w'=w:=by
 refine (Tryz.strings_IndexByte ⟨s.toArray⟩ (c.toNat:Int) w).mono ?_;rintro e w' ⟨rfl,rfl⟩;refine .mk ⟨?_,rfl⟩;rw [Zc4]
theorem Z2C (s:Str) (a b:UInt8) (w):CC 96 #[str s,str [a,b]] w λr w'=>r=.B (decide (s.take 2=[a,b]))/\w'=w:=by
 refine (Tryz.strings_HasPrefix ⟨s.toArray⟩ ⟨([a,b]:Str).toArray⟩ w).mono ?_;rintro e w' ⟨rfl,rfl⟩;refine .mk ⟨?_,rfl⟩;rw [<- Zwv]
theorem Zc5 {P:Program} {n:Nat} {Q:Exit->Act->World->Prop} {e:Env} {w} {ops:Array Oper} {rest:List Oper} {am:Nat} {ty:TypeId} {pos:String} {af:Array Edge} {src dst:TypeId} {x:Operand} {k:IntKind} {z:Int} {D:TypeDesc} [hs:Und P src D] [hd:Und P dst .string]
 (hx:ev e x=some (.int k z)) (aw:Nat.blt am n=true) (kk:WL P n ops Q rest ((am,str (Utf8.encode z).data.toList) :: e) w):WL P n ops Q (⟨some am,.convert src dst x,ty,pos,af,none⟩ :: rest) e w:=by
 refine Z8 (v:=str (Utf8.encode z).data.toList) ⟨λa ha=>?_⟩ aw kk;have:=run_convert_int_string (P:=P) w src dst k z (by rw [hs.h];rfl) hd.h;simp [execOp,ha.ev hx,this]
theorem Zxx (c:Nat) (h1:128<=c) (h2:c<256):(Utf8.encode (c:Int)).data.toList=[UInt8.ofNat (192+c / 64),UInt8.ofNat (128+c % 64)]:=by
 have hv:Utf8.valid (c:Int)=true:=by
  unfold Utf8.valid;simp only [Yax,Xm,decide_eq_true_eq];omega
 unfold Utf8.encode;simp only [hv,if_true,Ybx];rw [if_neg (by omega),if_pos (by omega)]
theorem Zow:∀ c∈Z0c,c.toNat<128:=by decide
theorem ZaH (c:Nat) (w) (h1:128<=c) (h2:c<256):CC 274 #[str Z0c,.int .i32 (c:Int)] w λr w'=>r=.I (-1)/\Stp [] w w':=by
 have he:=Zxx c h1 h2;have hb:128<=(UInt8.ofNat (128+c % 64)).toNat:=by simp;omega
 generalize UInt8.ofNat (192+c / 64)=b0 at he;generalize UInt8.ofNat (128+c % 64)=b1 at he hb;have oP:Lib.validRune (c:Int)=true:=decide_eq_true (by omega);refine cW2 187 Tryz.func274 ?_;refine QO ?_;refine Z0 (Z4 rfl (ZR rfl) ((Tryz.utf8_ValidRune (c:Int) _).mono (λe w' h=>(show Ret (λr w'=>r=.B true/\w'=_) e w' from by
  obtain ⟨rfl,rfl⟩:=h;exact .mk ⟨by rw [oP],rfl⟩)))) rfl ?_
 rintro _ wv ⟨rfl,js⟩;subst wv;refine W ?_;refine Z8f ?_;refine W ?_;refine Zc5 rfl rfl ?_;rw [he];have dV:([b0,b1]:Str).length=2:=rfl;have oQ:Z0c.length=4:=rfl;refine W ?_;refine Zu (σ:=Unit) (λ_=>[(0,str Z0c),(7,str [b0,b1]),(8,.I ((([b0,b1]:Str).length:Int) - 1)),(9,.I ((([b0,b1]:Str).length:Int) - 1))]) (λ_ w'=>Stp [] w w') (λ_=>0) () ⟨rfl,rfl,rfl,rfl,trivial⟩ (Stp.refl _ _) ?_;rintro _ w1 hS;refine QO ?_;refine Z8f ?_;refine QO ?_;refine ZDr 7 [] [] [(0,0),(1,0),(2,0),(3,0),(4,0),(5,0),(6,0)] (λw1 ae=>?_);replace hS:=hS.trans ae;clear ae;refine D ?_;have hx:¬ Jg Z0c (([b0,b1]:Str).length - Nat.succ 0)=Jg [b0,b1] (([b0,b1]:Str).length - Nat.succ 0):=by
  show ¬ (10:Int)=(b1.toNat:Int)
  omega
 (refine QP ?_ ?_<;>intro hc)
 rotate_left
 exact absurd hx (by assumption);have fJ:Jg [b0,b1] (([b0,b1]:Str).length - Nat.succ 0)=(b1.toNat:Int):=rfl;have fK:b1∉(Z0c.drop 2):=λh=>by
  have:=Zow b1 (YaJ h);omega
 have kW:Lib.indexByte (Z0c.drop 2) b1<0:=by
  have:=Z8h (Z0c.drop 2) b1;rw [decide_eq_decide] at this;have h0:¬ 0<=Lib.indexByte (Z0c.drop 2) b1:=λh=>fK (this.1 h);omega
 refine ZDr 9 [] [] [(0,0),(1,0),(2,0),(3,0),(4,0),(5,0),(6,0),(7,2),(8,0)] (λw1 ae=>?_);replace hS:=hS.trans ae;clear ae;refine D ?_;refine ZbC (l:=2) rfl trivial rfl rfl (by omega) (by omega) rfl ?_;refine D ?_;rw [fJ];refine DC (Z73 (Z0c.drop 2) b1 _) (λ_ _ h=>by rw [h.2];exact Stp.refl _ _) ?_;rintro _ w5 ⟨rfl,s9⟩;subst w5;refine D ?_;refine QO ?_
 repeat (first|refine JW ?_|refine W1 ?_)
 refine RU ?_;exact ⟨rfl,hS⟩
theorem ZaI (c:UInt8) (w):CC 216 #[str Z0c,.int .i32 (c.toNat:Int)] w λr w'=>r=.B (Z6q c)/\Stp [] w w':=by
 by_cases h:c.toNat<128;refine (Tryz.strings_ContainsRune_ascii ⟨Z0c.toArray⟩ (c.toNat:Int) w (by omega) (by omega)).mono ?_;rintro e w' ⟨rfl,rfl⟩;refine .mk ⟨?_,Stp.refl _ _⟩;rw [Zc4,Z8g];exact congrArg Value.bool (Z8h Z0c c);have hc:=c.toNat_lt;have bt:Z6q c=false:=by
  rw [Z8g,decide_eq_false_iff_not];intro hm;exact h (Zow c hm)
 refine cW2 9 Tryz.func216 ?_;refine W ?_;refine CM (Zd rfl rfl) (ZaH c.toNat _ (by omega) (by omega)) ?_;rintro _ w1 ⟨rfl,hS⟩;refine RT ?_;exact ⟨by rw [bt];rfl,hS⟩
def Z7q:Str:=[32,114,117,108,101,32,102,114,111,109,32,111,110,32,105,102,32,100,117,101,32,117,110,108,101,115,115,32,101,108,115,101,32,111,114,32,97,110,100,32,110,111,116,32,116,114,117,101,32,102,97,108,115,101,32,116,104,101,110,32,101,110,100,32,100,97,121,115,32,119,101,101,107,115,32,109,111,110,116,104,115,32,99,111,117,114,116,100,97,121,115,32,110,101,120,116,32,112,114,101,118,32,108,97,116,101,114,32,101,97,114,108,105,101,114,32,98,101,116,119,101,101,110,32]
def ZaJ:List Str:=[[114,117,108,101],[102,114,111,109],[111,110],[105,102],[100,117,101],[117,110,108,101,115,115],[101,108,115,101],[111,114],[97,110,100],[110,111,116],[116,114,117,101],[102,97,108,115,101],[116,104,101,110],[101,110,100],[100,97,121,115],[119,101,101,107,115],[109,111,110,116,104,115],[99,111,117,114,116,100,97,121,115],[110,101,120,116],[112,114,101,118],[108,97,116,101,114],[101,97,114,108,105,101,114],[98,101,116,119,101,101,110]]
theorem Z6v:∀ (s sub:List UInt8),0<=Lib.index s sub↔∃ i,i<=s.length/\sub.isPrefixOf (s.drop i)=true
 | [], sub => by
   unfold Lib.index;cases sub with
   | nil=>simp
   | cons a l=>simp
 | b :: l, sub => by
   have ih:=Z6v l sub;have ke:=Lib.index_ge l sub;unfold Lib.index;by_cases hp:sub.isPrefixOf (b :: l)=true;rw [if_pos hp];exact ⟨λ_=>⟨0,by omega,hp⟩,λ_=>by omega⟩;rw [if_neg hp];have e:(0:Int)<=(if (Lib.index l sub == -1)=true then -1 else Lib.index l sub+1)↔0<=Lib.index l sub:=by
    by_cases h1:Lib.index l sub=-1;rw [if_pos (by simpa using h1)];omega;rw [if_neg (by simpa using h1)];omega
   rw [e,ih];constructor;rintro ⟨i,hi,h⟩;exact ⟨i+1,by simpa using hi,h⟩
   . rintro ⟨i,hi,h⟩
     cases i with
     | zero=>exact absurd h hp
     | succ i=>exact ⟨i,by simpa using hi,h⟩
theorem Z6w:∀ (t r:List UInt8),(∀ c∈t,c≠32)->(t++[32]).isPrefixOf r=true->r.takeWhile (λc=>decide (c≠32))=t
 | [], r, _, h => by
   cases r with
   | nil=>simp at h
   | cons a l=>
     simp [List.isPrefixOf] at h;subst h;rfl
 | c :: t, r, hc, h => by
   cases r with
   | nil=>simp at h
   | cons a l=>
     simp only [XV,List.isPrefixOf,Xm,beq_iff_eq] at h;obtain ⟨rfl,h⟩:=h;have h1:=hc c (by simp);rw [List.takeWhile_cons_of_pos (by simpa using h1),Z6w t l (λx hx=>hc x (by simp [hx])) h]
theorem Zg6:∀ i∈List.range (Z7q.length+1),(Z7q.drop i).head?=some 32->(Z7q.drop (i+1)).takeWhile (λc=>decide (c≠32))∈ZaJ\/(Z7q.drop (i+1)).takeWhile (λc=>decide (c≠32))=[]:=by decide +kernel
theorem Zn3:∀ t∈ZaJ,Lib.contains Z7q (32 :: t++[32])=true:=by decide +kernel
theorem Zn4 {t:Str} (h0:t≠[]) (hc:∀ c∈t,c≠32):Lib.contains Z7q (32 :: t++[32])=decide (t∈ZaJ):=by
 by_cases ht:t∈ZaJ;rw [Zn3 t ht,decide_eq_true ht]
 . rw [decide_eq_false ht]
   unfold Lib.contains;rw [decide_eq_false_iff_not,Z6v];rintro ⟨i,hi,h⟩;cases hd:Z7q.drop i with
   | nil=>rw [hd] at h;simp at h
   | cons a l=>
     rw [hd] at h;simp only [XV,List.isPrefixOf,Xm,beq_iff_eq] at h;obtain ⟨rfl,h⟩:=h;have hl:Z7q.drop (i+1)=l:=by
      have:=congrArg List.tail hd;simpa [List.tail_drop] using this
     have hw:=Z6w t l hc h;have:=Zg6 i (Ybv.2 (by omega)) (by rw [hd];rfl);rw [hl,hw] at this;exact this.elim ht h0
abbrev Zjy (c:Int):Prop:=(97<=c/\c<=122)\/(48<=c/\c<=57)
def Z3U (s:Str):Bool:=decide (0<s.length/\s.length<=12/\97<=Jg s 0/\Jg s 0<=122/\∀ i,i<s.length->Zjy (Jg s i))
def ZE (s:Str):Bool:=Z3U s && decide (s∉ZaJ/\s∉Ze)
theorem Z5I (a b:Str) (m:Int) (w:World) (ha:a.length<4294967281) (hm:w.cell? ⟨2,0,none⟩=some (.I m)) :
 CC 227 #[str a,str b] w λr w'=>r=.B (Lib.contains a b)/\Stp [] w w':=by
 refine (Tryz.strings_Contains ⟨a.toArray⟩ ⟨b.toArray⟩ m w (by rw [Z0o];exact ha) hm).mono ?_;rintro e w' ⟨rfl,rfl⟩;exact .mk ⟨rfl,Stp.refl _ _⟩
theorem Zc6 {l:List Str} {s:Str}:0<=idx (isS s) l↔s∈l:=by
 unfold idx;cases h:l.findIdx? (isS s) with
 | none=>
   rw [Yad] at h;simp only;constructor;intro h1;omega;intro h1;have:=h s h1;simp [isS] at this
 | some i=>
   obtain ⟨hi,hp,_⟩:=X9.1 h;simp only;constructor;intro _;have:l[i]=s:=by simpa [isS] using hp
   rw [<- this];exact Xd hi;intro _;omega
theorem Z97 (X:List Nat) (v:Value) (l:List Str) (a:Str) (w) (hs:SlV X w v l) :
 CC 228 #[v,str a] w λr w'=>r=.B (decide (a∈l))/\Stp [] w w':=by
 refine cW2 9 Tryz.func228 ?_;refine W ?_;refine CL (Z9n X v l a _ hs) ?_;rintro _ w1 ⟨rfl,hS⟩;refine RT ?_;exact ⟨by congr 1;exact decide_eq_decide.2 Zc6,hS⟩
theorem Z2L (s:Str) (m:Int) (w) (hF:SlV [] w Z2e Ze) (hm:w.cell? ⟨2,0,none⟩=some (.I m)) :
 CC 167 #[str s] w λr w'=>r=.B (ZE s)/\Stp [] w w':=by
 refine cW1 55 Tryz.func167 ?_;refine W ?_;by_cases h0:s.length≠0/\s.length<=12/\97<=Jg s 0/\Jg s 0<=122
 case neg=>
  have hn:ZE s=false:=by
   unfold ZE Z3U;rw [decide_eq_false (λh=>h0 ⟨by omega,h.2.1,h.2.2.1,h.2.2.2.1⟩)];rfl
  by_cases hl:s.length≠0;focus repeat'(first|refine W1 ?_|omega|refine VG ?_ ?_<;>intro hg|refine VC ?_ ?_<;>intro hc)
  refine RU ?_;exact ⟨by rw [hn],Stp.refl _ _⟩;refine RU ?_;exact ⟨by rw [hn],Stp.refl _ _⟩;refine Jb (i:=0) rfl rfl rfl (by omega) rfl ?_
  (refine QP ?_ ?_<;>intro hg)
  refine RU ?_;exact ⟨by rw [hn],Stp.refl _ _⟩;refine Jb (i:=0) rfl rfl rfl (by omega) rfl ?_;refine RT ?_;exact ⟨by rw [hn],Stp.refl _ _⟩;obtain rfl:s=[]:=Xw.1 (by omega);refine RT ?_;exact ⟨by rw [hn],Stp.refl _ _⟩
 obtain ⟨h1,h2,h3,h4⟩:=h0;have aU:¬ s=[]:=λh=>by rw [h] at h1;exact h1 rfl
 (refine QP ?_ ?_<;>intro hg)
 exact absurd (by assumption) aU;refine Jb (i:=0) rfl rfl rfl (by omega) rfl ?_;refine QO ?_;refine Jb (i:=0) rfl rfl rfl (by omega) rfl ?_;refine QO ?_;refine Z0 (Zc1 rfl (by omega)) rfl ?_;rintro bv w1 ⟨hb,hS⟩;replace hb:=hb [] (by simp);have kl:=hb.max;refine QO ?_;refine LP (σ:=Nat) (λi=>[(0,str s),(23,bv),(24,.I (s.length:Int)),(25,.I (i:Int))]) (λi w'=>i<=s.length/\Stp [] w1 w'/\∀ j,j<i->Zjy (Jg s j)) (λi=>s.length - i) 0 ⟨Xq _,Stp.refl _ _,λj hj=>absurd hj (Xs _)⟩ ?_;rintro i w2 ⟨hi,ah,aB⟩
 try dsimp only at hi aB ⊢
 replace hb:=hb.up ah;replace hS:=hS.trans ah;by_cases hlt:i<s.length;have oR:Jg s i=(s[i].toNat:Int):=Go.Eng.byte_at hlt;by_cases cT:(97<=(s[i].toNat:Int)/\(s[i].toNat:Int)<=122)\/(48<=(s[i].toNat:Int)/\(s[i].toNat:Int)<=57)
 . have iF:∀ j,j<i+1->Zjy (Jg s j):=λj hj=>by
    by_cases e:j=i;subst e;rw [oR];exact cT;exact aB j (by omega)
   repeat'(first|refine W1 ?_|omega|refine VG ?_ ?_<;>intro hg|refine VC ?_ ?_<;>intro hc)
   all_goals exact QL (i+1) ⟨hlt,ah,iF⟩ (XA hlt (XE i))
 . have hn:ZE s=false:=by
    unfold ZE Z3U;rw [decide_eq_false (λh=>cT (by have:=h.2.2.2.2 i hlt;rw [oR] at this;exact this))];rfl
   repeat'(first|refine W1 ?_|omega|refine VG ?_ ?_<;>intro hg|refine VC ?_ ?_<;>intro hc)
   all_goals
    refine RU ?_;exact ⟨by rw [hn],hS⟩
 obtain rfl:i=s.length:=by omega
 have aO:Z3U s=true:=decide_eq_true ⟨by omega,h2,h3,h4,aB⟩;have bt:∀ c∈s,c≠32:=λc hc h=>by
  obtain ⟨j,hj,rfl⟩:=Xr hc;have h5:=aB j hj;rw [Go.Eng.byte_at hj,h] at h5;exact absurd h5 (by decide)
 have iZ:Z7q.length<4294967281:=by
  have:Z7q.length<=200:=by decide +kernel
  omega
 have az:Lib.contains Z7q ([32]++s++[32])=decide (s∈ZaJ):=Zn4 aU bt;refine QO ?_;refine Z30 rfl rfl (by simp;omega) rfl ?_;repeat'(first|refine W1 ?_|omega|refine VG ?_ ?_<;>intro hg|refine VC ?_ ?_<;>intro hc)
 refine Z30 rfl rfl (by simp;omega) rfl ?_;repeat'(first|refine W1 ?_|omega|refine VG ?_ ?_<;>intro hg|refine VC ?_ ?_<;>intro hc)
 refine CM (Zd rfl rfl) (Z5I Z7q ([32]++s++[32]) m _ iZ (hS.cell (by simp) hm)) ?_;rintro _ w3 ⟨rfl,ak⟩;rw [az];replace hS:=hS.trans ak;by_cases hr:s∈ZaJ;have hn:ZE s=false:=by
  unfold ZE;rw [decide_eq_false (λh=>h.1 hr),YbN]
 rw [decide_eq_true hr];refine RT ?_;exact ⟨by rw [hn],hS⟩;rw [decide_eq_false hr];refine QO ?_;refine ZfJ rfl rfl ?_;refine W ?_;refine CL (Z97 [] _ Ze s _ (hF.up hS)) ?_;rintro _ w4 ⟨rfl,aJ⟩;refine QO ?_;refine WR ?_;refine .mk ⟨?_,hS.trans aJ⟩;unfold ZE;rw [aO];by_cases hf:s∈Ze<;>simp [hr,hf]
theorem Z6x {l:List Tkn} {i:Nat} (h:i<l.length):cur l i=l[i]:=by simp [cur,List.getD,h]
def Pd (w:World) (b:Nat) (tv:Value) (l:List Tkn) (i o:Nat):Prop:=Blk w b 186 [tv,.I i,.I o]/\SlV [b] w tv l/\i<l.length/\l.length<=1000000/\o<=12
theorem Pd.up {w w':World} {b i o:Nat} {tv:Value} {l:List Tkn} (h:Pd w b tv l i o) (hS:Stp [] w w'):Pd w' b tv l i o:=by
 obtain ⟨h1,h2,h3⟩:=h;exact ⟨h1.up hS,h2.up hS,h3⟩
theorem Pd.lt {w} {b i o:Nat} {tv:Value} {l:List Tkn} (h:Pd w b tv l i o):b<w.heap.size:=by
 obtain ⟨h1,_⟩:=h;exact h1.lt
theorem Pd.i_lt {w} {b i o:Nat} {tv:Value} {l:List Tkn} (h:Pd w b tv l i o):i<l.length:=by
 obtain ⟨_,_,h1,_⟩:=h;exact h1
def Z4W (a c:Int):Value:=.iface 235 (.agg #[.I a,.I c])
def PE {α:Type} (r:Out α) (G:α->Nat->Nat->Value->World->Prop) (F:World->Prop) (e:Ending) (w':World):Prop:=
 match r with
 | .err a c=>e=.panicked [⟨Z4W a c,false,false⟩]/\F w'
 | .ok x i o=>Ret (G x i o) e w'
theorem ZX {P:Program} {n:Nat} {Q:Exit->Act->World->Prop} {e:Env} {w} {ops:Array Oper} {rest:List Oper} {d:Nat} {ty:TypeId} {pos:String} {af:Array Edge} {f:Nat} {fn:Func} {xs:Array Operand} {ts:Array TypeId} {vs:Array Value} {c:Operand} {ch:List PanicEntry} {F:World->Prop} [hf:Fun P f fn]
 (hc:ev e c=some (.func (.func f) #[] #[])) (hv:∀ a,Has n e a->xs.map a.eval=vs) (h:Calls P f vs w (λe w'=>e=.panicked ch/\F w')) (hd:Nat.blt d n=true) (k:∀ w',F w'->WQ n Q (.panic ch) [] w') :
 WL P n ops Q (⟨some d,.call { callee:=.value c,args:=xs,argTypes:=ts },ty,pos,af,none⟩ :: rest) e w:=
 ZaC (G:=λ_ _=>False) (F:=λch' w'=>ch'=ch/\F w') (Z81 hc hv (h.mono λe w' ⟨h1,h2⟩=>by rw [h1];exact .pan ⟨rfl,h2⟩)) hd (λch' w' ⟨h1,h2⟩=>by subst h1;exact Z9t (k w' h2)) (λ_ _ h=>h.elim)
theorem Zt9 (a c:Int) (w):(Instr.build 235 #[(0,.I a),(1,.I c)]).run Tryz.prog w=.ok (.agg #[.I a,.I c]) w:=by kernel_rfl
theorem Z0M (b:Nat) (tv:Value) (l:List Tkn) (i o:Nat) (w) (hp:Pd w b tv l i o) :
 CC 163 #[pQ b] w λr w'=>r=str (cur l i).text/\Stp [] w w':=by
 obtain ⟨hb,hs,hi,hl,ho⟩:=hp;rw [Z6x hi];refine cW1 14 Tryz.func163 ?_;refine W ?_;refine ZDr 12 [] [] [(0,0),(1,0),(2,0),(3,1),(4,0),(5,0),(6,0),(7,1),(8,0),(9,0),(10,1),(11,0)] (λw1 ae=>?_);replace hb:=hb.up ae;replace hs:=hs.up ae;refine D ?_;refine RT ?_;exact ⟨rfl,ae⟩
theorem Zjz (b:Nat) (tv:Value) (l:List Tkn) (i o:Nat) (c:Int) (w) (hp:Pd w b tv l i o) :
 Calls Tryz.prog 159 #[pQ b,.I c] w (λe w'=>e=.panicked [⟨Z4W (cur l i).pos c,false,false⟩]/\Stp [] w w'):=by
 obtain ⟨hb,hs,hi,hl,ho⟩:=hp;rw [Z6x hi];refine cW2 18 Tryz.func159 ?_;refine W ?_;refine Z9s 15 ([]) [] [(0,0),(1,0),(2,0),(3,1),(4,0),(5,0),(6,0),(7,1),(8,0),(9,0),(10,1),(11,0),(12,0),(13,0),(14,2)] rfl mixed (by kernel_rfl) (by kernel_rfl) (by kernel_rfl) (λw1 ae=>?_);replace hb:=hb.up ae;replace hs:=hs.up ae;refine JJ rfl trivial (λ_=>ZZ rfl) rfl ?_;refine JJ rfl trivial (λ_=>Z3D rfl) rfl ?_;refine JJ rfl trivial (λ_=>ZW rfl) rfl ?_;refine Z5z rfl trivial (λw' hw=>J1 rfl rfl (hb.up hw) rfl) rfl ?_;refine JJ rfl trivial (λ_=>ZZ rfl) rfl ?_;refine JJ rfl trivial (λ_=>Z3D rfl) rfl ?_;refine JJ rfl trivial (λ_=>ZW rfl) rfl ?_;refine Z5z rfl trivial (λw' hw=>J1 rfl rfl (hb.up hw) rfl) rfl ?_;refine JJ rfl trivial (λ_=>Z2X rfl hs rfl rfl hi) rfl ?_;refine JJ rfl trivial (λ_=>Z6T rfl (SlV.isSome hs hi)) rfl ?_;refine Z5z rfl trivial (λw' hw=>Z1R (u:=.I l[i].pos) rfl rfl (hs.up hw) hi rfl rfl) rfl ?_;refine JJ rfl trivial (λ_=>ZZ rfl) rfl ?_;refine JJ rfl trivial (λ_=>JC (vs:=[(0,.I l[i].pos),(1,.I c)]) rfl (Zt9 _ _)) rfl ?_;refine JJ rfl trivial (λ_=>Z6n rfl) rfl ?_;refine ZfW rfl trivial (ZfV rfl) ?_;refine ZH ?_;exact ⟨rfl,ae⟩
theorem Z3V (b:Nat) (tv:Value) (l:List Tkn) (s:Str) (i o:Nat) (w) (hp:Pd w b tv l i o) (hn:(cur l i).text=s->i+1<l.length) :
 CC 224 #[pQ b,str s] w λr w'=>r=.B (decide ((cur l i).text=s))/\Pd w' b tv l (if (cur l i).text=s then i+1 else i) o/\Stp [b] w w':=by
 refine cW2 16 Tryz.func224 ?_;refine W ?_;refine CL (Z0M b tv l i o _ hp) ?_;rintro _ w1 ⟨rfl,ae⟩;replace hp:=hp.up ae;obtain ⟨hb,hs,hi,hl,ho⟩:=hp;have aS:=hs.max;by_cases h:(cur l i).text=s;have bO:=hn h
 (refine QP ?_ ?_<;>intro hc)
 exact absurd h (by assumption);refine Z6 (Zb (u:=.I ((i+1:Nat):Int)) rfl (by show some _=some _;simp) rfl rfl hb (by simp)) ?_;rintro _ w2 ⟨hT,cu⟩;refine W ?_;refine WR ?_;rw [decide_eq_true h,if_pos h];exact .mk ⟨rfl,⟨cu,hs.ext hT (λc hc=>hc) (λc hc=>.inl hc),bO,hl,ho⟩,ae.mn.trans hT⟩
 (refine QP ?_ ?_<;>intro hc)
 refine WR ?_;rw [decide_eq_false h,if_neg h];exact .mk ⟨rfl,⟨hb,hs,hi,hl,ho⟩,ae.mn⟩;exact absurd h (by assumption)
def PC {α:Type} (b:Nat) (w:World) (tv:Value) (l:List Tkn) (r:Out α) (G:α->Value->World->Prop) (e:Ending) (w':World):Prop:=
 PE r (λx i o v w'=>G x v w'/\Pd w' b tv l i o/\Stp [b] w w') (λw'=>Stp [b] w w') e w'
theorem PC.ok {α:Type} {b:Nat} {w w':World} {tv:Value} {l:List Tkn} {x:α} {i o:Nat} {G:α->Value->World->Prop} {v:Value} (hG:G x v w') (hp:Pd w' b tv l i o) (hS:Stp [b] w w'):PC b w tv l (.ok x i o) G (.returned v) w':=⟨v,rfl,hG,hp,hS⟩
theorem PC.err {α:Type} {b:Nat} {w w':World} {tv:Value} {l:List Tkn} {a c:Int} {G:α->Value->World->Prop} (hS:Stp [b] w w'):PC b w tv l (.err a c) G (.panicked [⟨Z4W a c,false,false⟩]) w':=⟨rfl,hS⟩
theorem PC.fail {α:Type} {b:Nat} {w w':World} {tv:Value} {l:List Tkn} {i:Nat} {c:Int} {G:α->Value->World->Prop} (hS:Stp [b] w w'):PC b w tv l (Z1f l i c) G (.panicked [⟨Z4W (cur l i).pos c,false,false⟩]) w':=⟨rfl,hS⟩
theorem Z9C (b:Nat) (tv:Value) (l:List Tkn) (i o:Nat) (c:Int) (w w0:World) (hp:Pd w b tv l i o) (hS:Stp [b] w0 w) :
 Calls Tryz.prog 159 #[pQ b,.I c] w (λe w'=>e=.panicked [⟨Z4W (cur l i).pos c,false,false⟩]/\Stp [b] w0 w'):=
 (Zjz b tv l i o c w hp).mono λe w' ⟨h1,h2⟩=>⟨h1,hS.trans h2.mn⟩
theorem PC.goes {α:Type} {b f:Nat} {args:Array Value} {w} {tv:Value} {l:List Tkn} {x:α} {i o:Nat} {r:Out α} {G:α->Value->World->Prop} (h:Calls Tryz.prog f args w (PC b w tv l r G)) (hr:r=.ok x i o):CC f args w λv w'=>G x v w'/\Pd w' b tv l i o/\Stp [b] w w':=by
 subst hr;exact h
theorem PC.falls {α:Type} {b f:Nat} {args:Array Value} {w w0:World} {tv:Value} {l:List Tkn} {a c:Int} {r:Out α} {G:α->Value->World->Prop} (h:Calls Tryz.prog f args w (PC b w tv l r G)) (hr:r=.err a c) (hS:Stp [b] w0 w):Calls Tryz.prog f args w (λe w'=>e=.panicked [⟨Z4W a c,false,false⟩]/\Stp [b] w0 w'):=by
 subst hr;exact h.mono λe w' ⟨h1,h2⟩=>⟨h1,hS.trans h2⟩
theorem JP (b:Nat) (tv:Value) (l:List Tkn) (hL:Z3P l) (s:Str) (aX:s≠[]) (i o:Nat) (w) (hp:Pd w b tv l i o) :
 Calls Tryz.prog 160 #[pQ b,str s] w (PC b w tv l (Z0K l s i o) (λ_ v _=>v=.tuple #[])):=by
 have hn:(cur l i).text=s->i+1<l.length:=λh=>hL.end_of hp.i_lt (by rw [h];exact aX)
 unfold Z0K;refine cW2 10 Tryz.func160 ?_;refine W ?_;refine CL (Z3V b tv l s i o _ hp hn) ?_;rintro _ w1 ⟨rfl,fL,ae⟩;by_cases h:(cur l i).text=s;rw [if_pos h] at fL ⊢;rw [decide_eq_true h];refine W ?_;refine WR ?_;exact PC.ok rfl fL ae;rw [if_neg h] at fL ⊢;rw [decide_eq_false h];refine W ?_;refine ZX rfl (Zd rfl rfl) (Z9C b tv l i o 20 _ w fL ae) rfl ?_;intro w2 kG;focus repeat'(first|refine Zi ?_|refine Zg ?_)
 refine ZH ?_;exact PC.fail kG
theorem Z4t (C:Str) (W:List Str) (h1:∀ i∈List.range (C.length+1),(C.drop i).head?=some 32->(C.drop (i+1)).takeWhile (λc=>decide (c≠32))∈W\/(C.drop (i+1)).takeWhile (λc=>decide (c≠32))=[])
 (h2:∀ t∈W,Lib.contains C (32 :: t++[32])=true) {t:Str} (h0:t≠[]) (hc:∀ c∈t,c≠32):Lib.contains C (32 :: t++[32])=decide (t∈W):=by
 by_cases ht:t∈W;rw [h2 t ht,decide_eq_true ht]
 . rw [decide_eq_false ht]
   unfold Lib.contains;rw [decide_eq_false_iff_not,Z6v];rintro ⟨i,hi,h⟩;cases hd:C.drop i with
   | nil=>rw [hd] at h;simp at h
   | cons a l=>
     rw [hd] at h;simp only [XV,List.isPrefixOf,Xm,beq_iff_eq] at h;obtain ⟨rfl,h⟩:=h;have hl:C.drop (i+1)=l:=by
      have:=congrArg List.tail hd;simpa [List.tail_drop] using this
     have hw:=Z6w t l hc h;have:=h1 i (Ybv.2 (by omega)) (by rw [hd];rfl);rw [hl,hw] at this;exact this.elim ht h0
def Zta:Str:=[32,114,117,108,101,32,102,114,111,109,32,111,110,32,105,102,32,100,117,101,32,117,110,108,101,115,115,32,101,108,115,101,32,116,114,117,101,32,102,97,108,115,101,32,110,111,116,32,97,110,100,32,111,114,32,116,104,101,110,32,101,110,100,32,32,100,97,121,115,32,119,101,101,107,115,32,109,111,110,116,104,115,32,99,111,117,114,116,100,97,121,115,32,32,100,97,121,32,115,101,114,118,101,100,32,101,120,116,114,97,32,98,121,32,116,111,32,99,111,117,114,116,32,97,109,111,117,110,116,32,32,110,101,120,116,32,112,114,101,118,32,108,97,116,101,114,32,101,97,114,108,105,101,114,32,98,101,116,119,101,101,110,32]
def Zc7:Str:=[32,100,97,121,115,32,119,101,101,107,115,32,109,111,110,116,104,115,32,99,111,117,114,116,100,97,121,115,32]
def ZaK:Str:=[32,100,97,121,32,115,101,114,118,101,100,32,101,120,116,114,97,32,98,121,32,116,111,32,99,111,117,114,116,32,97,109,111,117,110,116,32]
def Zf0:Str:=[32,110,101,120,116,32,112,114,101,118,32,108,97,116,101,114,32,101,97,114,108,105,101,114,32,98,101,116,119,101,101,110,32]
theorem Zn5 {t:Str} (h0:t≠[]) (hc:∀ c∈t,c≠32):Lib.contains Zta (32 :: t++[32])=decide (t∈ZeW++Z4S++Z37++Z4T):=Z4t Zta _ (by decide +kernel) (by decide +kernel) h0 hc
theorem ZjA {t:Str} (h0:t≠[]) (hc:∀ c∈t,c≠32):Lib.contains Zc7 (32 :: t++[32])=decide (t∈Z4S):=Z4t Zc7 _ (by decide +kernel) (by decide +kernel) h0 hc
theorem Zg7 {t:Str} (h0:t≠[]) (hc:∀ c∈t,c≠32):Lib.contains ZaK (32 :: t++[32])=decide (t∈Z37):=Z4t ZaK _ (by decide +kernel) (by decide +kernel) h0 hc
theorem ZjB {t:Str} (h0:t≠[]) (hc:∀ c∈t,c≠32):Lib.contains Zf0 (32 :: t++[32])=decide (t∈Z4T):=Z4t Zf0 _ (by decide +kernel) (by decide +kernel) h0 hc
theorem Z3e (C:Str) (ws:List Str) (hW:[]∉ws) (t:Str) (m:Int) (w:World) (hm:w.cell? ⟨2,0,none⟩=some (.I m)) (hC:C.length<=1000000) (oS:t.length<=4000)
 (qy:t≠[]->Lib.contains C (32 :: t++[32])=decide (t∈ws)) :
 CC 225 #[str C,str t] w λr w'=>r=.B (decide (t∈ws))/\Stp [] w w':=by
 refine cW2 14 Tryz.func225 ?_;by_cases h:t=[]
 . subst h
   refine QO ?_
   all_goals
    refine WR ?_;rw [decide_eq_false hW];exact .mk ⟨rfl,Stp.refl _ _⟩
 . have e1:Lib.contains C ([32]++t++[32])=decide (t∈ws):=qy h
   (refine QP ?_ ?_<;>intro hg)
   rotate_left
   exact absurd h (by assumption);refine Z30 rfl rfl (by simp;omega) rfl ?_;refine QO ?_;refine Z30 rfl rfl (by simp;omega) rfl ?_;refine QO ?_;refine CM (Zd rfl rfl) (Z5I C ([32]++t++[32]) m _ (by omega) hm) ?_;rintro _ w1 ⟨rfl,ae⟩;rw [e1];refine RT ?_;exact ⟨rfl,ae⟩
theorem Z4u (b:Nat) (tv:Value) (l:List Tkn) (hL:Z3P l) (k:Int) (hk:k≠0) (i o:Nat) (w) (hp:Pd w b tv l i o) :
 Calls Tryz.prog 162 #[pQ b,.I k] w (PC b w tv l (Z36 l k i o) (λt v _=>v=aG t)):=by
 obtain ⟨hb,hs,hi,hl,ho⟩:=id hp;have hn:(cur l i).kind=k->i+1<l.length:=λh=>hL.end_of_kind hi (by rw [h];exact hk)
 have aS:=hs.max;have aX:=hs;unfold Z36;rw [Z6x hi] at hn ⊢;refine cW2 30 Tryz.func162 ?_;refine W ?_;refine Z0 Z2 rfl ?_;rintro _ w0 ⟨b4,rfl,bE,e4,bA⟩;have n4:b4≠b:=by have:=hb.lt;omega
 replace hb:=hb.up bA;replace hs:=hs.up bA;refine W ?_;refine ZDr 12 [] [11] [(0,0),(1,0),(2,0),(3,1),(4,0),(5,0),(6,0),(7,1),(8,0),(9,1),(10,2),(11,2)] (λw1 ae=>?_);replace hb:=hb.up ae;replace hs:=hs.up ae;replace e4:=e4.up ae;replace bA:=bA.trans ae;clear ae;refine D ?_;refine Za rfl trivial Z2 (λ_ _ ⟨_,_,_,_,h⟩=>h) rfl ?_;rintro _ w2 ⟨b5,rfl,jt,e5,ah⟩;have n5:b5≠b:=by have:=hb.lt;omega
 have n54:b5≠b4:=by have:=e4.lt;omega
 refine ZO rfl trivial (Zj (us:=Z3.enc l[i]) rfl rfl rfl rfl (Z3.one _) e5 rfl) rfl ?_;rintro _ w3 ⟨hT,e5⟩;have dK:=ah.ow hT;clear hT ah;replace hb:=hb.up dK;replace hs:=hs.up dK;replace e4:=e4.up dK;replace bA:=bA.trans dK;clear dK jt;refine D ?_;refine W ?_;have fT:Pd w3 b tv l i o:=⟨hb,hs,hi,hl,ho⟩
 by_cases h:l[i].kind=k;rw [if_pos h];have bO:=hn h;refine QO ?_;refine Z6 (Zb (u:=.I ((i+1:Nat):Int)) rfl (by show some _=some _;simp) rfl rfl hb (by simp)) ?_;rintro _ w4 ⟨hT,cu⟩;replace e4:=e4.ext hT (by simpa using n4);replace e5:=e5.ext hT (by simpa using n5);replace hs:=hs.ext (X':=[b]) hT (λc hc=>hc) (λc hc=>.inl hc);refine W ?_;refine SA (us:=Z3.enc l[i]) e4 ?_;rintro _ w5 ⟨dY,e4⟩;refine W ?_;refine J6 (cs:=Z3.enc l[i]) rfl rfl rfl e4 rfl ?_;have ja:=(bA.mn.trans hT).ow dY;exact PC.ok rfl ⟨cu.ext dY (by simpa using n4.symm),aX.ext ja (λc hc=>hc) (λc hc=>.inl hc),bO,hl,ho⟩ ja;rw [if_neg h];refine QO ?_;refine ZX rfl (Zd rfl rfl) (Z9C b tv l i o 20 _ w fT bA.mn) rfl ?_;intro w2 kG;focus repeat'(first|refine Zi ?_|refine Zg ?_)
 refine ZH ?_;exact PC.fail kG
theorem Jy {w w':World} {b:Nat} {m:Int} (hm:w.cell? ⟨2,0,none⟩=some (.I m)) (hb:b≠2) (hS:Stp [b] w w'):w'.cell? ⟨2,0,none⟩=some (.I m):=
 hS.cell (by simpa using λh=>hb h.symm) hm
theorem Zn6 (t:Tkn) (w):(Instr.field 183 (aG t) 2).run Tryz.prog w=.ok (str t.text) w:=by kernel_rfl
theorem Ztb (t:Tkn) (w):(Instr.field 183 (aG t) 3).run Tryz.prog w=.ok (.I t.num) w:=by kernel_rfl
theorem Z5J (b:Nat) (tv:Value) (l:List Tkn) (hL:Z3P l) (i o:Nat) (m:Int) (w:World) (hm:w.cell? ⟨2,0,none⟩=some (.I m)) (hp:Pd w b tv l i o) :
 Calls Tryz.prog 161 #[pQ b] w (PC b w tv l (Z2m l i o) (λs v _=>v=str s)):=by
 unfold Z2m;refine cW1 11 Tryz.func161 ?_;refine W ?_;refine CL (Z0M b tv l i o _ hp) ?_;rintro _ w1 ⟨rfl,ae⟩;have fL:=hp.up ae;refine W ?_;refine CM (Zd rfl rfl) (Z3e Zta (ZeW++Z4S++Z37++Z4T) (by decide +kernel) (cur l i).text m _ (ae.cell (by simp) hm) (by decide +kernel) (hL.tl i) (λh=>Zn5 h (hL.sp i))) ?_;rintro _ w2 ⟨rfl,ah⟩;have ij:=fL.up ah;have hS:=(ae.trans ah).mono (S':=[b]) (by simp);by_cases h:(cur l i).text∈ZeW++Z4S++Z37++Z4T;rw [if_pos h,decide_eq_true h];refine W ?_;refine ZX rfl (Zd rfl rfl) (Z9C b tv l i o 20 _ w ij hS) rfl ?_;intro w3 m8;focus repeat'(first|refine Zi ?_|refine Zg ?_)
 refine ZH ?_;exact PC.fail m8
 . rw [if_neg h,decide_eq_false h]
   refine W ?_;cases hr:Z36 l 1 i o with
   | err a c=>
     refine ZX rfl (Zd rfl rfl) (PC.falls (Z4u b tv l hL 1 (by decide) i o _ ij) hr hS) rfl ?_;intro w3 m8;repeat'(first|refine Zi ?_|refine Zg ?_)
     refine ZH ?_;exact PC.err m8
   | ok t i1 o1=>
     refine CM (Zd rfl rfl) (PC.goes (Z4u b tv l hL 1 (by decide) i o _ ij) hr) ?_;rintro _ w3 ⟨rfl,fT,ak⟩;refine Z8 (ZbY rfl (Zn6 t)) rfl ?_;refine W ?_;refine WR ?_;exact PC.ok rfl fT (hS.trans ak)
theorem Zc8 (s:Str) (w):CC 280 #[str s] w λr w'=>r=.I (Z6p s:Int)/\w'=w:=by
 unfold Z6p;refine cW1 20 Tryz.func280 ?_;repeat'(first|refine W1 ?_|omega|refine VG ?_ ?_<;>intro hg|refine VC ?_ ?_<;>intro hc)
 all_goals refine WR ?_
 all_goals refine .mk ⟨?_,rfl⟩
 all_goals simp_all
theorem ZaL (n:Int) (w) (h0:0<=n) (h1:n<=3652058):CC 60 #[.I n] w λr w'=>r=.tuple #[Zjw (ofM n).y (ofM n).m (ofM n).d,.I 0]/\Stp [] w w':=by
 refine cW1 73 Tryz.func60 ?_;refine W ?_;refine Z0 Z2 rfl ?_;rintro _ w1 ⟨b2,rfl,cu,e2',hS⟩;have sW:=hS.size;refine QO ?_;unfold ofM;simp only;have kX:=Ya8 (n+306) (b:=146097) (by decide);have fE:=YaR (n+306) (b:=146097) (by decide);have he:(n+306) / 146097<=25/\0<=(n+306) / 146097:=by omega
 generalize (n+306) % 146097=doe at *;generalize (n+306) / 146097=era at *;obtain ⟨yoe,doy,e1,e2,hy,hd,-⟩:=Zjr doe kX fE;simp only [e1,e2];have tr:0<=(5 * (doy:Int)+2) / 153/\(5 * (doy:Int)+2) / 153<=11:=by omega
 refine QO ?_;refine Z7 (vs:=[(0,.I _),(1,.I _),(2,.I _)]) rfl (Z5H _ _ _) rfl ?_;refine Z0 Z2 rfl ?_;rintro _ w2 ⟨b10,rfl,dL,e10,hT⟩;have n2:b10≠b2:=by have:=e2'.lt;omega
 replace e2':=e2'.up hT;replace hS:=hS.trans hT;refine SB (us:=[.I _,.I _,.I _]) (by simp;exact ⟨rfl,rfl,rfl⟩) e10 ?_;rintro _ w3 ⟨hT,e10'⟩;replace e2':=e2'.ext hT (by simpa using n2.symm);replace hS:=hS.own hT (λc hc=>.inr (by simp at hc;have:=hS.size;omega));clear e10 hT
 (refine QP ?_ ?_<;>intro hc)
 rename_i hc;refine Z6 (Zb (u:=.I ((yoe:Int)+400 * era+1)) rfl rfl rfl rfl e10' (by simp)) ?_;rintro _ w4 ⟨hT,e10⟩;replace e10:Blk w4 b10 132 [.I ((yoe:Int)+400 * era+1),.I ((5 * (doy:Int)+2) / 153+3),.I ((doy:Int) - (153 * ((5 * (doy:Int)+2) / 153)+2) / 5+1)]:=e10;replace e2':=e2'.ext hT (by simpa using n2.symm);replace hS:=hS.ow hT;clear e10' hT;refine W ?_;refine Z6 (Zb (u:=.I ((5 * (doy:Int)+2) / 153 - 9)) rfl rfl rfl rfl e10 (by simp)) ?_;rintro _ w5 ⟨hT,e10'⟩;replace e10':Blk w5 b10 132 [.I ((yoe:Int)+400 * era+1),.I ((5 * (doy:Int)+2) / 153 - 9),.I ((doy:Int) - (153 * ((5 * (doy:Int)+2) / 153)+2) / 5+1)]:=e10';replace e2':=e2'.ext hT (by simpa using n2.symm);replace hS:=hS.ow hT;clear e10 hT;refine W ?_;refine Z6 (Zj (us:=[.I _,.I _,.I _]) rfl rfl rfl rfl (by simp;exact ⟨rfl,rfl,rfl⟩) e2' rfl) ?_;rintro _ w6 ⟨hT,e2⟩;replace hS:=hS.ow hT;refine W ?_;refine Zm rfl rfl rfl e2 rfl rfl ?_;refine .mk ⟨?_,hS⟩;rw [if_pos (by omega)];rename_i hc;refine Z6 (Zj (us:=[.I _,.I _,.I _]) rfl rfl rfl rfl (by simp;exact ⟨rfl,rfl,rfl⟩) e2' rfl) ?_;rintro _ w6 ⟨hT,e2⟩;replace hS:=hS.ow hT;refine W ?_;refine Zm rfl rfl rfl e2 rfl rfl ?_;refine .mk ⟨?_,hS⟩;rw [if_neg (by omega)]
theorem Z4X (n:Int) (w) (h0:0<=n) (h1:n<=9223372036854775807):CC 31 #[.I n] w λr w'=>r=str (Lib.itoa n)/\Stp [] w w':=by
 obtain ⟨u,rfl⟩:∃ u:Nat,n=(u:Int):=⟨n.toNat,by omega⟩
 have oT:Lib.itoa (u:Int)=Lib.decDigits u:=by unfold Lib.itoa;rw [if_neg (by omega)];rfl
 rw [oT];have ai:(Lib.decDigits u).length<=19:=Z4U 18 u (by omega);refine cW1 32 Tryz.func31 ?_;by_cases hz:(u:Int)=0;obtain rfl:u=0:=by omega
 focus repeat'(first|refine W1 ?_|omega|refine VG ?_ ?_<;>intro hg|refine VC ?_ ?_<;>intro hc)
 refine RU ?_;exact ⟨by rw [Lib.decDigits];rfl,Stp.refl _ _⟩;focus repeat'(first|refine W1 ?_|omega|refine VG ?_ ?_<;>intro hg|refine VC ?_ ?_<;>intro hc)
 refine Zu (σ:=Nat×Str) (λq=>[(0,.I (u:Int)),(3,str [48,49,50,51,52,53,54,55,56,57]),(4,str q.2),(5,.I (q.1:Int))]) (λq w'=>w'=w/\q.1<=u/\(if q.1=0 then [] else Lib.decDigits q.1)++q.2=Lib.decDigits u) (λq=>q.1) (u,[]) ⟨rfl,rfl,rfl,rfl,trivial⟩ ⟨rfl,Xn _,by simp only;rw [if_neg (by omega)];simp⟩ ?_;rintro ⟨k,s⟩ w1 ⟨rfl,hk,he⟩;dsimp only at hk he ⊢;have ax:s.length<=19:=by
  have:=congrArg List.length he;simp only [Xc] at this;omega
 by_cases fp:(k:Int)=0;obtain rfl:k=0:=by omega
 focus repeat'(first|refine W1 ?_|omega|refine VG ?_ ?_<;>intro hg|refine VC ?_ ?_<;>intro hc)
 refine RU ?_;exact ⟨by simpa using congrArg str he,Stp.refl _ _⟩;have aA:=Zjs k (by omega);rw [if_neg (by omega),aA,Xy] at he;focus repeat'(first|refine W1 ?_|omega|refine VG ?_ ?_<;>intro hg|refine VC ?_ ?_<;>intro hc)
 refine Z8 (Z2Z (l:=k % 10) (r:=k % 10+1) rfl rfl rfl (by omega) (by omega) (by omega) (by show k % 10+1<=10;omega)) rfl ?_;rw [Zg0 (k % 10) (by omega)];refine W ?_;refine Z30 rfl rfl (by simp;omega) rfl ?_;refine W ?_;refine Zx (k / 10,[UInt8.ofNat (48+k % 10)]++s) ⟨rfl,rfl,rfl,by simp only [Int.natCast_ediv];rfl,trivial⟩ ⟨rfl,by dsimp only;omega,by dsimp only;exact he⟩ (by dsimp only;omega)
end Go.Proofs.YtipfkbkkndacjaaGreatDoor
namespace Go.Eng
open Go Go.RowKit Go.Proofs
section
variable {P:Program} {n:Nat} {Q:Exit->Act->World->Prop} {e:Env} {w:World} {ops:Array Oper} {S:List Nat} {Lt:List Nat} {rest:List (Nat×Nat)}
theorem Zg8 {i d:Nat} {ty:TypeId} {pos:String} {af:Array Edge} {gd:Option (Nat×Bool)} {f:Nat} {fn:Func} {xs:Array Operand} {ts:Array TypeId} {vs:Array Value} {c:Operand} {ch:List PanicEntry} {F:World->Prop} [hf:Fun P f fn]
 (hi:ops[i]?=some ⟨some d,.call { callee:=.value c,args:=xs,argTypes:=ts },ty,pos,af,gd⟩) (hg:Z02 ops e gd)
 (hc:ev e c=some (.func (.func f) #[] #[])) (hv:∀ a,Has n e a->xs.map a.eval=vs) (h:Calls P f vs w (λe w'=>e=.panicked ch/\F w')) (aw:Nat.blt d n=true) (k:∀ w',F w'->WQ n Q (.panic ch) [] w'):WDq P n ops S Lt Q ((i,2) :: rest) e w:=
 Zjh (G:=λ_ _=>False) (F:=λch' w'=>ch'=ch/\F w') hi hg (Z81 hc hv (h.mono λe w' ⟨h1,h2⟩=>by rw [h1];exact .pan ⟨rfl,h2⟩)) (λ_ _ h=>h.elim) aw (λch' w' ⟨h1,h2⟩=>by subst h1;exact k w' h2) (λ_ _ h=>h.elim)
end
end Go.Eng
namespace Go.Proofs.YtipfkbkkndacjaaGreatDoor
open Go Go.Eng Go.RowKit Go.Proofs
def ZjC (f:Nat):Prop:=∀ (l:List Tkn) (hL:Z3P l) (m:Int) (c:Eng.Call) (i o:Nat) (r:Out Nd),Ja l f c i o=some r->
 ∀ (X:List Nat) (b:Nat) (tv:Value) (w:World),b≠2->b∈X->(∀ c∈X,c<w.heap.size)->w.cell? ⟨2,0,none⟩=some (.I m)->Pd w b tv l i o->
 match c with
 | .expr k=>1<=k->k<=8->Calls Tryz.prog 226 #[pQ b,.I (k:Int)] w (PC b w tv l r (λx v w'=>NdV X w' v x))
 | .prim=>Calls Tryz.prog 279 #[pQ b] w (PC b w tv l r (λx v w'=>NdV X w' v x))
 | .loop _ _=>True
theorem Ztc (s:Str) (p:Option Addr) (l c:Nat) (w):(Instr.build 97 #[(0,.I 6),(2,str s),(3,.slice p l c)]).run Tryz.prog w=.ok (.agg #[.I 6,.I 0,str s,.slice p l c]) w:=by kernel_rfl
theorem Z9D:([]:Str)∉Z4S:=by decide
theorem Zg9:Zc7.length<=1000000:=by decide
theorem Zc9 (t:Str) (m:Int) (w:World) (hm:w.cell? ⟨2,0,none⟩=some (.I m)) (oS:t.length<=4000) (bt:∀ c∈t,c≠32) :
 CC 225 #[str Zc7,str t] w λr w'=>r=.B (decide (t∈Z4S))/\Stp [] w w':=
 Z3e Zc7 Z4S Z9D t m w hm Zg9 oS (λh=>ZjA h bt)
theorem Zww (f:Nat) (IH:∀ f'≤f,ZjC f') (l:List Tkn) (hL:Z3P l) (m:Int) (k i o:Nat) (r:Out Nd) (bH:1<=k) (hk:k<=7) (bt:¬ ((k=3/\(cur l i).text=[110,111,116])\/(k=7/\(cur l i).text=[45])))
 (h : (match Ja l f (.expr (k + 1)) i o with
   | none=>none
   | some (.err a c)=>some (.err a c)
   | some (.ok x i' o')=>Ja l f (.loop k x) i' o')=some r) (X:List Nat) (b:Nat) (tv:Value) (w:World) (aY:b≠2) (bT:b∈X) (hX:∀ c∈X,c<w.heap.size) (hm:w.cell? ⟨2,0,none⟩=some (.I m)) (hp:Pd w b tv l i o) :
 Calls Tryz.prog 226 #[pQ b,.I (k:Int)] w (PC b w tv l r (λx v w'=>NdV X w' v x)):=by
 have aX:=hp.2.1;refine cW2 98 Tryz.func226 ?_;refine W ?_;refine Z0 Z2 rfl ?_;rintro _ w1 ⟨b4,rfl,bE,e4,hS⟩;have n4:b4≠b:=by have:=hp.lt;omega
 replace hm:=hS.cell (by simp) hm;replace hp:=hp.up hS;have ik:∀ c∈X,c<w1.heap.size:=λc hc=>Xa (hX c hc) hS.size;refine Z2V ?_;refine Z4h ?_
 refine Zhy (σ:=Unit) (λ_=>[(0,pQ b),(1,.I (k:Int)),(4,pQ b4)])
  (λ_ w'=>Pd w' b tv l i o/\(∃ cs:List Value,cs.length=4/\Blk w' b4 97 cs)/\w'.cell? ⟨2,0,none⟩=some (.I m)/\Stp [] w w') ?_ ?_
 by_cases k3:k=3
 . subst k3
   have ht:¬ (cur l i).text=[110,111,116]:=λe=>bt (.inl ⟨rfl,e⟩);refine W ?_;refine CL (Z0M b tv l i o _ hp) ?_;rintro _ w2 ⟨rfl,hT⟩;replace hp:=hp.up hT;replace e4:=e4.up hT;replace hm:=hT.cell (by simp) hm;replace hS:=hS.trans hT;repeat'(first|refine W1 ?_|omega|refine VG ?_ ?_<;>intro hg|refine VC ?_ ?_<;>intro hc)
   all_goals try exact absurd (by assumption) ht
   exact QT () ⟨hp,⟨_,rfl,e4⟩,hm,hS⟩
 by_cases k7:k=7
 . subst k7
   have ht:¬ (cur l i).text=[45]:=λe=>bt (.inr ⟨rfl,e⟩);refine W ?_;refine CL (Z0M b tv l i o _ hp) ?_;rintro _ w2 ⟨rfl,hT⟩;replace hp:=hp.up hT;replace e4:=e4.up hT;replace hm:=hT.cell (by simp) hm;replace hS:=hS.trans hT
   (refine QP ?_ ?_<;>intro hc)
   all_goals try exact absurd (by assumption) ht
   exact QT () ⟨hp,⟨_,rfl,e4⟩,hm,hS⟩
 refine QO ?_;exact QT () ⟨hp,⟨_,rfl,e4⟩,hm,hS⟩;clear hp e4 hm hS;rintro _ w2 ⟨hp,⟨cs4,fq,e4⟩,hm,hS⟩;have l4:=e4.lt;have qz:∀ c∈b4 :: X,c<w2.heap.size:=λc hc=>by
  rcases Xb.1 hc with rfl|h
  exact l4;exact Xa (hX c h) hS.size
 refine W ?_;cases hE:Ja l f (.expr (k+1)) i o with
 | none=>rw [hE] at h;simp at h
 | some r1=>
   rw [hE] at h;have bu:=IH f (Xn _) l hL m (.expr (k+1)) i o r1 hE (b4 :: X) b tv w2 aY (XI _ bT) qz hm hp (by omega) (by omega);cases r1 with
   | err a c=>
     simp only [XH] at h;subst h;refine ZX rfl (Zd rfl rfl) (PC.falls bu rfl hS.mn) rfl ?_;intro w3 m8;repeat'(first|refine Zi ?_|refine Zg ?_)
     refine ZH ?_;exact PC.err m8
   | ok x i1 o1=>
     simp only at h;refine CL (PC.goes bu rfl) ?_;rintro _ w3 ⟨⟨kx,rfl,hx⟩,fT,hT⟩;replace e4:=e4.ext hT (by simpa using n4);replace hm:=Jy hm aY hT;have tt:∀ c∈b4 :: X,c<w3.heap.size:=λc hc=>Xa (qz c hc) hT.size;have ak:=(hS.mono (S':=[b]) (by simp)).trans hT;clear hT hS hp qz bu;refine Z0 Z2 rfl ?_;rintro _ w4 ⟨b7,rfl,fk,e7,hT⟩;have n74:b7≠b4:=by have:=e4.lt;omega
     have n7b:b7≠b:=by have:=fT.lt;omega
     have n71:b7≠2:=by have:=block_lt_of_cell hm;simp at this;omega
     refine SB (us:=ndC x kx) (ZG hx) e7 ?_;rintro _ w5 ⟨ar,e7'⟩;replace hT:=hT.ow ar;clear ar e7;have qA:w.heap.size<=b7:=Xh ak.size fk;have ju:w.heap.size<=b4:=bE;replace e4:=e4.up hT;replace fT:=fT.up hT;replace hm:=hT.cell (by simp) hm;replace hx:SlV (b7 :: b4 :: X) w5 kx x.kids:=hx.ext hT (by simp) (λc hc=>by
      rcases Xb.1 hc with rfl|h
      exact .inr fk;exact .inl h)
     have aD:=ak.trans hT.mn;clear hT ak;have l7:=e7'.lt;have tu:∀ c∈b7 :: b4 :: X,c<w5.heap.size:=λc hc=>by
      rcases Xb.1 hc with rfl|h
      exact l7;have:=tt c h;omega
     refine W ?_;clear tt hE
     refine Zu (σ:=Nat×Nd×Value×Nat×Nat) (λq=>[(0,pQ b),(1,.I (k:Int)),(4,pQ b4),(7,pQ b7)])
      (λq w'=>Ja l q.1 (.loop k q.2.1) q.2.2.2.1 q.2.2.2.2=some r/\q.1<=f/\Pd w' b tv l q.2.2.2.1 q.2.2.2.2/\Blk w' b7 97 (ndC q.2.1 q.2.2.1)/\SlV (b7 :: b4 :: X) w' q.2.2.1 q.2.1.kids/\(∃ cs:List Value,cs.length=4/\Blk w' b4 97 cs)/\w'.cell? ⟨2,0,none⟩=some (.I m)/\Stp [b] w w'/\w5.heap.size<=w'.heap.size)
      (λq=>q.1) (f,x,kx,i1,o1) ⟨rfl,rfl,rfl,rfl,trivial⟩ ⟨h,Xn _,fT,e7',hx,⟨cs4,fq,e4⟩,hm,aD,Xn _⟩ ?_
     clear h fT e7' hx e4 hm aD l4 l7 fq cs4;rintro ⟨f1,y,ky,i2,o2⟩ w6 ⟨h,oV,hp,e7,hy,⟨cs4,fq,e4⟩,hm,hS,jv⟩;dsimp only at h oV hp e7 hy ⊢
     match cs4,fq with
     | [q0,q1,q2,q3],_=>
     cases f1 with
     | zero=>simp [Ja] at h
     | succ f1=>
     rw [Ja] at h;refine W ?_;refine CL (Z0M b tv l i2 o2 _ hp) ?_;rintro _ w7 ⟨rfl,hT⟩;replace hp:=hp.up hT;replace e4:=e4.up hT;replace e7:=e7.up hT;replace hy:=hy.up hT;replace hm:=hT.cell (by simp) hm;replace hS:=hS.trans hT.mn;replace jv:=Xh jv hT.size;clear hT;refine W ?_;refine CL (Zc8 _ _) ?_;rintro _ _ ⟨rfl,rfl⟩;by_cases kR:Z6p (cur l i2).text=k
     . rw [if_pos kR] at h
       have bO:=hL.end_of hp.i_lt (Z84 kR bH);refine QO ?_;refine CL (Z0M b tv l i2 o2 _ hp) ?_;rintro _ w8 ⟨rfl,hT⟩;replace hp:=hp.up hT;replace e4:=e4.up hT;replace e7:=e7.up hT;replace hy:=hy.up hT;replace hm:=hT.cell (by simp) hm;replace hS:=hS.trans hT.mn;replace jv:=Xh jv hT.size;clear hT;obtain ⟨dj,bP,gR,cr,ft⟩:=id hp;refine W ?_;refine Z6 (Zb (u:=.I ((i2+1:Nat):Int)) rfl (by show some _=some _;simp) rfl rfl dj (by simp)) ?_;rintro _ w9 ⟨hT,dp⟩;replace bP:=bP.ext (X':=[b]) hT (λc hc=>hc) (λc hc=>.inl hc);replace e4:=e4.ext hT (by simpa using n4);replace e7:=e7.ext hT (by simpa using n7b);replace hy:=hy.ext (X':=b7 :: b4 :: X) hT (λc hc=>by simp at hc;subst hc;simp [bT]) (λc hc=>.inl hc);replace hm:=Jy hm aY hT;replace hS:=hS.trans hT;replace jv:=Xh jv hT.size;replace hp:Pd w9 b tv l (i2+1) o2:=⟨dp,bP,bO,cr,ft⟩
       clear hT dp bP gR cr ft dj;refine W ?_;have qB:∀ c∈b7 :: b4 :: X,c<w9.heap.size:=λc hc=>Xa (tu c hc) jv;cases hE:Ja l f1 (.expr (k+1)) (i2+1) o2 with
       | none=>rw [hE] at h;simp at h
       | some r2=>
         rw [hE] at h;cases r2 with
         | err a c=>
           simp only [XH] at h;subst h;refine Z9s 9 ([b]) [8] [(0,0),(1,1),(2,0),(3,0),(4,0),(5,2),(6,2),(7,0),(8,2)] rfl mixed (by kernel_rfl) (by kernel_rfl) (by kernel_rfl) (λw1 ae=>?_);replace hp:=hp.up ae;replace e7:=e7.up ae;replace hm:=ae.cell (by simp) hm;replace hS:=hS.trans ae.mn;have bu:=IH f1 (by omega) l hL m (.expr (k+1)) (i2+1) o2 _ hE (b7 :: b4 :: X) b tv w1 aY (by simp [bT]) (λc hc=>Xa (qB c hc) ae.size) hm hp (by omega) (by omega);refine JJ rfl trivial (λ_=>ZZ rfl) rfl ?_;refine Z5z rfl trivial (λw' hw=>ZC rfl rfl (e7.ext hw (by simpa using n7b)) rfl) rfl ?_;refine JJ rfl trivial (λ_=>ZZ rfl) rfl ?_;refine JJ rfl trivial (λ_=>ZZ rfl) rfl ?_;refine JJ rfl trivial (λ_=>Zdp rfl rfl (by unfold I64;omega)) rfl ?_;refine Zg8 rfl trivial rfl (Zd rfl rfl) (PC.falls bu rfl hS) rfl ?_;intro wz bV;repeat'(first|refine Zi ?_|refine Zg ?_)
           refine ZH ?_;exact PC.err bV
         | ok z i3 o3=>
           simp only at h;refine ZDr 9 ([b]) [8] [(0,0),(1,1),(2,0),(3,0),(4,0),(5,2),(6,2),(7,0),(8,2)] (λw1 ae=>?_);replace hp:=hp.up ae;replace e7:=e7.up ae;replace hy:=hy.up ae;replace e4:=e4.up ae;replace hm:=ae.cell (by simp) hm;replace hS:=hS.trans ae.mn;have tx:=Xh jv ae.size;have ik:∀ c∈b7 :: b4 :: X,c<w1.heap.size:=λc hc=>Xa (qB c hc) ae.size;have bu:=IH f1 (by omega) l hL m (.expr (k+1)) (i2+1) o2 _ hE (b7 :: b4 :: X) b tv w1 aY (by simp [bT]) ik hm hp (by omega) (by omega);clear ae qB jv;refine D ?_;refine DC (PC.goes bu rfl) (λ_ _ h=>h.2.2) ?_;rintro _ w10 ⟨⟨kz,rfl,hz⟩,bW,hT⟩;replace e4:=e4.ext hT (by simpa using n4);replace e7:=e7.ext hT (by simpa using n7b);replace hy:=hy.ext (X':=b7 :: b4 :: X) hT (λc hc=>by simp at hc;subst hc;simp [bT]) (λc hc=>.inl hc);replace hm:=Jy hm aY hT;replace hS:=hS.trans hT;have m9:=Xh tx hT.size;have nf:∀ c∈b7 :: b4 :: X,c<w10.heap.size:=λc hc=>Xa (ik c hc) hT.size;clear hT hp ik tx bu;obtain ⟨py,cy,rfl,-⟩:=id hy;obtain ⟨pz,cz,rfl,-⟩:=id hz;refine Za rfl trivial (Z1 (vs:=[(0,.agg (ndC y (.slice py y.kids.length cy)).toArray),(1,.agg (ndC z (.slice pz z.kids.length cz)).toArray)]) rfl (ZbQ _ _ _ _ _ _ _ _ _ _ _ _)) (λ_ _ h=>(Z9.stp h).mn) rfl ?_;intro bv w11 hN;have aq:SlV (b7 :: b4 :: X) w11 bv [y,z]:=hN.slvG (css:=[ndC y _,ndC z _]) nf rfl rfl rfl (Zov hy hz) (by simp [maxLen]);obtain ⟨bn,rfl,ii,-,hT⟩:=id hN;replace bW:=bW.up hT;replace e4:=e4.up hT;replace e7:=e7.up hT;replace hm:=hT.cell (by simp) hm;replace hS:=hS.trans hT.mn;have ng:=Xh m9 hT.size;clear hT hN nf m9 hy hz;refine Z2G rfl trivial (vs:=[(0,.I 6),(2,str (cur l i2).text),(3,.slice (some ⟨bn,0,none⟩) 2 2)]) rfl (Ztc _ _ _ _) rfl ?_;refine ZO rfl trivial (Zj (us:=ndC (.mk 6 0 (cur l i2).text [y,z]) (.slice (some ⟨bn,0,none⟩) 2 2)) rfl rfl rfl rfl (ZG aq) e7 rfl) rfl ?_;rintro _ w12 ⟨hT,e7'⟩;have gT:∀ S:List Nat,S=[b7]->∀ c∈S,w.heap.size<=c:=λS hS c hc=>by subst hS;simp at hc;subst hc;exact qA
           replace e4:=e4.ext hT (by simpa using n74.symm);replace bW:Pd w12 b tv l i3 o3:=by
            obtain ⟨g1,g2,g3,g4,g5⟩:=bW;have cI:=hS.own hT (λc hc=>.inr (gT _ rfl c hc));exact ⟨g1.ext hT (by simpa using n7b.symm),aX.ext cI (λc hc=>hc) (λc hc=>.inl hc),g3,g4,g5⟩
           replace aq:=aq.ext (X':=b7 :: b4 :: X) hT (λc hc=>by simp at hc;simp [hc]) (λc hc=>.inl hc);replace hm:=hT.cell (by simpa using n71.symm) hm;replace hS:=hS.own hT (λc hc=>.inr (gT _ rfl c hc));have cY:=Xh ng hT.size;clear hT ng;refine D ?_;by_cases k5:k=5;subst k5;refine W ?_;refine CL (Z0M b tv l i3 o3 _ bW) ?_;rintro _ w13 ⟨rfl,hT⟩;replace bW:=bW.up hT;replace e4:=e4.up hT;replace e7':=e7'.up hT;replace aq:=aq.up hT;replace hm:=hT.cell (by simp) hm;replace hS:=hS.trans hT.mn;replace cY:=Xh cY hT.size;clear hT;refine W ?_;refine CL (Zc9 (cur l i3).text m _ hm (hL.tl i3) (hL.sp i3)) ?_;rintro _ w14 ⟨rfl,hT⟩;replace bW:=bW.up hT;replace e4:=e4.up hT;replace e7':=e7'.up hT;replace aq:=aq.up hT;replace hm:=hT.cell (by simp) hm;replace hS:=hS.trans hT.mn;replace cY:=Xh cY hT.size;clear hT;by_cases hu:(cur l i3).text∈Z4S;rw [if_pos ⟨rfl,hu⟩] at h;rw [decide_eq_true hu];have fB:=hL.end_of bW.i_lt (λe=>Z9D (e ▸ hu));refine W ?_;refine CL (Z0M b tv l i3 o3 _ bW) ?_;rintro _ w15 ⟨rfl,hT⟩;replace bW:=bW.up hT;replace e4:=e4.up hT;replace e7':=e7'.up hT;replace aq:=aq.up hT;replace hm:=hT.cell (by simp) hm;replace hS:=hS.trans hT.mn;replace cY:=Xh cY hT.size;clear hT;refine W ?_;refine Z6 (Zb (u:=.I 7) rfl rfl rfl rfl e7' (by simp)) ?_;rintro _ w16 ⟨hT,e7''⟩;refine W ?_;refine Z6 (Zb (u:=str (cur l i3).text) rfl rfl rfl rfl e7'' (by simp)) ?_;rintro _ w17 ⟨ni,e7q⟩;replace hT:=hT.trans ni;replace e7q:Blk w17 b7 97 (ndC (.mk 7 0 (cur l i3).text [y,z]) (.slice (some ⟨bn,0,none⟩) 2 2)):=e7q;clear ni e7' e7'';replace e4:=e4.ext hT (by simpa using n74.symm);replace bW:Pd w17 b tv l i3 o3:=by
            obtain ⟨g1,g2,g3,g4,g5⟩:=bW;have cI:=hS.own hT (λc hc=>.inr (gT _ rfl c hc));exact ⟨g1.ext hT (by simpa using n7b.symm),aX.ext cI (λc hc=>hc) (λc hc=>.inl hc),g3,g4,g5⟩
           replace aq:=aq.ext (X':=b7 :: b4 :: X) hT (λc hc=>by simp at hc;simp [hc]) (λc hc=>.inl hc);replace hm:=hT.cell (by simpa using n71.symm) hm;replace hS:=hS.own hT (λc hc=>.inr (gT _ rfl c hc));replace cY:=Xh cY hT.size;clear hT;refine W ?_
           refine Ju (σ:=Unit) (λ_=>[(0,pQ b),(1,.I (5:Int)),(4,pQ b4),(7,pQ b7)])
            (λ_ w'=>Blk w' b7 97 (ndC (.mk (if (cur l i2).text=[45] then 8 else 7) 0 (cur l i3).text [y,z]) (.slice (some ⟨bn,0,none⟩) 2 2))/\Stp [b7] w17 w') ?_ ?_
           by_cases jw:(cur l i2).text=[45]
           rw [if_pos jw]
           (refine QP ?_ ?_<;>intro hc)
           refine S1 (u:=.I 8) e7q ?_;rintro _ w18 ⟨hT,e8⟩;refine W ?_;exact QT () ⟨e8,hT⟩;exact absurd jw (by assumption);rw [if_neg jw]
           (refine QP ?_ ?_<;>intro hc)
           exact absurd (by assumption) jw;exact QT () ⟨e7q,Stp.refl _ _⟩;rintro _ w18 ⟨e8,hT⟩;replace e4:=e4.ext hT (by simpa using n74.symm);replace bW:Pd w18 b tv l i3 o3:=by
            obtain ⟨g1,g2,g3,g4,g5⟩:=bW;have cI:=hS.own hT (λc hc=>.inr (gT _ rfl c hc));exact ⟨g1.ext hT (by simpa using n7b.symm),aX.ext cI (λc hc=>hc) (λc hc=>.inl hc),g3,g4,g5⟩
           replace aq:=aq.ext (X':=b7 :: b4 :: X) hT (λc hc=>by simp at hc;simp [hc]) (λc hc=>.inl hc);replace hm:=hT.cell (by simpa using n71.symm) hm;replace hS:=hS.own hT (λc hc=>.inr (gT _ rfl c hc));replace cY:=Xh cY hT.size;clear hT e7q;obtain ⟨dj,bP,gR,cr,ft⟩:=id bW;refine W ?_;refine Z6 (Zb (u:=.I ((i3+1:Nat):Int)) rfl (by show some _=some _;simp) rfl rfl dj (by simp)) ?_;rintro _ w19 ⟨hT,dp⟩;replace bP:=bP.ext (X':=[b]) hT (λc hc=>hc) (λc hc=>.inl hc);replace e4:=e4.ext hT (by simpa using n4);replace e8:=e8.ext hT (by simpa using n7b);replace aq:=aq.ext (X':=b7 :: b4 :: X) hT (λc hc=>by simp at hc;subst hc;simp [bT]) (λc hc=>.inl hc);replace hm:=Jy hm aY hT;replace hS:=hS.trans hT;replace cY:=Xh cY hT.size;refine W ?_;exact Zx (f1,.mk (if (cur l i2).text=[45] then 8 else 7) 0 (cur l i3).text [y,z],.slice (some ⟨bn,0,none⟩) 2 2,i3+1,o3) ⟨rfl,rfl,rfl,rfl,trivial⟩ ⟨h,by omega,⟨dp,bP,fB,cr,ft⟩,e8,aq,⟨_,rfl,e4⟩,hm,hS,cY⟩ (by omega);rw [if_neg (λh=>hu h.2),if_neg (by omega)] at h;rw [decide_eq_false hu];refine W ?_;exact Zx (f1,.mk 6 0 (cur l i2).text [y,z],.slice (some ⟨bn,0,none⟩) 2 2,i3,o3) ⟨rfl,rfl,rfl,rfl,trivial⟩ ⟨h,by omega,bW,e7',aq,⟨_,rfl,e4⟩,hm,hS,cY⟩ (by omega);rw [if_neg (λh=>k5 h.1)] at h;by_cases k4:k=4;rw [if_pos k4] at h;subst k4;simp only [XH] at h;subst h;have e7:=e7';replace hp:=bW
           skip
           refine W ?_;refine SB (us:=ndC (.mk 6 0 (cur l i2).text [y,z]) (.slice (some ⟨bn,0,none⟩) 2 2)) (ZG aq) e4 ?_;rintro _ wz ⟨hT,e4'⟩;refine W ?_;refine J6 rfl rfl rfl e4' rfl ?_;obtain ⟨dj,bP,gR,cr,ft⟩:=id hp;have cI:=hS.own hT (λc hc=>by simp at hc;subst hc;exact .inr ju);refine PC.ok ⟨_,rfl,?_⟩ ⟨dj.ext hT (by simpa using n4.symm),aX.ext cI (λc hc=>hc) (λc hc=>.inl hc),gR,cr,ft⟩ cI;exact (aq.ext (X':=b7 :: b4 :: X) hT (λc hc=>by simp at hc;simp [hc]) (λc hc=>.inl hc)).wk (λc hc=>by simp [hc]);rw [if_neg k4] at h;refine QO ?_;exact Zx (f1,.mk 6 0 (cur l i2).text [y,z],.slice (some ⟨bn,0,none⟩) 2 2,i3,o3) ⟨rfl,rfl,rfl,rfl,trivial⟩ ⟨h,by omega,bW,e7',aq,⟨_,rfl,e4⟩,hm,hS,cY⟩ (by omega)
     rw [if_neg kR] at h;simp only [XH] at h;subst h;refine QO ?_
     skip
     refine W ?_;refine SB (us:=ndC y ky) (ZG hy) e4 ?_;rintro _ wz ⟨hT,e4'⟩;refine W ?_;refine J6 rfl rfl rfl e4' rfl ?_;obtain ⟨dj,bP,gR,cr,ft⟩:=id hp;have cI:=hS.own hT (λc hc=>by simp at hc;subst hc;exact .inr ju);refine PC.ok ⟨_,rfl,?_⟩ ⟨dj.ext hT (by simpa using n4.symm),aX.ext cI (λc hc=>hc) (λc hc=>.inl hc),gR,cr,ft⟩ cI;exact (hy.ext (X':=b7 :: b4 :: X) hT (λc hc=>by simp at hc;simp [hc]) (λc hc=>.inl hc)).wk (λc hc=>by simp [hc])
end Go.Proofs.YtipfkbkkndacjaaGreatDoor
namespace Go.Eng
open Go Go.RowKit Go.Proofs
end Go.Eng
namespace Go.Proofs.YtipfkbkkndacjaaGreatDoor
open Go Go.Eng Go.RowKit Go.Proofs
theorem J0 {α:Type} [Z5 α] (X:List Nat) (w:World):SlV (α:=α) X w (.N) []:=⟨none,0,rfl,Xn _,by simp [maxLen],λ_=>rfl,λi hi=>absurd hi (Xs _)⟩
theorem Zga:([]:Str)∉Z4T:=by decide
theorem ZaM (k n:Int) (w):(Instr.build 97 #[(0,.I k),(1,.I n)]).run Tryz.prog w=.ok (.agg #[.I k,.I n,str [],.N]) w:=by kernel_rfl
theorem Zn7 (k:Int) (s:Str) (w):(Instr.build 97 #[(0,.I k),(2,str s)]).run Tryz.prog w=.ok (.agg #[.I k,.I 0,str s,.N]) w:=by kernel_rfl
theorem ZdX:ZaK.length<=1000000:=by decide
theorem Zgb:Zf0.length<=1000000:=by decide
theorem Z8i:([]:Str)∉Z37:=by decide
theorem Zwx (f:Nat) (IH:ZjC f) (l:List Tkn) (hL:Z3P l) (m:Int) (i o:Nat) (r:Out Nd) (h:Ja l (f+1) .prim i o=some r) (X:List Nat) (b:Nat) (tv:Value) (w:World) (aY:b≠2) (bT:b∈X) (hX:∀ c∈X,c<w.heap.size) (hm:w.cell? ⟨2,0,none⟩=some (.I m)) (hp:Pd w b tv l i o) :
 Calls Tryz.prog 279 #[pQ b] w (PC b w tv l r (λx v w'=>NdV X w' v x)):=by
 have aX:=hp.2.1;have hi:=hp.i_lt;have jx:=Z6x hi;rw [Ja] at h;refine cW1 91 Tryz.func279 ?_;refine W ?_;refine Z0 Z2 rfl ?_;rintro _ w0 ⟨b2,rfl,cu,e2,hS⟩;have n2:b2≠b:=by have:=hp.lt;omega
 have fU:w.heap.size<=b2:=cu;obtain ⟨dj,bP,gR,cr,ft⟩:=id hp;replace dj:=dj.up hS;replace bP:=bP.up hS;replace hm:=hS.cell (by simp) hm;refine W ?_;refine ZDr 12 [] [11] [(0,0),(1,0),(2,0),(3,1),(4,0),(5,0),(6,0),(7,1),(8,0),(9,1),(10,2),(11,2)] (λw1 ae=>?_);replace dj:=dj.up ae;replace bP:=bP.up ae;replace e2:=e2.up ae;replace hm:=ae.cell (by simp) hm;replace hS:=hS.trans ae;clear ae;refine D ?_;refine Za rfl trivial Z2 (λ_ _ ⟨_,_,_,_,h⟩=>h) rfl ?_;rintro _ w2 ⟨b3,rfl,dG,e3,ah⟩;have n3:b3≠b:=by have:=dj.lt;omega
 have n32:b3≠b2:=by have:=e2.lt;omega
 have n31:b3≠2:=by have:=block_lt_of_cell hm;simp at this;omega
 have eN:w.heap.size<=b3:=Xh hS.size dG;refine ZO rfl trivial (Zj (us:=Z3.enc l[i]) rfl rfl rfl rfl (Z3.one _) e3 rfl) rfl ?_;rintro _ w3 ⟨hT,e3⟩;have dK:=ah.ow hT;clear hT ah;replace dj:=dj.up dK;replace bP:=bP.up dK;replace e2:=e2.up dK;replace hm:=dK.cell (by simp) hm;replace hS:=hS.trans dK;clear dK dG;refine D ?_;rw [<- jx] at e3;clear hp;have hp:Pd w3 b tv l i o:=⟨dj,bP,gR,cr,ft⟩
 have fin:∀ (nd:Nd) (i' o':Nat) (w4 w5:World) (kv:Value),nd.kids=[]->kv=.N->Pd w4 b tv l i' o'->Stp [b] w w4->Stp [b2] w4 w5->PC b w tv l (.ok nd i' o') (λx v w'=>NdV X w' v x) (.returned (.agg (ndC nd kv).toArray)) w5:=by
  intro nd i' o' w4 w5 kv hk vo eX h1 h2;subst vo;obtain ⟨g1,g2,g3,g4,g5⟩:=eX;have cI:=h1.own h2 (λc hc=>by simp at hc;subst hc;exact .inr fU);refine PC.ok ⟨_,rfl,?_⟩ ⟨g1.ext h2 (by simpa using n2.symm),aX.ext cI (λc hc=>hc) (λc hc=>.inl hc),g3,g4,g5⟩ cI;rw [hk];exact J0 _ _
 by_cases c1:(cur l i).kind=2
 . rw [if_pos c1] at h
   simp only [XH] at h;subst h;refine QO ?_;all_goals try exact absurd c1 (by assumption)
   obtain ⟨dj,bP,gR,cr,ft⟩:=id hp;have bO:=hL.end_of_kind hp.i_lt (by rw [c1];decide);refine W ?_;refine Z6 (Zb (u:=.I ((i+1:Nat):Int)) rfl (by show some _=some _;simp) rfl rfl dj (by simp)) ?_;rintro _ w4 ⟨hT,dp⟩;replace bP:=bP.ext (X':=[b]) hT (λc hc=>hc) (λc hc=>.inl hc);replace e2:=e2.ext hT (by simpa using n2);replace e3:=e3.ext hT (by simpa using n3);replace hS:=(hS.mono (S':=[b]) (by simp)).trans hT;replace hp:Pd w4 b tv l (i+1) o:=⟨dp,bP,bO,cr,ft⟩
   clear hT dp dj bP;refine W ?_;apply Z7 (vs:=[(0,.I 1),(1,.I (cur l i).num)]) rfl (ZaM _ _) rfl;refine SB (us:=ndC (.mk 1 (cur l i).num [] []) (.N)) (ZG (x:=(.mk 1 (cur l i).num [] [])) (J0 [] w)) e2 ?_;rintro _ w5 ⟨hT,e2'⟩;refine W ?_;refine J6 rfl rfl rfl e2' rfl ?_;exact fin _ _ _ _ _ _ rfl rfl hp hS hT
 rw [if_neg c1] at h;by_cases c2:(cur l i).kind=3
 . rw [if_pos c2] at h
   simp only [XH] at h;subst h;refine QO ?_;all_goals try exact absurd (by assumption) c1
   all_goals try exact absurd c2 (by assumption)
   obtain ⟨dj,bP,gR,cr,ft⟩:=id hp;have bO:=hL.end_of_kind hp.i_lt (by rw [c2];decide);refine W ?_;refine Z6 (Zb (u:=.I ((i+1:Nat):Int)) rfl (by show some _=some _;simp) rfl rfl dj (by simp)) ?_;rintro _ w4 ⟨hT,dp⟩;replace bP:=bP.ext (X':=[b]) hT (λc hc=>hc) (λc hc=>.inl hc);replace e2:=e2.ext hT (by simpa using n2);replace e3:=e3.ext hT (by simpa using n3);replace hS:=(hS.mono (S':=[b]) (by simp)).trans hT;replace hp:Pd w4 b tv l (i+1) o:=⟨dp,bP,bO,cr,ft⟩
   clear hT dp dj bP;refine W ?_;apply Z7 (vs:=[(0,.I 3),(1,.I (cur l i).num)]) rfl (ZaM _ _) rfl;refine SB (us:=ndC (.mk 3 (cur l i).num [] []) (.N)) (ZG (x:=(.mk 3 (cur l i).num [] [])) (J0 [] w)) e2 ?_;rintro _ w5 ⟨hT,e2'⟩;refine W ?_;refine J6 rfl rfl rfl e2' rfl ?_;exact fin _ _ _ _ _ _ rfl rfl hp hS hT
 rw [if_neg c2] at h;refine QO ?_;all_goals try exact absurd (by assumption) c1
 all_goals try exact absurd (by assumption) c2
 refine CM (Zd rfl rfl) (Z3V b tv l [116,114,117,101] i o _ hp (λh=>hL.end_of hp.i_lt (by rw [h];decide))) ?_;rintro _ w4 ⟨rfl,eX,hT⟩;replace e2:=e2.ext hT (by simpa using n2);replace e3:=e3.ext hT (by simpa using n3);replace hm:=Jy hm aY hT;replace hS:=(hS.mono (S':=[b]) (by simp)).trans hT;clear hT hp;have c3:¬ (cur l i).text=[116,114,117,101]:=λh=>hL.plain i (by rw [h];decide)
 rw [if_neg c3] at h eX;rw [decide_eq_false c3];refine W ?_;refine CM (Zd rfl rfl) (Z3V b tv l [102,97,108,115,101] i o _ eX (λh=>hL.end_of eX.i_lt (by rw [h];decide))) ?_;rintro _ w5 ⟨rfl,gU,hT⟩;replace e2:=e2.ext hT (by simpa using n2);replace e3:=e3.ext hT (by simpa using n3);replace hm:=Jy hm aY hT;replace hS:=hS.trans hT;clear hT eX;have c4:¬ (cur l i).text=[102,97,108,115,101]:=λh=>hL.plain i (by rw [h];decide)
 rw [if_neg c4] at h gU;rw [decide_eq_false c4];have hp:=gU;clear gU;have c5:¬ (cur l i).text=[40]:=λh=>hL.plain i (by rw [h];decide)
 rw [if_neg c5] at h;have c6:¬ (cur l i).text=[105,102]:=λh=>hL.plain i (by rw [h];decide)
 rw [if_neg c6] at h;repeat'(first|refine W1 ?_|omega|refine VG ?_ ?_<;>intro hg|refine VC ?_ ?_<;>intro hc)
 all_goals try exact absurd (by assumption) c5
 all_goals try exact absurd (by assumption) c6
 refine CL (Z3e Zf0 Z4T Zga (cur l i).text m _ hm Zgb (hL.tl i) (λh=>ZjB h (hL.sp i))) ?_;rintro _ w6 ⟨rfl,hT⟩;replace hp:=hp.up hT;replace e2:=e2.up hT;replace e3:=e3.up hT;replace hm:=hT.cell (by simp) hm;replace hS:=hS.trans hT.mn;clear hT;have c7:¬ ((cur l i).text∈Z4T):=λh=>hL.plain i (Xf.2 (.inr h));rw [if_neg c7] at h;rw [decide_eq_false c7];refine W ?_;refine CL (Z3e ZaK Z37 Z8i (cur l i).text m _ hm ZdX (hL.tl i) (λh=>Zg7 h (hL.sp i))) ?_;rintro _ w7 ⟨rfl,hT⟩;replace hp:=hp.up hT;replace e2:=e2.up hT;replace e3:=e3.up hT;replace hm:=hT.cell (by simp) hm;replace hS:=hS.trans hT.mn;clear hT;by_cases c8:(cur l i).text∈Z37;rw [if_pos c8] at h;simp only [XH] at h;subst h;rw [decide_eq_true c8];obtain ⟨dj,bP,gR,cr,ft⟩:=id hp;have bO:=hL.end_of hp.i_lt (λe=>Z8i (e ▸ c8));refine W ?_;refine Z6 (Zb (u:=.I ((i+1:Nat):Int)) rfl (by show some _=some _;simp) rfl rfl dj (by simp)) ?_;rintro _ w8 ⟨hT,dp⟩;replace bP:=bP.ext (X':=[b]) hT (λc hc=>hc) (λc hc=>.inl hc);replace e2:=e2.ext hT (by simpa using n2);replace e3:=e3.ext hT (by simpa using n3);replace hS:=hS.trans hT;replace hp:Pd w8 b tv l (i+1) o:=⟨dp,bP,bO,cr,ft⟩
 clear hT dp dj bP;refine W ?_;apply Z7 (vs:=[(0,.I 4),(2,str (cur l i).text)]) rfl (Zn7 _ _) rfl;refine SB (us:=ndC (.mk 4 0 (cur l i).text []) (.N)) (ZG (x:=(.mk 4 0 (cur l i).text [])) (J0 [] w)) e2 ?_;rintro _ w9 ⟨hT,e2'⟩;refine W ?_;refine J6 rfl rfl rfl e2' rfl ?_;exact fin _ _ _ _ _ _ rfl rfl hp hS hT;rw [if_neg c8] at h;simp only [XH] at h;subst h;rw [decide_eq_false c8];refine W ?_;refine ZX rfl (Zd rfl rfl) (Z9C b tv l i o 20 _ w hp hS) rfl ?_;intro wz bV;repeat'(first|refine Zi ?_|refine Zg ?_)
 refine ZH ?_;exact PC.fail bV
theorem Zwy {l:List Tkn} {m:Int} {i o:Nat} {r:Out Nd} (IH:∀ (X:List Nat) (b:Nat) (tv:Value) (w:World),b≠2->b∈X->(∀ c∈X,c<w.heap.size)->w.cell? ⟨2,0,none⟩=some (.I m)->Pd w b tv l i o->
 Calls Tryz.prog 279 #[pQ b] w (PC b w tv l r (λx v w'=>NdV X w' v x))) (X:List Nat) (b:Nat) (tv:Value) (w:World) (aY:b≠2) (bT:b∈X) (hX:∀ c∈X,c<w.heap.size) (hm:w.cell? ⟨2,0,none⟩=some (.I m)) (hp:Pd w b tv l i o) :
 Calls Tryz.prog 226 #[pQ b,.I ((8:Nat):Int)] w (PC b w tv l r (λx v w'=>NdV X w' v x)):=by
 have aX:=hp.2.1;refine cW2 98 Tryz.func226 ?_;refine W ?_;refine Z0 Z2 rfl ?_;rintro _ w1 ⟨b4,rfl,bE,e4,hS⟩;have n4:b4≠b:=by have:=hp.lt;omega
 have ju:w.heap.size<=b4:=bE;replace hm:=hS.cell (by simp) hm;replace hp:=hp.up hS;have l4:=e4.lt;have ik:∀ c∈b4 :: X,c<w1.heap.size:=λc hc=>by
  rcases Xb.1 hc with rfl|hc
  exact l4;have:=hX c hc;have:=hS.size;omega
 refine QO ?_;have bu:=IH (b4 :: X) b tv _ aY (by simp [bT]) ik hm hp;cases r with
 | err a c=>
   refine ZX rfl (ZR rfl) (PC.falls bu rfl hS.mn) rfl ?_;intro wz bV;repeat'(first|refine Zi ?_|refine Zg ?_)
   refine ZH ?_;exact PC.err bV
 | ok x i3 o3=>
   refine CL (PC.goes bu rfl) ?_;rintro _ wE ⟨⟨kx,rfl,hx⟩,qC,hT⟩;replace e4:=e4.ext hT (by simpa using n4);replace hS:=(hS.mono (S':=[b]) (by simp)).trans hT;clear hT hp;refine SB (us:=ndC x kx) (ZG hx) e4 ?_;rintro _ wz ⟨hT,e4'⟩;refine W ?_;refine J6 rfl rfl rfl e4' rfl ?_;obtain ⟨g1,g2,g3,g4,g5⟩:=qC;have cI:=hS.own hT (λc hc=>by simp at hc;subst hc;exact .inr ju);refine PC.ok ⟨_,rfl,?_⟩ ⟨g1.ext hT (by simpa using n4.symm),aX.ext cI (λc hc=>hc) (λc hc=>.inl hc),g3,g4,g5⟩ cI;exact (hx.ext (X':=b4 :: X) hT (λc hc=>by simp at hc;simp [hc]) (λc hc=>.inl hc)).wk (λc hc=>by simp [hc])
theorem Zgc:∀ f,ZjC f:=by
 intro f
 induction f using Nat.strongRecOn with
 | _ f ih=>
   intro l hL m c i o r h X b tv w aY bT hX hm hp;cases f with
   | zero=>simp [Ja] at h
   | succ f=>
     have IH:=ih f (XE f);cases c with
     | loop k x=>trivial
     | prim=>exact Zwx f IH l hL m i o r h X b tv w aY bT hX hm hp
     | expr k=>
       intro bH yc;rw [Ja] at h;split at h;rename_i bt;rcases bt with ⟨_,ht⟩|⟨_,ht⟩<;>exact absurd (by rw [ht];decide) (hL.plain i)
       rename_i bt;split at h;rename_i h8;subst h8;exact Zwy (IH l hL m .prim i o r h) X b tv w aY bT hX hm hp;exact Zww f (λf' tz=>ih f' (by omega)) l hL m k i o r bH (by omega) bt h X b tv w aY bT hX hm hp
theorem Z8j:Z1E [114,117,108,101,32,102,114,111,109,32,111,110,32,105,102,32,100,117,101,32,117,110,108,101,115,115,32,101,108,115,101,32,111,114,32,97,110,100,32,110,111,116,32,116,114,117,101,32,102,97,108,115,101,32,116,104,101,110,32,101,110,100,32,100,97,121,115,32,119,101,101,107,115,32,109,111,110,116,104,115,32,99,111,117,114,116,100,97,121,115,32,110,101,120,116,32,112,114,101,118,32,108,97,116,101,114,32,101,97,114,108,105,101,114,32,98,101,116,119,101,101,110,32,100,97,121,32,115,101,114,118,101,100,32,101,120,116,114,97,32,98,121,32,116,111,32,99,111,117,114,116,32,97,109,111,117,110,116]=ZaJ++Ze:=by decide +kernel
theorem ZaN (X:List Nat) (w:World) (hX:∀ b∈X,b<w.heap.size):CC 183 #[] w λr w'=>Row X w' w.heap.size 9 r (ZaJ++Ze)/\Stp [] w w':=by
 refine cW0 2 Tryz.func183 ?_;refine W ?_;refine CM (ZR rfl) (Z13 X [114,117,108,101,32,102,114,111,109,32,111,110,32,105,102,32,100,117,101,32,117,110,108,101,115,115,32,101,108,115,101,32,111,114,32,97,110,100,32,110,111,116,32,116,114,117,101,32,102,97,108,115,101,32,116,104,101,110,32,101,110,100,32,100,97,121,115,32,119,101,101,107,115,32,109,111,110,116,104,115,32,99,111,117,114,116,100,97,121,115,32,110,101,120,116,32,112,114,101,118,32,108,97,116,101,114,32,101,97,114,108,105,101,114,32,98,101,116,119,101,101,110,32,100,97,121,32,115,101,114,118,101,100,32,101,120,116,114,97,32,98,121,32,116,111,32,99,111,117,114,116,32,97,109,111,117,110,116] _ hX (by decide +kernel)) ?_;rintro v w1 ⟨hr,hS⟩;rw [Z8j] at hr;refine RT ?_;exact ⟨hr,hS⟩
theorem Z1p (s:Str) (w):CC 106 #[str s] w λr w'=>r=.B (ZE s)/\Stp [] w w':=by
 refine cW1 60 Tryz.func106 ?_;refine W ?_;by_cases h0:s.length≠0/\s.length<=12/\97<=Jg s 0/\Jg s 0<=122
 case neg=>
  have hn:ZE s=false:=by
   unfold ZE Z3U;rw [decide_eq_false (λh=>h0 ⟨by omega,h.2.1,h.2.2.1,h.2.2.2.1⟩)];rfl
  by_cases hl:s.length≠0
  (refine QP ?_ ?_<;>intro hg)
  refine RU ?_;exact ⟨by rw [hn],Stp.refl _ _⟩;refine Jb (i:=0) rfl rfl rfl (by omega) rfl ?_
  (refine QP ?_ ?_<;>intro hg)
  refine RU ?_;exact ⟨by rw [hn],Stp.refl _ _⟩;refine Jb (i:=0) rfl rfl rfl (by omega) rfl ?_;refine RT ?_;exact ⟨by rw [hn],Stp.refl _ _⟩;refine RT ?_;exact ⟨by rw [hn],Stp.refl _ _⟩
 obtain ⟨h1,h2,h3,h4⟩:=h0;refine QO ?_;refine Jb (i:=0) rfl rfl rfl (by omega) rfl ?_;refine QO ?_;refine Jb (i:=0) rfl rfl rfl (by omega) rfl ?_;refine QO ?_;refine LP (σ:=Nat) (λi=>[(0,str s),(3,.I (i:Int))]) (λi w'=>i<=s.length/\w'=w/\∀ j,j<i->Zjy (Jg s j)) (λi=>s.length - i) 0 ⟨Xq _,rfl,λj hj=>absurd hj (Xs _)⟩ ?_;rintro i w2 ⟨hi,rfl,aB⟩
 try dsimp only at hi aB ⊢
 by_cases hlt:¬ s.length<=i;by_cases cT:(97<=Jg s i/\Jg s i<=122)\/(48<=Jg s i/\Jg s i<=57)
 . have iF:∀ j,j<i+1->Zjy (Jg s j):=λj hj=>by
    by_cases e:j=i;subst e;exact cT;exact aB j (by omega)
   repeat'(first|refine W1 ?_|omega|refine VG ?_ ?_<;>intro hg|refine VC ?_ ?_<;>intro hc)
   all_goals exact QL (i+1) ⟨by omega,rfl,iF⟩ (by omega)
 . have hn:ZE s=false:=by
    unfold ZE Z3U;rw [decide_eq_false (λh=>cT (h.2.2.2.2 i (by omega)))];rfl
   repeat'(first|refine W1 ?_|omega|refine VG ?_ ?_<;>intro hg|refine VC ?_ ?_<;>intro hc)
   all_goals
    refine RU ?_;exact ⟨by rw [hn],Stp.refl _ _⟩
 obtain rfl:i=s.length:=by omega
 have aO:Z3U s=true:=decide_eq_true ⟨by omega,h2,h3,h4,aB⟩;refine QO ?_;refine CM Z6h (ZaN [] _ (by simp)) ?_;rintro rv w3 ⟨hr,hS⟩;refine W ?_;refine CL (Z0a [] rv _ s _ hr.slv0) ?_;rintro _ w4 ⟨rfl,aJ⟩;refine W ?_;refine WR ?_;refine .mk ⟨?_,hS.trans aJ⟩;unfold ZE;rw [aO,Bool.true_and];congr 1;refine decide_eq_decide.2 ?_;rw [<- Int.not_le,Zc6,Xf,not_or]
def Z20 (x:Nd) (want:Int):Int:=if ZA x<=12 then (if Zf x=0 then 21 else if Zf x=want then 0 else 21) else 2
theorem Zca (v:Value) (x:Nd) (want:Int) (w) (hx:NdV [] w v x) (hF:SlV [] w Z2e Ze):CC 168 #[v,.I want] w λr w'=>r=.I (Z20 x want)/\Stp [] w w':=by
 obtain ⟨kv,rfl,hs⟩:=hx;refine cW2 20 Tryz.func168 ?_;refine W ?_;refine Z0 (Zr rfl) rfl ?_;rintro _ w1 ⟨b,rfl,hb,ac,hS⟩;replace ac:Blk w1 b _ (ndC x kv):=ac;refine W ?_;refine CL (ZiX [] [] _ x _ ⟨kv,rfl,hs.up hS⟩ (hF.up hS)) ?_;rintro _ w2 ⟨rfl,ah⟩;replace hS:=hS.trans ah;unfold Z20;by_cases hn:ZA x<=12;rw [if_pos hn,if_pos hn,if_pos hn];by_cases ht:Zf x=0;rw [if_pos ht,if_pos ht];refine RT ?_;exact ⟨rfl,hS⟩;rw [if_neg ht,if_neg ht];by_cases hw:Zf x=want;rw [if_pos hw];refine RT ?_;exact ⟨rfl,hS⟩;rw [if_neg hw];refine RT ?_;exact ⟨rfl,hS⟩;rw [if_neg hn,if_neg hn,if_neg hn];refine RT ?_;exact ⟨rfl,hS⟩
structure Rul where
 name:Str
 frm:Int
 on:Str
 cnd:Nd
 due:Nd
 unl:Str
 els:Str
abbrev rlC (r:Rul) (ki kd:Value):List Value:=[str r.name,.I r.frm,str r.on,.I r.cnd.kind,.I r.cnd.num,str r.cnd.word,ki,.I r.due.kind,.I r.due.num,str r.due.word,kd,str r.unl,str r.els]
def Zgd (X:List Nat) (w:World) (v:Value) (r:Rul):Prop:=∃ ki kd,v=.agg (rlC r ki kd).toArray/\SlV X w ki r.cnd.kids/\SlV X w kd r.due.kids
def Jk (r:Rul):Bool:=ZE r.name && ZE r.on && (decide (r.unl=[]) || ZE r.unl) && (decide (r.els=[]) || ZE r.els)
def Z0V (r:Rul):Int:=if Jk r=false then 7 else if r.frm<0\/r.frm > 3652058 then 5 else if Z20 r.cnd 2≠0 then Z20 r.cnd 2 else Z20 r.due 3
theorem Z74 (v:Value) (r:Rul) (m:Int) (w) (hv:Zgd [] w v r) (hF:SlV [] w Z2e Ze) (hm:w.cell? ⟨2,0,none⟩=some (.I m)) :
 CC 92 #[v] w λr' w'=>r'=.I (Z0V r)/\Stp [] w w':=by
 obtain ⟨ki,kd,rfl,hi,hd⟩:=hv;refine cW1 55 Tryz.func92 ?_;refine W ?_;refine Z0 (Zr rfl) rfl ?_;rintro _ w1 ⟨b,rfl,hb,ac,hS⟩;replace ac:Blk w1 b _ (rlC r ki kd):=ac;refine W ?_;refine CM (ZR rfl) (Z2L r.name m _ (hF.up hS) (hS.cell (by simp) hm)) ?_;rintro _ w2 ⟨rfl,hT⟩;replace ac:=ac.up hT;replace hS:=hS.trans hT;clear hT;refine WL_cutQ (σ:=Bool) (λq=>[(1,pQ b),(2,.I 0),(4,.B q)]) (λq w'=>Blk w' b 99 (rlC r ki kd)/\Stp [] w w'/\q=!Jk r) ?_ ?_
 . cases hA:ZE r.name with
   | false=>
     refine W ?_;exact QT true ⟨ac,hS,by simp [Jk, *]⟩
   | true=>
     refine W ?_;refine CM (ZR rfl) (Z2L r.on m _ (hF.up hS) (hS.cell (by simp) hm)) ?_;rintro _ w2 ⟨rfl,hT⟩;replace ac:=ac.up hT;replace hS:=hS.trans hT;clear hT;cases hB:ZE r.on with
     | false=>
       refine W ?_;exact QT true ⟨ac,hS,by simp [Jk, *]⟩
     | true=>
       repeat'(first|refine W1 ?_|omega|refine VG ?_ ?_<;>intro hg|refine VC ?_ ?_<;>intro hc)
       . refine CM (ZR rfl) (Z2L r.unl m _ (hF.up hS) (hS.cell (by simp) hm)) ?_
         rintro _ w2 ⟨rfl,hT⟩;replace ac:=ac.up hT;replace hS:=hS.trans hT;clear hT;cases hC:ZE r.unl with
         | false=>
           refine W ?_;exact QT true ⟨ac,hS,by simp [Jk, *]⟩
         | true=>
           (refine QP ?_ ?_<;>intro hg)
           . refine CM (ZR rfl) (Z2L r.els m _ (hF.up hS) (hS.cell (by simp) hm)) ?_
             rintro _ w2 ⟨rfl,hT⟩;replace ac:=ac.up hT;replace hS:=hS.trans hT;clear hT;cases hD:ZE r.els with
             | false=>
               refine W ?_;exact QT true ⟨ac,hS,by simp [Jk, *]⟩
             | true=>
               refine W ?_;exact QT false ⟨ac,hS,by simp [Jk, *]⟩
           exact QT false ⟨ac,hS,by simp [Jk, *]⟩
       . refine CM (ZR rfl) (Z2L r.els m _ (hF.up hS) (hS.cell (by simp) hm)) ?_
         rintro _ w2 ⟨rfl,hT⟩;replace ac:=ac.up hT;replace hS:=hS.trans hT;clear hT;cases hD:ZE r.els with
         | false=>
           refine W ?_;exact QT true ⟨ac,hS,by simp [Jk, *]⟩
         | true=>
           refine W ?_;exact QT false ⟨ac,hS,by simp [Jk, *]⟩
       exact QT false ⟨ac,hS,by simp [Jk, *]⟩
 rintro q w3 ⟨ac,hS,hq⟩
 try dsimp only at hq ⊢
 unfold Z0V;cases fK:Jk r with
 | false=>
   rw [fK] at hq;subst hq;refine RT ?_;exact ⟨rfl,hS⟩
 | true=>
   rw [fK] at hq;subst hq;refine W ?_;by_cases hr:r.frm<0\/r.frm > 3652058
   . repeat'(first|refine W1 ?_|omega|refine VG ?_ ?_<;>intro hg|refine VC ?_ ?_<;>intro hc)
     all_goals
      refine RU ?_;exact ⟨by rw [if_neg (by decide),if_pos hr],hS⟩
   refine QO ?_;apply Z8 (Zl (us:=ndC r.cnd ki) rfl rfl ac rfl rfl) rfl;refine W ?_;refine CL (Zca _ r.cnd 2 _ ⟨ki,rfl,hi.up hS⟩ (hF.up hS)) ?_;rintro _ w4 ⟨rfl,hT⟩;replace ac:=ac.up hT;replace hS:=hS.trans hT;clear hT;by_cases h2:Z20 r.cnd 2=0;refine QO ?_;apply Z8 (Zl (us:=ndC r.due kd) rfl rfl ac rfl rfl) rfl;refine W ?_;refine CL (Zca _ r.due 3 _ ⟨kd,rfl,hd.up hS⟩ (hF.up hS)) ?_;rintro _ w5 ⟨rfl,hT⟩;refine RT ?_;exact ⟨by rw [if_neg (by decide),if_neg hr,if_neg (by simpa using h2)],hS.trans hT⟩;refine RT ?_;exact ⟨by rw [if_neg (by decide),if_neg hr,if_pos h2],hS⟩
end Go.Proofs.YtipfkbkkndacjaaGreatDoor
namespace Go.Eng
open Go Go.RowKit Go.Proofs
section
variable {P:Program} {n:Nat} {Q:Exit->Act->World->Prop} {e:Env} {w:World} {ops:Array Oper} {rest:List Oper} {ty:TypeId} {pos:String} {af:Array Edge}
theorem Zcb {d:Option Nat} {g:Option (Nat×Bool)} {f:Nat} {fn:Func} {xs:Array Operand} {ts:Array TypeId} {vs bd cap us:Array Value} {G:Value->World->Prop} {c:Operand} [hf:Fun P f fn] (hc:ev e c=some (.func (.func f) bd cap))
 (hv:∀ a,Has n e a->xs.map a.eval=vs) (hu:bd++vs++cap=us) (h:Calls P f us w (Ret G)) :
 OE P n ⟨d,.call { callee:=.value c,args:=xs,argTypes:=ts },ty,pos,af,g⟩ e w G:=
 ⟨λa ha Q => by
   have he:(execOp a.eval ⟨d,.call { callee:=.value c,args:=xs,argTypes:=ts },ty,pos,af,g⟩).run P w=.ok (.enter f us) w:=by
    simp only [execOp,resolve,ha.ev hc,Deferred.ofValue,hv a ha];simp [invoke];rw [<- Array.append_assoc,hu];exact hf.enters us w
   unfold Oper.wp;rw [he];simp only [Oper.upon];refine h.mono ?_;rintro r w' ⟨v,rfl,hg⟩;exact ⟨v,rfl,hg⟩⟩
theorem Z9E {d:Nat} {f:Nat} {fn:Func} {xs:Array Operand} {ts:Array TypeId} {vs bd cap us:Array Value} {c:Operand} {ch:List PanicEntry} {F:World->Prop} [hf:Fun P f fn]
 (hc:ev e c=some (.func (.func f) bd cap)) (hv:∀ a,Has n e a->xs.map a.eval=vs) (hu:bd++vs++cap=us) (h:Calls P f us w (λe w'=>e=.panicked ch/\F w')) (hd:Nat.blt d n=true) (k:∀ w',F w'->WQ n Q (.panic ch) [] w') :
 WL P n ops Q (⟨some d,.call { callee:=.value c,args:=xs,argTypes:=ts },ty,pos,af,none⟩ :: rest) e w:=
 ZaC (G:=λ_ _=>False) (F:=λch' w'=>ch'=ch/\F w') (ZfU hc hv hu (h.mono λe w' ⟨h1,h2⟩=>by rw [h1];exact .pan ⟨rfl,h2⟩)) hd (λch' w' ⟨h1,h2⟩=>by subst h1;exact Z9t (k w' h2)) (λ_ _ h=>h.elim)
theorem Z0N {d:Option Nat} {g:Option (Nat×Bool)} {f:Nat} {x:Operand} {v:Value} (hx:ev e x=some v):PR P n ⟨d,.makeFunc (.func f) #[x] #[],ty,pos,af,g⟩ e w (.func (.func f) #[v] #[]):=
 ⟨λa ha=>by simp [execOp,Instr.makeFunc,ha.ev hx]⟩
end
end Go.Eng
namespace Go.Proofs.YtipfkbkkndacjaaGreatDoor
open Go Go.Eng Go.RowKit Go.Proofs
def _root_.Go.Eng.RuleM.rul (r:RuleM):Rul:=⟨r.name,r.frm,r.on,r.cond,r.due,r.unl,r.els⟩
instance:Z5 Rul where
 k:=13
 rep:=λX w r cs=>∃ ki kd,cs=rlC r ki kd/\SlV X w ki r.cnd.kids/\SlV X w kd r.due.kids
 len:=by rintro X w r cs ⟨ki,kd,rfl,_⟩;rfl
 one:=by
  rintro X w r cs ⟨ki,kd,rfl,h1,h2⟩ c hc;have e1:=h1.one;have e2:=h2.one;simp only [rlC,Xb,Xj,or_false] at hc;rcases hc with rfl|rfl|rfl|rfl|rfl|rfl|rfl|rfl|rfl|rfl|rfl|rfl|rfl<;>first|rfl|exact e1|exact e2
 ext:=by
  rintro X S X' w w' r cs ⟨ki,kd,rfl,h1,h2⟩ hS g1 g2;exact ⟨ki,kd,rfl,h1.ext hS g1 g2,h2.ext hS g1 g2⟩
theorem Zox (r:Rul) {X Y:List Nat} {w w':World} {ki kd:Value} (h1:SlV X w ki r.cnd.kids) (h2:SlV Y w' kd r.due.kids):∀ c∈rlC r ki kd,c.oneCell'=true:=by
 intro c hc;have e1:=h1.one;have e2:=h2.one;simp only [rlC,Xb,Xj,or_false] at hc;rcases hc with rfl|rfl|rfl|rfl|rfl|rfl|rfl|rfl|rfl|rfl|rfl|rfl|rfl<;>first|rfl|exact e1|exact e2
theorem Zge (X:List Nat) (b:Nat) (tv:Value) (l:List Tkn) (hL:Z3P l) (m:Int) (i o:Nat) (w:World) (aY:b≠2) (bT:b∈X) (hX:∀ c∈X,c<w.heap.size) (hm:w.cell? ⟨2,0,none⟩=some (.I m)) (hp:Pd w b tv l i o) :
 Calls Tryz.prog 166 #[pQ b] w (PC b w tv l (Z1X l i o) (λx v w'=>NdV X w' v x)):=by
 have aX:=hp.2.1;have hE:=Z9w l i o;generalize Z1X l i o=r at *;refine cW1 5 Tryz.func166 ?_;refine W ?_;refine Z0 Z2 rfl ?_;rintro _ w1 ⟨b2,rfl,cu,e2,hS⟩;have n2:b2≠b:=by have:=hp.lt;omega
 have fU:w.heap.size<=b2:=cu;replace hm:=hS.cell (by simp) hm;replace hp:=hp.up hS;have l2:=e2.lt;have ik:∀ c∈b2 :: X,c<w1.heap.size:=λc hc=>by
  rcases Xb.1 hc with rfl|hc
  exact l2;have:=hX c hc;have:=hS.size;omega
 refine W ?_;have bu:=Zgc _ l hL m (.expr 1) i o r hE (b2 :: X) b tv _ aY (by simp [bT]) ik hm hp (by omega) (by omega);cases r with
 | err a c=>
   refine ZX rfl (Zd rfl rfl) (PC.falls bu rfl hS.mn) rfl ?_;intro wz bV;repeat'(first|refine Zi ?_|refine Zg ?_)
   refine ZH ?_;exact PC.err bV
 | ok x i3 o3=>
   refine CL (PC.goes bu rfl) ?_;rintro _ wE ⟨⟨kx,rfl,hx⟩,qC,hT⟩;replace e2:=e2.ext hT (by simpa using n2);replace hS:=(hS.mono (S':=[b]) (by simp)).trans hT;clear hT hp;refine SB (us:=ndC x kx) (ZG hx) e2 ?_;rintro _ wz ⟨hT,e2'⟩;refine W ?_;refine J6 rfl rfl rfl e2' rfl ?_;obtain ⟨g1,g2,g3,g4,g5⟩:=qC;have cI:=hS.own hT (λc hc=>by simp at hc;subst hc;exact .inr fU);refine PC.ok ⟨_,rfl,?_⟩ ⟨g1.ext hT (by simpa using n2.symm),aX.ext cI (λc hc=>hc) (λc hc=>.inl hc),g3,g4,g5⟩ cI;exact (hx.ext (X':=b2 :: X) hT (λc hc=>by simp at hc;simp [hc]) (λc hc=>.inl hc)).wk (λc hc=>by simp [hc])
theorem Z1O (b:Nat) (tv:Value) (l:List Tkn) (hL:Z3P l) (wd:Str) (qD:wd≠[]) (m:Int) (i o:Nat) (w:World) (aY:b≠2) (hm:w.cell? ⟨2,0,none⟩=some (.I m)) (hp:Pd w b tv l i o) :
 Calls Tryz.prog 164 #[pQ b,str wd,.func (.func 161) #[pQ b] #[]] w (PC b w tv l (Z1B l wd [] (Z2m l) i o) (λs v _=>v=str s)):=by
 unfold Z1B;refine cW3 19 Tryz.func164 ?_;refine W ?_;refine CM (Zd rfl rfl) (Z3V b tv l wd i o _ hp (λh=>hL.end_of hp.i_lt (by rw [h];exact qD))) ?_;rintro _ w4 ⟨rfl,eX,hS⟩;replace hm:=Jy hm aY hS;by_cases c3:(cur l i).text=wd;rw [if_pos c3] at eX ⊢;rw [decide_eq_true c3];refine W ?_;rcases hN:Z2m l (i+1) o with ⟨a,c⟩|⟨s,i1,o1⟩
 refine Z9E rfl Z6h rfl (PC.falls (Z5J b tv l hL _ _ m _ hm eX) hN hS) rfl ?_;intro wz bV;focus repeat'(first|refine Zi ?_|refine Zg ?_)
 refine ZH ?_;exact PC.err bV;refine Z0 (Zcb rfl Z6h rfl (PC.goes (Z5J b tv l hL _ _ m _ hm eX) hN)) rfl ?_;rintro _ w5 ⟨rfl,gU,hT⟩;replace hS:=hS.trans hT;refine W ?_;simp only [Out.bind];rcases hU:Z0K l [59] i1 o1 with ⟨a,c⟩|⟨u,i2,o2⟩
 refine ZX rfl (Zd rfl rfl) (PC.falls (JP b tv l hL _ (by decide) i1 o1 _ gU) hU hS) rfl ?_;intro wz bV;focus repeat'(first|refine Zi ?_|refine Zg ?_)
 refine ZH ?_;exact PC.err bV;refine CM (Zd rfl rfl) (PC.goes (JP b tv l hL _ (by decide) i1 o1 _ gU) hU) ?_;rintro _ w6 ⟨rfl,qE,hT⟩;replace hS:=hS.trans hT;refine W ?_;refine WR ?_;exact PC.ok rfl qE hS;rw [if_neg c3] at eX ⊢;rw [decide_eq_false c3];refine W ?_;refine WR ?_;exact PC.ok rfl eX hS
theorem Z4v (X:List Nat) (b:Nat) (tv:Value) (l:List Tkn) (hL:Z3P l) (wd:Str) (qD:wd≠[]) (m:Int) (i o:Nat) (w:World) (aY:b≠2) (bT:b∈X) (hX:∀ c∈X,c<w.heap.size) (hm:w.cell? ⟨2,0,none⟩=some (.I m)) (hp:Pd w b tv l i o) :
 Calls Tryz.prog 165 #[pQ b,str wd,.func (.func 166) #[pQ b] #[]] w (PC b w tv l (Z1B l wd JU (Z1X l) i o) (λx v w'=>NdV X w' v x)):=by
 have aX:=hp.2.1;unfold Z1B;refine cW3 19 Tryz.func165 ?_;refine W ?_;refine Z0 Z2 rfl ?_;rintro _ w1 ⟨b6,rfl,eh,e6,hS⟩;have n6:b6≠b:=by have:=hp.lt;omega
 have kY:w.heap.size<=b6:=eh;refine W ?_;refine Z0 Z2 rfl ?_;rintro _ w2 ⟨b7,rfl,fk,e7,hT⟩;have n7:b7≠b:=by have:=hp.lt;have:=hS.size;omega
 have n76:b7≠b6:=by have:=e6.lt;omega
 replace e6:=e6.up hT;replace hS:=hS.trans hT;clear hT;replace hm:=hS.cell (by simp) hm;replace hp:=hp.up hS;refine W ?_;refine CM (Zd rfl rfl) (Z3V b tv l wd i o _ hp (λh=>hL.end_of hp.i_lt (by rw [h];exact qD))) ?_;rintro _ w4 ⟨rfl,eX,hT⟩;replace hm:=Jy hm aY hT;replace e6:=e6.ext hT (by simpa using n6);replace e7:=e7.ext hT (by simpa using n7);replace hS:=(hS.mono (S':=[b]) (by simp)).trans hT;clear hT hp;by_cases c3:(cur l i).text=wd;rw [if_pos c3] at eX ⊢;rw [decide_eq_true c3];refine W ?_;have l6:=e6.lt;have qF:∀ c∈b6 :: X,c<w4.heap.size:=λc hc=>by
  rcases Xb.1 hc with rfl|hc
  exact l6;have:=hX c hc;have:=hS.size;omega
 have bu:=Zge (b6 :: X) b tv l hL m (i+1) o w4 aY (by simp [bT]) qF hm eX;rcases hN:Z1X l (i+1) o with ⟨a,c⟩|⟨x,i1,o1⟩
 refine Z9E rfl Z6h rfl (PC.falls bu hN hS) rfl ?_;intro wz bV;focus repeat'(first|refine Zi ?_|refine Zg ?_)
 refine ZH ?_;exact PC.err bV;refine Z0 (Zcb rfl Z6h rfl (PC.goes bu hN)) rfl ?_;rintro _ w5 ⟨⟨kx,rfl,hx⟩,gU,hT⟩;replace e6:=e6.ext hT (by simpa using n6);replace hS:=hS.trans hT;have tu:∀ c∈b6 :: X,c<w5.heap.size:=λc hc=>Xa (qF c hc) hT.size;clear hT eX qF l6 bu;refine Z0 Z2 rfl ?_;rintro _ w6 ⟨b8,rfl,eO,e8,hT⟩;have n86:b8≠b6:=by have:=e6.lt;omega
 have n8:b8≠b:=by have:=gU.lt;omega
 refine SB (us:=ndC x kx) (ZG hx) e8 ?_;rintro _ w7 ⟨ar,e8'⟩;replace hT:=hT.ow ar;clear ar e8;replace gU:=gU.up hT;replace e6:=e6.up hT;replace hx:=hx.up hT;replace hS:=hS.trans hT.mn;clear hT;refine W ?_;simp only [Out.bind];rcases hU:Z0K l [59] i1 o1 with ⟨a,c⟩|⟨u,i2,o2⟩
 refine ZX rfl (Zd rfl rfl) (PC.falls (JP b tv l hL _ (by decide) i1 o1 _ gU) hU hS) rfl ?_;intro wz bV;focus repeat'(first|refine Zi ?_|refine Zg ?_)
 refine ZH ?_;exact PC.err bV;refine CM (Zd rfl rfl) (PC.goes (JP b tv l hL _ (by decide) i1 o1 _ gU) hU) ?_;rintro _ w8 ⟨rfl,qE,hT⟩;replace e6:=e6.ext hT (by simpa using n6);replace e8':=e8'.ext hT (by simpa using n8);replace hx:=hx.ext (X':=b6 :: X) hT (λc hc=>by simp at hc;subst hc;simp [bT]) (λc hc=>.inl hc);replace hS:=hS.trans hT;clear hT gU;refine W ?_;refine SB (us:=ndC x kx) (ZG hx) e6 ?_;rintro _ wz ⟨hT,e6'⟩;refine W ?_;refine J6 rfl rfl rfl e6' rfl ?_;obtain ⟨g1,g2,g3,g4,g5⟩:=qE;have cI:=hS.own hT (λc hc=>by simp at hc;subst hc;exact .inr kY);refine PC.ok ⟨_,rfl,?_⟩ ⟨g1.ext hT (by simpa using n6.symm),aX.ext cI (λc hc=>hc) (λc hc=>.inl hc),g3,g4,g5⟩ cI;exact (hx.ext (X':=b6 :: X) hT (λc hc=>by simp at hc;simp [hc]) (λc hc=>.inl hc)).wk (λc hc=>by simp [hc]);rw [if_neg c3] at eX ⊢;rw [decide_eq_false c3];refine W ?_;refine SB (us:=ndC JU (.N)) (ZG (x:=JU) (J0 [] w)) e6 ?_;rintro _ wz ⟨hT,e6'⟩;refine W ?_;refine J6 rfl rfl rfl e6' rfl ?_;obtain ⟨g1,g2,g3,g4,g5⟩:=eX;have cI:=hS.own hT (λc hc=>by simp at hc;subst hc;exact .inr kY);refine PC.ok ⟨_,rfl,?_⟩ ⟨g1.ext hT (by simpa using n6.symm),aX.ext cI (λc hc=>hc) (λc hc=>.inl hc),g3,g4,g5⟩ cI;exact J0 _ _
theorem Zn8 (s:Str) (w):(Instr.build 99 #[(0,str s)]).run Tryz.prog w=.ok (.agg (rlC ⟨s,0,[],JU,JU,[],[]⟩ (.N) (.N)).toArray) w:=by kernel_rfl
theorem ZjD (X:List Nat) (b:Nat) (tv:Value) (l:List Tkn) (hL:Z3P l) (m:Int) (i o:Nat) (w:World) (aY:b≠2) (bT:b∈X) (hX:∀ c∈X,c<w.heap.size) (hm:w.cell? ⟨2,0,none⟩=some (.I m)) (hp:Pd w b tv l i o) :
 Calls Tryz.prog 91 #[pQ b] w (PC b w tv l (Z9u l i o) (λr v w'=>Zgd X w' v r.rul)):=by
 have aX:=hp.2.1;unfold Z9u;refine cW1 61 Tryz.func91 ?_;refine W ?_;refine Z0 Z2 rfl ?_;rintro _ w1 ⟨b2,rfl,cu,e2,hS⟩;have n2:b2≠b:=by have:=hp.lt;omega
 have fU:w.heap.size<=b2:=cu;replace hm:=hS.cell (by simp) hm;replace hp:=hp.up hS;replace hS:=hS.mono (S':=[b]) (by simp);refine W ?_;rcases hU:Z0K l [114,117,108,101] i o with ⟨a,c⟩|⟨u1,i1,o1⟩
 refine ZX rfl (Zd rfl rfl) (PC.falls (JP b tv l hL [114,117,108,101] (by decide) i o _ hp) hU hS) rfl ?_;intro wz bV;focus repeat'(first|refine Zi ?_|refine Zg ?_)
 refine ZH ?_;exact PC.err bV;refine CM (Zd rfl rfl) (PC.goes (JP b tv l hL [114,117,108,101] (by decide) i o _ hp) hU) ?_;rintro _ wn1 ⟨rfl,cM,hT⟩;replace hm:=Jy hm aY hT;replace e2:=e2.ext hT (by simpa using n2);replace hS:=hS.trans hT;clear hT hp;have hp:=cM;clear cM hU;refine W ?_;simp only [Out.bind];rcases hU:Z2m l i1 o1 with ⟨a,c⟩|⟨u2,i2,o2⟩
 refine ZX rfl (ZR rfl) (PC.falls (Z5J b tv l hL i1 o1 m _ hm hp) hU hS) rfl ?_;intro wz bV;focus repeat'(first|refine Zi ?_|refine Zg ?_)
 refine ZH ?_;exact PC.err bV;refine CL (PC.goes (Z5J b tv l hL i1 o1 m _ hm hp) hU) ?_;rintro _ wn2 ⟨rfl,cM,hT⟩;replace hm:=Jy hm aY hT;replace e2:=e2.ext hT (by simpa using n2);replace hS:=hS.trans hT;clear hT hp;have hp:=cM;clear cM hU;apply Z7 (vs:=[(0,str u2)]) rfl (Zn8 _) rfl;refine Z0 Z2 rfl ?_;rintro _ wa ⟨b3,rfl,dG,e3,hT⟩;have n32:b3≠b2:=by have:=e2.lt;omega
 have n3:b3≠b:=by have:=hp.lt;omega
 have n31:b3≠2:=by have:=block_lt_of_cell hm;simp at this;omega
 have eN:w.heap.size<=b3:=Xh hS.size dG;refine SB (us:=rlC ⟨u2,0,[],JU,JU,[],[]⟩ (.N) (.N)) (Zox ⟨u2,0,[],JU,JU,[],[]⟩ (J0 [] w) (J0 [] w)) e3 ?_;rintro _ wb ⟨ar,e3'⟩;replace hT:=hT.ow ar;clear ar e3;have e3:=e3';clear e3';replace hp:=hp.up hT;replace e2:=e2.up hT;replace hm:=hT.cell (by simp) hm;replace hS:=hS.trans hT.mn;clear hT;have bX:∀ c∈b3 :: b2 :: X,c<wb.heap.size:=λc hc=>by
  rcases Xb.1 hc with rfl|hc
  exact e3.lt;rcases Xb.1 hc with rfl|hc
  exact e2.lt;have:=hX c hc;have:=hS.size;omega
 have cC:SlV (α:=Nd) (b3 :: b2 :: X) wb (.N) JU.kids:=J0 _ _;have ck:SlV (α:=Nd) (b3 :: b2 :: X) wb (.N) JU.kids:=J0 _ _;refine W ?_;simp only;rcases hU:Z0K l [102,114,111,109] i2 o2 with ⟨a,c⟩|⟨u3,i3,o3⟩
 refine ZX rfl (Zd rfl rfl) (PC.falls (JP b tv l hL [102,114,111,109] (by decide) i2 o2 _ hp) hU hS) rfl ?_;intro wz bV;focus repeat'(first|refine Zi ?_|refine Zg ?_)
 refine ZH ?_;exact PC.err bV;refine CM (Zd rfl rfl) (PC.goes (JP b tv l hL [102,114,111,109] (by decide) i2 o2 _ hp) hU) ?_;rintro _ wn3 ⟨rfl,cM,hT⟩;replace hm:=Jy hm aY hT;replace e2:=e2.ext hT (by simpa using n2);replace e3:=e3.ext hT (by simpa using n3);replace cC:=cC.ext (X':=b3 :: b2 :: X) hT (λc hc=>by simp at hc;subst hc;simp [bT]) (λc hc=>.inl hc);replace ck:=ck.ext (X':=b3 :: b2 :: X) hT (λc hc=>by simp at hc;subst hc;simp [bT]) (λc hc=>.inl hc);replace hS:=hS.trans hT;replace bX:=λc hc=>Xa (bX c hc) hT.size;clear hT hp;have hp:=cM;clear cM hU;refine W ?_;simp only;rcases hU:Z36 l 3 i3 o3 with ⟨a,c⟩|⟨u4,i4,o4⟩
 refine ZX rfl (Zd rfl rfl) (PC.falls (Z4u b tv l hL 3 (by decide) i3 o3 _ hp) hU hS) rfl ?_;intro wz bV;focus repeat'(first|refine Zi ?_|refine Zg ?_)
 refine ZH ?_;exact PC.err bV;refine CM (Zd rfl rfl) (PC.goes (Z4u b tv l hL 3 (by decide) i3 o3 _ hp) hU) ?_;rintro _ wn4 ⟨rfl,cM,hT⟩;replace hm:=Jy hm aY hT;replace e2:=e2.ext hT (by simpa using n2);replace e3:=e3.ext hT (by simpa using n3);replace cC:=cC.ext (X':=b3 :: b2 :: X) hT (λc hc=>by simp at hc;subst hc;simp [bT]) (λc hc=>.inl hc);replace ck:=ck.ext (X':=b3 :: b2 :: X) hT (λc hc=>by simp at hc;subst hc;simp [bT]) (λc hc=>.inl hc);replace hS:=hS.trans hT;replace bX:=λc hc=>Xa (bX c hc) hT.size;clear hT hp;have hp:=cM;clear cM hU;refine Z8 (ZbY rfl (Ztb _)) rfl ?_;refine W ?_;refine S1 (u:=.I u4.num) e3 ?_;rintro _ ws4 ⟨hT,e3'⟩;replace e3:Blk ws4 b3 99 (rlC ⟨u2,u4.num,[],JU,JU,[],[]⟩ (.N) (.N)):=e3';clear e3';replace e2:=e2.ext hT (by simpa using n32.symm);replace hm:=hT.cell (by simpa using n31.symm) hm;replace hS:=hS.own hT (λc hc=>by simp at hc;subst hc;exact .inr eN);replace hp:Pd ws4 b tv l i4 o4:=by
  obtain ⟨g1,g2,g3,g4,g5⟩:=hp;exact ⟨g1.ext hT (by simpa using n3.symm),aX.ext hS (λc hc=>hc) (λc hc=>.inl hc),g3,g4,g5⟩
 replace bX:=λc hc=>Xa (bX c hc) hT.size;replace cC:=cC.ext (X':=b3 :: b2 :: X) hT (λc hc=>by simp at hc;simp [hc]) (λc hc=>.inl hc);replace ck:=ck.ext (X':=b3 :: b2 :: X) hT (λc hc=>by simp at hc;simp [hc]) (λc hc=>.inl hc);refine W ?_;simp only;rcases hU:Z0K l [123] i4 o4 with ⟨a,c⟩|⟨u5,i5,o5⟩
 refine ZX rfl (Zd rfl rfl) (PC.falls (JP b tv l hL [123] (by decide) i4 o4 _ hp) hU hS) rfl ?_;intro wz bV;focus repeat'(first|refine Zi ?_|refine Zg ?_)
 refine ZH ?_;exact PC.err bV;refine CM (Zd rfl rfl) (PC.goes (JP b tv l hL [123] (by decide) i4 o4 _ hp) hU) ?_;rintro _ wn5 ⟨rfl,cM,hT⟩;replace hm:=Jy hm aY hT;replace e2:=e2.ext hT (by simpa using n2);replace e3:=e3.ext hT (by simpa using n3);replace cC:=cC.ext (X':=b3 :: b2 :: X) hT (λc hc=>by simp at hc;subst hc;simp [bT]) (λc hc=>.inl hc);replace ck:=ck.ext (X':=b3 :: b2 :: X) hT (λc hc=>by simp at hc;subst hc;simp [bT]) (λc hc=>.inl hc);replace hS:=hS.trans hT;replace bX:=λc hc=>Xa (bX c hc) hT.size;clear hT hp;have hp:=cM;clear cM hU;refine W ?_;refine CL (Z0M b tv l i5 o5 _ hp) ?_;rintro _ wx5 ⟨rfl,hT⟩;replace hp:=hp.up hT;replace e2:=e2.up hT;replace e3:=e3.up hT;replace cC:=cC.up hT;replace ck:=ck.up hT;replace hm:=hT.cell (by simp) hm;replace hS:=hS.trans hT.mn;replace bX:=λc hc=>Xa (bX c hc) hT.size;clear hT;simp only;by_cases jy:(cur l i5).text=[111,110]
 rotate_left
 . rw [if_neg jy]
   (refine QP ?_ ?_<;>intro hc)
   refine ZX rfl (Zd rfl rfl) (Z9C b tv l i5 o5 20 _ w hp hS) rfl ?_;intro wz bV;focus repeat'(first|refine Zi ?_|refine Zg ?_)
   refine ZH ?_;exact PC.fail bV;all_goals exact absurd jy (by assumption)
 rw [if_pos jy]
 (refine QP ?_ ?_<;>intro hc)
 exact absurd jy (by assumption);refine Z8 (Z0N rfl) rfl ?_;rcases hU:Z1B l [111,110] [] (Z2m l) i5 o5 with ⟨a,c⟩|⟨u6,i6,o6⟩
 refine ZX rfl (ZN rfl rfl rfl) (PC.falls (Z1O b tv l hL [111,110] (by decide) m i5 o5 _ aY hm hp) hU hS) rfl ?_;intro wz bV;focus repeat'(first|refine Zi ?_|refine Zg ?_)
 refine ZH ?_;exact PC.err bV;refine CM (ZN rfl rfl rfl) (PC.goes (Z1O b tv l hL [111,110] (by decide) m i5 o5 _ aY hm hp) hU) ?_;rintro _ wn6 ⟨rfl,cM,hT⟩;replace hm:=Jy hm aY hT;replace e2:=e2.ext hT (by simpa using n2);replace e3:=e3.ext hT (by simpa using n3);replace cC:=cC.ext (X':=b3 :: b2 :: X) hT (λc hc=>by simp at hc;subst hc;simp [bT]) (λc hc=>.inl hc);replace ck:=ck.ext (X':=b3 :: b2 :: X) hT (λc hc=>by simp at hc;subst hc;simp [bT]) (λc hc=>.inl hc);replace hS:=hS.trans hT;replace bX:=λc hc=>Xa (bX c hc) hT.size;clear hT hp;have hp:=cM;clear cM hU;refine W ?_;refine S1 (u:=str u6) e3 ?_;rintro _ ws6 ⟨hT,e3'⟩;replace e3:Blk ws6 b3 99 (rlC ⟨u2,u4.num,u6,JU,JU,[],[]⟩ (.N) (.N)):=e3';clear e3';replace e2:=e2.ext hT (by simpa using n32.symm);replace hm:=hT.cell (by simpa using n31.symm) hm;replace hS:=hS.own hT (λc hc=>by simp at hc;subst hc;exact .inr eN);replace hp:Pd ws6 b tv l i6 o6:=by
  obtain ⟨g1,g2,g3,g4,g5⟩:=hp;exact ⟨g1.ext hT (by simpa using n3.symm),aX.ext hS (λc hc=>hc) (λc hc=>.inl hc),g3,g4,g5⟩
 replace bX:=λc hc=>Xa (bX c hc) hT.size;replace cC:=cC.ext (X':=b3 :: b2 :: X) hT (λc hc=>by simp at hc;simp [hc]) (λc hc=>.inl hc);replace ck:=ck.ext (X':=b3 :: b2 :: X) hT (λc hc=>by simp at hc;simp [hc]) (λc hc=>.inl hc);refine W ?_;refine Z8 (Z0N rfl) rfl ?_;simp only;rcases hU:Z1B l [105,102] JU (Z1X l) i6 o6 with ⟨a,c⟩|⟨u7,i7,o7⟩
 refine ZX rfl (ZN rfl rfl rfl) (PC.falls (Z4v (b3 :: b2 :: X) b tv l hL [105,102] (by decide) m i6 o6 _ aY (by simp [bT]) bX hm hp) hU hS) rfl ?_;intro wz bV;focus repeat'(first|refine Zi ?_|refine Zg ?_)
 refine ZH ?_;exact PC.err bV;refine CM (ZN rfl rfl rfl) (PC.goes (Z4v (b3 :: b2 :: X) b tv l hL [105,102] (by decide) m i6 o6 _ aY (by simp [bT]) bX hm hp) hU) ?_;rintro _ wn7 ⟨⟨kx7,rfl,nj⟩,cM,hT⟩;replace hm:=Jy hm aY hT;replace e2:=e2.ext hT (by simpa using n2);replace e3:=e3.ext hT (by simpa using n3);replace cC:=cC.ext (X':=b3 :: b2 :: X) hT (λc hc=>by simp at hc;subst hc;simp [bT]) (λc hc=>.inl hc);replace ck:=ck.ext (X':=b3 :: b2 :: X) hT (λc hc=>by simp at hc;subst hc;simp [bT]) (λc hc=>.inl hc);replace hS:=hS.trans hT;replace bX:=λc hc=>Xa (bX c hc) hT.size;clear hT hp;have hp:=cM;clear cM hU;refine W ?_;refine Z6 (Z18 (us:=ndC u7 kx7) rfl rfl rfl rfl (ZG nj) e3 (by simp)) ?_;rintro _ ws7 ⟨hT,e3'⟩;replace e3:Blk ws7 b3 99 (rlC ⟨u2,u4.num,u6,u7,JU,[],[]⟩ kx7 (.N)):=e3';clear e3';replace e2:=e2.ext hT (by simpa using n32.symm);replace hm:=hT.cell (by simpa using n31.symm) hm;replace hS:=hS.own hT (λc hc=>by simp at hc;subst hc;exact .inr eN);replace hp:Pd ws7 b tv l i7 o7:=by
  obtain ⟨g1,g2,g3,g4,g5⟩:=hp;exact ⟨g1.ext hT (by simpa using n3.symm),aX.ext hS (λc hc=>hc) (λc hc=>.inl hc),g3,g4,g5⟩
 replace bX:=λc hc=>Xa (bX c hc) hT.size;replace nj:=nj.ext (X':=b3 :: b2 :: X) hT (λc hc=>by simp at hc;simp [hc]) (λc hc=>.inl hc);replace ck:=ck.ext (X':=b3 :: b2 :: X) hT (λc hc=>by simp at hc;simp [hc]) (λc hc=>.inl hc);clear hT cC;refine W ?_
 refine Ju (σ:=Value) (λ_=>[(0,pQ b),(2,pQ b2),(3,pQ b3)])
  (λq w'=>Blk w' b3 99 (rlC ⟨u2,u4.num,u6,if u7.kind=0 then .mk 2 1 [] [] else u7,JU,[],[]⟩ q (.N))/\SlV (b3 :: b2 :: X) w' q (if u7.kind=0 then Nd.mk 2 1 [] [] else u7).kids/\Stp [b3] ws7 w') ?_ ?_
 by_cases k0:u7.kind=0
 . rw [if_pos k0]
   (refine QP ?_ ?_<;>intro hc)
   all_goals try exact absurd k0 (by assumption)
   apply Z7 (vs:=[(0,.I 2),(1,.I 1)]) rfl (ZaM _ _) rfl;refine W ?_;refine Z6 (Z18 (us:=ndC (.mk 2 1 [] []) (.N)) rfl rfl rfl rfl (ZG (x:=.mk 2 1 [] []) (J0 [] w)) e3 (by simp)) ?_;rintro _ wy ⟨hT,e3'⟩;refine W ?_;exact QT (.N) ⟨e3',J0 _ _,hT⟩
 . rw [if_neg k0]
   (refine QP ?_ ?_<;>intro hc)
   all_goals try exact absurd (by assumption) k0
   exact QT kx7 ⟨e3,nj,Stp.refl _ _⟩
 clear e3 nj;generalize qG:(if u7.kind=0 then Nd.mk 2 1 [] [] else u7)=cnd;rintro ki ws7 ⟨e3,cC,hT⟩;replace e2:=e2.ext hT (by simpa using n32.symm);replace hm:=hT.cell (by simpa using n31.symm) hm;replace hS:=hS.own hT (λc hc=>by simp at hc;subst hc;exact .inr eN);replace hp:Pd ws7 b tv l i7 o7:=by
  obtain ⟨g1,g2,g3,g4,g5⟩:=hp;exact ⟨g1.ext hT (by simpa using n3.symm),aX.ext hS (λc hc=>hc) (λc hc=>.inl hc),g3,g4,g5⟩
 replace bX:=λc hc=>Xa (bX c hc) hT.size;replace ck:=ck.ext (X':=b3 :: b2 :: X) hT (λc hc=>by simp at hc;simp [hc]) (λc hc=>.inl hc);clear hT;refine W ?_;refine CL (Z0M b tv l i7 o7 _ hp) ?_;rintro _ wx7 ⟨rfl,hT⟩;replace hp:=hp.up hT;replace e2:=e2.up hT;replace e3:=e3.up hT;replace cC:=cC.up hT;replace ck:=ck.up hT;replace hm:=hT.cell (by simp) hm;replace hS:=hS.trans hT.mn;replace bX:=λc hc=>Xa (bX c hc) hT.size;clear hT;simp only;by_cases jz:(cur l i7).text=[100,117,101]
 rotate_left
 . rw [if_neg jz]
   (refine QP ?_ ?_<;>intro hc)
   refine ZX rfl (Zd rfl rfl) (Z9C b tv l i7 o7 20 _ w hp hS) rfl ?_;intro wz bV;focus repeat'(first|refine Zi ?_|refine Zg ?_)
   refine ZH ?_;exact PC.fail bV;all_goals exact absurd jz (by assumption)
 rw [if_pos jz]
 (refine QP ?_ ?_<;>intro hc)
 exact absurd jz (by assumption);refine Z8 (Z0N rfl) rfl ?_;rcases hU:Z1B l [100,117,101] JU (Z1X l) i7 o7 with ⟨a,c⟩|⟨u8,i8,o8⟩
 refine ZX rfl (ZN rfl rfl rfl) (PC.falls (Z4v (b3 :: b2 :: X) b tv l hL [100,117,101] (by decide) m i7 o7 _ aY (by simp [bT]) bX hm hp) hU hS) rfl ?_;intro wz bV;focus repeat'(first|refine Zi ?_|refine Zg ?_)
 refine ZH ?_;exact PC.err bV;refine CM (ZN rfl rfl rfl) (PC.goes (Z4v (b3 :: b2 :: X) b tv l hL [100,117,101] (by decide) m i7 o7 _ aY (by simp [bT]) bX hm hp) hU) ?_;rintro _ wn8 ⟨⟨kx8,rfl,qH⟩,cM,hT⟩;replace hm:=Jy hm aY hT;replace e2:=e2.ext hT (by simpa using n2);replace e3:=e3.ext hT (by simpa using n3);replace cC:=cC.ext (X':=b3 :: b2 :: X) hT (λc hc=>by simp at hc;subst hc;simp [bT]) (λc hc=>.inl hc);replace ck:=ck.ext (X':=b3 :: b2 :: X) hT (λc hc=>by simp at hc;subst hc;simp [bT]) (λc hc=>.inl hc);replace hS:=hS.trans hT;replace bX:=λc hc=>Xa (bX c hc) hT.size;clear hT hp;have hp:=cM;clear cM hU;refine W ?_;refine Z6 (Z18 (us:=ndC u8 kx8) rfl rfl rfl rfl (ZG qH) e3 (by simp)) ?_;rintro _ ws8 ⟨hT,e3'⟩;replace e3:Blk ws8 b3 99 (rlC ⟨u2,u4.num,u6,cnd,u8,[],[]⟩ ki kx8):=e3';clear e3';replace e2:=e2.ext hT (by simpa using n32.symm);replace hm:=hT.cell (by simpa using n31.symm) hm;replace hS:=hS.own hT (λc hc=>by simp at hc;subst hc;exact .inr eN);replace hp:Pd ws8 b tv l i8 o8:=by
  obtain ⟨g1,g2,g3,g4,g5⟩:=hp;exact ⟨g1.ext hT (by simpa using n3.symm),aX.ext hS (λc hc=>hc) (λc hc=>.inl hc),g3,g4,g5⟩
 replace bX:=λc hc=>Xa (bX c hc) hT.size;clear ck;have ck:=qH.ext (X':=b3 :: b2 :: X) hT (λc hc=>by simp at hc;simp [hc]) (λc hc=>.inl hc);replace cC:=cC.ext (X':=b3 :: b2 :: X) hT (λc hc=>by simp at hc;simp [hc]) (λc hc=>.inl hc);clear hT qH;refine W ?_;refine Z8 (Z0N rfl) rfl ?_;simp only;rcases hU:Z1B l [117,110,108,101,115,115] [] (Z2m l) i8 o8 with ⟨a,c⟩|⟨u9,i9,o9⟩
 refine ZX rfl (ZN rfl rfl rfl) (PC.falls (Z1O b tv l hL [117,110,108,101,115,115] (by decide) m i8 o8 _ aY hm hp) hU hS) rfl ?_;intro wz bV;focus repeat'(first|refine Zi ?_|refine Zg ?_)
 refine ZH ?_;exact PC.err bV;refine CM (ZN rfl rfl rfl) (PC.goes (Z1O b tv l hL [117,110,108,101,115,115] (by decide) m i8 o8 _ aY hm hp) hU) ?_;rintro _ wn9 ⟨rfl,cM,hT⟩;replace hm:=Jy hm aY hT;replace e2:=e2.ext hT (by simpa using n2);replace e3:=e3.ext hT (by simpa using n3);replace cC:=cC.ext (X':=b3 :: b2 :: X) hT (λc hc=>by simp at hc;subst hc;simp [bT]) (λc hc=>.inl hc);replace ck:=ck.ext (X':=b3 :: b2 :: X) hT (λc hc=>by simp at hc;subst hc;simp [bT]) (λc hc=>.inl hc);replace hS:=hS.trans hT;replace bX:=λc hc=>Xa (bX c hc) hT.size;clear hT hp;have hp:=cM;clear cM hU;refine W ?_;refine S1 (u:=str u9) e3 ?_;rintro _ ws9 ⟨hT,e3'⟩;replace e3:Blk ws9 b3 99 (rlC ⟨u2,u4.num,u6,cnd,u8,u9,[]⟩ ki kx8):=e3';clear e3';replace e2:=e2.ext hT (by simpa using n32.symm);replace hm:=hT.cell (by simpa using n31.symm) hm;replace hS:=hS.own hT (λc hc=>by simp at hc;subst hc;exact .inr eN);replace hp:Pd ws9 b tv l i9 o9:=by
  obtain ⟨g1,g2,g3,g4,g5⟩:=hp;exact ⟨g1.ext hT (by simpa using n3.symm),aX.ext hS (λc hc=>hc) (λc hc=>.inl hc),g3,g4,g5⟩
 replace bX:=λc hc=>Xa (bX c hc) hT.size;replace cC:=cC.ext (X':=b3 :: b2 :: X) hT (λc hc=>by simp at hc;simp [hc]) (λc hc=>.inl hc);replace ck:=ck.ext (X':=b3 :: b2 :: X) hT (λc hc=>by simp at hc;simp [hc]) (λc hc=>.inl hc);refine W ?_;refine Z8 (Z0N rfl) rfl ?_;simp only;rcases hU:Z1B l [101,108,115,101] [] (Z2m l) i9 o9 with ⟨a,c⟩|⟨u10,i10,o10⟩
 refine ZX rfl (ZN rfl rfl rfl) (PC.falls (Z1O b tv l hL [101,108,115,101] (by decide) m i9 o9 _ aY hm hp) hU hS) rfl ?_;intro wz bV;focus repeat'(first|refine Zi ?_|refine Zg ?_)
 refine ZH ?_;exact PC.err bV;refine CM (ZN rfl rfl rfl) (PC.goes (Z1O b tv l hL [101,108,115,101] (by decide) m i9 o9 _ aY hm hp) hU) ?_;rintro _ wn10 ⟨rfl,cM,hT⟩;replace hm:=Jy hm aY hT;replace e2:=e2.ext hT (by simpa using n2);replace e3:=e3.ext hT (by simpa using n3);replace cC:=cC.ext (X':=b3 :: b2 :: X) hT (λc hc=>by simp at hc;subst hc;simp [bT]) (λc hc=>.inl hc);replace ck:=ck.ext (X':=b3 :: b2 :: X) hT (λc hc=>by simp at hc;subst hc;simp [bT]) (λc hc=>.inl hc);replace hS:=hS.trans hT;replace bX:=λc hc=>Xa (bX c hc) hT.size;clear hT hp;have hp:=cM;clear cM hU;refine W ?_;refine S1 (u:=str u10) e3 ?_;rintro _ ws10 ⟨hT,e3'⟩;replace e3:Blk ws10 b3 99 (rlC ⟨u2,u4.num,u6,cnd,u8,u9,u10⟩ ki kx8):=e3';clear e3';replace e2:=e2.ext hT (by simpa using n32.symm);replace hm:=hT.cell (by simpa using n31.symm) hm;replace hS:=hS.own hT (λc hc=>by simp at hc;subst hc;exact .inr eN);replace hp:Pd ws10 b tv l i10 o10:=by
  obtain ⟨g1,g2,g3,g4,g5⟩:=hp;exact ⟨g1.ext hT (by simpa using n3.symm),aX.ext hS (λc hc=>hc) (λc hc=>.inl hc),g3,g4,g5⟩
 replace bX:=λc hc=>Xa (bX c hc) hT.size;replace cC:=cC.ext (X':=b3 :: b2 :: X) hT (λc hc=>by simp at hc;simp [hc]) (λc hc=>.inl hc);replace ck:=ck.ext (X':=b3 :: b2 :: X) hT (λc hc=>by simp at hc;simp [hc]) (λc hc=>.inl hc);refine W ?_;simp only;rcases hU:Z0K l [125] i10 o10 with ⟨a,c⟩|⟨u11,i11,o11⟩
 refine ZX rfl (Zd rfl rfl) (PC.falls (JP b tv l hL [125] (by decide) i10 o10 _ hp) hU hS) rfl ?_;intro wz bV;focus repeat'(first|refine Zi ?_|refine Zg ?_)
 refine ZH ?_;exact PC.err bV;refine CM (Zd rfl rfl) (PC.goes (JP b tv l hL [125] (by decide) i10 o10 _ hp) hU) ?_;rintro _ wn11 ⟨rfl,cM,hT⟩;replace hm:=Jy hm aY hT;replace e2:=e2.ext hT (by simpa using n2);replace e3:=e3.ext hT (by simpa using n3);replace cC:=cC.ext (X':=b3 :: b2 :: X) hT (λc hc=>by simp at hc;subst hc;simp [bT]) (λc hc=>.inl hc);replace ck:=ck.ext (X':=b3 :: b2 :: X) hT (λc hc=>by simp at hc;subst hc;simp [bT]) (λc hc=>.inl hc);replace hS:=hS.trans hT;replace bX:=λc hc=>Xa (bX c hc) hT.size;clear hT hp;have hp:=cM;clear cM hU;refine W ?_;simp only;refine SB (us:=rlC ⟨u2,u4.num,u6,cnd,u8,u9,u10⟩ ki kx8) (Zox ⟨u2,u4.num,u6,cnd,u8,u9,u10⟩ cC ck) e2 ?_;rintro _ wz ⟨hT,e2'⟩;refine W ?_;rw [qG];refine J6 rfl rfl rfl e2' rfl ?_;obtain ⟨g1,g2,g3,g4,g5⟩:=hp;have cI:=hS.own hT (λc hc=>by simp at hc;subst hc;exact .inr fU);refine PC.ok ⟨ki,kx8,rfl,?_,?_⟩ ⟨g1.ext hT (by simpa using n2.symm),aX.ext cI (λc hc=>hc) (λc hc=>.inl hc),g3,g4,g5⟩ cI;exact (cC.ext (X':=b3 :: b2 :: X) hT (λc hc=>by simp at hc;simp [hc]) (λc hc=>.inl hc)).wk (λc hc=>by simp [hc]);exact (ck.ext (X':=b3 :: b2 :: X) hT (λc hc=>by simp at hc;simp [hc]) (λc hc=>.inl hc)).wk (λc hc=>by simp [hc])
end Go.Proofs.YtipfkbkkndacjaaGreatDoor
namespace Go.Eng
open Go Go.RowKit Go.Proofs
end Go.Eng
namespace Go.Proofs.YtipfkbkkndacjaaGreatDoor
open Go Go.Eng Go.RowKit Go.Proofs
theorem ZjE {X:List Nat} {w} {v:Value} {l:List Rul} {i:Nat} (h:SlV X w v l) (hi:i<l.length):∃ ki kd,SlV X w ki l[i].cnd.kids/\SlV X w kd l[i].due.kids/\∀ j u,(rlC l[i] ki kd)[j]?=some u->w.cell? (ZD v i 13 j)=some u:=by
 obtain ⟨cs,hr,hc⟩:=h.cell hi;obtain ⟨ki,kd,rfl,h1,h2⟩:=hr;exact ⟨ki,kd,h1,h2,hc⟩
theorem Z8k {P:Program} {n:Nat} {e:Env} {w} {d:Option Nat} {ty:TypeId} {pos:String} {af:Array Edge} {g:Option (Nat×Bool)} {X:List Nat} {v:Value} {l:List Rul} {i:Nat} {ki kd:Value} {x:Operand} {t:TypeId} {D:TypeDesc} [hu:Und P t D] (hA:Z0R D=true) [bG:Siz P t 13] (hx:ev e x=some (.pointer (some (ZD v i 13 0)))) (hs:SlV X w v l) (hi:i<l.length)
 (hc:∀ j u,(rlC l[i] ki kd)[j]?=some u->w.cell? (ZD v i 13 j)=some u) :
 PR P n ⟨d,.load t x,ty,pos,af,g⟩ e w (.agg (rlC l[i] ki kd).toArray):=by
 obtain ⟨p,l',c,rfl⟩:=hs.isSome hi;refine Z3z (cs:=rlC l[i] ki kd) hA hx rfl (λj u hu=>?_);have:=hc j u hu;simpa [ZD] using this
abbrev Z5K:Nd:=.mk 2 1 [] []
theorem ZdY (X:List Nat) (w):CC 103 #[] w λr w'=>NdV X w' r Z5K/\Stp [] w w':=by
 refine cW0 2 Tryz.func103 ?_;refine W ?_;refine Z0 Z2 rfl ?_;rintro _ w1 ⟨b,rfl,hb,ac,hS⟩;refine W ?_;apply Z7 (vs:=[(0,.I 2),(1,.I 1)]) rfl (Z3O _ _) rfl;have hy:SlV (α:=Nd) X w1 (.N) []:=Zn _ _;refine SB (us:=ndC Z5K (.N)) (ZG (x:=Z5K) hy) ac ?_;rintro _ w2 ⟨ah,aP⟩;have hT:=hS.ow ah;refine W ?_;refine J6 rfl rfl rfl aP rfl ?_;exact .mk ⟨⟨_,rfl,Zn _ _⟩,hT⟩
theorem ZdZ (v:Value) (r:Rul) (w) (hv:Zgd [] w v r) (h1:ZP r.cnd<=1000) (h2:ZP r.due<=1000) :
 CC 68 #[v] w λr' w'=>r'=.I (Z0V r)/\Stp [] w w':=by
 obtain ⟨ki,kd,rfl,hi,hd⟩:=hv;have oW:=Z0t r.cnd;have mg:=Z0t r.due;refine cW1 69 Tryz.func68 ?_;refine W ?_;refine Z0 (Zr rfl) rfl ?_;rintro _ w1 ⟨b,rfl,hb,ac,hS⟩;replace ac:Blk w1 b _ (rlC r ki kd):=ac;refine W ?_;refine CL (Z1p r.name _) ?_;rintro _ w2 ⟨rfl,hT⟩;replace ac:=ac.up hT;replace hS:=hS.trans hT;clear hT;refine WL_cutQ (σ:=Bool) (λq=>[(1,pQ b),(2,.I 0),(38,.B q)]) (λq w'=>Blk w' b 99 (rlC r ki kd)/\Stp [] w w'/\q=!Jk r) ?_ ?_
 . cases hA:ZE r.name with
   | false=>
     refine W ?_;exact QT true ⟨ac,hS,by simp [Jk, *]⟩
   | true=>
     refine W ?_;refine CL (Z1p r.on _) ?_;rintro _ w2 ⟨rfl,hT⟩;replace ac:=ac.up hT;replace hS:=hS.trans hT;clear hT;cases hB:ZE r.on with
     | false=>
       refine W ?_;exact QT true ⟨ac,hS,by simp [Jk, *]⟩
     | true=>
       repeat'(first|refine W1 ?_|omega|refine VG ?_ ?_<;>intro hg|refine VC ?_ ?_<;>intro hc)
       . refine CL (Z1p r.unl _) ?_
         rintro _ w2 ⟨rfl,hT⟩;replace ac:=ac.up hT;replace hS:=hS.trans hT;clear hT;cases hC:ZE r.unl with
         | false=>
           refine W ?_;exact QT true ⟨ac,hS,by simp [Jk, *]⟩
         | true=>
           (refine QP ?_ ?_<;>intro hg)
           . refine CL (Z1p r.els _) ?_
             rintro _ w2 ⟨rfl,hT⟩;replace ac:=ac.up hT;replace hS:=hS.trans hT;clear hT;cases hD:ZE r.els with
             | false=>
               refine W ?_;exact QT true ⟨ac,hS,by simp [Jk, *]⟩
             | true=>
               refine W ?_;exact QT false ⟨ac,hS,by simp [Jk, *]⟩
           exact QT false ⟨ac,hS,by simp [Jk, *]⟩
       . refine CL (Z1p r.els _) ?_
         rintro _ w2 ⟨rfl,hT⟩;replace ac:=ac.up hT;replace hS:=hS.trans hT;clear hT;cases hD:ZE r.els with
         | false=>
           refine W ?_;exact QT true ⟨ac,hS,by simp [Jk, *]⟩
         | true=>
           refine W ?_;exact QT false ⟨ac,hS,by simp [Jk, *]⟩
       exact QT false ⟨ac,hS,by simp [Jk, *]⟩
 rintro q w3 ⟨ac,hS,hq⟩
 try dsimp only at hq ⊢
 unfold Z0V;cases fK:Jk r with
 | false=>
   rw [fK] at hq;subst hq;refine RT ?_;exact ⟨rfl,hS⟩
 | true=>
   rw [fK] at hq;subst hq;rw [if_neg (by decide)];refine W ?_;by_cases hr:r.frm<0\/r.frm > 3652058
   . rw [if_pos hr]
     repeat'(first|refine W1 ?_|omega|refine VG ?_ ?_<;>intro hg|refine VC ?_ ?_<;>intro hc)
     all_goals
      refine RU ?_;exact ⟨rfl,hS⟩
   rw [if_neg hr];refine QO ?_;apply Z8 (Zl (us:=ndC r.cnd ki) rfl rfl ac rfl rfl) rfl;refine W ?_;refine CM (ZR rfl) (Z7S [] _ r.cnd _ (Z3K _ h1) (by omega) ⟨ki,rfl,hi.up hS⟩) ?_;rintro _ w4 ⟨rfl,hT⟩;replace ac:=ac.up hT;replace hS:=hS.trans hT;clear hT;unfold Z20;by_cases n1:ZA r.cnd<=12
   case neg=>
    simp only [if_neg n1];refine RT ?_;exact ⟨rfl,hS⟩
   simp only [if_pos n1];by_cases t1:Zf r.cnd=0;simp only [if_pos t1];refine RT ?_;exact ⟨rfl,hS⟩;simp only [if_neg t1];by_cases u1:Zf r.cnd=2
   case neg=>
    simp only [if_neg u1];refine RT ?_;exact ⟨rfl,hS⟩
   simp only [if_pos u1];refine QO ?_;apply Z8 (Zl (us:=ndC r.due kd) rfl rfl ac rfl rfl) rfl;refine W ?_;refine CM (ZR rfl) (Z7S [] _ r.due _ (Z3K _ h2) (by omega) ⟨kd,rfl,hd.up hS⟩) ?_;rintro _ w5 ⟨rfl,hT⟩;replace hS:=hS.trans hT;clear hT;by_cases n2:ZA r.due<=12
   case neg=>
    simp only [if_neg n2];refine RT ?_;exact ⟨rfl,hS⟩
   simp only [if_pos n2];by_cases t2:Zf r.due=0;simp only [if_pos t2];refine RT ?_;exact ⟨rfl,hS⟩;simp only [if_neg t2];by_cases u2:Zf r.due=3
   case neg=>
    simp only [if_neg u2];refine RT ?_;exact ⟨rfl,hS⟩
   simp only [if_pos u2];refine RT ?_;exact ⟨rfl,hS⟩
abbrev Ztd:Nd:=.mk 0 0 [] []
abbrev Jo:Value:=.N
theorem ZaO (r:Rul) {X Y:List Nat} {w w':World} {ki kd:Value} (h1:SlV X w ki r.cnd.kids) (h2:SlV Y w' kd r.due.kids):∀ c∈rlC r ki kd,c.oneCell'=true:=by
 intro c hc;have e1:=h1.one;have e2:=h2.one;simp only [rlC,Xb,Xj,or_false] at hc;rcases hc with rfl|rfl|rfl|rfl|rfl|rfl|rfl|rfl|rfl|rfl|rfl|rfl|rfl<;>first|rfl|exact e1|exact e2
theorem Zoy:∀ d,d<=6->Z2h 181 1 d/\Z2h 104 2 d/\Z2h 105 3 d:=by
 intro d
 induction d with
 | zero=>
   intro h;have ih':∀ e,0=e+1->Z2h 181 1 e/\Z2h 104 2 e/\Z2h 105 3 e:=λe he=>by omega
   exact ⟨Z5y _ h ih',Z7Y _ h ih',Z80 _ h ih'⟩
 | succ d ih=>
   intro h;have ih':∀ e,d+1=e+1->Z2h 181 1 e/\Z2h 104 2 e/\Z2h 105 3 e:=λe he=>by
    obtain rfl:d=e:=by omega
    exact ih (by omega)
   exact ⟨Z5y _ h ih',Z7Y _ h ih',Z80 _ h ih'⟩
def Ze0:List Str:=[[114,48],[114,49],[114,50],[114,51]]
def Z1y:List Str:=[[99,108,97,105,109],[97,110,115,119,101,114],[109,111,116,105,111,110],[111,114,100,101,114],[97,112,112,101,97,108],[108,97,112,115,101]]
theorem Zgf (q:Nat) (w) (hq:q<4):CC 12 #[.I (q:Int)] w λr w'=>(∃ s∈Ze0,r=str s)/\Stp [] w w':=by
 refine cW1 7 Tryz.func12 ?_;refine W ?_;refine CM (Zd rfl rfl) (Zp (q:Int) 4 _ (by decide) (by unfold I64;omega)) ?_;rintro _ w1 ⟨rfl,hS⟩;rw [if_neg (by omega),Ybw (by omega) (by omega)];refine CM (ZR rfl) (Z4X (q:Int) _ (by omega) (by omega)) ?_;rintro _ w2 ⟨rfl,hT⟩;have:q=0\/q=1\/q=2\/q=3:=by omega
 have hm:([114]++Lib.itoa (q:Int):Str)∈Ze0/\(Lib.itoa (q:Int)).length<=10:=by
  rcases this with rfl|rfl|rfl|rfl<;>(unfold Lib.itoa;rw [if_neg (by omega),Lib.decDigits,dif_pos (by decide)];decide)
 refine Z30 rfl rfl (by simp;omega) rfl ?_;refine RT ?_;exact ⟨⟨_,hm.1,rfl⟩,hS.trans hT⟩
theorem Z6y (q:Nat) (w) (hq:q<6):CC 28 #[.I (q:Int)] w λr w'=>(∃ s∈Z1y,r=str s)/\Stp [] w w':=by
 refine cW1 10 Tryz.func28 ?_;refine W ?_;refine Z0 (Z1 (vs:=[(0,str [99,108,97,105,109]),(1,str [97,110,115,119,101,114]),(2,str [109,111,116,105,111,110]),(3,str [111,114,100,101,114]),(4,str [97,112,112,101,97,108]),(5,str [108,97,112,115,101])]) rfl (bS6 _ _ _ _ _ _)) rfl ?_;rintro v w1 hN;have hv:SlV [] w1 v Z1y:=hN.slv (by simp) rfl rfl (by decide);have hS:=Z9.stp hN;clear hN;refine W ?_;refine CM (Zd rfl rfl) (Zp (q:Int) 6 _ (by decide) (by unfold I64;omega)) ?_;rintro _ w2 ⟨rfl,hT⟩;rw [if_neg (by omega),Ybw (by omega) (by omega)];replace hv:=hv.up hT;have cH:q<Z1y.length:=by show q<6;exact hq
 refine RT ?_;exact ⟨⟨_,Xd cH,rfl⟩,hS.trans hT⟩
structure Z8l (r:RuleM):Prop where
 name:r.name∈Ze0
 frm:739606<=r.frm/\r.frm<739636
 on:r.on∈Z1y
 cond:Gn 2 3 r.cond
 due:Gn 3 3 r.due
 unl:r.unl=[]\/r.unl∈Z1y
 els:r.els=[]\/r.els∈Z1y
theorem ZjF (a o:Str) (f k n:Int) (s:Str) (p:Option Addr) (l c:Nat) (w):(Instr.build 99 #[(0,str a),(1,.I f),(2,str o),(3,.agg #[.I k,.I n,str s,.slice p l c])]).run Tryz.prog w=.ok (.agg #[str a,.I f,str o,.I k,.I n,str s,.slice p l c,.I 0,.I 0,str [],.N,str [],str []]) w:=by kernel_rfl
theorem Zgg (X:List Nat) (bm:Nat) (lv:Value) (l:List Int) (i:Nat) (w) (ay:Mk3 w bm lv i) (ax:SlV [bm] w lv l) (hl:∀ a∈l,I64 a) (hi:i<=50000) (hX:∀ b∈X,b<w.heap.size) :
 CC 67 #[pQ bm] w λr w'=>∃ (rl:RuleM) (i':Nat),Zgd X w' r rl.rul/\Z8l rl/\Mk3 w' bm lv i'/\i'<=i+300/\Stp [bm] w w':=by
 have z4:szD 4=40:=by decide
 have z4':szD (3+1)=40:=z4;have gV:=ax;have kZ:=ay.lt;refine cW1 40 Tryz.func67 ?_;refine W ?_;refine Z0 Z2 rfl ?_;rintro _ w1 ⟨b2,rfl,cu,e2,hS⟩;have n2:b2≠bm:=by have:=ay.lt;omega
 replace ay:=ay.up hS;replace ax:=ax.up hS;replace hS:Stp [bm] w w1:=hS.mn;have l2:=e2.lt;refine W ?_;refine CM (Zd rfl rfl) (Z0g bm lv l _ 4 _ (by decide) (by omega) ay ax hl) ?_;rintro _ wq ⟨q1,rfl,hq1,ay,hT⟩;replace ax:=ax.ext hT (λ_ h=>h) (λ_ h=>.inl h);replace e2:=e2.ext hT (by simp;exact n2);replace hS:=hS.trans hT;clear hT;refine CM (ZR rfl) (Zgf q1 _ (by omega)) ?_;rintro _ wq ⟨⟨nm,fK,rfl⟩,hT⟩;replace ay:=ay.up hT;replace ax:=ax.up hT;replace e2:=e2.up hT;replace hS:=hS.trans hT.mn;clear hT;refine W ?_;refine CM (Zd rfl rfl) (Z0g bm lv l _ 30 _ (by decide) (by omega) ay ax hl) ?_;rintro _ wq ⟨q2,rfl,hq2,ay,hT⟩;replace ax:=ax.ext hT (λ_ h=>h) (λ_ h=>.inl h);replace e2:=e2.ext hT (by simp;exact n2);replace hS:=hS.trans hT;clear hT;refine W ?_;refine CM (Zd rfl rfl) (Z0g bm lv l _ 6 _ (by decide) (by omega) ay ax hl) ?_;rintro _ wq ⟨q3,rfl,oX,ay,hT⟩;replace ax:=ax.ext hT (λ_ h=>h) (λ_ h=>.inl h);replace e2:=e2.ext hT (by simp;exact n2);replace hS:=hS.trans hT;clear hT;refine CM (ZR rfl) (Z6y q3 _ (by omega)) ?_;rintro _ wq ⟨⟨on,jy,rfl⟩,hT⟩;replace ay:=ay.up hT;replace ax:=ax.up hT;replace e2:=e2.up hT;replace hS:=hS.trans hT.mn;clear hT;refine W ?_;refine CL (ZdY (b2 :: bm :: X) _) ?_;rintro _ wq ⟨⟨kt,rfl,ht⟩,hT⟩;obtain ⟨pt,ct,rfl,-⟩:=id ht;replace ht:SlV (b2 :: bm :: X) wq (.slice pt Z5K.kids.length ct) Z5K.kids:=ht;replace ay:=ay.up hT;replace ax:=ax.up hT;replace e2:=e2.up hT;replace hS:=hS.trans hT.mn;clear hT;refine W ?_;refine Z7 (vs:=[(0,str nm),(1,.I _),(2,str on),(3,.agg #[.I 2,.I 1,str [],.slice pt 0 ct])]) rfl (ZjF _ _ _ _ _ _ _ _ _) rfl ?_;refine Z0 Z2 rfl ?_;rintro _ wq ⟨b3,rfl,dG,e0,hT⟩;have pS:∀ c,c<w.heap.size->c<b3:=λc hc=>by have:=hS.size;omega
 have n3:b3≠bm:=by have:=ay.lt;omega
 have n23:b2≠b3:=by have:=e2.lt;omega
 have eN:w.heap.size<=b3:=Xh hS.size dG;refine SB (us:=rlC ⟨nm,739616+(q2:Int) - 10,on,Z5K,Ztd,[],[]⟩ (.slice pt 0 ct) Jo) (ZaO _ (X:=b2 :: bm :: X) ht (Zn [] wq)) e0 ?_;rintro _ wq ⟨ar,e3⟩;replace hT:=JO hT dG ar;clear ar e0;replace ht:SlV (b3 :: b2 :: bm :: X) wq (.slice pt Z5K.kids.length ct) Z5K.kids:=ht.ext hT (by simp) (λc hc=>by
  rcases Xb.1 hc with rfl|h
  exact .inr dG;exact .inl h)
 replace ay:=ay.up hT;replace ax:=ax.up hT;replace e2:=e2.up hT;replace hS:=hS.trans hT.mn;clear hT dG;have kJ:739606<=739616+(q2:Int) - 10/\739616+(q2:Int) - 10<739636:=by omega
 generalize 739616+(q2:Int) - 10=fr at *;clear hq1 oX;refine W ?_;refine CM (Zd rfl rfl) (Z0g bm lv l _ 3 _ (by decide) (by omega) ay ax hl) ?_;rintro _ wq ⟨q4,rfl,mc,ay,hT⟩;replace ax:=ax.ext hT (λ_ h=>h) (λ_ h=>.inl h);replace e2:=e2.ext hT (by simp;exact n2);replace e3:=e3.ext hT (by simp;exact n3);replace hS:=hS.trans hT;replace ht:=ht.ext hT (by simp) (λ_ h=>.inl h);clear hT;have bX:∀ (w':World),Stp [bm] w w'->(∃ cs,Blk w' b3 99 cs)->(∃ cs,Blk w' b2 99 cs)->∀ b∈b3 :: b2 :: bm :: X,b<w'.heap.size:=λw' h1 h2 h3 b hb=>by
  obtain ⟨_,h2⟩:=h2;obtain ⟨_,h3⟩:=h3;have:=h1.size;simp only [Xb] at hb;rcases hb with rfl|rfl|rfl|h
  exact h2.lt;exact h3.lt;omega;have:=hX b h;omega
 refine W ?_
 refine Ju (σ:=Nd×Value×Nat) (λ_=>[(0,pQ bm),(2,pQ b2),(3,pQ b3)])
  (λq w'=>Gn 2 3 q.1/\SlV (b3 :: b2 :: bm :: X) w' q.2.1 q.1.kids/\Mk3 w' bm lv q.2.2/\q.2.2<=i+124/\SlV [bm] w' lv l/\(∃ cs:List Value,cs.length=13/\Blk w' b2 99 cs)/\Blk w' b3 99 (rlC ⟨nm,fr,on,q.1,Ztd,[],[]⟩ q.2.1 Jo)/\Stp [bm] w w') ?_ ?_
 (refine QP ?_ ?_<;>intro hc)
 refine CM (Zd rfl rfl) ((Zoy 3 (by decide)).2.1 (b3 :: b2 :: bm :: X) _ bm lv l _ _ rfl ay ax hl (by rw [z4];omega) (bX _ hS ⟨_,e3⟩ ⟨_,e2⟩)) ?_;rintro _ wq ⟨y,i1,⟨ky,rfl,hy⟩,gy,ay,bO,hT⟩;replace ax:=ax.ext hT (λ_ h=>h) (λ_ h=>.inl h);replace e2:=e2.ext hT (by simp;exact n2);replace e3:=e3.ext hT (by simp;exact n3);replace hS:=hS.trans hT;clear hT;refine W ?_;refine Z6 (Z18 (us:=ndC y ky) rfl rfl rfl rfl (ZG hy) e3 (by simp)) ?_;rintro _ wq ⟨hT,e3⟩;replace e3:Blk wq b3 99 (rlC ⟨nm,fr,on,y,Ztd,[],[]⟩ ky Jo):=e3;replace hy:=hy.ext hT (by simp) (λ_ h=>.inl h);replace ay:=ay.ext hT (by simp;exact n3.symm);replace e2:=e2.ext hT (by simp;exact n23);replace hS:=hS.ow hT;replace ax:=gV.ext hS (λ_ h=>h) (λ_ h=>.inl h);clear hT;refine W ?_;exact QT (y,ky,_) ⟨gy,hy,ay,by simp only;omega,ax,⟨_,rfl,e2⟩,e3,hS⟩;exact QT (Z5K,_,_) ⟨.bool _ _ (by decide),ht,ay,by simp only;omega,ax,⟨_,rfl,e2⟩,e3,hS⟩;clear ay ax e2 e3 hS ht;rintro ⟨y,ky,i1⟩ wq ⟨gy,hy,ay,bO,ax,⟨cs2,cq,e2⟩,e3,hS⟩;dsimp only at gy hy ay bO e3;have z4':szD (3+1)=40:=z4;refine W ?_;refine CM (Zd rfl rfl) ((Zoy 3 (by decide)).2.2 (b3 :: b2 :: bm :: X) _ bm lv l _ _ rfl ay ax hl (by rw [z4];omega) (bX _ hS ⟨_,e3⟩ ⟨_,e2⟩)) ?_;rintro _ wq ⟨x,i2,⟨kx,rfl,hx⟩,gx,ay,cn,hT⟩;replace hy:=hy.ext hT (by simp) (λ_ h=>.inl h);replace e2:=e2.ext hT (by simp;exact n2);replace e3:=e3.ext hT (by simp;exact n3);replace hS:=hS.trans hT;clear hT;refine W ?_;refine Z6 (Z18 (us:=ndC x kx) rfl rfl rfl rfl (ZG hx) e3 (by simp)) ?_;rintro _ wq ⟨hT,e3⟩;replace e3:Blk wq b3 99 (rlC ⟨nm,fr,on,y,x,[],[]⟩ ky kx):=e3;replace hx:=hx.ext hT (by simp) (λ_ h=>.inl h);replace hy:=hy.ext hT (by simp) (λ_ h=>.inl h);replace ay:=ay.ext hT (by simp;exact n3.symm);replace e2:=e2.ext hT (by simp;exact n23);replace hS:=hS.ow hT;replace ax:=gV.ext hS (λ_ h=>h) (λ_ h=>.inl h);clear hT;refine W ?_;refine CM (Zd rfl rfl) (Z0g bm lv l _ 2 _ (by decide) (by omega) ay ax hl) ?_;rintro _ wq ⟨q5,rfl,vp,ay,hT⟩;replace hy:=hy.ext hT (by simp) (λ_ h=>.inl h);replace hx:=hx.ext hT (by simp) (λ_ h=>.inl h);replace e2:=e2.ext hT (by simp;exact n2);replace e3:=e3.ext hT (by simp;exact n3);replace hS:=hS.trans hT;replace ax:=gV.ext hS (λ_ h=>h) (λ_ h=>.inl h);clear hT;refine W ?_
 refine Ju (σ:=Str×Nat) (λ_=>[(0,pQ bm),(2,pQ b2),(3,pQ b3)])
  (λq w'=>(q.1=[]\/q.1∈Z1y)/\SlV (b3 :: b2 :: bm :: X) w' ky y.kids/\SlV (b3 :: b2 :: bm :: X) w' kx x.kids/\Mk3 w' bm lv q.2/\q.2<=i+250/\Blk w' b2 99 cs2/\Blk w' b3 99 (rlC ⟨nm,fr,on,y,x,q.1,[]⟩ ky kx)/\Stp [bm] w w') ?_ ?_
 (refine QP ?_ ?_<;>intro hc)
 refine CM (Zd rfl rfl) (Z0g bm lv l _ 6 _ (by decide) (by omega) ay ax hl) ?_;rintro _ wq ⟨q6,rfl,vq,ay,hT⟩;replace hy:=hy.ext hT (by simp) (λ_ h=>.inl h);replace hx:=hx.ext hT (by simp) (λ_ h=>.inl h);replace e2:=e2.ext hT (by simp;exact n2);replace e3:=e3.ext hT (by simp;exact n3);replace hS:=hS.trans hT;clear hT;refine W ?_;refine CM (ZR rfl) (Z6y q6 _ (by omega)) ?_;rintro _ wq ⟨⟨kn,jn,rfl⟩,hT⟩;replace hy:=hy.up hT;replace hx:=hx.up hT;replace ay:=ay.up hT;replace e2:=e2.up hT;replace e3:=e3.up hT;replace hS:=hS.trans hT.mn;clear hT;refine W ?_;refine S1 (u:=str kn) e3 ?_;rintro _ wq ⟨hT,e3⟩;replace e3:Blk wq b3 99 (rlC ⟨nm,fr,on,y,x,kn,[]⟩ ky kx):=e3;replace hx:=hx.ext hT (by simp) (λ_ h=>.inl h);replace hy:=hy.ext hT (by simp) (λ_ h=>.inl h);replace ay:=ay.ext hT (by simp;exact n3.symm);replace e2:=e2.ext hT (by simp;exact n23);replace hS:=hS.ow hT;refine W ?_;exact QT (kn,_) ⟨.inr jn,hy,hx,ay,by simp only;omega,e2,e3,hS⟩;exact QT ([],_) ⟨.inl rfl,hy,hx,ay,by simp only;omega,e2,e3,hS⟩;clear ay ax e2 e3 hS hy hx;rintro ⟨u,i5⟩ wq ⟨hu,hy,hx,ay,vr,e2,e3,hS⟩;dsimp only at hu ay vr e3;have ax:=gV.ext hS (λ_ h=>h) (λ_ h=>.inl h);refine W ?_;refine CM (Zd rfl rfl) (Z0g bm lv l _ 2 _ (by decide) (by omega) ay ax hl) ?_;rintro _ wq ⟨q5,rfl,vp,ay,hT⟩;replace hy:=hy.ext hT (by simp) (λ_ h=>.inl h);replace hx:=hx.ext hT (by simp) (λ_ h=>.inl h);replace e2:=e2.ext hT (by simp;exact n2);replace e3:=e3.ext hT (by simp;exact n3);replace hS:=hS.trans hT;replace ax:=gV.ext hS (λ_ h=>h) (λ_ h=>.inl h);clear hT;refine W ?_
 refine Ju (σ:=Str×Nat) (λ_=>[(0,pQ bm),(2,pQ b2),(3,pQ b3)])
  (λq w'=>(q.1=[]\/q.1∈Z1y)/\SlV (b3 :: b2 :: bm :: X) w' ky y.kids/\SlV (b3 :: b2 :: bm :: X) w' kx x.kids/\Mk3 w' bm lv q.2/\q.2<=i+252/\Blk w' b2 99 cs2/\Blk w' b3 99 (rlC ⟨nm,fr,on,y,x,u,q.1⟩ ky kx)/\Stp [bm] w w') ?_ ?_
 (refine QP ?_ ?_<;>intro hc)
 refine CM (Zd rfl rfl) (Z0g bm lv l _ 6 _ (by decide) (by omega) ay ax hl) ?_;rintro _ wq ⟨q6,rfl,vq,ay,hT⟩;replace hy:=hy.ext hT (by simp) (λ_ h=>.inl h);replace hx:=hx.ext hT (by simp) (λ_ h=>.inl h);replace e2:=e2.ext hT (by simp;exact n2);replace e3:=e3.ext hT (by simp;exact n3);replace hS:=hS.trans hT;clear hT;refine W ?_;refine CM (ZR rfl) (Z6y q6 _ (by omega)) ?_;rintro _ wq ⟨⟨kn,jn,rfl⟩,hT⟩;replace hy:=hy.up hT;replace hx:=hx.up hT;replace ay:=ay.up hT;replace e2:=e2.up hT;replace e3:=e3.up hT;replace hS:=hS.trans hT.mn;clear hT;refine W ?_;refine S1 (u:=str kn) e3 ?_;rintro _ wq ⟨hT,e3⟩;replace e3:Blk wq b3 99 (rlC ⟨nm,fr,on,y,x,u,kn⟩ ky kx):=e3;replace hx:=hx.ext hT (by simp) (λ_ h=>.inl h);replace hy:=hy.ext hT (by simp) (λ_ h=>.inl h);replace ay:=ay.ext hT (by simp;exact n3.symm);replace e2:=e2.ext hT (by simp;exact n23);replace hS:=hS.ow hT;refine W ?_;exact QT (kn,_) ⟨.inr jn,hy,hx,ay,by simp only;omega,e2,e3,hS⟩;exact QT ([],_) ⟨.inl rfl,hy,hx,ay,by simp only;omega,e2,e3,hS⟩;clear ay ax e2 e3 hS hy hx;rintro ⟨v,i6⟩ wq ⟨hv,hy,hx,ay,vt,e2,e3,hS⟩;dsimp only at hv ay vt e3;have ax:=gV.ext hS (λ_ h=>h) (λ_ h=>.inl h);refine W ?_
 try (apply Z8 (Zl (us:=rlC ⟨nm,fr,on,y,x,u,v⟩ ky kx) rfl rfl e3 rfl rfl) rfl)
 try refine W ?_
 refine Z6 (Zj (us:=rlC ⟨nm,fr,on,y,x,u,v⟩ ky kx) rfl rfl rfl rfl (ZaO ⟨nm,fr,on,y,x,u,v⟩ hy hx) e2 (by rw [cq];rfl)) ?_;rintro _ wz ⟨hT,e2⟩;refine W ?_;refine J6 rfl rfl rfl e2 rfl ?_;refine .mk ⟨⟨nm,fr,on,y,x,u,v⟩,i6,⟨ky,kx,rfl,(hy.ext hT (by simp) (λ_ h=>.inl h)).wk (λb h=>by simp [h]),(hx.ext hT (by simp) (λ_ h=>.inl h)).wk (λb h=>by simp [h])⟩,⟨fK,kJ,jy,gy,gx,hu,hv⟩,ay.ext hT (by simp;exact n2.symm),by omega,hS.ow hT⟩
structure Cr where
 name:Str
 frm:Int
 on:Str
 cnd:List Ins
 due:List Ins
 unl:Str
 els:Str
abbrev crC (q:Cr) (kc kd:Value):List Value:=[str q.name,.I q.frm,str q.on,kc,kd,str q.unl,str q.els]
def CrV (X:List Nat) (w:World) (v:Value) (q:Cr):Prop:=∃ kc kd,v=.agg (crC q kc kd).toArray/\SlV X w kc q.cnd/\SlV X w kd q.due
theorem Z0k {q:Cr} {X Y:List Nat} {w w':World} {kc kd:Value} (h1:SlV X w kc q.cnd) (h2:SlV Y w' kd q.due):∀ c∈crC q kc kd,c.oneCell'=true:=by
 intro c hc;have e1:=h1.one;have e2:=h2.one;simp only [crC,Xb,Xj,or_false] at hc;rcases hc with rfl|rfl|rfl|rfl|rfl|rfl|rfl<;>first|rfl|exact e1|exact e2
def Z0A (r:Rul):Int:=if Z0V r≠0 then Z0V r else if Z0E r.cnd≠0 then Z0E r.cnd else Z0E r.due
abbrev crZ:Cr:=⟨[],0,[],[],[],[],[]⟩
def crF (r:Rul):Cr:=if Z0A r=0 then ⟨r.name,r.frm,r.on,J2 r.cnd,J2 r.due,r.unl,r.els⟩ else crZ
def Zoz (w:World) (r:Rul) (v:Value) (w':World):Prop:=∃ cv,v=.tuple #[cv,.I (Z0A r)]/\(∀ X:List Nat,(∀ b∈X,b<w.heap.size)->CrV X w' cv (crF r))/\Stp [] w w'
theorem Z2M (w):(Instr.build 62 #[]).run Tryz.prog w=.ok (.agg (crC crZ Jo Jo).toArray) w:=by kernel_rfl
theorem Zf1 (q:Cr) (p1 p2:Option Addr) (l1 c1 l2 c2:Nat) (w):(Instr.build 62 #[(0,str q.name),(1,.I q.frm),(2,str q.on),(3,.slice p1 l1 c1),(4,.slice p2 l2 c2),(5,str q.unl),(6,str q.els)]).run Tryz.prog w=.ok (.agg (crC q (.slice p1 l1 c1) (.slice p2 l2 c2)).toArray) w:=by kernel_rfl
theorem ZjG (v:Value) (r:Rul) (w) (hv:Zgd [] w v r) (cm:Smp r.cnd) (bq:Smp r.due) (h1:ZP r.cnd<=1000) (h2:ZP r.due<=1000) (hF:SlV [] w Z2e Ze) (m:Int) (hm:w.cell? ⟨2,0,none⟩=some (.I m)) :
 Calls Tryz.prog 59 #[v] w (Ret (Zoz w r)):=by
 obtain ⟨ki,kd,rfl,hi,hd⟩:=hv;have oW:=Z0t r.cnd;have mg:=Z0t r.due;refine cW1 47 Tryz.func59 ?_;refine W ?_;refine Z0 (Zr rfl) rfl ?_;rintro _ w1 ⟨b,rfl,hb,ac,hS⟩;replace ac:Blk w1 b _ (rlC r ki kd):=ac;refine W ?_;refine Z0 Z2 rfl ?_;rintro _ w2 ⟨b2,rfl,cu,e2,hT⟩;have fU:w.heap.size<=b2:=Xh hS.size cu;replace ac:=ac.up hT;replace hS:=hS.trans hT;clear hT hb cu;refine W ?_
 try (refine Z8 (ZC rfl rfl ac rfl) rfl ?_)
 refine W ?_;refine CM (ZR rfl) (Z74 _ r m _ ⟨ki,kd,rfl,hi.up hS,hd.up hS⟩ (hF.up hS) (hS.cell (by simp) hm)) ?_;rintro _ w3 ⟨rfl,hT⟩;replace ac:=ac.up hT;replace e2:=e2.up hT;replace hS:=hS.trans hT;clear hT;by_cases jc:Z0V r=0
 case neg=>
  have hE:Z0A r=Z0V r:=by unfold Z0A;rw [if_pos jc]
  have hC:crF r=crZ:=by unfold crF;rw [hE,if_neg jc]
  refine QO ?_;apply Z7 (vs:=[]) rfl Z2M rfl;refine W ?_;refine SB (us:=crC crZ Jo Jo) (Z0k (q:=crZ) (Zn [] w) (Zn [] w)) e2 ?_;rintro _ w9 ⟨hT,e2⟩;refine W ?_;refine Zm rfl rfl rfl e2 rfl rfl ?_;exact .mk ⟨_,by rw [hE]<;>rfl,λX hX=>⟨Jo,Jo,by rw [hC],by rw [hC];exact Zn X _,by rw [hC];exact Zn X _⟩,hS.ow hT⟩
 refine QO ?_;apply Z8 (Zl (us:=ndC r.cnd ki) rfl rfl ac rfl rfl) rfl;refine W ?_;refine CL (Z3L _ r.cnd _ cm h1 ⟨ki,rfl,hi.up hS⟩ (hF.up hS)) ?_;rintro _ w4 ⟨va,rfl,ha,hT⟩;replace ha:=λX (hX:∀ b∈X,b<w.heap.size)=>ha (b2 :: X) (λb hb=>by
  rcases Xb.1 hb with rfl|h
  exact e2.lt;exact Xa (hX b h) hS.size)
 replace ac:=ac.up hT;replace e2:=e2.up hT;replace hS:=hS.trans hT;clear hT;refine W ?_;by_cases bR:Z0E r.cnd=0
 case neg=>
  have hE:Z0A r=Z0E r.cnd:=by unfold Z0A;rw [if_neg (by simp [jc]),if_pos bR]
  have hC:crF r=crZ:=by unfold crF;rw [hE,if_neg bR]
  refine QO ?_;apply Z7 (vs:=[]) rfl Z2M rfl;refine W ?_;refine SB (us:=crC crZ Jo Jo) (Z0k (q:=crZ) (Zn [] w) (Zn [] w)) e2 ?_;rintro _ w9 ⟨hT,e2⟩;refine W ?_;refine Zm rfl rfl rfl e2 rfl rfl ?_;exact .mk ⟨_,by rw [hE]<;>rfl,λX hX=>⟨Jo,Jo,by rw [hC],by rw [hC];exact Zn X _,by rw [hC];exact Zn X _⟩,hS.ow hT⟩
 rw [if_pos bR] at ha;refine QO ?_;apply Z8 (Zl (us:=ndC r.due kd) rfl rfl ac rfl rfl) rfl;refine W ?_;refine CL (Z3L _ r.due _ bq h2 ⟨kd,rfl,hd.up hS⟩ (hF.up hS)) ?_;rintro _ w5 ⟨vb,rfl,hb,hT⟩;replace hb:=λX (hX:∀ b∈X,b<w.heap.size)=>hb (b2 :: X) (λb hb=>by
  rcases Xb.1 hb with rfl|h
  exact e2.lt;exact Xa (hX b h) hS.size)
 replace ha:=λX hX=>(ha X hX).up hT;replace ac:=ac.up hT;replace e2:=e2.up hT;replace hS:=hS.trans hT;clear hT;refine W ?_;have hE:Z0A r=Z0E r.due:=by unfold Z0A;rw [if_neg (by simp [jc]),if_neg (by simp [bR])]
 by_cases cq:Z0E r.due=0
 case neg=>
  have hC:crF r=crZ:=by unfold crF;rw [hE,if_neg cq]
  refine QO ?_;apply Z7 (vs:=[]) rfl Z2M rfl;refine W ?_;refine SB (us:=crC crZ Jo Jo) (Z0k (q:=crZ) (Zn [] w) (Zn [] w)) e2 ?_;rintro _ w9 ⟨hT,e2⟩;refine W ?_;refine Zm rfl rfl rfl e2 rfl rfl ?_;exact .mk ⟨_,by rw [hE]<;>rfl,λX hX=>⟨Jo,Jo,by rw [hC],by rw [hC];exact Zn X _,by rw [hC];exact Zn X _⟩,hS.ow hT⟩
 rw [if_pos cq] at hb;have hC:crF r=⟨r.name,r.frm,r.on,J2 r.cnd,J2 r.due,r.unl,r.els⟩:=by unfold crF;rw [hE,if_pos cq]
 obtain ⟨p1,c1,rfl,-⟩:=id (ha [] (by simp));obtain ⟨p2,c2,rfl,-⟩:=id (hb [] (by simp));refine QO ?_;apply Z7 (vs:=[(0,str r.name),(1,.I r.frm),(2,str r.on),(3,.slice p1 (J2 r.cnd).length c1),(4,.slice p2 (J2 r.due).length c2),(5,str r.unl),(6,str r.els)]) rfl (Zf1 ⟨r.name,r.frm,r.on,J2 r.cnd,J2 r.due,r.unl,r.els⟩ _ _ _ _ _ _) rfl;refine SB (us:=crC ⟨r.name,r.frm,r.on,J2 r.cnd,J2 r.due,r.unl,r.els⟩ (.slice p1 (J2 r.cnd).length c1) (.slice p2 (J2 r.due).length c2)) (Z0k (q:=⟨r.name,r.frm,r.on,J2 r.cnd,J2 r.due,r.unl,r.els⟩) (ha [] (by simp)) (hb [] (by simp))) e2 ?_;rintro _ w9 ⟨hT,e2⟩;refine W ?_;refine Zm rfl rfl rfl e2 rfl rfl ?_;exact .mk ⟨_,by rw [hE,cq],λX hX=>by
  rw [hC];exact ⟨_,_,rfl,((ha X hX).ext hT (by simp) (λ_ h=>.inl h)).wk (λb h=>by simp [h]),((hb X hX).ext hT (by simp) (λ_ h=>.inl h)).wk (λb h=>by simp [h])⟩,hS.ow hT⟩
theorem Zgh (v:Value) (r:Rul) (w) (hv:Zgd [] w v r) (h1:ZP r.cnd<=1000) (h2:ZP r.due<=1000) :
 Calls Tryz.prog 37 #[v] w (Ret (Zoz w r)):=by
 obtain ⟨ki,kd,rfl,hi,hd⟩:=hv;have oW:=Z0t r.cnd;have mg:=Z0t r.due;refine cW1 48 Tryz.func37 ?_;refine W ?_;refine Z0 (Zr rfl) rfl ?_;rintro _ w1 ⟨b,rfl,hb,ac,hS⟩;replace ac:Blk w1 b _ (rlC r ki kd):=ac;refine W ?_;refine Z0 Z2 rfl ?_;rintro _ w2 ⟨b2,rfl,cu,e2,hT⟩;have fU:w.heap.size<=b2:=Xh hS.size cu;replace ac:=ac.up hT;replace hS:=hS.trans hT;clear hT hb cu;refine W ?_
 try (refine Z8 (ZC rfl rfl ac rfl) rfl ?_)
 refine W ?_;refine CL (ZdZ _ r _ ⟨ki,kd,rfl,hi.up hS,hd.up hS⟩ h1 h2) ?_;rintro _ w3 ⟨rfl,hT⟩;replace ac:=ac.up hT;replace e2:=e2.up hT;replace hS:=hS.trans hT;clear hT;by_cases jc:Z0V r=0
 case neg=>
  have hE:Z0A r=Z0V r:=by unfold Z0A;rw [if_pos jc]
  have hC:crF r=crZ:=by unfold crF;rw [hE,if_neg jc]
  refine QO ?_;apply Z7 (vs:=[]) rfl Z2M rfl;refine W ?_;refine SB (us:=crC crZ Jo Jo) (Z0k (q:=crZ) (Zn [] w) (Zn [] w)) e2 ?_;rintro _ w9 ⟨hT,e2⟩;refine W ?_;refine Zm rfl rfl rfl e2 rfl rfl ?_;exact .mk ⟨_,by rw [hE]<;>rfl,λX hX=>⟨Jo,Jo,by rw [hC],by rw [hC];exact Zn X _,by rw [hC];exact Zn X _⟩,hS.ow hT⟩
 refine QO ?_;apply Z8 (Zl (us:=ndC r.cnd ki) rfl rfl ac rfl rfl) rfl;refine W ?_;refine CM (ZR rfl) (Z3q _ r.cnd _ h1 (by omega) ⟨ki,rfl,hi.up hS⟩) ?_;rintro _ w4 ⟨va,rfl,ha,hT⟩;replace ha:=λX (hX:∀ b∈X,b<w.heap.size)=>ha (b2 :: X) (λb hb=>by
  rcases Xb.1 hb with rfl|h
  exact e2.lt;exact Xa (hX b h) hS.size)
 replace ac:=ac.up hT;replace e2:=e2.up hT;replace hS:=hS.trans hT;clear hT;refine W ?_;by_cases bR:Z0E r.cnd=0
 case neg=>
  have hE:Z0A r=Z0E r.cnd:=by unfold Z0A;rw [if_neg (by simp [jc]),if_pos bR]
  have hC:crF r=crZ:=by unfold crF;rw [hE,if_neg bR]
  refine QO ?_;apply Z7 (vs:=[]) rfl Z2M rfl;refine W ?_;refine SB (us:=crC crZ Jo Jo) (Z0k (q:=crZ) (Zn [] w) (Zn [] w)) e2 ?_;rintro _ w9 ⟨hT,e2⟩;refine W ?_;refine Zm rfl rfl rfl e2 rfl rfl ?_;exact .mk ⟨_,by rw [hE]<;>rfl,λX hX=>⟨Jo,Jo,by rw [hC],by rw [hC];exact Zn X _,by rw [hC];exact Zn X _⟩,hS.ow hT⟩
 rw [if_pos bR] at ha;refine QO ?_;apply Z8 (Zl (us:=ndC r.due kd) rfl rfl ac rfl rfl) rfl;refine W ?_;refine CM (ZR rfl) (Z3q _ r.due _ h2 (by omega) ⟨kd,rfl,hd.up hS⟩) ?_;rintro _ w5 ⟨vb,rfl,hb,hT⟩;replace hb:=λX (hX:∀ b∈X,b<w.heap.size)=>hb (b2 :: X) (λb hb=>by
  rcases Xb.1 hb with rfl|h
  exact e2.lt;exact Xa (hX b h) hS.size)
 replace ha:=λX hX=>(ha X hX).up hT;replace ac:=ac.up hT;replace e2:=e2.up hT;replace hS:=hS.trans hT;clear hT;refine W ?_;have hE:Z0A r=Z0E r.due:=by unfold Z0A;rw [if_neg (by simp [jc]),if_neg (by simp [bR])]
 by_cases cq:Z0E r.due=0
 case neg=>
  have hC:crF r=crZ:=by unfold crF;rw [hE,if_neg cq]
  refine QO ?_;apply Z7 (vs:=[]) rfl Z2M rfl;refine W ?_;refine SB (us:=crC crZ Jo Jo) (Z0k (q:=crZ) (Zn [] w) (Zn [] w)) e2 ?_;rintro _ w9 ⟨hT,e2⟩;refine W ?_;refine Zm rfl rfl rfl e2 rfl rfl ?_;exact .mk ⟨_,by rw [hE]<;>rfl,λX hX=>⟨Jo,Jo,by rw [hC],by rw [hC];exact Zn X _,by rw [hC];exact Zn X _⟩,hS.ow hT⟩
 rw [if_pos cq] at hb;have hC:crF r=⟨r.name,r.frm,r.on,J2 r.cnd,J2 r.due,r.unl,r.els⟩:=by unfold crF;rw [hE,if_pos cq]
 obtain ⟨p1,c1,rfl,-⟩:=id (ha [] (by simp));obtain ⟨p2,c2,rfl,-⟩:=id (hb [] (by simp));refine QO ?_;apply Z7 (vs:=[(0,str r.name),(1,.I r.frm),(2,str r.on),(3,.slice p1 (J2 r.cnd).length c1),(4,.slice p2 (J2 r.due).length c2),(5,str r.unl),(6,str r.els)]) rfl (Zf1 ⟨r.name,r.frm,r.on,J2 r.cnd,J2 r.due,r.unl,r.els⟩ _ _ _ _ _ _) rfl;refine SB (us:=crC ⟨r.name,r.frm,r.on,J2 r.cnd,J2 r.due,r.unl,r.els⟩ (.slice p1 (J2 r.cnd).length c1) (.slice p2 (J2 r.due).length c2)) (Z0k (q:=⟨r.name,r.frm,r.on,J2 r.cnd,J2 r.due,r.unl,r.els⟩) (ha [] (by simp)) (hb [] (by simp))) e2 ?_;rintro _ w9 ⟨hT,e2⟩;refine W ?_;refine Zm rfl rfl rfl e2 rfl rfl ?_;exact .mk ⟨_,by rw [hE,cq],λX hX=>by
  rw [hC];exact ⟨_,_,rfl,((ha X hX).ext hT (by simp) (λ_ h=>.inl h)).wk (λb h=>by simp [h]),((hb X hX).ext hT (by simp) (λ_ h=>.inl h)).wk (λb h=>by simp [h])⟩,hS.ow hT⟩
theorem Z5j (va vb:Value) (xs ys:List Int) (w) (ha:SlV [] w va xs) (hb:SlV [] w vb ys) :
 CC 298 #[va,vb] w λr w'=>r=.B (decide (xs=ys))/\Stp [] w w':=by
 have tA:=ha.max;have tr:=hb.max;refine cW2 26 Tryz.func298 ?_;refine W ?_;by_cases hl:xs.length=ys.length
 case neg=>
  refine RT ?_;exact ⟨by congr 1;rw [eq_comm,decide_eq_false_iff_not];exact λh=>hl (by rw [h]),Stp.refl _ _⟩
 refine QO ?_;refine LP (σ:=Nat) (λj=>[(0,va),(1,vb),(4,.B false),(12,.I (xs.length:Int)),(13,.I (j:Int))]) (λj w'=>j<=xs.length/\Stp [] w w'/\∀ i (h:i<xs.length),i<j->xs[i]=ys[i]'(by omega)) (λj=>xs.length - j) 0 ⟨Xq _,Stp.refl _ _,λi _ h=>absurd h (Xs _)⟩ ?_;rintro j w2 ⟨hj,hS,cZ⟩
 try dsimp only at hj cZ ⊢
 replace ha:=ha.up hS;replace hb:=hb.up hS;by_cases hlt:j<xs.length;have eJ:j<ys.length:=by omega
 refine QO ?_;refine ZDr 9 [] [] [(0,0),(1,0),(2,0),(3,1),(4,0),(5,0),(6,0),(7,1),(8,0)] (λw1 ae=>?_);replace ha:=ha.up ae;replace hb:=hb.up ae;replace hS:=hS.trans ae;refine D ?_
 (refine QP ?_ ?_<;>intro hc)
 refine RU ?_;exact ⟨by congr 1;rw [eq_comm,decide_eq_false_iff_not];exact λh=>hc (by simp [h]),hS⟩;have he:xs[j]=ys[j]:=Decidable.byContradiction hc;have hk:∀ i (h:i<xs.length),i<j+1->xs[i]=ys[i]'(by omega):=λi h hi=>by
  by_cases dC:i=j;subst dC;exact he;exact cZ i h (by omega)
 exact QL (j+1) ⟨hlt,hS,hk⟩ (XA hlt (XE j));have ea:j=xs.length:=by omega
 subst ea;refine RT ?_;exact ⟨by congr 1;rw [eq_comm,decide_eq_true_eq];exact YaD hl (λi h h'=>cZ i h h),hS⟩
abbrev RwZ (w w':World) (v:Value) (xs:List Int):Prop:=ZI 3 w w' v xs
theorem Zgi (k:Nat) (w) (hk:k<=1000000):CC 335 #[.N,.I (k:Int)] w λr w'=>RwZ w w' r []:=by
 refine cW2 27 Tryz.func335 ?_;refine W ?_;have h0:SlV (α:=Int) [] w (.N) []:=Zn _ _;have cB:([]:List Int).length=0:=rfl;repeat'(first|refine W1 ?_|omega|refine VG ?_ ?_<;>intro hg|refine VC ?_ ?_<;>intro hc)
 apply Z8 (ZaG rfl) rfl;by_cases fp:k=0;subst fp;refine QO ?_;refine WR ?_;exact .mk ZI.nil;refine QO ?_;apply Z8 (ZaG rfl) rfl;apply Z8 (Z88 rfl rfl) rfl;refine W ?_;refine Z0 (ZmY (k:=k) rfl rfl rfl (by omega) (by simp [maxLen];omega) (by omega)) rfl ?_;rintro _ w1 ⟨c,rfl,cb,hS⟩;replace h0:=h0.up hS;have hr:RwZ w w1 (.slice (some ⟨w.heap.size,0,none⟩) 0 c) []:=⟨⟨[],rfl,λi h=>absurd h (Xs _),cb⟩,hS⟩
 refine W ?_;apply Z8 (Z9A rfl rfl) rfl;refine W ?_;refine WR ?_;exact .mk hr
theorem Zcc (v:Value) (xss:List (Sl Int)) (w) (hs:SlV [] w v xss) (hl:xss.length<=1000) (ai:(xss.flatMap Sl.l).length<=100000):CC 299 #[v] w λr w'=>RwZ w w' r (xss.flatMap Sl.l):=by
 have cw:∀ j,((xss.take j).flatMap Sl.l).length<=(xss.flatMap Sl.l).length:=λj=>by
  rw [<- XK j xss,Yan,Xc];simp only [XK];have:(xss.take j).flatMap Sl.l=((xss.take j++xss.drop j).take j).flatMap Sl.l:=by rw [XK]
  omega
 have hstep:∀ j (h:j<xss.length),(xss.take (j+1)).flatMap Sl.l=(xss.take j).flatMap Sl.l++xss[j].l:=λj h=>by
  rw [Xk h,Yan];simp
 refine cW1 36 Tryz.func299 ?_;refine W ?_;refine Z0j (σ:=Unit) (λ_=>[(0,v),(3,.I ((xss.flatMap Sl.l).length:Int))]) (λ_ w'=>w'=w) ?_ ?_;refine LP (σ:=Nat) (λj=>[(0,v),(9,v),(10,.I (xss.length:Int)),(3,.I (((xss.take j).flatMap Sl.l).length:Int)),(11,.I (j:Int))]) (λj w'=>j<=xss.length/\w'=w) (λj=>xss.length - j) 0 ⟨Xq _,rfl⟩ ?_;rintro j w2 ⟨hj,rfl⟩;by_cases hlt:j<xss.length;obtain ⟨u,an,fF⟩:=hs.sub hlt;have oJ:=fF.max;have h1:=cw j;have h2:=cw (j+1);have h3:=hstep j hlt;have h4:((xss.take (j+1)).flatMap Sl.l).length=((xss.take j).flatMap Sl.l).length+xss[j].l.length:=by rw [h3,Xc]
 refine QO ?_;apply Z8 (JI rfl rfl an) rfl;refine QO ?_;refine Zx (j+1) ⟨rfl,rfl,rfl,by rw [h4,Ybp];rfl,rfl,trivial⟩ ⟨hlt,rfl⟩ (by omega);have ea:j=xss.length:=by omega
 subst ea;rw [Xp];refine QO ?_;exact QT () rfl;rintro _ w2 rfl;refine W ?_;refine Z0 (Z4 rfl (Zd rfl rfl) (Zgi _ _ (by omega))) rfl ?_;rintro g w3 hr;refine W ?_;have eA:=hs.up hr.2;refine W ?_;refine LP (σ:=Nat×Value) (λq=>[(6,q.2),(25,v),(26,.I (xss.length:Int)),(27,.I (q.1:Int))]) (λq w'=>q.1<=xss.length/\RwZ w2 w' q.2 ((xss.take q.1).flatMap Sl.l)) (λq=>xss.length - q.1) (0,g) ⟨Xq _,by simpa using hr⟩ ?_;clear hr eA;rintro ⟨j,g⟩ w4 ⟨hj,hr⟩;dsimp only at hj hr ⊢;by_cases hlt:j<xss.length;have dM:SlV (ob g) w4 v xss:=hs.ext hr.2 (by simp) (λb hb=>.inr (hr.ob_le b hb).1);obtain ⟨u,an,fF⟩:=dM.sub hlt;have h1:=cw j;have h2:=cw (j+1);have h3:=hstep j hlt;have h4:((xss.take (j+1)).flatMap Sl.l).length=((xss.take j).flatMap Sl.l).length+xss[j].l.length:=by rw [h3,Xc]
 refine QO ?_;apply Z8 (JI rfl rfl an) rfl;refine QO ?_;refine Z0 (JD rfl (by decide) rfl rfl hr fF (by omega) (by simp only [maxLen];omega)) rfl ?_;rintro g' w5 ⟨bN,-,-⟩;refine W ?_;exact QL (j+1,g') ⟨hlt,by dsimp only;rw [h3];exact bN⟩ (by dsimp only;omega);have ea:j=xss.length:=by omega
 subst ea;rw [Xp] at hr;refine QO ?_;refine WR ?_;exact .mk hr
end Go.Proofs.YtipfkbkkndacjaaGreatDoor
namespace Go.Eng
open Go
theorem Z4w {P:Program} {n:Nat} {fn:Func} {R:Ending->World->Prop} {e:Env} {w} {t u s q:Nat} {v x y z:Value} (hr:fn.results=#[.tmp t,.tmp u,.tmp s,.tmp q]) (ht:look e t=some v) (hu:look e u=some x) (hs:look e s=some y) (hq:look e q=some z) (h:R (.returned (.tuple #[v,x,y,z])) w):WQ n (bodyPost P fn R) .ret e w:=
 ⟨λa ha=>⟨ha.defers,.tuple #[v,x,y,z],by simp [results,hr];simpa [XB] using And.intro (ha.vals t v ht) (And.intro (ha.vals u x hu) (And.intro (ha.vals s y hs) (ha.vals q z hq))),h⟩⟩
end Go.Eng
namespace Go.Proofs.YtipfkbkkndacjaaGreatDoor
open Go Go.Eng Go.RowKit
def opP (k:Int):Prop:=k=1\/k=2\/k=4\/k=15\/k=24
def ZB (x:Ins):List Int×List Int×List Int×Bool:=
 if x.op=1 then ([],[],[1],decide (-2147483647<=x.n/\x.n<=2147483647))
 else if x.op=2 then ([],[],[2],decide (x.n=0\/x.n=1))
 else if x.op=3 then ([],[],[3],decide (0<=x.n/\x.n<=3652058))
 else if x.op=4 then ([],[],[if x.n=0\/x.n=1 then 3 else 1],decide (0<=x.n/\x.n<7))
 else if x.op=13 then ([],[],[],true)
 else if x.op=14 then ([2],[],[],true)
 else if x.op=5\/x.op=6\/x.op=7 then ([1,1],[],[1],decide (x.n=0))
 else if x.op=8 then ([1],[],[1],decide (x.n=0))
 else if x.op=9\/x.op=10\/x.op=11 then ([1,1],[3,3],[2],decide (x.n=0))
 else if x.op=12 then ([2],[],[2],decide (x.n=0))
 else if x.op=15\/x.op=16\/x.op=17\/x.op=18 then ([3,1],[],[3],decide (x.n=0))
 else if x.op=19\/x.op=20 then ([3],[],[3],decide (x.n=0))
 else if x.op=21\/x.op=22 then ([3,3],[],[3],decide (x.n=0))
 else if x.op=23 then ([3,3],[],[1],decide (x.n=0))
 else if x.op=24 then ([],[],[],decide (x.n=0))
 else ([],[],[],false)
def Zwz (X:List Nat) (w:World) (x:Ins) (r:Value) (w':World):Prop:=∃ a b c,r=.tuple #[a,b,c,.B (ZB x).2.2.2]/\SlV X w' a (ZB x).1/\SlV X w' b (ZB x).2.1/\SlV X w' c (ZB x).2.2.1/\Stp [] w w'
theorem Z4x {X:List Nat} {w w':World} {x:Ins} {a b c:Value} {p ok:Bool} {ta al gi:List Int} (cZ:ZB x=(ta,al,gi,ok)) (hp:p=ok) (ha:SlV X w' a ta) (hb:SlV X w' b al) (hc:SlV X w' c gi) (hS:Stp [] w w'):Ret (Zwz X w x) (.returned (.tuple #[a,b,c,.B p])) w':=by
 refine .mk ⟨a,b,c,?_,?_,?_,?_,hS⟩<;>rw [cZ];rw [hp];exact ha;exact hb;exact hc
theorem Ze1 (X:List Nat) (x:Ins) (w:World) (gz:∀ b∈X,b<w.heap.size) (eM:opP x.op) :
 Calls Tryz.prog 297 #[agg x] w (Ret (Zwz X w x)):=by
 refine cW1 117 Tryz.func297 ?_;refine W ?_;refine Z0 (Zr rfl) rfl ?_;rintro _ w0 ⟨b,rfl,hb,ac,hS⟩;replace ac:Blk w0 b _ [.I x.op,.I x.n]:=ac;have hX:∀ b∈X,b<w0.heap.size:=λb hb=>Xa (gz b hb) hS.size;refine W ?_;by_cases h1:x.op=1
 . have cZ:ZB x=([],[],[1],decide (-2147483647<=x.n/\x.n<=2147483647)):=by simp [ZB,h1]
   refine QO ?_;refine ZDr 13 [] [] [(1,0),(2,1),(3,0),(4,0),(5,0),(6,1),(7,0),(8,0),(9,0),(10,0),(0,2),(11,0),(12,0)] (λw1 ae=>?_);replace ac:=ac.up ae;replace hS:=hS.trans ae;replace hX:=λb hb=>Xa (hX b hb) ae.size
   (refine QE ?_ ?_<;>intro hg)
   all_goals
    refine Za rfl trivial (Z1 (vs:=[(0,.I 1)]) rfl (Zt _)) (λ_ _ h=>Z9.stp h) rfl ?_;rintro g wq hN;have s_g:SlV X wq g [(1:Int)]:=hN.slv hX rfl rfl (by simp [maxLen]);have hT:=Z9.stp hN;clear hN;replace ac:=ac.up hT;replace hS:=hS.trans hT;clear hT;refine D ?_;refine W ?_;refine Z4w rfl rfl rfl rfl rfl ?_;refine Z4x cZ ?_ (Zn _ _) (Zn _ _) (s_g) hS;first|rfl|(simp only [decide_eq_decide];omega)|(symm;simp only [decide_eq_true_eq,decide_eq_false_iff_not];omega)|(simp only [decide_eq_true_eq,decide_eq_false_iff_not];omega)
 by_cases h2:x.op=2
 . have cZ:ZB x=([],[],[2],decide (x.n=0\/x.n=1)):=by simp [ZB,h2]
   refine QO ?_;refine ZDr 13 [] [] [(1,0),(2,1),(3,0),(4,0),(5,0),(6,1),(7,0),(8,0),(9,0),(10,0),(0,2),(11,0),(12,0)] (λw1 ae=>?_);replace ac:=ac.up ae;replace hS:=hS.trans ae;replace hX:=λb hb=>Xa (hX b hb) ae.size
   (refine QE ?_ ?_<;>intro hg)
   all_goals
    refine Za rfl trivial (Z1 (vs:=[(0,.I 2)]) rfl (Zt _)) (λ_ _ h=>Z9.stp h) rfl ?_;rintro g wq hN;have s_g:SlV X wq g [(2:Int)]:=hN.slv hX rfl rfl (by simp [maxLen]);have hT:=Z9.stp hN;clear hN;replace ac:=ac.up hT;replace hS:=hS.trans hT;clear hT;refine D ?_;refine W ?_;refine Z4w rfl rfl rfl rfl rfl ?_;refine Z4x cZ ?_ (Zn _ _) (Zn _ _) (s_g) hS;first|rfl|(simp only [decide_eq_decide];omega)|(symm;simp only [decide_eq_true_eq,decide_eq_false_iff_not];omega)|(simp only [decide_eq_true_eq,decide_eq_false_iff_not];omega)
 by_cases h4:x.op=4;by_cases il:x.n=0\/x.n=1
 . have cZ:ZB x=([],[],[3],decide (0<=x.n/\x.n<7)):=by simp [ZB,h4,il]
   repeat'(first|refine W1 ?_|omega|refine VG ?_ ?_<;>intro hg|refine VC ?_ ?_<;>intro hc)
   all_goals
    refine ZDr 14 [] [] [(0,0),(2,0),(3,1),(4,0),(5,0),(6,0),(7,1),(8,0),(9,0),(10,0),(11,0),(1,2),(12,0),(13,0)] (λw1 ae=>?_);replace ac:=ac.up ae;replace hS:=hS.trans ae;replace hX:=λb hb=>Xa (hX b hb) ae.size;refine QD ?_
    all_goals
     refine Za rfl trivial (Z1 (vs:=[(0,.I 3)]) rfl (Zt _)) (λ_ _ h=>Z9.stp h) rfl ?_;rintro g wq hN;have s_g:SlV X wq g [(3:Int)]:=hN.slv hX rfl rfl (by simp [maxLen]);have hT:=Z9.stp hN;clear hN;replace ac:=ac.up hT;replace hS:=hS.trans hT;clear hT;refine D ?_;refine W ?_;refine Z4w rfl rfl rfl rfl rfl ?_;refine Z4x cZ ?_ (Zn _ _) (Zn _ _) (s_g) hS;first|rfl|(simp only [decide_eq_decide];omega)|(symm;simp only [decide_eq_true_eq,decide_eq_false_iff_not];omega)|(simp only [decide_eq_true_eq,decide_eq_false_iff_not];omega)
 . have cZ:ZB x=([],[],[1],decide (0<=x.n/\x.n<7)):=by simp [ZB,h4,il]
   refine QO ?_
   all_goals
    refine ZDr 14 [] [] [(0,0),(2,0),(3,1),(4,0),(5,0),(6,0),(7,1),(8,0),(9,0),(10,0),(11,0),(1,2),(12,0),(13,0)] (λw1 ae=>?_);replace ac:=ac.up ae;replace hS:=hS.trans ae;replace hX:=λb hb=>Xa (hX b hb) ae.size
    (refine QE ?_ ?_<;>intro hg)
    all_goals
     refine Za rfl trivial (Z1 (vs:=[(0,.I 1)]) rfl (Zt _)) (λ_ _ h=>Z9.stp h) rfl ?_;rintro g wq hN;have s_g:SlV X wq g [(1:Int)]:=hN.slv hX rfl rfl (by simp [maxLen]);have hT:=Z9.stp hN;clear hN;replace ac:=ac.up hT;replace hS:=hS.trans hT;clear hT;refine D ?_;refine W ?_;refine Z4w rfl rfl rfl rfl rfl ?_;refine Z4x cZ ?_ (Zn _ _) (Zn _ _) (s_g) hS;first|rfl|(simp only [decide_eq_decide];omega)|(symm;simp only [decide_eq_true_eq,decide_eq_false_iff_not];omega)|(simp only [decide_eq_true_eq,decide_eq_false_iff_not];omega)
 by_cases qI:x.op=15
 . have cZ:ZB x=([3,1],[],[3],decide (x.n=0)):=by simp [ZB,qI]
   refine QO ?_
   all_goals
    refine Z0 (Z1 (vs:=[(0,.I 3),(1,.I 1)]) rfl (Z03 _ _)) rfl ?_;rintro t wq hN;have s_t:SlV X wq t [(3:Int),(1:Int)]:=hN.slv hX rfl rfl (by simp [maxLen]);have hT:=Z9.stp hN;clear hN;replace ac:=ac.up hT;replace hS:=hS.trans hT;replace hX:=λb hb=>Xa (hX b hb) hT.size;clear hT;refine Z0 (Z1 (vs:=[(0,.I 3)]) rfl (Zt _)) rfl ?_;rintro g wq hN;have s_g:SlV X wq g [(3:Int)]:=hN.slv hX rfl rfl (by simp [maxLen]);have hT:=Z9.stp hN;clear hN;replace ac:=ac.up hT;replace hS:=hS.trans hT;replace hX:=λb hb=>Xa (hX b hb) hT.size;replace s_t:=s_t.up hT;clear hT;refine W ?_;refine ZDr 10 [] [] [(0,0),(1,0),(2,0),(3,0),(4,1),(5,0),(6,0),(7,0),(8,0),(9,0)] (λw1 ae=>?_);replace ac:=ac.up ae;replace hS:=hS.trans ae;replace s_t:=s_t.up ae;replace s_g:=s_g.up ae;refine D ?_;refine W ?_;refine Z4w rfl rfl rfl rfl rfl ?_;refine Z4x cZ ?_ (s_t) (Zn _ _) (s_g) hS;first|rfl|(simp only [decide_eq_decide];omega)|(symm;simp only [decide_eq_true_eq,decide_eq_false_iff_not];omega)|(simp only [decide_eq_true_eq,decide_eq_false_iff_not];omega)
 by_cases cJ:x.op=24;have cZ:ZB x=([],[],[],decide (x.n=0)):=by simp [ZB,cJ]
 refine QO ?_;refine ZDr 10 [] [] [(0,0),(1,0),(2,0),(3,0),(4,1),(5,0),(6,0),(7,0),(8,0),(9,0)] (λw1 ae=>?_);replace ac:=ac.up ae;replace hS:=hS.trans ae;refine D ?_;refine W ?_;refine Z4w rfl rfl rfl rfl rfl ?_;refine Z4x cZ ?_ (Zn _ _) (Zn _ _) (Zn _ _) hS;first|rfl|(simp only [decide_eq_decide];omega)|(symm;simp only [decide_eq_true_eq,decide_eq_false_iff_not];omega)|(simp only [decide_eq_true_eq,decide_eq_false_iff_not];omega)
 exfalso;unfold opP at eM;omega
abbrev Shp:=List Int
def Jj (x:Ins) (s:Shp):Option Shp:=
 let e:=ZB x
 let k:=s.length - e.1.length
 if e.2.2.2=true/\e.1.length<=s.length/\(s.drop k=e.1\/e.2.1≠[]/\s.drop k=e.2.1)/\(s.take k++e.2.2.1).length<=16 then some (s.take k++e.2.2.1) else none
def JE (st:List (Option Shp)) (t:Int) (sh:Shp):Option (List (Option Shp)):=
 if 0<=t/\t<st.length then
  match st.getD t.toNat none with
  | some s=>if s=sh then some st else none
  | none=>some (st.set t.toNat (some sh))
 else none
def JM (st:List (Option Shp)) (i:Nat) (x:Ins):Option (List (Option Shp)):=
 match st.getD i none with
 | none=>none
 | some s=>
   match Jj x s with
   | none=>none
   | some nx=>
     if x.op=24 then (if i+1=st.length/\s.length=1 then some st else none)
     else if x.op=13 then (if x.n > i then JE st x.n nx else none)
     else if x.op=14 then (if x.n > i then (JE st x.n nx).bind (λst'=>JE st' ((i:Int)+1) nx) else none)
     else JE st ((i:Int)+1) nx
def Z3w (code:List Ins):Nat->List (Option Shp)->Option (List (Option Shp))
 | 0,st=>some st
 | k+1,st=>(Z3w code k st).bind (λst'=>JM st' k (code.getD k ⟨0,0⟩))
def Z21 (code:List Ins):Int×Int:=
 if code.length=0\/code.length > 200 then (0,22) else
  match Z3w code code.length ((some []) :: List.replicate (code.length - 1) none) with
  | none=>(0,22)
  | some st=>(((st.getD (code.length - 1) none).getD []).headD 0,0)
theorem JB {st st':List (Option Shp)} {t:Int} {sh:Shp} (h:JE st t sh=some st'):st'.length=st.length:=by
 unfold JE at h;split at h;split at h;split at h;cases h;rfl;cases h;cases h;simp;cases h
end Go.Proofs.YtipfkbkkndacjaaGreatDoor
namespace Go.Eng
open Go Go.RowKit Go.Proofs
theorem Row.slvX {α:Type} [Z5 α] {X:List Nat} {w} {base T:Nat} {v:Value} {xs:List α} (h:Row X w base T v xs) (hX:∀ b∈X,b∉ob v):SlV X w v xs:=by
 obtain ⟨css,hl,hr,ho⟩:=h;have hk:∀ c∈css,c.length=Z5.k α:=by
  intro c hc;obtain ⟨i,hi,rfl⟩:=Xr hc;exact Z5.len (hr i (by omega) hi)
 rcases ho.2 with ⟨rfl,hn⟩|⟨q,cap,cur,rfl,hb,hg,cO,bU,bh,ht⟩
 exact ⟨none,0,by rw [hn],by omega,by simp [maxLen],λ_=>rfl,λi hi=>by omega⟩;refine ⟨some ⟨q,0,none⟩,cap,rfl,cO,bU,λh=>by simp at h,λi hi=>?_⟩;refine ⟨q,0,css[i]'(by omega),rfl,(Xl.1 hg).1,λhx=>hX q hx (by simp [ob]),?_,λj u hu=>?_⟩;exact Z5.ext (hr i hi (by omega)) (Stp.refl [] w) (by simp) (λb hb=>.inl (by simp [hb]));have h1:=Z0m css hk i (by omega) j u hu;rw [<- ht,Yah] at h1;split at h1;have h2:cur[i * Z5.k α+j]?=some u:=by simpa using h1
 rw [XM,cell_of_row w q _ cur T (0,0) hg];exact h2;cases h1
end Go.Eng
namespace Go.Proofs.YtipfkbkkndacjaaGreatDoor
open Go Go.Eng Go.RowKit
abbrev Z0W (st:List (Option Shp)):List (Sl Int):=st.map (λo=>⟨o.getD []⟩)
abbrev JX (st:List (Option Shp)):List Bool:=st.map Option.isSome
structure Vf (w:World) (bv base:Nat) (cv hv sv:Value) (code:List Ins) (st:List (Option Shp)):Prop where
 blk:Blk w bv 318 [cv,hv,sv]
 cod:SlV (bv :: (ob hv++ob sv)) w cv code
 shp:Row (bv :: ob sv) w base 23 hv (Z0W st)
 seen:Row [] w base 4 sv (JX st)
 nh:bv∉ob hv
 ns:bv∉ob sv
 hi:base<=w.heap.size
 apart:∀ b∈ob hv,b∉ob sv
 len:st.length=code.length
theorem Vf.up {w w':World} {bv base:Nat} {cv hv sv:Value} {code:List Ins} {st:List (Option Shp)} (h:Vf w bv base cv hv sv code st) (hS:Stp [] w w'):Vf w' bv base cv hv sv code st:=
 ⟨h.blk.up hS,h.cod.up hS,h.shp.up hS,h.seen.up hS,h.nh,h.ns,Xh h.hi hS.size,h.apart,h.len⟩
theorem Z4y (bv base:Nat) (cv hv sv uv:Value) (code:List Ins) (st:List (Option Shp)) (t:Int) (s:Shp) (w) (h:Vf w bv base cv hv sv code st) (ht:0<=t) (hs:SlV (bv :: (ob hv++ob sv)) w uv s) :
 CC 300 #[pQ bv,.I t,uv] w λr w'=>Stp (bv :: (ob hv++ob sv)) w w'/\r=.B (JE st t s).isSome/\∀ st',JE st t s=some st'->Vf w' bv base cv hv sv code st':=by
 have ac:=h.blk;have np:=h.cod;have aS:=np.max;have ai:=h.len;have nq:=h.nh;have dD:=h.ns;have jA:=h.shp.slvX (λb hb=>by
  rcases Xb.1 hb with rfl|hb
  exact nq;exact λdr=>h.apart b dr hb)
 have iv:=h.seen.slv0;have fj:(Z0W st).length=st.length:=by simp [Z0W]
 have dV:(JX st).length=st.length:=by simp [JX]
 refine cW3 45 Tryz.func300 ?_;refine W ?_;by_cases hlt:t<code.length
 case neg=>
  have hr:JE st t s=none:=by rw [JE,if_neg (by omega)]
  refine RT ?_;exact ⟨Stp.refl _ _,by rw [hr];rfl,λst' h=>by rw [hr] at h;cases h⟩
 obtain ⟨k,rfl⟩:∃ k:Nat,t=(k:Int):=⟨t.toNat,by omega⟩
 have hk:k<st.length:=by omega
 have bH:k<(Z0W st).length:=by omega
 have dc:k<(JX st).length:=by omega
 have jB:(JX st)[k]=(st[k]).isSome:=by simp [JX]
 have lS:st.getD ((k:Int)).toNat none=st[k]:=by simp [List.getD,hk]
 cases aA:st[k] with
 | some s0=>
   have aY:(JX st)[k]=true:=by rw [jB,aA];rfl
   have nr:JE st (k:Int) s=if s0=s then some st else none:=by
    rw [JE,if_pos (by omega),lS,aA]
   (refine QP ?_ ?_<;>intro hc)
   obtain ⟨u,an,fF⟩:=jA.sub bH;have qo:(Z0W st)[k].l=s0:=by simp [Z0W,aA]
   apply Z8 (JI rfl rfl an) rfl;refine W ?_;refine CM (Zd rfl rfl) (Z5j _ _ _ _ _ (fF.wk (by simp)) (hs.wk (by simp))) ?_;rintro _ w2 ⟨rfl,hS⟩;refine W ?_;refine WR ?_;rw [qo];refine .mk ⟨hS.mn,?_,λst' h'=>?_⟩;rw [nr];by_cases he:s0=s<;>simp [he];rw [nr] at h';split at h';cases h';exact h.up hS;cases h';rw [aY] at hc;exact absurd hc (by simp)
 | none=>
   have aY:(JX st)[k]=false:=by rw [jB,aA];rfl
   have nr:JE st (k:Int) s=some (st.set k (some s)):=by
    rw [JE,if_pos (by omega),lS,aA];simp
   (refine QP ?_ ?_<;>intro hc)
   rw [aY] at hc;exact absurd hc (by simp);refine WC_drawn 15 (ob hv++ob sv) [] [(0,0),(1,0),(2,0),(3,1),(4,0),(5,0),(6,0),(7,0),(8,1),(9,0),(10,0),(11,0),(12,2),(13,0),(14,2)] rfl mixed (by kernel_rfl) (by kernel_rfl) (by kernel_rfl) (λw1 ae=>?_);have nb:bv∉ob hv++ob sv:=λhb=>(Xf.1 hb).elim nq dD;replace ac:=ac.up ae;have qJ:=iv.up ae;have tB:=jA.up ae;have rs:=h.seen.up ae;have rh:=h.shp.up ae;refine D ?_
   try (refine WD_read rfl trivial (λw' aN=>J1 rfl rfl (ac.ext aN nb) rfl) rfl ?_)
   refine D ?_
   try (refine WD_read rfl trivial (λw' aN=>J1 rfl rfl (ac.ext aN nb) rfl) rfl ?_)
   refine D ?_;refine Z0s rfl trivial (Z3S (α:=Bool) (y':=true) (u:=.B true) rfl rfl rfl rfl rs dc) (λ_ _ h=>h.2.mono (by simp_all)) ?_;rintro _ w3 ⟨rs3,ak⟩;replace rh:=rh.ext (X':=bv :: ob sv) ak (λb hb=>⟨XI _ hb,λdr=>h.apart b dr hb⟩) (λ_ h=>.inl h);have tC:=rh.slvX (λb hb=>by
    rcases Xb.1 hb with rfl|hb
    exact nq;exact λdr=>h.apart b dr hb)
   have cR:Stp (bv :: (ob hv++ob sv)) w w3:=ae.mn.trans (ak.mono (λb hb=>by simp [hb]));have eA:=hs.ext cR (λ_ h=>h) (λ_ h=>.inl h);refine D ?_;refine Z0s rfl trivial (Z3S (α:=Sl Int) (y':=⟨s⟩) (u:=uv) rfl rfl rfl ⟨uv,eA.cells,eA.wk (λb hb=>by simp at hb;rcases hb with h|h|h<;>simp [h])⟩ rh bH) (λ_ _ h=>h.2.mono (by simp_all)) ?_;rintro _ w4 ⟨rh4,aJ⟩;refine D ?_;refine W ?_;refine WR ?_;have la:Stp (bv :: (ob hv++ob sv)) w w4:=cR.trans (aJ.mono (λb hb=>by simp [hb]));refine .mk ⟨la,by rw [nr];rfl,λst' h'=>?_⟩;rw [nr] at h';cases h';have rs4:=rs3.keep aJ (λb hb=>h.apart b hb);refine ⟨(ac.ext ak dD).ext aJ nq,h.cod.ext la (λ_ h=>h) (λ_ h=>.inl h),?_,?_,nq,dD,Xh h.hi la.size,h.apart,by simpa using h.len⟩;have e:Z0W (st.set k (some s))=(Z0W st).set k ⟨s⟩:=by simp [Z0W,List.map_set]
   rw [e];exact rh4;have e:JX (st.set k (some s))=(JX st).set k true:=by simp [JX,List.map_set]
   rw [e];exact rs4
def okS (s:Shp):Prop:=∀ k∈s,k=1\/k=2\/k=3
theorem ZjH {s:Shp} (h:okS s) (k:Nat):okS (s.take k):=λa ha=>h a (Yau ha)
theorem Zn9 {s t:Shp} (h:okS s) (h':okS t):okS (s++t):=λa ha=>(Xf.1 ha).elim (h a) (h' a)
theorem ZjI {op n:Int} (h:¬ (1<=op/\op<=24)):ZB ⟨op,n⟩=([],[],[],false):=by
 have h1:∀ k:Int,1<=k->k<=24->¬ op=k:=λk h1 h2 e=>h (by omega)
 simp only [ZB];rw [if_neg (h1 1 (by decide) (by decide))];rw [if_neg (h1 2 (by decide) (by decide))];rw [if_neg (h1 3 (by decide) (by decide))];rw [if_neg (h1 4 (by decide) (by decide))];rw [if_neg (h1 13 (by decide) (by decide))];rw [if_neg (h1 14 (by decide) (by decide))];rw [if_neg (not_or.2 ⟨h1 5 (by decide) (by decide),(not_or.2 ⟨h1 6 (by decide) (by decide),(h1 7 (by decide) (by decide))⟩)⟩)];rw [if_neg (h1 8 (by decide) (by decide))];rw [if_neg (not_or.2 ⟨h1 9 (by decide) (by decide),(not_or.2 ⟨h1 10 (by decide) (by decide),(h1 11 (by decide) (by decide))⟩)⟩)];rw [if_neg (h1 12 (by decide) (by decide))];rw [if_neg (not_or.2 ⟨h1 15 (by decide) (by decide),(not_or.2 ⟨h1 16 (by decide) (by decide),(not_or.2 ⟨h1 17 (by decide) (by decide),(h1 18 (by decide) (by decide))⟩)⟩)⟩)];rw [if_neg (not_or.2 ⟨h1 19 (by decide) (by decide),(h1 20 (by decide) (by decide))⟩)];rw [if_neg (not_or.2 ⟨h1 21 (by decide) (by decide),(h1 22 (by decide) (by decide))⟩)];rw [if_neg (h1 23 (by decide) (by decide))];rw [if_neg (h1 24 (by decide) (by decide))]
def Zcd (st:List (Option Shp)):Prop:=∀ s,some s∈st->okS s
theorem Zgj (x:Ins):okS (ZB x).2.2.1:=by
 obtain ⟨op,n⟩:=x;by_cases hr:1<=op/\op<=24;have hn:op=1\/op=2\/op=3\/op=4\/op=5\/op=6\/op=7\/op=8\/op=9\/op=10\/op=11\/op=12\/op=13\/op=14\/op=15\/op=16\/op=17\/op=18\/op=19\/op=20\/op=21\/op=22\/op=23\/op=24:=by omega
 rcases hn with rfl|rfl|rfl|rfl|rfl|rfl|rfl|rfl|rfl|rfl|rfl|rfl|rfl|rfl|rfl|rfl|rfl|rfl|rfl|rfl|rfl|rfl|rfl|rfl
 intro k hk;simp [ZB] at hk;omega;intro k hk;simp [ZB] at hk;omega;intro k hk;simp [ZB] at hk;omega;show okS [if n=0\/n=1 then 3 else 1];intro k hk;simp at hk;subst hk;split<;>simp;intro k hk;simp [ZB] at hk;omega;intro k hk;simp [ZB] at hk;omega;intro k hk;simp [ZB] at hk;omega;intro k hk;simp [ZB] at hk;omega;intro k hk;simp [ZB] at hk;omega;intro k hk;simp [ZB] at hk;omega;intro k hk;simp [ZB] at hk;omega;intro k hk;simp [ZB] at hk;omega;intro k hk;simp [ZB] at hk;intro k hk;simp [ZB] at hk;intro k hk;simp [ZB] at hk;omega;intro k hk;simp [ZB] at hk;omega;intro k hk;simp [ZB] at hk;omega;intro k hk;simp [ZB] at hk;omega;intro k hk;simp [ZB] at hk;omega;intro k hk;simp [ZB] at hk;omega;intro k hk;simp [ZB] at hk;omega;intro k hk;simp [ZB] at hk;omega;intro k hk;simp [ZB] at hk;omega;intro k hk;simp [ZB] at hk;rw [ZjI hr];intro k hk;simp at hk
theorem Zna {x:Ins} {s nx:Shp} (hs:okS s) (h:Jj x s=some nx):okS nx:=by
 unfold Jj at h;dsimp only at h;split at h;cases h;exact Zn9 (ZjH hs _) (Zgj x);cases h
theorem Z5L {st st':List (Option Shp)} {t:Int} {nx:Shp} (aA:Zcd st) (hn:okS nx) (h:JE st t nx=some st'):Zcd st':=by
 unfold JE at h;split at h;split at h;split at h;cases h;exact aA;cases h;cases h;intro s hs;rcases List.mem_or_eq_of_mem_set hs with h|h
 exact aA s h;cases h;exact hn;cases h
theorem Znb {st st':List (Option Shp)} {i:Nat} {x:Ins} (aA:Zcd st) (h:JM st i x=some st'):Zcd st'/\st'.length=st.length:=by
 unfold JM at h;split at h;cases h;rename_i s hs;have aX:okS s:=by
  refine aA s ?_;have hi:i<st.length:=Nat.lt_of_not_le λcT=>by simp [List.getD,Nat.not_lt.2 cT] at hs
  have:st.getD i none=st[i]:=by simp [List.getD,hi]
  rw [<- hs,this];exact Xd hi
 split at h;cases h;rename_i nx hn;have dh:=Zna aX hn;split at h;split at h;cases h;exact ⟨aA,rfl⟩;cases h;split at h;split at h;exact ⟨Z5L aA dh h,JB h⟩;cases h;split at h;split at h;obtain ⟨s1,h1,h2⟩:=XY.1 h;exact ⟨Z5L (Z5L aA dh h1) dh h2,by rw [JB h2,JB h1]⟩;cases h;exact ⟨Z5L aA dh h,JB h⟩
theorem Z5k {st:List (Option Shp)} {t:Int} {nx:Shp} (h:¬ t<st.length):JE st t nx=none:=if_neg (λh'=>h h'.2)
theorem ZjJ {code:List Ins} {st0:List (Option Shp)} (h0:Zcd st0):∀ k st,Z3w code k st0=some st->Zcd st/\st.length=st0.length
 | 0,st,h=>by cases h;exact ⟨h0,rfl⟩
 | k + 1, st, h => by
   obtain ⟨s1,h1,h2⟩:=XY.1 h;obtain ⟨a,b⟩:=ZjJ h0 k s1 h1;obtain ⟨c,d⟩:=Znb a h2;exact ⟨c,by omega⟩
theorem ZjK (p q:Option Addr) (l m c d:Nat) (w):(Instr.buildSlice 312 2 #[(0,.slice p l c),(1,.slice q m d)]).run Tryz.prog w=.ok (.slice (some ⟨w.heap.size,0,none⟩) 2 2) (w.alloc (.cells #[.slice p l c,.slice q m d] 23)):=by kernel_rfl
theorem Vf.shps {w} {bv base:Nat} {cv hv sv:Value} {code:List Ins} {st:List (Option Shp)} (h:Vf w bv base cv hv sv code st):SlV (bv :: ob sv) w hv (Z0W st):=
 h.shp.slvX (λb hb=>by
  rcases Xb.1 hb with rfl|hb
  exact h.nh;exact λdr=>h.apart b dr hb)
theorem Vf.bounds {w} {bv base:Nat} {cv hv sv:Value} {code:List Ins} {st:List (Option Shp)} (h:Vf w bv base cv hv sv code st):∀ b∈bv :: (ob hv++ob sv),b<w.heap.size:=λb hb=>by
 have:=h.blk.lt;simp only [Xb,Xf] at hb;rcases hb with rfl|hb|hb
 omega;exact (h.shp.ob_le b hb).2;exact (h.seen.ob_le b hb).2
theorem Znc (x:Ins):(ZB x).1.length<=2/\(ZB x).2.1.length<=2/\(ZB x).2.2.1.length<=1:=by
 obtain ⟨op,n⟩:=x;by_cases hr:1<=op/\op<=24;have hn:op=1\/op=2\/op=3\/op=4\/op=5\/op=6\/op=7\/op=8\/op=9\/op=10\/op=11\/op=12\/op=13\/op=14\/op=15\/op=16\/op=17\/op=18\/op=19\/op=20\/op=21\/op=22\/op=23\/op=24:=by omega
 rcases hn with rfl|rfl|rfl|rfl|rfl|rfl|rfl|rfl|rfl|rfl|rfl|rfl|rfl|rfl|rfl|rfl|rfl|rfl|rfl|rfl|rfl|rfl|rfl|rfl<;>simp [ZB]
 rw [ZjI hr];simp
theorem ZjL (bv base:Nat) (cv hv sv:Value) (code:List Ins) (st:List (Option Shp)) (i:Nat) (w) (h:Vf w bv base cv hv sv code st) (hi:i<code.length) (hn:code.length<=1000) (gC:∀ s,some s∈st->s.length<=16) (eM:opP code[i].op) :
 CC 250 #[pQ bv,.I (i:Int)] w λr w'=>Stp (bv :: (ob hv++ob sv)) w w'/\r=.B (JM st i code[i]).isSome/\∀ st',JM st i code[i]=some st'->Vf w' bv base cv hv sv code st':=by
 have ai:=h.len;have bH:i<(Z0W st).length:=by simp [Z0W];omega
 have dc:i<(JX st).length:=by simp [JX];omega
 have nu:i<st.length:=by omega
 refine cW2 140 Tryz.func250 ?_;refine W ?_;refine Zg1 17 ([w.heap.size]) [] [(0,0),(1,0),(2,0),(3,1),(4,0),(5,0),(6,1),(7,0),(8,0),(9,0),(10,1),(11,0),(12,0),(13,1),(14,2),(15,2),(16,0)] rfl mixed (by kernel_rfl) (by kernel_rfl) (by kernel_rfl) (λw1 ae fR=>?_);replace h:=h.up ae;have kj:=h.bounds;have hX:∀ b∈bv :: (ob hv++ob sv),b∉[w.heap.size]:=λb hb dr=>by
  have:=kj b hb;simp at dr;omega
 obtain ⟨cbl,iA,bt⟩:Blk w1 bv 318 [cv,hv,sv]/\SlV [w.heap.size] w1 cv code/\SlV [w.heap.size] w1 hv (Z0W st):=⟨h.blk,h.cod.ext (Stp.refl [] _) (by simp) (λb hb=>.inr (by simp at hb;omega)),h.shps.ext (Stp.refl [] _) (by simp) (λb hb=>.inr (by simp at hb;omega))⟩
 have nb:bv∉[w.heap.size]:=hX bv (by simp);obtain ⟨u,an,fF⟩:=bt.sub bH;refine D ?_;refine WD_read rfl trivial (λw' aN=>JI rfl rfl (Z2l bt bH aN an)) rfl ?_;refine D ?_;refine Za rfl trivial Zg2 (λ_ _ h=>h.2.2.mn) rfl ?_;rintro _ w2 ⟨rfl,ac,ah⟩;rw [fR] at ac ⊢;refine Z0s rfl trivial (Zj (us:=Z3.enc code[i]) rfl rfl rfl rfl (Z3.one _) ac rfl) (λ_ _ h=>h.1) ?_;rintro _ w3 ⟨ak,aL⟩;have cR:Stp [] w1 w3:=ah.ow ak;replace h:=h.up cR;replace hS:=ae.trans cR;replace iA:=h.cod;replace cbl:=h.blk;replace bt:=h.shps;have eY:=h.seen.slv0;replace kj:=h.bounds;have nw:SlV [w.heap.size] w3 u (Z0W st)[i].l:=fF.ext (ah.mn.trans ak) (by simp) (λ_ h=>.inl h);clear ac ae cR ah ak fF an;refine D ?_;refine W ?_;refine CM (ZR rfl) (Ze1 (w.heap.size :: bv :: (ob hv++ob sv)) code[i] _ (λb hb=>by rcases Xb.1 hb with rfl|hb;exact aL.lt;exact kj b hb) eM) ?_;rintro _ w4 ⟨va,vb,vc,rfl,sa,sb,sc,aJ⟩;have dM:=nw.up aJ;replace aL:=aL.up aJ;replace h:=h.up aJ;replace eY:=eY.up aJ;replace hS:=hS.trans aJ;replace cbl:=cbl.up aJ;clear aJ nw;have hM:JM st i code[i]=JM st i code[i]:=rfl
 conv at hM=>rhs;unfold JM Jj
 have lS:st.getD i none=st[i]:=by simp [List.getD,nu]
 have dJ:(Z0W st)[i].l=(st[i]).getD []:=by simp [Z0W]
 have jB:(JX st)[i]=(st[i]).isSome:=by simp [JX]
 rw [lS] at hM;have qK:(Z0W st)[i].l.length<=16:=by
  rw [dJ];cases aA:st[i] with
  | none=>simp
  | some s=>exact gC s (by rw [<- aA];exact Xd nu)
 obtain ⟨el1,el2,el3⟩:=Znc code[i];generalize ZB code[i]=E at *;obtain ⟨ta,al,gi,ok⟩:=E;dsimp only at sa sb sc el1 el2 el3 hM;generalize iG:(Z0W st)[i].l=s at *;refine W ?_
 refine WL_cutQ (σ:=Bool) (λq=>[(0,pQ bv),(1,.I (i:Int)),(4,.B false),(5,.pointer (some ⟨w.heap.size,0,none⟩)),(6,u),(9,vc),(11,.I ((s.length:Int) - (ta.length:Int))),(75,.B q)])
  (λq w'=>Stp [] w4 w'/\q=! (decide (st[i].isSome=true/\ok=true/\ta.length<=s.length/\(s.drop (s.length - ta.length)=ta\/al≠[]/\s.drop (s.length - ta.length)=al)))) ?_ ?_
 . cases ok with
   | false=>
     refine QO ?_;exact QT true ⟨Stp.refl _ _,by simp⟩
   | true=>
     cases aA:st[i].isSome with
     | false=>
       rw [aA] at jB;repeat'(first|refine W1 ?_|omega|refine VG ?_ ?_<;>intro hg|refine VC ?_ ?_<;>intro hc)
       exact QT true ⟨Stp.refl _ _,by simp⟩;exact QT true ⟨Stp.refl _ _,by simp⟩;exact absurd (show (!(JX st)[i])=false by assumption) (by rw [jB];decide)
     | true=>
       rw [aA] at jB;by_cases hk:ta.length<=s.length
       case neg=>
        (refine QP ?_ ?_<;>intro hg)
        exact absurd (show (!(JX st)[i])=true by assumption) (by rw [jB];decide);exact QT true ⟨Stp.refl _ _,by simp [hk]⟩
       have ey:(s.length:Int) - (ta.length:Int)=((s.length - ta.length:Nat):Int):=by omega
       have sd:SlV [w.heap.size] w4 (slc u (s.length - ta.length) s.length 1) (s.drop (s.length - ta.length)):=by
        have:=dM.slc (l:=s.length - ta.length) (r:=s.length) (by omega) (by omega);rw [Xp] at this;exact this
       (refine QP ?_ ?_<;>intro hg)
       exact absurd (show (!(JX st)[i])=true by assumption) (by rw [jB];decide);refine Z58 rfl dM rfl ey (by omega) rfl ?_;refine W ?_;refine CM (Zd rfl rfl) (Z5j _ _ _ _ _ (sd.wk (by simp)) (sa.wk (by simp))) ?_;rintro _ w5 ⟨rfl,aD⟩;replace sb:=sb.up aD;replace dM:=dM.up aD;replace sd:=sd.up aD;repeat'(first|refine W1 ?_|omega|refine VG ?_ ?_<;>intro hg|refine VC ?_ ?_<;>intro hc)
       have h1:¬ s.drop (s.length - ta.length)=ta:=by assumption
       have h2:(al.length:Int)=0:=by assumption
       have h3:al=[]:=Xw.1 (by omega);exact QT true ⟨aD,by simp [h1,h3]⟩;have h1:¬ s.drop (s.length - ta.length)=ta:=by assumption
       have h2:¬ (al.length:Int)=0:=by assumption
       have h3:al≠[]:=λh=>h2 (by simp [h])
       refine Z58 rfl dM rfl ey (by omega) rfl ?_;refine W ?_;refine CM (Zd rfl rfl) (Z5j _ _ _ _ _ (sd.wk (by simp)) (sb.wk (by simp))) ?_;rintro _ w6 ⟨rfl,di⟩;refine W ?_;refine QT _ ⟨aD.trans di,?_⟩;by_cases h4:s.drop (s.length - ta.length)=al<;>simp [h1,h3,h4,hk];have h1:s.drop (s.length - ta.length)=ta:=Classical.not_not.1 (by assumption);exact QT false ⟨aD,by simp [h1,hk]⟩
 rintro q w5 ⟨aD,hq⟩
 try dsimp only at hq ⊢
 replace dM:=dM.up aD;replace sc:=sc.up aD;replace aL:=aL.up aD;replace h:=h.up aD;replace cbl:=cbl.up aD;replace hS:=hS.trans aD;clear aD;by_cases hC:st[i].isSome=true/\ok=true/\ta.length<=s.length/\(s.drop (s.length - ta.length)=ta\/al≠[]/\s.drop (s.length - ta.length)=al)
 case neg=>
  obtain rfl:q=true:=by rw [hq,decide_eq_false hC];rfl
  have fu:JM st i code[i]=none:=by
   rw [hM];cases aA:st[i] with
   | none=>rfl
   | some s0=>
     obtain rfl:s=s0:=by rw [dJ,aA];rfl
     dsimp only;rw [if_neg (λh=>hC ⟨by rw [aA];rfl,h.1,h.2.1,h.2.2.1⟩)]
  refine RT ?_;exact ⟨hS.mn,by rw [fu];rfl,λst' h=>by rw [fu] at h;cases h⟩
 obtain rfl:q=false:=by rw [hq,decide_eq_true hC];rfl
 obtain ⟨ny,aO,hk,vu⟩:=hC;have aA:st[i]=some s:=by
  cases aA:st[i] with
  | none=>rw [aA] at ny;cases ny
  | some s0=>rw [dJ,aA];rfl
 rw [aA] at hM;dsimp only at hM;have ey:(s.length:Int) - (ta.length:Int)=((s.length - ta.length:Nat):Int):=by omega
 have sk:SlV [w.heap.size] w5 (slc u 0 (s.length - ta.length) 1) (s.take (s.length - ta.length)):=by
  have:=dM.slc (l:=0) (r:=s.length - ta.length) (by omega) (by omega);rw [YbL] at this;exact this
 obtain ⟨p2,c2,ij⟩:=sk.len;obtain ⟨p3,c3,rfl⟩:=sc.len;refine W ?_;refine Zdt rfl dM rfl ey (by omega) rfl ?_;rw [ij] at sk ⊢;refine W ?_;refine Z0 (Z1 (vs:=[(0,.slice p2 (s.take (s.length - ta.length)).length c2),(1,.slice p3 gi.length c3)]) rfl (ZjK _ _ _ _ _ _)) rfl ?_;rintro bl w6 hN;have sbl:SlV [] w6 bl [(⟨s.take (s.length - ta.length)⟩:Sl Int),⟨gi⟩]:=hN.slvS (X:=[]) (by simp) rfl rfl (λi hi cA=>match i,hi with|0,_=>sk.wk (by simp)|1,_=>sc.wk (by simp)) (by simp [maxLen]);have hT:=Z9.stp hN;clear hN;replace dM:=dM.up hT;replace aL:=aL.up hT;replace h:=h.up hT;replace cbl:=cbl.up hT;replace hS:=hS.trans hT;clear hT;refine CM (ZR rfl) (Zcc _ _ _ sbl (by simp) (by simp;omega)) ?_;rintro rv w7 ab;have qL:[(⟨s.take (s.length - ta.length)⟩:Sl Int),⟨gi⟩].flatMap Sl.l=s.take (s.length - ta.length)++gi:=by simp
 rw [qL] at ab;have aQ:=ab.2;have sr:=ab.slv h.bounds;replace dM:=dM.up aQ;replace aL:=aL.up aQ;replace h:=h.up aQ;replace cbl:=cbl.up aQ;replace hS:=hS.trans aQ;clear aQ ab;by_cases nz:(s.take (s.length - ta.length)++gi).length<=16
 case neg=>
  have fu:JM st i code[i]=none:=by
   rw [hM,if_neg (λh=>nz h.2.2.2)]
  refine RT ?_;exact ⟨hS.mn,by rw [fu];rfl,λst' h=>by rw [fu] at h;cases h⟩
 rw [if_pos ⟨aO,hk,vu,nz⟩] at hM;dsimp only at hM;generalize s.take (s.length - ta.length)++gi=nx at *;have kP:=h.cod;by_cases cJ:code[i].op=24;rw [if_pos cJ] at hM
 (refine QP ?_ ?_<;>intro hg)
 refine WR ?_;by_cases fj:s.length=1;have hn:JM st i code[i]=some st:=by rw [hM,if_pos ⟨by omega,fj⟩]
 exact .mk ⟨hS.mn,by rw [hn];congr 1;exact decide_eq_true (by omega),λst' h'=>by rw [hn] at h';cases h';exact h⟩;have hn:JM st i code[i]=none:=by rw [hM,if_neg (λh=>fj h.2)]
 exact .mk ⟨hS.mn,by rw [hn];congr 1;exact decide_eq_false (by omega),λst' h'=>by rw [hn] at h';cases h'⟩;refine WR ?_;have hn:JM st i code[i]=none:=by rw [hM,if_neg (λh=>by omega)]
 exact .mk ⟨hS.mn,by rw [hn];rfl,λst' h=>by rw [hn] at h;cases h⟩;rw [if_neg cJ] at hM;by_cases cD:code[i].op=13;rw [if_pos cD] at hM;by_cases iV:code[i].n > (i:Int);rw [if_pos iV] at hM;refine QO ?_;refine CM (ZN rfl rfl rfl) (Z4y bv base cv hv sv _ code st code[i].n nx _ h (by omega) sr) ?_;rintro _ w8 ⟨cK,rfl,hV⟩;refine W ?_;refine WR ?_;rw [<- hM] at hV;exact .mk ⟨hS.mn.trans cK,by rw [hM],hV⟩;rw [if_neg iV] at hM;refine RT ?_;exact ⟨hS.mn,by rw [hM];rfl,λst' h=>by rw [hM] at h;cases h⟩;rw [if_neg cD] at hM;by_cases dx:code[i].op=14;rw [if_pos dx] at hM;by_cases iV:code[i].n > (i:Int)
 . rw [if_pos iV] at hM
   refine QO ?_;refine CM (ZN rfl rfl rfl) (Z4y bv base cv hv sv _ code st code[i].n nx _ h (by omega) sr) ?_;rintro _ w8 ⟨cK,rfl,hV⟩;have sr8:=sr.ext (X':=bv :: (ob hv++ob sv)) cK (λ_ h=>h) (λ_ h=>.inl h);cases hr:JE st code[i].n nx with
   | none=>
     rw [hr] at hM;refine RT ?_;exact ⟨hS.mn.trans cK,by rw [hM];rfl,λst' h=>by rw [hM] at h;cases h⟩
   | some st1=>
     rw [hr] at hM;have h8:=hV st1 hr;refine W ?_;refine CM (ZN rfl rfl rfl) (Z4y bv base cv hv sv _ code st1 ((i:Int)+1) nx _ h8 (by omega) sr8) ?_;rintro _ w9 ⟨gu,rfl,vw⟩;refine RT ?_;exact ⟨(hS.mn.trans cK).trans gu,by rw [hM];rfl,λst' h=>vw st' (by rw [hM] at h;exact h)⟩
 rw [if_neg iV] at hM;refine RT ?_;exact ⟨hS.mn,by rw [hM];rfl,λst' h=>by rw [hM] at h;cases h⟩;rw [if_neg dx] at hM;refine QO ?_;refine CM (ZN rfl rfl rfl) (Z4y bv base cv hv sv _ code st ((i:Int)+1) nx _ h (by omega) sr) ?_;rintro _ w8 ⟨cK,rfl,hV⟩;refine W ?_;refine WR ?_;rw [<- hM] at hV;exact .mk ⟨hS.mn.trans cK,by rw [hM],hV⟩
theorem Zf2 (p q r:Option Addr) (l m k c d f:Nat) (w):(Instr.build 318 #[(0,.slice p l c),(1,.slice q m d),(2,.slice r k f)]).run Tryz.prog w=.ok (.agg #[.slice p l c,.slice q m d,.slice r k f]) w:=by kernel_rfl
theorem ZjM {st st':List (Option Shp)} {i:Nat} {x:Ins} (h0:∀ s,some s∈st->s.length<=16) (h:JM st i x=some st'):∀ s,some s∈st'->s.length<=16:=by
 have hr:∀ {st st':List (Option Shp)} {t:Int} {nx:Shp},(∀ s,some s∈st->s.length<=16)->nx.length<=16->JE st t nx=some st'->∀ s,some s∈st'->s.length<=16:=by
  intro st st' t nx aA hn h;unfold JE at h;split at h;split at h;split at h;cases h;exact aA;cases h;cases h;intro s hs;rcases List.mem_or_eq_of_mem_set hs with h|h
  exact aA s h;cases h;exact hn;cases h
 have hn:∀ {s nx:Shp},Jj x s=some nx->nx.length<=16:=by
  intro s nx h;unfold Jj at h;dsimp only at h;split at h;rename_i hc;cases h;exact hc.2.2.2;cases h
 unfold JM at h;split at h;cases h;split at h;cases h;rename_i nx oH;have dh:=hn oH;split at h;split at h;cases h;exact h0;cases h;split at h;split at h;exact hr h0 dh h;cases h;split at h;split at h;obtain ⟨s1,h1,h2⟩:=XY.1 h;exact hr (hr h0 dh h1) dh h2;cases h;exact hr h0 dh h
theorem Z9F {code:List Ins} {st0:List (Option Shp)} {k:Nat} (h:Z3w code k st0=none):∀ m,k<=m->Z3w code m st0=none
 | 0, hm => by
   obtain rfl:k=0:=by omega
   exact h
 | m + 1, hm => by
   by_cases hk:k=m+1;subst hk;exact h;rw [Z3w,Z9F h m (by omega)];rfl
theorem Z8m {code:List Ins} {st0:List (Option Shp)}:∀ {k:Nat} {st:List (Option Shp)},Z3w code k st0=some st->st.length=st0.length
 | 0,st,h=>by cases h;rfl
 | k + 1, st, h => by
   obtain ⟨s1,h1,h2⟩:=XY.1 h;have e1:=Z8m h1;have e2:st.length=s1.length:=by
    unfold JM at h2;split at h2;cases h2;split at h2;cases h2;split at h2;split at h2;cases h2;rfl;cases h2;split at h2;split at h2;exact JB h2;cases h2;split at h2;split at h2;obtain ⟨s2,h3,h4⟩:=XY.1 h2;rw [JB h4,JB h3];cases h2;exact JB h2
   omega
theorem Zgk {st st':List (Option Shp)} {i:Nat} {x:Ins} (hi:i+1=st.length) (h:JM st i x=some st'):st'=st/\∃ k,st.getD i none=some [k]:=by
 unfold JM at h;cases hs:st.getD i none with
 | none=>rw [hs] at h;cases h
 | some s=>
   rw [hs] at h;dsimp only at h;split at h;cases h;rename_i nx hn;split at h;split at h;rename_i hc;cases h;obtain ⟨k,hk⟩:=Ybe.1 hc.2;exact ⟨rfl,k,by rw [hk]⟩;cases h;split at h;split at h;rw [Z5k (by omega)] at h;cases h;cases h;split at h;split at h;rw [Z5k (by omega)] at h;cases h;cases h;rw [Z5k (by omega)] at h;cases h
theorem Z8n (v:Value) (code:List Ins) (w) (hs:SlV [] w v code) (eM:∀ x∈code,opP x.op) :
 CC 190 #[v] w λr w'=>r=.tuple #[.I (Z21 code).1,.I (Z21 code).2]/\Stp [] w w':=by
 have aS:=hs.max;obtain ⟨p,c,rfl,-⟩:=id hs;refine cW1 49 Tryz.func190 ?_;refine W ?_;by_cases h0:code.length=0\/code.length > 200
 . have hM:Z21 code=(0,22):=if_pos h0
   repeat'(first|refine W1 ?_|omega|refine VG ?_ ?_<;>intro hg|refine VC ?_ ?_<;>intro hc)
   all_goals
    refine RU ?_;exact ⟨by rw [hM],Stp.refl _ _⟩
 refine QO ?_;have mh:0<code.length:=by omega
 have tD:code.length<=200:=by omega
 refine Ju (σ:=Nat×Value×Value) (λq=>[(0,.slice p code.length c),(4,.pointer (some ⟨q.1,0,none⟩))]) (λq w'=>Vf w' q.1 w.heap.size (.slice p code.length c) q.2.1 q.2.2 code (List.replicate code.length none)/\w.heap.size<=q.1/\Stp [] w w') ?_ ?_;refine ZDr 10 [] [] [(0,0),(1,0),(2,0),(4,0),(5,0),(3,9),(6,2),(7,0),(8,2),(9,0)] (λw1 ae=>?_);have fR:=ae.size;refine D ?_;apply Z3B;rfl;refine JK rfl trivial (Z1l (α:=Sl Int) (k:=code.length) (a0:=⟨[]⟩) rfl rfl (λX w=>⟨_,rfl,Zn _ _⟩) rfl rfl (by simp [maxLen];omega) (by omega)) (λ_ _ h=>h.2) rfl ?_;rintro hv w2 ⟨rh,ah⟩;refine D ?_;refine Za rfl trivial (Z1l (α:=Bool) (k:=code.length) (a0:=false) rfl rfl (λX w=>rfl) rfl rfl (by simp [maxLen];omega) (by omega)) (λ_ _ h=>h.2) rfl ?_;rintro sv w3 ⟨rs,ak⟩;refine D ?_;obtain ⟨ph,ch,qM⟩:∃ p c,hv=.slice p code.length c:=by
  have:=((rh []).slv0).len;simpa using this
 obtain ⟨ps,cs,bP⟩:∃ p c,sv=.slice p code.length c:=by
  have:=((rs []).slv0).len;simpa using this
 have hap:∀ b∈ob hv,b∉ob sv:=λb h1 h2=>by
  have:=(rh []).ob_le b h1;have:=(rs []).ob_le b h2;omega
 subst qM bP;refine Z2G rfl trivial (vs:=[(0,.slice p code.length c),(1,.slice ph code.length ch),(2,.slice ps code.length cs)]) rfl (Zf2 _ _ _ _ _ _ _ _ _) rfl ?_;refine Za rfl trivial (Zr rfl) (λ_ _ h=>h.choose_spec.2.2.2) rfl ?_;rintro _ w4 ⟨bv,rfl,ii,ac,aJ⟩;have hS:=(ae.trans ah).trans (ak.trans aJ);have jC:=ah.size;have tE:=ak.size;refine D ?_;refine QT (bv,.slice ph code.length ch,.slice ps code.length cs) ⟨?_,by omega,hS⟩;have b1:∀ b∈ob (.slice ph code.length ch),w.heap.size<=b/\b<w3.heap.size:=λb h=>by have:=(rh []).ob_le b h;omega
 have b2:∀ b∈ob (.slice ps code.length cs),w.heap.size<=b/\b<w3.heap.size:=λb h=>by have:=(rs []).ob_le b h;omega
 have e1:Z0W (List.replicate code.length none)=List.replicate code.length ⟨[]⟩:=by simp [Z0W]
 have e2:JX (List.replicate code.length none)=List.replicate code.length false:=by simp [JX]
 refine ⟨ac,hs.ext hS (by simp) (λb hb=>.inr ?_),by rw [e1];exact ((rh _).lower ae.size).up (ak.trans aJ),by rw [e2];exact ((rs _).lower (Xh ae.size ah.size)).up aJ,λh=>by have:=b1 bv h;omega,λh=>by have:=b2 bv h;omega,hS.size,hap,by simp⟩;simp only [Xb,Xf] at hb;rcases hb with rfl|h|h
 omega;exact (b1 b h).1;exact (b2 b h).1;refine JK rfl trivial (Z1l (α:=Bool) (k:=code.length) (a0:=false) rfl rfl (λX w=>rfl) rfl rfl (by simp [maxLen];omega) (by omega)) (λ_ _ h=>h.2) rfl ?_;rintro sv w2 ⟨rs,ah⟩;refine Za rfl trivial (Z1l (α:=Sl Int) (k:=code.length) (a0:=⟨[]⟩) rfl rfl (λX w=>⟨_,rfl,Zn _ _⟩) rfl rfl (by simp [maxLen];omega) (by omega)) (λ_ _ h=>h.2) rfl ?_;rintro hv w3 ⟨rh,ak⟩;refine D ?_;obtain ⟨ph,ch,qM⟩:∃ p c,hv=.slice p code.length c:=by
  have:=((rh []).slv0).len;simpa using this
 obtain ⟨ps,cs,bP⟩:∃ p c,sv=.slice p code.length c:=by
  have:=((rs []).slv0).len;simpa using this
 have hap:∀ b∈ob hv,b∉ob sv:=λb h1 h2=>by
  have:=(rh []).ob_le b h1;have:=(rs []).ob_le b h2;omega
 subst qM bP;refine Z2G rfl trivial (vs:=[(0,.slice p code.length c),(1,.slice ph code.length ch),(2,.slice ps code.length cs)]) rfl (Zf2 _ _ _ _ _ _ _ _ _) rfl ?_;refine Za rfl trivial (Zr rfl) (λ_ _ h=>h.choose_spec.2.2.2) rfl ?_;rintro _ w4 ⟨bv,rfl,ii,ac,aJ⟩;have hS:=(ae.trans ah).trans (ak.trans aJ);have jC:=ah.size;have tE:=ak.size;refine D ?_;refine QT (bv,.slice ph code.length ch,.slice ps code.length cs) ⟨?_,by omega,hS⟩;have b1:∀ b∈ob (.slice ph code.length ch),w.heap.size<=b/\b<w3.heap.size:=λb h=>by have:=(rh []).ob_le b h;omega
 have b2:∀ b∈ob (.slice ps code.length cs),w.heap.size<=b/\b<w3.heap.size:=λb h=>by have:=(rs []).ob_le b h;omega
 have e1:Z0W (List.replicate code.length none)=List.replicate code.length ⟨[]⟩:=by simp [Z0W]
 have e2:JX (List.replicate code.length none)=List.replicate code.length false:=by simp [JX]
 refine ⟨ac,hs.ext hS (by simp) (λb hb=>.inr ?_),by rw [e1];exact ((rh _).lower (Xh ae.size ah.size)).up aJ,by rw [e2];exact ((rs _).lower ae.size).up (ak.trans aJ),λh=>by have:=b1 bv h;omega,λh=>by have:=b2 bv h;omega,hS.size,hap,by simp⟩;simp only [Xb,Xf] at hb;rcases hb with rfl|h|h
 omega;exact (b1 b h).1;exact (b2 b h).1;rintro ⟨bv,hv,sv⟩ w2 ⟨h,ii,hS⟩;dsimp only at h ii ⊢;have ac:=h.blk;have eY:=h.seen.slv0;have cB:(JX (List.replicate code.length none)).length=code.length:=by simp [JX]
 have fp:0<(JX (List.replicate code.length none)).length:=by omega
 refine W ?_;refine Z6 (Z3S (α:=Bool) (y':=true) (u:=.B true) rfl rfl rfl rfl h.seen fp) ?_;rintro _ w3 ⟨rs3,ak⟩;have cR:Stp (bv :: (ob hv++ob sv)) w2 w3:=ak.mono (λb hb=>by simp [hb]);generalize iH:(some [] :: List.replicate (code.length - 1) none:List (Option Shp))=st0 at *;have dN:st0.length=code.length:=by rw [<- iH];simp;omega
 obtain ⟨m,hm⟩:∃ m,code.length=m+1:=⟨code.length - 1,by omega⟩
 have e1:Z0W st0=Z0W (List.replicate code.length none):=by rw [<- iH,hm];simp [Z0W,Ya4]
 have e2:JX st0=(JX (List.replicate code.length none)).set 0 true:=by rw [<- iH,hm];simp [JX,Ya4]
 have h3:Vf w3 bv w.heap.size (.slice p code.length c) hv sv code st0:=by
  refine ⟨h.blk.ext ak h.ns,h.cod.ext cR (λ_ h=>h) (λ_ h=>.inl h),?_,?_,h.nh,h.ns,Xh h.hi ak.size,h.apart,dN⟩;rw [e1];exact h.shp.ext (X':=bv :: ob sv) ak (λb hb=>⟨XI _ hb,λdr=>h.apart b dr hb⟩) (λ_ h=>.inl h);rw [e2];exact rs3
 have hB:∀ b∈bv :: (ob hv++ob sv),w.heap.size<=b:=λb hb=>by
  simp only [Xb,Xf] at hb;rcases hb with rfl|hb|hb
  exact ii;exact (h.shp.ob_le b hb).1;exact (h.seen.ob_le b hb).1
 have aN:=hS.own cR (λb hb=>.inr (hB b hb));have qN:∀ s,some s∈st0->s.length<=16:=by
  intro s hs;rw [<- iH] at hs;simp at hs;rw [hs];simp
 have ko:Z21 code=match Z3w code code.length st0 with
  | none=>(0,22)
  | some st=>(((st.getD (code.length - 1) none).getD []).headD 0,0):=by
  rw [<- iH];exact if_neg h0
 clear eY ac h e1 e2 ak cR rs3 hS;refine W ?_
 refine Zu (σ:=Nat×List (Option Shp)) (λq=>[(0,.slice p code.length c),(4,pQ bv),(29,.I (code.length:Int)),(30,.I (q.1:Int))])
  (λq w'=>q.1<=code.length/\Z3w code q.1 st0=some q.2/\Vf w' bv w.heap.size (.slice p code.length c) hv sv code q.2/\(∀ s,some s∈q.2->s.length<=16)/\Stp [] w w') (λq=>code.length - q.1) (0,st0) ⟨rfl,rfl,rfl,rfl,trivial⟩ ⟨Xq _,rfl,h3,qN,aN⟩ ?_
 rintro ⟨k,st⟩ w4 ⟨hk,bj,h4,gC,aJ⟩
 try dsimp only at hk bj h4 gC ⊢
 by_cases hlt:k<code.length
 . refine QO ?_
   refine CM (Zd rfl rfl) (ZjL bv w.heap.size _ hv sv code st k _ h4 hlt (by omega) gC (eM _ (Xd hlt))) ?_;rintro _ w5 ⟨aD,rfl,hV⟩;replace aD:=aJ.own aD (λb hb=>.inr (hB b hb));have vx:code.getD k ⟨0,0⟩=code[k]:=by simp [List.getD,hlt]
   have dO:Z3w code (k+1) st0=JM st k code[k]:=by rw [Z3w,bj,XR,vx]
   cases aA:JM st k code[k] with
   | none=>
     have hn:Z21 code=(0,22):=by rw [ko,Z9F (dO.trans aA) code.length hlt]
     refine RT ?_;exact ⟨by rw [hn],aD⟩
   | some st1=>
     refine W ?_;exact QL (k+1,st1) ⟨hlt,dO.trans aA,hV st1 aA,ZjM gC aA,aD⟩ (XA hlt (XE k))
 obtain rfl:k=code.length:=by omega
 have vy:=Z8m bj;have dP:∃ a,st.getD (code.length - 1) none=some [a]:=by
  rw [hm,Z3w] at bj;obtain ⟨s1,r1,r2⟩:=XY.1 bj;have fj:=Z8m r1;obtain ⟨rfl,a,ha⟩:=Zgk (by omega) r2;exact ⟨a,by rw [hm];exact ha⟩
 obtain ⟨a,ha⟩:=dP;have vz:Z21 code=(a,0):=by rw [ko,bj];dsimp only;rw [ha];rfl
 have ac:=h4.blk;have jA:=h4.shps;have vA:(Z0W st).length=code.length:=by simp [Z0W];omega
 have gQ:m<(Z0W st).length:=by omega
 have ey:(code.length:Int) - 1=(m:Int):=by omega
 obtain ⟨u,an,fF⟩:=jA.sub gQ;have ew:(Z0W st)[m].l=[a]:=by
  have:st.getD m none=some [a]:=by rw [<- ha,hm];rfl
  have h2:st.getD m none=st[m]'(by omega):=by simp [List.getD,show m<st.length by omega]
  have h5:(Z0W st)[m]=⟨(st[m]'(by omega)).getD []⟩:=by simp [Z0W]
  rw [h5,<- h2,this];rfl
 rw [ew] at fF;refine QO ?_;apply Z8 (JI rfl rfl an) rfl;have il:0 < [a].length:=by simp
 refine RT ?_;exact ⟨by rw [vz];rfl,aJ⟩
open Go Go.Eng Go.RowKit Go.Proofs Go.ChangeShapes Go.WideShapes Go.Deep
theorem Zxd:ownKnob Tryz.prog.godebug=none:=by kernel_rfl
theorem ZwA:laidOutB Tryz.prog=true:=by kernel_rfl
section
variable {H:Type} {enc:TypeId×Value->H} {w:World} {base:Nat} {spare:Nat->Bool} {bK:Bool}
theorem ZwB {r:Reach} {b0:Nat} {v:Value} {d:DataW H} {p:List MemPlace} (hv:Value.okWide Tryz.prog w r b0 3 v) (h:DataW.Trod enc Tryz.prog w base spare bK 3 v d p):∃ z:Int,v=.I z/\I64 z:=by
 obtain ⟨z,rfl,_,_,hw⟩:=open_int Tryz.underlying3 hv h;exact ⟨z,rfl,by simpa [I64,Lit.wf,IntKind.min,IntKind.max,IntKind.signed,IntKind.bits] using hw⟩
theorem Ztz {r:Reach} {b0:Nat} {v:Value} {d:DataW H} {p:List MemPlace} (hv:Value.okWide Tryz.prog w r b0 23 v) (h:DataW.Trod enc Tryz.prog w base spare bK 23 v d p) :
 ∃ l:List Int,SlV [] w v l/\(∀ x∈l,I64 x)/\Zg3 d=l.length:=by
 obtain ⟨fuel,h⟩:=h;obtain ⟨u,l,hu,hs,aO,iy⟩:=Zjt Tryz.underlying23 (by kernel_rfl) Tryz.underlying3 h;obtain ⟨a,m,c,rfl⟩:=okWide_slice Tryz.underlying23 hv;have qO:Value.slice a m c=u:=by simpa [Value.cells] using hu
 subst qO;exact ⟨l,hs,aO,iy⟩
end
end Go.Proofs.YtipfkbkkndacjaaGreatDoor
namespace Go.Eng
open Go Go.RowKit Go.Proofs Go.ChangeShapes Go.WideShapes Go.Deep
section
variable {H:Type} {enc:TypeId×Value->H} {P:Program} {w:World} {base:Nat} {spare:Nat->Bool} {bK:Bool}
theorem ZaP {α:Type} [Z5 α] {t e:TypeId} {fuel:Nat} {cs:List Value} {x:DataW H×List MemPlace} (ht:P.underlying t=some (.slice e)) (hC:P.cellsOf e=Z5.k α) (aV:0<Z5.k α)
 (iC:∀ n cs' d q,SizeOf.sizeOf d<SizeOf.sizeOf x.1->cs'.length=Z5.k α->DataW.trod enc P w base spare bK n e cs'=some (d,q)->∃ a:α,Z5.rep [] w a cs')
 (h:DataW.trod enc P w base spare bK fuel t cs=some x):∃ (v:Value) (xs:List α),cs=[v]/\SlV [] w v xs/\Zg3 x.1=xs.length:=by
 rcases open_slice ht h with ⟨rfl,rfl⟩|⟨a,len,cap,m,n,D,Pl,rfl,hb,hl,hm,eC,hx,hi⟩
 exact ⟨_,[],rfl,⟨none,0,rfl,Xn _,by simp [maxLen],λ_=>rfl,λi h=>absurd h (Xs _)⟩,rfl⟩;have cp:len<=m:=by rw [eC];split<;>omega
 have aB:∀ i:Fin len,∃ (y:α) (cs':List Value),Z5.rep [] w y cs'/\cs'.length=Z5.k α/\∀ j u,cs'[j]?=some u->w.cell? (a.add (i * Z5.k α+j))=some u:=by
  intro i;obtain ⟨cs',hc,m0⟩:=hi i (by omega);rw [hC] at hc;obtain ⟨_,bZ,gh⟩:=World.cells?_some hc;have bG:SizeOf.sizeOf (D i)<SizeOf.sizeOf x.1:=by
   rw [hx];have lc:D i∈(List.range len).map D:=XG.2 ⟨i,Ybv.2 i.2,rfl⟩;have:=List.sizeOf_lt_of_mem lc;simp only [DataW.slice.sizeOf_spec];omega
  obtain ⟨y,hr⟩:=iC n cs' _ _ bG bZ m0;refine ⟨y,cs',hr,bZ,λj u hu=>?_⟩;have hj:j<Z5.k α:=by
   have:=(Xu.1 hu).1;omega
  have:=gh j hj;rw [hu] at this;rw [<- this,Go.Deep.add_add]
 let f:Fin len->α:=λi=>(aB i).choose
 have hf:∀ i:Fin len,∃ (cs':List Value),Z5.rep [] w (f i) cs'/\cs'.length=Z5.k α/\∀ j u,cs'[j]?=some u->w.cell? (a.add (i * Z5.k α+j))=some u:=λi=>(aB i).choose_spec;refine ⟨_,List.ofFn f,rfl,⟨some a,cap,by simp,by simpa using hl,hm,by simp,λi cA=>?_⟩,by rw [hx];simp [Zg3]⟩;have iD:i<len:=by simpa using cA
 obtain ⟨cs',hr,bZ,gh⟩:=hf ⟨i,iD⟩;obtain ⟨cs0,kX,qP,qQ⟩:=hf ⟨0,by omega⟩;have bR:=qQ 0 (cs0[0]'(by omega)) (XD _);have gI:=gh 0 (cs'[0]'(by omega)) (XD _);have bt:a.spot=none:=by
  have e0:a.add ((⟨0,by omega⟩:Fin len).val * Z5.k α+0)=a:=by simp [Addr.add]
  rw [e0] at bR;unfold World.cell? at bR;split at bR
  . cases hs:a.spot with
    | none=>rfl
    | some s=>simp [hs] at bR
  cases bR
 obtain ⟨b,o,sp⟩:=a;cases bt;refine ⟨b,o,cs',rfl,?_,by simp,?_,λj u hu=>?_⟩;have:=block_lt_of_cell (a:=(⟨b,o,none⟩:Addr).add (i * Z5.k α+0)) gI;simpa [Z5F] using this;rw [List.getElem_ofFn];exact hr;have:=gh j u hu;rw [Z5F] at this;rw [show o+i * Z5.k α+j=o+(i * Z5.k α+j) from Yat _ _ _];exact this
end
end Go.Eng
namespace Go.Proofs.YtipfkbkkndacjaaGreatDoor
open Go Go.Eng Go.RowKit Go.Proofs Go.ChangeShapes Go.WideShapes Go.Deep
section
variable {H:Type} {enc:TypeId×Value->H} {w:World} {base:Nat} {spare:Nat->Bool} {bK:Bool}
theorem k3:Tryz.prog.cellsOf 3=1:=by kernel_rfl
theorem k9:Tryz.prog.cellsOf 9=1:=by kernel_rfl
end
end Go.Proofs.YtipfkbkkndacjaaGreatDoor
