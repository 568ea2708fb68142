/-
Contracts and plain laws, merged out of own texts.
-/
import Derived.Test.YtgdicjnjhchooaaGreatDoorM5
import Derived.Great.BuildSlice
import Derived.Laws.OwnMore
import Derived.Laws.CopyRow
import Derived.LoopN
import Derived.WideLaws
import Derived.Lib.IndexMore
set_option linter.unusedVariables false
set_option linter.unusedSimpArgs false
set_option maxHeartbeats 4000000
set_option maxRecDepth 20000
namespace Go.Sim
open Go Go.Eng Go.RowKit Go.Proofs
def vc:V->List V
 | .a l=>l
 | .c v=>v.cells.toList.map ofC
 | v=>[v]
theorem Z9F (L:Lc) (l:List Value):gl L (l.map ofC)=l:=by
 rw [Jw,Yao]
 conv=>rhs;rw [<- List.map_id l]
 exact Ybi λv _=>Z7n L v
theorem ZiL (L:Lc) (v:V):(ga L v).cells.toList=gl L (vc v):=by
 cases v<;>first|rfl|simp only [ga,vc,Z9F]|simp [ga,vc,Value.cells]
def Zqt (off:Nat) (cs:List V) (us:List V):List V:=us.zipIdx.foldl (λcs p=>cs.set (off+p.2) p.1) cs
theorem ZlX (L:Lc) (off:Nat) (us:List V) (cs:List V):(gl L us).toArray.zipIdx.foldl (λcs (x:Value×Nat)=>cs.setIfInBounds (off+x.2) x.1) (gl L cs).toArray=(gl L (Zqt off cs us)).toArray:=by
 have key:∀ (us:List V) (k:Nat) (cs:List V),((us.map (ga L)).zipIdx k).foldl (λcs (x:Value×Nat)=>cs.setIfInBounds (off+x.2) x.1) (cs.map (ga L)).toArray=(((us.zipIdx k).foldl (λcs p=>cs.set (off+p.2) p.1) cs).map (ga L)).toArray:=by
  intro us
  induction us with
  | nil=>intro k cs;rfl
  | cons u us ih=>
    intro k cs;simp only [XE,List.zipIdx_cons,X5];rw [<- ih (k+1) (cs.set (off+k) u)];congr 1;simp
 rw [Jw,Jw,Jw];have:=key us 0 cs;rw [<- Array.foldl_toList];simpa [Zqt] using this
def Z7p (pl:Nat->Option (Nat×Nat)) (cs:List V):List (Nat×V)->Option (List V)
 | []=>some cs
 | (i, v) :: r => match pl i with
   | none=>none
   | some (off,size)=>if (vc v).length≠size\/off+(vc v).length > cs.length then none else Z7p pl (Zqt off cs (vc v)) r
def gp (L:Lc) (l:List (Nat×V)):List (Nat×Value):=l.map λp=>(p.1,ga L p.2)
theorem Zft (L:Lc) (v:V):(ga L v).cells=(gl L (vc v)).toArray:=by rw [<- ZiL]
theorem Z54 (L:Lc) (pl:Nat->Option (Nat×Nat)):∀ (ps:List (Nat×V)) (cs us:List V),Z7p pl cs ps=some us->Instr.fill pl (gl L cs).toArray (gp L ps)=some (gl L us).toArray
 | [],cs,us,h=>by simp only [Z7p,Xk] at h;subst h;rfl
 | (i, v) :: r, cs, us, h => by
   simp only [Z7p] at h;show Instr.fill pl _ ((i,ga L v) :: gp L r)=_;unfold Instr.fill;cases hp:pl i with
   | none=>simp [hp] at h
   | some q=>
     obtain ⟨off,size⟩:=q;simp only [hp] at h ⊢;split at h;cases h;rename_i hc;rw [Zft,Yah,Yah,Jg,Jg,if_neg (by simpa using hc),ZlX];exact Z54 L pl r _ us h
noncomputable def parts (e:AE):List (Nat×Operand)->Option (List (Nat×V))
 | []=>some []
 | (i, x) :: r => match evv e x, parts e r with
   | some v,some l=>some ((i,v) :: l)
   | _,_=>none
theorem Z7q {L:Lc} (hG:Gl L) {e:AE}:∀ {l:List (Nat×Operand)} {ps:List (Nat×V)},parts e l=some ps->Jm (ge L e) l=some (gp L ps)
 | [],ps,h=>by simp only [parts,Xk] at h;subst h;rfl
 | (i, x) :: r, ps, h => by
   unfold parts at h;cases hx:evv e x with
   | none=>simp [hx] at h
   | some v=>
     cases hr:parts e r with
     | none=>simp [hx,hr] at h
     | some l=>
       simp only [hx,hr,Xk] at h;subst h;simp only [Jm,Zv hG hx,Z7q hG hr];rfl
def built (P:Program) (t:Nat) (ps:List (Nat×V)):Option (List V):=
 match P.info? t,P.underlying t with
 | some it, some (.array _ e) => match it.zero, P.info? e with
   | some z,some ie=>Z7p (λi=>some (i * ie.size,ie.size)) (z.cells.toList.map ofC) ps
   | _,_=>none
 | some it, some (.struct fields) => match it.zero, fields.toList.mapM (λf => (P.info? f.type).map λi => (f.offset, i.size)) with
   | some z,some places=>Z7p (places.toArray[·]?) (z.cells.toList.map ofC) ps
   | _,_=>none
 | _,_=>none
theorem ZiM (L:Lc) {P:Program} {t:Nat} {ps:List (Nat×V)} {cs:List V} (h:built P t ps=some cs):P.built t (gp L ps)=some (gl L cs).toArray:=by
 have hz:∀ z:Value,z.cells=(gl L (z.cells.toList.map ofC)).toArray:=λz=>by rw [Z9F]
 unfold built at h;unfold Program.built;split at h;rename_i it n e h1 h2;rw [h1,h2];split at h;rename_i z ie h3 h4;simp only [h3,h4];rw [hz z];exact Z54 L _ _ _ _ h;cases h;rename_i it fs h1 h2;rw [h1,h2];split at h;rename_i z pl h3 h4;simp only [h3,h4];rw [hz z];exact Z54 L _ _ _ _ h;cases h;cases h
def fld (P:Program) (t i:Nat):Option Nat:=match P.underlying t with
 | some (.struct fs) => match fs[i]? with
   | some f => match (P.info? f.type).map (·.size) with
     | some (k+1)=>some f.offset
     | _=>none
   | none=>none
 | _=>none
theorem Zqu {P:Program} {t i o:Nat} (h:fld P t i=some o):Fld P t i o:=⟨by
 unfold fld at h;split at h;rename_i fs h1;split at h;rename_i f h2;split at h;rename_i k h3;exact ⟨fs,f,k,h1,h2,XU h,h3⟩;cases h;cases h;cases h⟩
def fieldV (P:Program) (t i:Nat) (cs:List V):Option V:=match P.underlying t with
 | some (.struct fs) => match fs[i]? with
   | some f => match P.underlying f.type, (P.info? f.type).map (·.size) with
     | some D,some k=>bif Z06 D then some (.a ((cs.drop f.offset).take k)) else cs[f.offset]?
     | _,_=>none
   | none=>none
 | _=>none
theorem ZlY (L:Lc) (l:List V) (k:Nat):gl L (l.take k)=(gl L l).take k:=by rw [Jw,Jw,List.map_take]
theorem ZlZ (L:Lc) (l:List V) (k:Nat):gl L (l.drop k)=(gl L l).drop k:=by rw [Jw,Jw,List.map_drop]
theorem Zfu {P:Program} {t i:Nat} {cs:List V} {v:V} (L:Lc) (h:fieldV P t i cs=some v) (w):(Instr.field t (.agg (gl L cs).toArray) i).run P w=.ok (ga L v) w:=by
 unfold fieldV at h;split at h;rename_i fs h1;split at h;rename_i f h2;split at h
 . rename_i D k h3 h4
   have u1:Und P f.type D:=⟨h3⟩
   have u2:Siz P f.type k:=⟨h4⟩
   cases hA:Z06 D with
   | true=>
     rw [hA] at h;simp only [cond_true,Xk] at h;subst h;simp [Instr.field,run_underlying h1,h2,asAgg,part,Und.isAgg,hA,Siz.run,ga,ZlY,ZlZ]
   | false=>
     rw [hA] at h;simp only [cond_false] at h;have:=Z7o L cs f.offset;rw [h] at this;simp [Instr.field,run_underlying h1,h2,asAgg,part,Und.isAgg,hA,this]
 cases h;cases h;cases h
noncomputable def ZcT (P:Program) (e:AE) (t:Nat) (s:Str):Option Operand->Option Operand->Option V
 | some lo, some hi => match evv e lo, evv e hi with
   | some (.i .i64 l),some (.i .i64 h)=>cut (decide (0<=l/\l<=h/\h<=s.length)) (.s ((s.take h.toNat).drop l.toNat))
   | _,_=>none
 | some lo, none => match evv e lo with
   | some (.i .i64 l)=>cut (decide (0<=l/\l<=s.length)) (.s (s.drop l.toNat))
   | _=>none
 | none, some hi => match evv e hi with
   | some (.i .i64 h)=>cut (decide (0<=h/\h<=s.length)) (.s (s.take h.toNat))
   | _=>none
 | none,none=>none
def slr:V->Option (Nat×Nat×Nat)
 | .l b n=>some (b,0,n)
 | .q b o k n=>some (b,o * k,n)
 | .z b o n=>some (b,o,n)
 | _=>none
theorem Zqv {L:Lc} {v:V} {b o n:Nat} (h:slr v=some (b,o,n)) (hn:0<n):∃ c,ga L v=.slice (some ⟨(L b).1,o,none⟩) n c:=by
 cases v with
 | l b' n'=>
   simp only [slr,Xk,XM] at h;obtain ⟨rfl,rfl,rfl⟩:=h;exact ⟨_,rfl⟩
 | q b' o' k' n'=>
   simp only [slr,Xk,XM] at h;obtain ⟨rfl,rfl,rfl⟩:=h;exact ⟨(L b').2 - o',by simp only [ga];rw [ZcR (Nat.ne_of_gt hn)];rfl⟩
 | z b' o' n'=>
   simp only [slr,Xk,XM] at h;obtain ⟨rfl,rfl,rfl⟩:=h;exact ⟨_,rfl⟩
 | _=>cases h
def idx (P:Program) (t:Nat):V->V->Option V
 | .p b o, .i .i64 j => match P.underlying t with
   | some (.array n el) => match (P.info? el).map (·.size) with
     | some k=>cut (decide (0<=j/\j<n)) (.p b (o+j.toNat * k))
     | none=>none
   | _=>none
 | v, .i .i64 j => match slr v, P.underlying t with
   | some (b, o, n), some (.slice el) => match (P.info? el).map (·.size) with
     | some k=>cut (decide (0<=j/\j<n)) (.p b (o+j.toNat * k))
     | none=>none
   | _,_=>none
 | _,_=>none
def Zqw:V->Option Nat
 | .l _ n=>some n
 | .q _ _ _ n=>some n
 | .z _ _ n=>some n
 | .c (.N)=>some 0
 | _=>none
theorem Zm0 {L:Lc} {v:V} {n:Nat} (h:Zqw v=some n):∃ p c,ga L v=.slice p n c:=by
 unfold Zqw at h;split at h<;>first|(cases h;done)|(simp only [Xk] at h;subst h;exact ⟨_,_,rfl⟩)
noncomputable def Zqx (P:Program) (e:AE) (c:Call):Option V:=match c.callee,c.args.toList,c.argTypes.toList with
 | .builtin .len, [x], [t] => match evv e x with
   | some (.s s)=>cut (isT P t) (.i .i64 s.length)
   | some v => match Zqw v, P.underlying t with
     | some n,some (.slice _)=>some (.i .i64 n)
     | _,_=>none
   | _=>none
 | .builtin .cap, [x], [t] => match evv e x, P.underlying t with
   | some (.c (.N)),some (.slice _)=>some (.i .i64 0)
   | _,_=>none
 | .builtin .max, [x, y], _ => match evv e x, evv e y with
   | some (.i .i64 a),some (.i .i64 b)=>some (.i .i64 (max a b))
   | _,_=>none
 | .builtin .min, [x, y], _ => match evv e x, evv e y with
   | some (.i .i64 a),some (.i .i64 b)=>some (.i .i64 (min a b))
   | _,_=>none
 | _,_,_=>none
noncomputable def Zqy (P:Program) (e:AE) (t:Nat) (lo hi:Option Operand):V->Option V
 | .s s=>bif isT P t then ZcT P e t s lo hi else none
 | .c (.N) => match lo, hi, P.underlying t with
   | none, some h, some (.slice el) => match evv e h, (P.info? el).map (·.size) with
     | some (.i .i64 0),some _=>some (.c (.N))
     | _,_=>none
   | some h, none, some (.slice el) => match evv e h, (P.info? el).map (·.size) with
     | some (.i .i64 0),some _=>some (.c (.N))
     | _,_=>none
   | _,_,_=>none
 | .p b o => match lo, hi, P.underlying t with
   | none, none, some (.array n el) => match (P.info? el).map (·.size) with
     | some _=>some (.z b o n)
     | none=>none
   | _,_,_=>none
 | _=>none
noncomputable def pur (P:Program) (e:AE):Op->Option V
 | .move x=>evv e x
 | .assign x=>evv e x
 | .pick c x y => match evv e c with
   | some (.b true)=>evv e x
   | some (.b false)=>evv e y
   | _=>none
 | .nilCheck x => match evv e x with
   | some (.p b o)=>some (.p b o)
   | _=>none
 | .binOp op t x y _ => match evv e x, evv e y with
   | some a,some b=>bin P t (isK y) op a b
   | _,_=>none
 | .unOp .not _ x => match evv e x with
   | some (.b v)=>some (.b (!v))
   | _=>none
 | .convert s d x => match evv e x, P.underlying s, P.underlying d with
   | some (.i k n),some _,some (.int k')=>some (.i k' (k'.wrap n))
   | _,_,_=>none
 | .makeFunc (.func g) fs cs => match evs e fs.toList, evs e cs.toList with
   | some x,some y=>some (.f g x y)
   | _,_=>none
 | .slice t x lo hi none => match evv e x with
   | some v=>Zqy P e t lo hi v
   | none=>none
 | .fieldAddr t x i => match evv e x, fld P t i with
   | some (.p b o),some k=>some (.p b (o+k))
   | _,_=>none
 | .field t x i => match evv e x with
   | some (.a cs)=>fieldV P t i cs
   | _=>none
 | .indexAddr t x y => match evv e x, evv e y with
   | some a,some b=>idx P t a b
   | _,_=>none
 | .index t x y => match evv e x, evv e y with
   | some (.s s),some (.i _ j)=>cut (isT P t && decide (0<=j/\j<s.length)) (.i .u8 (Z1Y s j.toNat))
   | _,_=>none
 | .extract x i => match evv e x with
   | some (.t l)=>l[i]?
   | _=>none
 | .build t ps => match parts e ps.toList with
   | some ps=>(built P t ps).map .a
   | _=>none
 | .call c=>Zqx P e c
 | _=>none
section
variable {P:Program} {n:Nat} {e:Env} {w:World} {d:Option Nat} {ty:TypeId} {pos:String} {af:Array Edge} {g:Option (Nat×Bool)}
theorem Zm1 {t el k:Nat} {x y:Operand} {b o i l c:Nat} {z:Int} [hu:Und P t (.slice el)] [hk:Siz P el k] (hx:ev e x=some (.slice (some ⟨b,o,none⟩) l c)) (hy:ev e y=some (.I z)) (hz:z=(i:Int)) (hi:i<l) :
 PR P n ⟨d,.indexAddr t x y,ty,pos,af,g⟩ e w (.pointer (some ⟨b,o+i * k,none⟩)):=
 ⟨λa ha => by
   subst hz;have h0:(0:Int)<=(i:Int)/\(i:Int)<(l:Int):=by omega
   have hr:(Instr.indexAt t (.slice (some ⟨b,o,none⟩) l c) (.I (i:Int))).run P w=.ok (.pointer (some ⟨b,o+i * k,none⟩)) w:=by
    simp only [Instr.indexAt,asIntOf];simp [run_underlying hu.h,Siz.run,Addr.add_lit,hi]
   simp [execOp,ha.ev hx,ha.ev hy,hr]⟩
theorem Z9G {L:Lc} (hG:Gl L) {e:AE} {xs:Array Operand} {vs:List V} (h:evs e xs.toList=some vs):∀ a,Has n (ge L e) a->xs.map a.eval=(gl L vs).toArray:=λa ha=>by
 rw [<- ZiJ hG h a ha,<- Ybv,X2]
theorem Zfv {t:TypeId} {x y:Operand} {a:Str} {z:Int} {i:Nat} {kk:IntKind} [hu:Und P t .string] (hx:ev e x=some (str a)) (hy:ev e y=some (.int kk z)) (hz:z=(i:Int)) (hi:i<a.length):PR P n ⟨d,.index t x y,ty,pos,af,g⟩ e w (.int .u8 (Z1Y a i)):=
 ⟨λc ha => by
   subst hz;have h1:(0:Int)<=(i:Int)/\((i:Int)<((⟨a.toArray⟩:ByteArray).size:Int)):=by rw [Z0a];omega
   have:=run_index_string (P:=P) w t ⟨a.toArray⟩ kk (i:Int) hu.h;rw [dif_pos h1] at this;simp only [execOp,ha.ev hx,ha.ev hy];simp [this,Z1Y,List.getD,hi];rfl⟩
theorem Zqz {L:Lc} (hG:Gl L) {e:AE} {t:Nat} {x y:Operand} {a b v:V} (hx:evv e x=some a) (hy:evv e y=some b) (h:idx P t a b=some v):PR P n ⟨d,.indexAddr t x y,ty,pos,af,g⟩ (ge L e) w (ga L v):=by
 have ex:=Zv hG hx;have ey:=Zv hG hy;unfold idx at h;split at h;split at h;rename_i m el h1;split at h;rename_i k h2;obtain ⟨h3,rfl⟩:=Z0r h;have h4:=of_decide_eq_true h3;have u1:Und P t (.array m el):=⟨h1⟩
 have u2:Siz P el k:=⟨h2⟩
 exact Z2E (el:=el) (k:=k) ex ey (i:=_root_.Int.toNat _) (by rw [X4 h4.1]) (by omega);cases h;cases h;split at h;rename_i b o m el h1 h2;split at h;rename_i k h5;obtain ⟨h3,rfl⟩:=Z0r h;have h4:=of_decide_eq_true h3;have u1:Und P t (.slice el):=⟨h2⟩
 have u2:Siz P el k:=⟨h5⟩
 obtain ⟨c,hv⟩:=Zqv (L:=L) h1 (by omega);rw [hv] at ex;exact Zm1 (el:=el) (k:=k) ex ey (i:=_root_.Int.toNat _) (by rw [X4 h4.1]) (by omega);cases h;cases h;cases h
theorem Zfw {L:Lc} (hG:Gl L) {e:AE} {t:Nat} {x:Operand} {s:Str} {lo hi:Option Operand} {v:V} (ht:isT P t=true) (hx:evv e x=some (.s s)) (h:ZcT P e t s lo hi=some v):PR P n ⟨d,.slice t x lo hi none,ty,pos,af,g⟩ (ge L e) w (ga L v):=by
 have ex:=Zv hG hx;have u1:=Z2X ht;unfold ZcT at h;split at h;split at h;rename_i l h' h1 h2;obtain ⟨h3,rfl⟩:=Z0r h;have h4:=of_decide_eq_true h3;exact Z2D ex (Zv hG h1) (Zv hG h2) (by rw [X4 h4.1]) (by rw [X4 (by omega)]) (by omega) (by omega);cases h;split at h;rename_i l h1;obtain ⟨h3,rfl⟩:=Z0r h;have h4:=of_decide_eq_true h3;exact Zad ex (Zv hG h1) (by rw [X4 h4.1]) (by omega);cases h;split at h;rename_i l h1;obtain ⟨h3,rfl⟩:=Z0r h;have h4:=of_decide_eq_true h3;exact Zae ex (Zv hG h1) (by rw [X4 h4.1]) (by omega);cases h;cases h
theorem Zm2 {α:Type} {a:Array α} {x:α} (h:a.toList=[x]):a=#[x]:=by rw [<- X2 (xs:=a),h]
theorem Zuc {α:Type} {a:Array α} {x y:α} (h:a.toList=[x,y]):a=#[x,y]:=by rw [<- X2 (xs:=a),h]
theorem Zm3 {L:Lc} (hG:Gl L) {e:AE} {c:Call} {v:V} (h:Zqx P e c=some v):PR P n ⟨d,.call c,ty,pos,af,g⟩ (ge L e) w (ga L v):=by
 obtain ⟨cl,xs,ts⟩:=c;unfold Zqx at h;split at h;rename_i x t h1 h2 h3
 try dsimp only at h1 h2 h3
 obtain rfl:=Zm2 h2;obtain rfl:=Zm2 h3;subst h1;split at h;rename_i h1;obtain ⟨h2,rfl⟩:=Z0r h;have:=Z2X h2;exact Zdv (Zv hG h1);rename_i v' im h1;split at h;rename_i m el h2 h3;cases h;have:Und P t (.slice el):=⟨h3⟩
 obtain ⟨p,c,hv⟩:=Zm0 (L:=L) h2;have:=Zv hG h1;rw [hv] at this;exact ZbX this;cases h;cases h;rename_i x t h1 h2 h3
 try dsimp only at h1 h2 h3
 obtain rfl:=Zm2 h2;obtain rfl:=Zm2 h3;subst h1;split at h;rename_i el h1 h2;cases h;have:Und P t (.slice el):=⟨h2⟩
 exact Zcm (Zv hG h1);cases h;rename_i x y h1 h2
 try dsimp only at h1 h2
 obtain rfl:=Zuc h2;subst h1;split at h;rename_i h1 h2;cases h;exact ZgY (Zv hG h1) (Zv hG h2);cases h;rename_i x y h1 h2
 try dsimp only at h1 h2
 obtain rfl:=Zuc h2;subst h1;split at h;rename_i h1 h2;cases h;exact ZgZ (Zv hG h1) (Zv hG h2);cases h;cases h
theorem Zm4 {L:Lc} (hG:Gl L) {e:AE} {t:Nat} {x:Operand} {u v:V} {lo hi:Option Operand} (hx:evv e x=some u) (h:Zqy P e t lo hi u=some v):PR P n ⟨d,.slice t x lo hi none,ty,pos,af,g⟩ (ge L e) w (ga L v):=by
 have ex:=Zv hG hx;unfold Zqy at h;split at h;obtain ⟨ht,h⟩:=Z00 h;exact Zfw hG ht hx h;split at h;rename_i ho el h1;split at h;rename_i k h2 h3;cases h;have u1:Und P t (.slice el):=⟨h1⟩
 have u2:Siz P el _:=⟨h3⟩
 exact ⟨λa ha=>by simp [execOp,ha.ev ex,ha.ev (Zv hG h2),ga,Instr.sliceAt,run_underlying u1.h,Instr.slice,Instr.sliceBounds,Instr.sliceBound,asIntOf,u2.run]⟩;cases h;rename_i ho el h1;split at h;rename_i k h2 h3;cases h;have u1:Und P t (.slice el):=⟨h1⟩
 have u2:Siz P el _:=⟨h3⟩
 exact ⟨λa ha=>by simp [execOp,ha.ev ex,ha.ev (Zv hG h2),ga,Instr.sliceAt,run_underlying u1.h,Instr.slice,Instr.sliceBounds,Instr.sliceBound,asIntOf,u2.run]⟩;cases h;cases h;split at h;rename_i m el h1;split at h;rename_i k h3;cases h;have u1:Und P t (.array m el):=⟨h1⟩
 have u2:Siz P el _:=⟨h3⟩
 exact ⟨λa ha=>by simp [execOp,ha.ev ex,ga,Instr.sliceAt,Instr.sureAddr,run_underlying u1.h,Instr.sliceBounds,u2.run,Addr.add]⟩;cases h;cases h;cases h
theorem ZiN {L:Lc} (hG:Gl L) {e:AE} {op:Op} {v:V} (h:pur P e op=some v):PR P n ⟨d,op,ty,pos,af,g⟩ (ge L e) w (ga L v):=by
 unfold pur at h;split at h;exact ZX (Zv hG h);exact Z5l (Zv hG h);split at h;rename_i h1;exact Z80 (Zv hG h1) (Zv hG h);rename_i h1;exact Z81 (Zv hG h1) (Zv hG h);cases h;split at h;rename_i h1;cases h;exact Z5P (Zv hG h1);cases h;split at h;rename_i h1 h2;exact Zqs hG h1 h2 h w d _ ty pos af g;cases h;split at h;rename_i h1;cases h;exact ZbT (Zv hG h1);cases h;split at h;rename_i h1 h2 h3;cases h;have u1:Und P _ _:=⟨h2⟩
 have u2:Und P _ _:=⟨h3⟩
 exact Zl2 (Zv hG h1);cases h;split at h;rename_i fs cs x y h1 h2;cases h;exact ⟨λa ha=>by simp [execOp,Instr.makeFunc,Z9G hG h1 a ha,Z9G hG h2 a ha,ga]⟩;cases h;split at h;rename_i h1;exact Zm4 hG h1 h;cases h;split at h;rename_i h1 h2;cases h;have:=Zqu h2;exact Z4v (Zv hG h1);cases h;split at h;rename_i h1;exact Zht (Zv hG h1) (Zfu L h);cases h;split at h;rename_i h1 h2;exact Zqz hG h1 h2 h;cases h;split at h;rename_i h1 h2;obtain ⟨h3,rfl⟩:=Z0r h;simp only [Xf] at h3;have h4:=of_decide_eq_true h3.2;have:=Z2X h3.1;exact Zfv (Zv hG h1) (Zv hG h2) (by rw [X4 h4.1]) (by omega);cases h;split at h;rename_i l h1;exact Z0Y (Zv hG h1) (by rw [List.getElem?_toArray,Z7o,h];rfl);cases h;split at h;rename_i ps h1;rw [XN] at h;obtain ⟨cs,h2,rfl⟩:=h;rename_i arr _ _;have:=Z0G (P:=P) (n:=n) (w:=w) (d:=d) (ty:=ty) (pos:=pos) (af:=af) (g:=g) (Z7q hG h1) (λw=>run_build w _ _ _ (ZiM L h2));simpa [ga] using this;cases h;exact Zm3 hG h;cases h
end
abbrev Tr (α:Type):=List (Nat×Option α)
noncomputable def Tr.get {α:Type} (t:Tr α) (k:Nat):Option α:=Option.rec (motive:=λ_=>Option α) none (λv=>v) (lk t k)
def Tr.put {α:Type} (v:Option α) (t:Tr α) (k:Nat):Tr α:=(k,v) :: t
theorem Tr.get_put {α:Type} (v:Option α) (t:Tr α) (k j:Nat):(Tr.put v t k).get j=if j=k then v else t.get j:=by
 unfold Tr.get Tr.put;rw [Z53];by_cases e:k=j;rw [if_pos e,if_pos e.symm];rw [if_neg e,if_neg (Ne.symm e)]
structure KI (P:Program) where
 kt:Nat
 κ:Type
 de:DecidableEq κ
 ek:Z8T P kt κ
 dec:V->Option κ
 ok:∀ L v a,dec v=some a->ga L v=ek.enc a
class KD (P:Program) where
 l:List (KI P)
def kf {P:Program}:List (KI P)->Nat->Option (KI P)
 | [],_=>none
 | K :: r,t=>bif Nat.beq K.kt t then some K else kf r t
theorem ZiO {P:Program}:∀ {l:List (KI P)} {t:Nat} {K:KI P},kf l t=some K->K.kt=t
 | [],_,_,h=>by cases h
 | K :: r, t, K', h => by
   simp only [kf] at h;cases hb:Nat.beq K.kt t with
   | true=>rw [hb] at h;cases h;exact Xq hb
   | false=>rw [hb] at h;exact ZiO (l:=r) h
inductive O where
 | c (T z:Nat) (cs:List V)
 | it (s:Str) (p:Nat)
 | mp (l:List (V×V))
 | ro (cs:List V)
 | ig
def O.bd (n:Nat):O->Bool
 | .c _ _ cs=>bl n cs
 | .it _ _=>true
 | .mp l=>l.all λp=>bl n [p.1,p.2]
 | .ro cs=>bl n cs
 | .ig=>true
structure S where
 m:Tr O
 n:Nat
def ZcU (L:Lc) (w:World) (r:Nat) (l:List (V×V)):Prop:=∃ l':List (V×V),l'.Perm l/\∃ (es:Array MapEntry) (clock:Nat),w.heap[r]?=some (.map es clock)/\es.toList.map (·.key)=l'.map (λp=>ga L p.1)/\es.toList.map (·.val)=l'.map (λp=>ga L p.2)
def Ob (L:Lc) (w:World) (k:Nat):O->Prop
 | .c T z cs=>∃ rest,Blk w (L k).1 T (gl L cs++rest)/\(z≠0->cs.length+rest.length=(L k).2 * z/\(L k).2<=maxLen)/\(z=0->rest=[])
 | .it s p=>Itr w (L k).1 s p
 | .mp l=>ZcU L w (L k).1 l
 | .ro cs=>(L k).1<w.heap.size/\∀ i u,cs[i]?=some u->w.cell? ⟨(L k).1,i,none⟩=some (ga L u)
 | .ig=>(L k).1<w.heap.size/\∃ m,w.cell? ⟨(L k).1,0,none⟩=some (.I m)
structure Rel (L:Lc) (s:S) (w:World):Prop where
 g:Gl L
 ob:∀ k o,s.m.get k=some o->Ob L w k o
 bn:∀ k o,s.m.get k=some o->k<s.n/\O.bd s.n o=true
 inj:∀ j k,(s.m.get j).isSome=true->(s.m.get k).isSome=true->(L j).1=(L k).1->j=k
 n64:64<=s.n
theorem Itr.ext {S:List Nat} {w w':World} {b p:Nat} {s:Str} (h:Itr w b s p) (hS:Stp S w w') (hb:b∉S):Itr w' b s p:=by
 have hl:=h.lt;unfold Itr at *;rw [hS.block b hl hb];exact h
theorem Ob.ext {L:Lc} {S:List Nat} {w w':World} {k:Nat} {o:O} (h:Ob L w k o) (hS:Stp S w w') (hb:(L k).1∉S):Ob L w' k o:=by
 cases o with
 | c T z cs=>obtain ⟨r,h1,h2⟩:=h;exact ⟨r,h1.ext hS hb,h2⟩
 | it s p=>exact Itr.ext h hS hb
 | mp l=>
   obtain ⟨l',h1,es,c,h2,h3⟩:=h;exact ⟨l',h1,es,c,by rw [hS.block _ (Xo.1 h2).1 hb];exact h2,h3⟩
 | ro cs=>exact ⟨Xv h.1 hS.size,λi u hu=>hS.cell hb (h.2 i u hu)⟩
 | ig=>exact ⟨Xv h.1 hS.size,h.2.imp λ_ hm=>hS.cell hb hm⟩
theorem Ob.lt {L:Lc} {w} {k:Nat} {o:O} (h:Ob L w k o):(L k).1<w.heap.size:=by
 cases o with
 | c T z cs=>obtain ⟨r,h1,h2⟩:=h;exact h1.lt
 | it s p=>exact Itr.lt h
 | mp l=>
   obtain ⟨l',h1,es,c,h2,h3⟩:=h;exact (Xo.1 h2).1
 | ro cs=>exact h.1
 | ig=>exact h.1
theorem Ob.eq {L L':Lc} {n:Nat} {w} {k:Nat} {o:O} (h:Ob L w k o) (hk:L' k=L k) (ho:o.bd n=true) (hL:∀ k,k<n->L' k=L k):Ob L' w k o:=by
 cases o with
 | c T z cs=>obtain ⟨r,h1,h2⟩:=h;exact ⟨r,by rw [hk,Z52 hL cs ho];exact h1,by rw [hk];exact h2⟩
 | it s p=>show Itr _ _ _ _;rw [hk];exact h
 | mp l=>
   obtain ⟨l',h1,es,c,h2,h3,h4⟩:=h;have hb:∀ p∈l',bd n p.1=true/\bd n p.2=true:=λp hp=>by
    have:=XQ.1 (show (l.all λp=>bl n [p.1,p.2])=true from ho) p (h1.mem_iff.1 hp);simpa [bl] using this
   refine ⟨l',h1,es,c,by rw [hk];exact h2,?_,?_⟩;rw [h3];exact Ybi λp hp=>(Z65 hL _ (hb p hp).1).symm;rw [h4];exact Ybi λp hp=>(Z65 hL _ (hb p hp).2).symm
 | ro cs=>
   refine ⟨by rw [hk];exact h.1,λi u hu=>?_⟩;rw [hk,Z65 hL u ((Z2f n cs).1 ho u (List.mem_of_getElem? hu))];exact h.2 i u hu
 | ig=>show _/\_;rw [hk];exact h
theorem O.bd_le {n m:Nat} (h:n<=m) {o:O} (ho:o.bd n=true):o.bd m=true:=by
 cases o with
 | c T z cs=>exact Z66 h cs ho
 | it s p=>rfl
 | mp l=>
   refine XQ.2 λp hp=>Z66 h _ (XQ.1 (show (l.all λp=>bl n [p.1,p.2])=true from ho) p hp)
 | ro cs=>exact Z66 h cs ho
 | ig=>rfl
def ids (n:Nat) (L:Lc) (ws:List Nat):List Nat:=(ws.filter (λk=>Nat.blt k n)).map (λk=>(L k).1)
theorem JL {n:Nat} {L:Lc} {ws:List Nat} {b:Nat}:b∈ids n L ws↔∃ k∈ws,k<n/\(L k).1=b:=by
 unfold ids;simp only [XK,XW];constructor;rintro ⟨k,⟨h1,h2⟩,h3⟩;exact ⟨k,h1,Xj h2,h3⟩;rintro ⟨k,h1,h2,h3⟩;exact ⟨k,⟨h1,X0 h2⟩,h3⟩
structure Nx (s s':S) (L L':Lc) (w w':World) (ws:List Nat):Prop where
 le:s.n<=s'.n
 ag:∀ k,k<s.n->L' k=L k
 nw:∀ k,s.n<=k->k<s'.n->w.heap.size<=(L' k).1\/(L' k).1∈ids s.n L ws
 st:Stp (ids s.n L ws) w w'
theorem Nx.refl (s:S) (L:Lc) (w):Nx s s L L w w []:=⟨Xl _,λ_ _=>rfl,λk h1 h2=>absurd h2 (YaN.2 h1),Stp.refl _ _⟩
theorem Nx.trans {s s1 s2:S} {L L1 L2:Lc} {w w1 w2:World} {ws vs:List Nat} (h:Nx s s1 L L1 w w1 ws) (k:Nx s1 s2 L1 L2 w1 w2 vs):Nx s s2 L L2 w w2 (ws++vs):=by
 have hz:=h.st.size;have eO:∀ b,b∈ids s1.n L1 vs->b∈ids s.n L (ws++vs)\/w.heap.size<=b:=λb hb=>by
  obtain ⟨j,hj,sz,rfl⟩:=JL.1 hb;by_cases qz:j<s.n;rw [h.ag j qz];exact .inl (JL.2 ⟨j,Xd.2 (.inr hj),qz,rfl⟩);rcases h.nw j (YaW qz) sz with g|g
  exact .inr g;obtain ⟨i,hi,aY,he⟩:=JL.1 g;exact .inl (JL.2 ⟨i,Xd.2 (.inl hi),aY,he⟩)
 have aY:∀ b,b∈ids s.n L ws->b∈ids s.n L (ws++vs):=λb hb=>by
  obtain ⟨i,hi,aY,he⟩:=JL.1 hb;exact JL.2 ⟨i,Xd.2 (.inl hi),aY,he⟩
 refine ⟨Xh h.le k.le,λj hj=>(k.ag j (Xv hj h.le)).trans (h.ag j hj),λj h1 h2=>?_,(h.st.mono aY).own k.st eO⟩;by_cases hj:j<s1.n;rw [k.ag j hj];exact (h.nw j h1 hj).imp id (aY _);rcases k.nw j (YaW hj) h2 with g|g
 exact .inl (Xh hz g);exact (eO _ g).symm
noncomputable def ldc (s:S) (b:Nat):Option (List V):=match s.m.get b with
 | some (.c _ _ cs)=>some cs
 | some (.ro cs)=>some cs
 | _=>none
theorem Z3B {L:Lc} {s:S} {w} (h:Rel L s w) {b:Nat} {cs:List V} (hl:ldc s b=some cs) {i:Nat} {u:V} (hu:cs[i]?=some u):w.cell? ⟨(L b).1,i,none⟩=some (ga L u):=by
 unfold ldc at hl;split at hl;rename_i T z cs' hg;cases hl;obtain ⟨r,h1,-⟩:=h.ob b _ hg;refine h1.cell ?_;rw [X1 (by rw [Jg];exact (Xw.1 hu).1),Z7o,hu];rfl;rename_i cs' hg;cases hl;exact (h.ob b _ hg).2 i u hu;cases hl
def ZcV {P:Program} (K:KI P) (a:K.κ):List (V×V)->Option (List V)
 | []=>some []
 | (q, v) :: r => match K.dec q, ZcV K a r with
   | some b, some l => match K.de b a with
     | .isTrue _=>some (v :: l)
     | .isFalse _=>some l
   | _,_=>none
def vz:Value->V
 | .agg cs=>.a (cs.toList.map ofC)
 | v=>ofC v
theorem Zud (L:Lc) (v:Value):ga L (vz v)=v:=by
 cases v with
 | agg cs=>simp only [vz,ga,Z9F,X2]
 | _=>simp only [vz,Z7n]
noncomputable def ZmD (P:Program) [KD P] (s:S) (t b:Nat) (kv:V):Option V:=match P.underlying t with
 | some (.map kt et) => match s.m.get b, kf (KD.l (P := P)) kt, (P.info? et).bind (·.zero) with
   | some (.mp l), some K, some z => match K.dec kv with
     | some a => match ZcV K a l with
       | some []=>some (vz z)
       | some [v]=>some v
       | _=>none
     | none=>none
   | _,_,_=>none
 | _=>none
noncomputable def Zue (P:Program) (e:AE) (s:S) (t b n:Nat):Option Operand->Option Operand->Option V:=λlo hi=>match s.m.get b,P.underlying t with
 | some (.c T z cs), some (.slice el) => match (P.info? el).map (·.size) with
   | some k => bif Nat.blt 0 z && Nat.ble (n * z) cs.length then (match lo, hi with
     | none, some h => match evv e h with
       | some (.i .i64 h)=>cut (decide (0<=h/\h<=n)) (.l b h.toNat)
       | _=>none
     | some h, none => match evv e h with
       | some (.i .i64 h)=>cut (decide (0<=h/\h<=n)) (.q b h.toNat k (n - h.toNat))
       | _=>none
     | _,_=>none) else none
   | none=>none
 | _,_=>none
noncomputable def rd (P:Program) [KD P] (e:AE) (s:S):Op->Option (V×Nat)
 | .load t x => match evv e x, P.underlying t with
   | some (.p b o), some D => match ldc s b with
     | some cs => match Z06 D, (P.info? t).map (·.size) with
       | true,some k=>bif Nat.ble (o+k) cs.length then some (.a ((cs.drop o).take k),b) else none
       | false, _ => match cs[o]? with
         | some v=>some (v,b)
         | none=>none
       | _,_=>none
     | none=>none
   | _,_=>none
 | .lookup t x k false => match evv e x, evv e k with
   | some (.m b),some kv=>(ZmD P s t b kv).map λv=>(v,b)
   | _,_=>none
 | .slice t x lo hi none => match evv e x with
   | some (.l b n)=>(Zue P e s t b n lo hi).map λv=>(v,b)
   | _=>none
 | _=>none
def mfl {P:Program} (K:KI P) (p:V×V):Option (K.κ×V):=(K.dec p.1).map λb=>(b,p.2)
theorem Z55 {P:Program} {K:KI P} {a:K.κ}:∀ {l:List (V×V)} {r:List V},ZcV K a l=some r->(∀ p∈l,∃ b,K.dec p.1=some b)/\r=((l.filterMap (mfl K)).filter λq=>@decide (q.1=a) (K.de q.1 a)).map (·.2)
 | [],r,h=>by simp only [ZcV,Xk] at h;subst h;exact ⟨by simp,rfl⟩
 | (q, v) :: t, r, h => by
   simp only [ZcV] at h;split at h;rename_i b l' h1 h2;obtain ⟨h3,h4⟩:=Z55 h2;have hf:mfl K (q,v)=some (b,v):=by simp [mfl,h1]
   refine ⟨λp hp=>(Xc.1 hp).elim (λe=>⟨b,by rw [e];exact h1⟩) (h3 p),?_⟩;rw [List.filterMap_cons_some hf];split at h;rename_i e e';cases h;rw [List.filter_cons_of_pos (by simpa using e),XE,h4];rename_i e e';cases h;rw [List.filter_cons_of_neg (by simpa using e),h4];cases h
theorem Z7r {P:Program} {K:KI P} (L:Lc):∀ {l:List (V×V)},(∀ p∈l,∃ b,K.dec p.1=some b)->l.map (λp=>ga L p.1)=(l.filterMap (mfl K)).map (λq=>K.ek.enc q.1)/\l.map (λp=>ga L p.2)=(l.filterMap (mfl K)).map (λq=>ga L q.2)
 | [],_=>⟨rfl,rfl⟩
 | p :: l, h => by
   obtain ⟨b,hb⟩:=h p (.head _);obtain ⟨h1,h2⟩:=Z7r L (l:=l) (λq hq=>h q (.tail _ hq));have hf:mfl K p=some (b,p.2):=by simp [mfl,hb]
   rw [List.filterMap_cons_some hf,XE,XE,XE,XE,h1,h2,K.ok L p.1 b hb];exact ⟨rfl,rfl⟩
theorem ZqA {P:Program} {K:KI P} {L:Lc} {w} {r:Nat} {l:List (V×V)} (h:ZcU L w r l) (hd:∀ p∈l,∃ b,K.dec p.1=some b):∃ N:List (K.κ×V),N.Perm (l.filterMap (mfl K))/\Jz K.ek.enc w r (N.map λq=>(q.1,ga L q.2)):=by
 obtain ⟨l',h1,es,c,h2,h3,h4⟩:=h;obtain ⟨k1,k2⟩:=Z7r (K:=K) L (l:=l') (λp hp=>hd p (h1.mem_iff.1 hp));refine ⟨l'.filterMap (mfl K),h1.filterMap _,es,c,h2,?_,?_⟩;rw [h3,k1,Yao];rfl;rw [h4,k2,Yao];rfl
theorem Zbo {κ:Type} [DecidableEq κ] (N N':List (κ×V)) (hp:N'.Perm N) (L:Lc) (a:κ) (z:Value):(∀ v,(N.filter λq=>decide (q.1=a)).map (·.2)=[v]->Z4h (N'.map λq=>(q.1,ga L q.2)) a z=ga L v)/\
 ((N.filter λq=>decide (q.1=a)).map (·.2)=[]->Z4h (N'.map λq=>(q.1,ga L q.2)) a z=z):=by
 have hf:(N'.map λq=>(q.1,ga L q.2)).find? (λp=>decide (p.1=a))=((N'.filter λq=>decide (q.1=a)).head?).map λq=>(q.1,ga L q.2):=by
  rw [List.head?_filter,List.find?_map];rfl
 have hq:=hp.filter (λq=>decide (q.1=a));constructor;intro v hv;obtain ⟨q,hq1,rfl⟩:=List.map_eq_singleton_iff.1 hv;rw [hq1] at hq;unfold Z4h;rw [hf,List.perm_singleton.1 hq];rfl;intro hv;rw [List.map_eq_nil_iff.1 hv] at hq;unfold Z4h;rw [hf,hq.eq_nil];rfl
theorem ZcU.same {L:Lc} {w w':World} {r:Nat} {l:List (V×V)} (h:ZcU L w r l) (hS:w'.heap[r]?=w.heap[r]?):ZcU L w' r l:=by
 obtain ⟨l',h1,es,c,h2,h3⟩:=h;exact ⟨l',h1,es,c,by rw [hS];exact h2,h3⟩
theorem ZmE {P:Program} [KD P] {n:Nat} {e:AE} {w w':World} {d:Option Nat} {ty:TypeId} {pos:String} {af:Array Edge} {g:Option (Nat×Bool)} {L:Lc} {s:S} {op:Op} {v:V} {b:Nat}
 (h:Rel L s w) (hr:rd P e s op=some (v,b)) (hS:w'.heap[(L b).1]?=w.heap[(L b).1]?):PR P n ⟨d,op,ty,pos,af,g⟩ (ge L e) w' (ga L v):=by
 unfold rd at hr;split at hr;split at hr;rename_i b' o D h1 h2;have u1:Und P _ D:=⟨h2⟩
 split at hr;rename_i cs h3;split at hr;rename_i k hA h4;obtain ⟨hk,hr⟩:=Z00 hr;simp only [Xk,XM] at hr;obtain ⟨rfl,rfl⟩:=hr;have jQ:=Xj hk;have u2:Siz P _ k:=⟨h4⟩
 refine Z2g (cs:=gl L ((cs.drop o).take k)) hA (Zv h.g h1) (by rw [Jg,Xx,Yae];omega) (λj u hu=>?_);rw [Z7o] at hu;rw [XN] at hu;obtain ⟨u',jP,rfl⟩:=hu;have hj:=(Xw.1 jP).1;rw [Xx] at hj;rw [List.getElem?_take_of_lt (by omega),YbF] at jP;rw [World.cell?_of_block (w:=w) hS];exact Z3B h h3 jP;rename_i _ hA;split at hr;rename_i u h4;cases hr;exact Jp hA (Zv h.g h1) (by rw [World.cell?_of_block (w:=w) hS];exact Z3B h h3 h4);cases hr;cases hr;cases hr;cases hr;split at hr;rename_i b' kv h1 h2;rw [XN] at hr;obtain ⟨v',hr,hp⟩:=hr;simp only [XM] at hp;obtain ⟨rfl,rfl⟩:=hp;unfold ZmD at hr;split at hr;rename_i kt et h3;split at hr;rename_i l K z h4 h5 h6;obtain rfl:=ZiO h5;split at hr;rename_i a h7;have hm:ZcU L w (L b').1 l:=h.ob b' _ h4;have u1:Und P _ (.map K.kt et):=⟨h3⟩
 have u2:Zer P et z:=⟨h6⟩
 have hk:=Zv h.g h2;rw [K.ok L kv a h7] at hk;have fin:∀ r,ZcV K a l=some r->∃ N:List (K.κ×V),N.Perm (l.filterMap (mfl K))/\PR P n ⟨d,.lookup _ _ _ false,ty,pos,af,g⟩ (ge L e) w' (@Z4h K.κ K.de (N.map λq=>(q.1,ga L q.2)) a z):=λr hr=>by
  obtain ⟨N,q1,q2⟩:=ZqA (K:=K) (hm.same hS) (Z55 hr).1;exact ⟨N,q1,@Z5n P n (ge L e) w' d ty pos af g _ K.kt et _ K.κ K.de _ _ z u1 K.ek u2 _ a (Zv h.g h1) hk q2⟩
 split at hr;rename_i h8;cases hr;obtain ⟨N,q1,q2⟩:=fin _ h8;rw [(@Zbo K.κ K.de _ N q1 L a z).2 (Z55 h8).2.symm] at q2;rw [Zud];exact q2;rename_i h8;cases hr;obtain ⟨N,q1,q2⟩:=fin _ h8;rw [(@Zbo K.κ K.de _ N q1 L a z).1 _ (Z55 h8).2.symm] at q2;exact q2;cases hr;cases hr;cases hr;cases hr;cases hr;split at hr;rename_i b' m h1;rw [XN] at hr;obtain ⟨v',hr,hp⟩:=hr;simp only [XM] at hp;obtain ⟨rfl,rfl⟩:=hp;unfold Zue at hr;split at hr;rename_i T z cs el h2 h3;split at hr;rename_i k h4;obtain ⟨hc,hr⟩:=Z00 hr;simp only [Xf] at hc;have c1:0<z:=Xj hc.1;have c2:=Xj hc.2;obtain ⟨rest,-,ac,-⟩:=h.ob b' _ h2;obtain ⟨r1,r2⟩:=ac (by omega);have lW:m<=(L b').2:=Nat.le_of_mul_le_mul_right (by omega) c1;have u1:Und P _ (.slice el):=⟨h3⟩
 have u2:Siz P el k:=⟨h4⟩
 have ex:=Zv h.g h1;split at hr;rename_i ho;split at hr;rename_i hh h5;obtain ⟨h6,rfl⟩:=Z0r hr;have h6:=of_decide_eq_true h6;obtain ⟨j,rfl⟩:∃ j:Nat,hh=(j:Int):=⟨hh.toNat,by omega⟩
 exact ⟨λa ha=>by simp [execOp,ha.ev ex,ha.ev (Zv h.g h5),ga,Instr.sliceAt,run_underlying u1.h,Instr.slice,Instr.sliceBounds,Instr.sliceBound,asIntOf,u2.run,Addr.add_lit,show j<=(L b').2 by omega]⟩;cases hr;rename_i ho;split at hr;rename_i hh h5;obtain ⟨h6,rfl⟩:=Z0r hr;have h6:=of_decide_eq_true h6;obtain ⟨j,rfl⟩:∃ j:Nat,hh=(j:Int):=⟨hh.toNat,by omega⟩
 refine ⟨λa ha=>?_⟩;by_cases e1:(L b').2=j;have e2:m=j:=by omega
 simp [execOp,ha.ev ex,ha.ev (Zv h.g h5),ga,Instr.sliceAt,run_underlying u1.h,Instr.slice,Instr.sliceBounds,Instr.sliceBound,asIntOf,u2.run,Addr.add_lit,e1,e2];have e3:(Nat.beq (m - j) 0 && Nat.beq (L b').2 j)=false:=by rw [ZcR e1,Ybs]
 have e4:ga L (.q b' j k (m - j))=.slice (some ⟨(L b').1,j * k,none⟩) (m - j) ((L b').2 - j):=by simp only [ga];rw [e3];rfl
 rw [Ya8,e4];simp [execOp,ha.ev ex,ha.ev (Zv h.g h5),ga,Instr.sliceAt,run_underlying u1.h,Instr.slice,Instr.sliceBounds,Instr.sliceBound,asIntOf,u2.run,Addr.add_lit,e1,show j<=m by omega];cases hr;cases hr;cases hr;cases hr;cases hr;cases hr
def upd (L:Lc) (n:Nat) (p:Nat×Nat):Lc:=λk=>if k=n then p else L k
theorem Z5G {L:Lc} {n k:Nat} {p:Nat×Nat} (h:k≠n):upd L n p k=L k:=if_neg h
theorem ZR (L:Lc) (n:Nat) (p:Nat×Nat):upd L n p n=p:=if_pos rfl
theorem Z1k {L:Lc} {n:Nat} {p:Nat×Nat}:∀ k,k<n->upd L n p k=L k:=λ_ hk=>Z5G (Nat.ne_of_lt hk)
def Z56 (s:S) (o:O):Option S:=bif o.bd s.n then some ⟨s.m.put (some o) s.n,s.n+1⟩ else none
theorem Rel.new' {L:Lc} {s s':S} {w} {o:O} {p:Nat×Nat} (h:Rel L s w) (hn:Z56 s o=some s') (hf:∀ k o',s.m.get k=some o'->(L k).1≠p.1) (ho:Ob (upd L s.n p) w s.n o):Rel (upd L s.n p) s' w/\s'.n=s.n+1:=by
 unfold Z56 at hn;obtain ⟨h2,hn⟩:=Z00 hn;simp only [Xk] at hn;subst hn;have bG:∀ k,(Tr.put (some o) s.m s.n).get k=if k=s.n then some o else s.m.get k:=λk=>Tr.get_put _ _ _ _
 have n64:=h.n64;refine ⟨⟨λg hg=>?_,λk o' hk=>?_,λk o' hk=>?_,λj k hj hk he=>?_,by show 64<=s.n+1;omega⟩,rfl⟩;rw [Z1k g (by omega)];exact h.g g hg;dsimp only at hk;rw [bG] at hk;by_cases e:k=s.n;rw [if_pos e] at hk;cases hk;subst e;exact ho;rw [if_neg e] at hk;obtain ⟨a,b⟩:=h.bn k o' hk;exact (h.ob k o' hk).eq (Z1k k a) b Z1k;dsimp only at hk;rw [bG] at hk;by_cases e:k=s.n;rw [if_pos e] at hk;cases hk;exact ⟨by show k<s.n+1;omega,O.bd_le (YbH _) h2⟩;rw [if_neg e] at hk;obtain ⟨a,b⟩:=h.bn k o' hk;exact ⟨Nat.lt_succ_of_lt a,O.bd_le (YbH _) b⟩;dsimp only at hj hk;rw [bG] at hj hk;by_cases e1:j=s.n;by_cases e2:k=s.n;rw [e1,e2];rw [if_neg e2] at hk;obtain ⟨o',ir⟩:=X6.1 hk;rw [e1,ZR,Z1k k (h.bn k o' ir).1] at he;exact absurd he.symm (hf k o' ir);rw [if_neg e1] at hj;obtain ⟨o',ir⟩:=X6.1 hj;by_cases e2:k=s.n;rw [e2,ZR,Z1k j (h.bn j o' ir).1] at he;exact absurd he (hf j o' ir);rw [if_neg e2] at hk;obtain ⟨o2,cE⟩:=X6.1 hk;rw [Z1k j (h.bn j o' ir).1,Z1k k (h.bn k o2 cE).1] at he;exact h.inj j k (by rw [ir];rfl) hk he
theorem Rel.up {L:Lc} {s:S} {w w':World} (h:Rel L s w) (hS:Stp [] w w'):Rel L s w':=⟨h.g,λk o hk=>(h.ob k o hk).ext hS (by simp),h.bn,h.inj,h.n64⟩
theorem Rel.new {L:Lc} {s s':S} {w w':World} {o:O} {p:Nat×Nat} (h:Rel L s w) (hn:Z56 s o=some s') (hT:Stp [] w w') (hb:w.heap.size<=p.1) (ho:Ob (upd L s.n p) w' s.n o) :
 Rel (upd L s.n p) s' w'/\Nx s s' L (upd L s.n p) w w' []/\s'.n=s.n+1:=by
 obtain ⟨a1,a2⟩:=(h.up hT).new' hn (λk o' hk he=>by have:=(h.ob k o' hk).lt;omega) ho;refine ⟨a1,⟨by omega,Z1k,λk h3 h4=>?_,by simpa [ids] using hT⟩,a2⟩;obtain rfl:k=s.n:=by omega
 rw [ZR];exact .inl hb
def Z7s (s:S) (k:Nat) (o:Option O):S:=⟨s.m.put o k,s.n⟩
theorem Rel.set {L:Lc} {s:S} {w w':World} {k:Nat} {o o':O} (h:Rel L s w) (hk:s.m.get k=some o) (hS:Stp [(L k).1] w w') (ho:Ob L w' k o') (hb:o'.bd s.n=true) :
 Rel L (Z7s s k (some o')) w'/\Nx s (Z7s s k (some o')) L L w w' [k]:=by
 have fW:=(h.bn k o hk).1;have bG:∀ j,(Tr.put (some o') s.m k).get j=if j=k then some o' else s.m.get j:=λj=>Tr.get_put _ _ _ _
 have gW:∀ j,((Tr.put (some o') s.m k).get j).isSome=true->(s.m.get j).isSome=true:=λj hj=>by
  rw [bG] at hj;by_cases e:j=k;rw [e,hk];rfl
  rwa [if_neg e] at hj
 refine ⟨⟨h.g,λj o1 hj=>?_,λj o1 hj=>?_,λi j hi hj he=>h.inj i j (gW i hi) (gW j hj) he,h.n64⟩,⟨Xl _,λ_ _=>rfl,λj h1 h2=>absurd h2 (YaN.2 h1),?_⟩⟩;dsimp only [Z7s] at hj;rw [bG] at hj;by_cases e:j=k;rw [if_pos e] at hj;cases hj;exact e ▸ ho;rw [if_neg e] at hj;exact (h.ob j o1 hj).ext hS (by
  simp only [Xm];exact λhe=>e (h.inj j k (by rw [hj];rfl) (by rw [hk];rfl) he))
 dsimp only [Z7s] at hj;rw [bG] at hj;by_cases e:j=k;rw [if_pos e] at hj;cases hj;exact ⟨e ▸ fW,hb⟩;rw [if_neg e] at hj;exact h.bn j o1 hj;refine hS.mono (λb hb=>?_);simp only [Xm] at hb;exact JL.2 ⟨k,by simp,fW,hb.symm⟩
theorem Rel.kill {L:Lc} {s:S} {w} {k:Nat} (h:Rel L s w) (hk:k<s.n):Rel L (Z7s s k none) w:=by
 have bG:∀ j,(Tr.put (none:Option O) s.m k).get j=if j=k then none else s.m.get j:=λj=>Tr.get_put _ _ _ _
 have gW:∀ j o,(Tr.put (none:Option O) s.m k).get j=some o->s.m.get j=some o:=λj o hj=>by
  rw [bG] at hj;by_cases e:j=k;rw [if_pos e] at hj;cases hj
  rwa [if_neg e] at hj
 refine ⟨h.g,λj o hj=>h.ob j o (gW j o hj),λj o hj=>h.bn j o (gW j o hj),λi j hi hj he=>?_,h.n64⟩;obtain ⟨a,ha⟩:=X6.1 hi;obtain ⟨b,hb⟩:=X6.1 hj;exact h.inj i j (by rw [gW i a ha];rfl) (by rw [gW j b hb];rfl) he
def oc:V->Bool
 | .a _=>false
 | .t _=>false
 | .c v=>v.oneCell'
 | _=>true
theorem ZcW {L:Lc} {v:V} (h:oc v=true):(ga L v).oneCell'=true:=by
 cases v<;>first|rfl|exact h|cases h
abbrev Rs:=Option V×S×List Nat
noncomputable def stA (P:Program) (e:AE) (s:S) (t:Nat) (x y:Operand):Option Rs:=match evv e x,evv e y with
 | some (.p b o), some v => match s.m.get b, (P.info? t).map (·.size) with
   | some (.c T z cs),some m=>bif decide ((vc v).length=m) && (vc v).all oc && Nat.ble (o+(vc v).length) cs.length && bl s.n (vc v) then some (none,Z7s s b (some (.c T z (cs.take o++vc v++cs.drop (o+(vc v).length)))),[b]) else none
   | _,_=>none
 | _,_=>none
def Po (L:Lc) (s:S) (w:World) (r:Rs) (u:Value) (w':World):Prop:=∃ L',Nx s r.2.1 L L' w w' r.2.2/\Rel L' r.2.1 w'/\∀ v,r.1=some v->u=ga L' v
section
variable {P:Program} {n:Nat} {e:AE} {w:World} {d:Option Nat} {ty:TypeId} {pos:String} {af:Array Edge} {g:Option (Nat×Bool)} {L:Lc} {s:S}
theorem ZqB {t:Nat} {x y:Operand} {r:Rs} (h:Rel L s w) (hr:stA P e s t x y=some r):OE P n ⟨d,.store t x y,ty,pos,af,g⟩ (ge L e) w (Po L s w r):=by
 unfold stA at hr;split at hr;rename_i b o v h1 h2;split at hr;rename_i T z cs m h3 h4;obtain ⟨hc,hr⟩:=Z00 hr;simp only [Xk] at hr;subst hr;simp only [Xf] at hc;obtain ⟨⟨⟨c1,c2⟩,c3⟩,c4⟩:=hc;have c1:=of_decide_eq_true c1;have c3:=Xj c3;have u1:Siz P t m:=⟨h4⟩
 obtain ⟨rest,hB,ac,iZ⟩:=h.ob b _ h3;have ak:=Jg L cs;refine (Z1G (us:=gl L (vc v)) (Zv h.g h1) (Zv h.g h2) (ZiL L v) (by rw [Jg];exact c1) (λc hc=>?_) hB (by rw [Jg,Xa,ak];omega)).mono (λu w' hw=>?_);rw [Jw] at hc;obtain ⟨q,hq,rfl⟩:=XK.1 hc;exact ZcW (XQ.1 c2 q hq);obtain ⟨hS,kC⟩:=hw;have dP:=(h.bn b _ h3).2;have key:((gl L cs++rest).take o++gl L (vc v)++(gl L cs++rest).drop (o+(gl L (vc v)).length))=gl L (cs.take o++vc v++cs.drop (o+(vc v).length))++rest:=by
  rw [Jg,Ya1 (by rw [ak];omega),List.drop_append_of_le_length (by rw [ak];omega)];simp only [Jw,XL,List.map_take,List.map_drop,XC]
 rw [key] at kC;obtain ⟨a1,a2⟩:=h.set (o':=.c T z (cs.take o++vc v++cs.drop (o+(vc v).length))) h3 hS ⟨rest,kC,λhz=>by
  have:=ac hz;refine ⟨?_,this.2⟩;rw [<- this.1];simp only [Xa,Xx,Yae];omega,iZ⟩ ((Z2f _ _).2 λq hq=>by
   have mZ:=(Z2f _ _).1 (show bl s.n cs=true from dP);rcases Xd.1 hq with hq|hq
   rcases Xd.1 hq with hq|hq
   exact mZ q (Yad hq);exact (Z2f _ _).1 c4 q hq;exact mZ q (YaF hq))
 exact ⟨L,a2,a1,λv hv=>by cases hv⟩;cases hr;cases hr
end
def zro (z:Value) (N:Nat):List V:=(List.range N).map λi=>ofC (z.cells[i % z.cells.size]!)
theorem ZcX (L:Lc) (z:Value) (N:Nat):gl L (zro z N)=((Array.range N).map (z.cells[· % z.cells.size]!)).toList:=by
 rw [Jw];simp [zro,Yao,Function.comp_def,Z7n]
def byV (c:UInt8):V:=.i .u8 (c.toNat:Int)
inductive Kv where
 | p
 | l (n:Nat)
 | m
def Kv.v:Kv->Nat->V
 | .p,k=>.p k 0
 | .l n,k=>.l k n
 | .m,k=>.m k
theorem Kv.eq {L L':Lc} {k:Nat} (h:L' k=L k) (f:Kv):ga L' (f.v k)=ga L (f.v k):=by cases f<;>simp only [Kv.v,ga,h]
noncomputable def mkO (P:Program) (e:AE):Op->Option (Kv×O)
 | .alloc t => match (P.info? t).bind (·.zero) with
   | some z=>some (.p,.c t 0 (z.cells.toList.map ofC))
   | none=>none
 | .box t x => match evv e x with
   | some v=>some (.p,.c t 0 (vc v))
   | none=>none
 | .buildSlice t len ps => match parts e ps.toList, P.underlying t with
   | some ps, some (.slice el) => match P.info? el with
     | some ie => match ie.zero with
       | some z => bif Nat.blt 0 (len * ie.size) && Nat.ble (len * ie.size) 100000 && Nat.ble len maxLen then
          (match Z7p (λi=>some (i * ie.size,ie.size)) (zro z (len * ie.size)) ps with
          | some cs=>bif Nat.beq cs.length (len * ie.size) then some (.l len,.c el ie.size cs) else none
          | none=>none) else none
       | none=>none
     | none=>none
   | _,_=>none
 | .range t x => match evv e x with
   | some (.s z)=>bif isT P t then some (.p,.it z 0) else none
   | _=>none
 | .convert sr ds x => match evv e x, P.underlying ds with
   | some (.s z), some (.slice el) => match P.underlying el with
     | some (.int .u8)=>bif isT P sr && Nat.ble z.length 100000 then some (.l z.length,.ro (z.map byV)) else none
     | _=>none
   | _,_=>none
 | .makeMap t none=>some (.m,.mp [])
 | .makeSlice t x y => match P.underlying t, evv e x, evv e y with
   | some (.slice el), some (.i .i64 n), some (.i .i64 m) => match P.info? el with
     | some ie => match ie.zero with
       | some z=>bif decide (n=m/\0<=n/\n<=1000000) && Nat.blt 0 ie.size && Nat.ble ie.bytes 1000000 then some (.l n.toNat,.c el ie.size (zro z (n.toNat * ie.size))) else none
       | none=>none
     | none=>none
   | _,_,_=>none
 | .call ⟨.builtin .append, ⟨[x, y]⟩, ⟨[t, t']⟩⟩ => match P.underlying t, P.underlying t', evv e x, evv e y with
   | some (.slice el), some (.int kn), some (.c (.N)), some (.i .i64 n) => match P.info? el with
     | some ie => match ie.zero with
       | some z=>bif decide (0<n/\n<=1000000) && Nat.beq z.cells.size ie.size && Nat.blt 0 ie.size && Nat.ble ie.bytes 1000000 then some (.l n.toNat,.c el ie.size (zro z (n.toNat * z.cells.size))) else none
       | none=>none
     | none=>none
   | _,_,_,_=>none
 | _=>none
def Zfx (L:Lc) (w:World) (k:Nat) (f:Kv) (o:O) (u:Value) (w':World):Prop:=∃ p:Nat×Nat,w.heap.size<=p.1/\Stp [] w w'/\Ob (upd L k p) w' k o/\u=ga (upd L k p) (f.v k)
noncomputable def nxA (e:AE) (s:S) (x:Operand):Option Rs:=match evv e x with
 | some (.p b 0) => match s.m.get b with
   | some (.it z p) => match z[p]? with
     | some c=>bif Nat.blt c.toNat 128 then some (some (.t [.b true,.i .i64 p,.i .i32 c.toNat]),Z7s s b (some (.it z (p+1))),[b]) else none
     | none=>some (some (.t [.b false]),s,[])
   | _=>none
 | _=>none
section
variable {P:Program} {n:Nat} {e:AE} {w:World} {d:Option Nat} {ty:TypeId} {pos:String} {af:Array Edge} {g:Option (Nat×Bool)} {L:Lc} {s:S}
theorem ZiP {k T z c b:Nat} {cs:List V} {f:Kv} {u:Value} {w':World} (rest:List Value) (hb:w.heap.size<=b) (hB:Blk w' b T (gl L cs++rest)) (hT:Stp [] w w') (iK:bl k cs=true) (hz:z≠0->cs.length+rest.length=c * z/\c<=maxLen) (h0:z=0->rest=[])
 (hu:u=ga (upd L k (b,c)) (f.v k)):Zfx L w k f (.c T z cs) u w':=
 ⟨(b,c),hb,hT,⟨rest,by rw [ZR,Z52 (L:=L) Z1k cs iK];exact hB,λh=>by rw [ZR];exact hz h,h0⟩,hu⟩
theorem ZiQ {src dst el:TypeId} {x:Operand} {z:Str} {E:Env} [hs:Und P src .string] [hd:Und P dst (.slice el)] [he:Und P el (.int .u8)] (hx:ev E x=some (str z)) (hl:z.length<=1000000) :
 OE P n ⟨d,.convert src dst x,ty,pos,af,g⟩ E w (λv w'=>(∃ c,v=.slice (some ⟨w.heap.size,0,none⟩) z.length c)/\w.heap.size<w'.heap.size/\(∀ i u,(z.map byV)[i]?=some u->w'.cell? ⟨w.heap.size,i,none⟩=some (ga L u))/\Stp [] w w'):=by
 refine ZL (v:=.slice (some ⟨w.heap.size,0,none⟩) z.length (grownCap w z.length 0 el)) (w':=Go.Lib.bytesWorld w el ⟨z.toArray⟩) (λa ha=>?_) ⟨⟨_,rfl⟩,by rw [Go.Lib.bytesWorld_size];omega,λi u hu=>?_,?_⟩;have h:=Go.Lib.run_convert_string_bytes (P:=P) w src dst el ⟨z.toArray⟩ hs.h hd.h he.h;simp only [Z0a] at h;simp [execOp,ha.ev hx,h];rw [Yai,XN] at hu;obtain ⟨c,hc,rfl⟩:=hu;have hi:=(Xw.1 hc).1;have hz:=(Xw.1 hc).2;have h:=Go.Lib.bytesWorld_cell w el ⟨z.toArray⟩ i (by rw [Z0a];exact hi);rw [h];simp [byV,ga,hi,hz];refine ⟨rfl,rfl,rfl,?_,λb hb _=>Go.Lib.bytesWorld_at_old w el _ b hb⟩;rw [Go.Lib.bytesWorld_size];omega
theorem ZcY {op:Op} {f:Kv} {o:O} (k:Nat) (hG:Gl L) (hr:mkO P e op=some (f,o)) (hk:o.bd k=true):OE P n ⟨d,op,ty,pos,af,g⟩ (ge L e) w (Zfx L w k f o):=by
 unfold mkO at hr;split at hr;split at hr;rename_i z h1;cases hr;have u1:Zer P _ z:=⟨h1⟩
 refine Z4.mono (λu w' hw=>?_);obtain ⟨b,rfl,hb,hB,hT⟩:=hw;exact ZiP (c:=0) [] hb (by rw [Z9F,Xz];exact hB) hT hk (λh=>absurd rfl h) (λ_=>rfl) (by simp only [Kv.v,ga,ZR]);cases hr;split at hr;rename_i v h1;cases hr;refine (Zp (Zv hG h1)).mono (λu w' hw=>?_);obtain ⟨b,rfl,hb,hB,hT⟩:=hw;exact ZiP (c:=0) [] hb (by rw [<- ZiL,Xz];exact hB) hT hk (λh=>absurd rfl h) (λ_=>rfl) (by simp only [Kv.v,ga,ZR]);cases hr;split at hr;rename_i vs el h1 h2;split at hr;rename_i ie h3;split at hr;rename_i z h4;obtain ⟨hc,hr⟩:=Z00 hr;simp only [Xf] at hc;obtain ⟨⟨c1,c2⟩,c3⟩:=hc;have c1:=Xj c1;have c2:=Xj c2;have c3:=Xj c3;split at hr;rename_i cs h5;obtain ⟨hl,hr⟩:=Z00 hr;have hl:=Xq hl;cases hr;have hf:=Z54 L _ _ _ _ h5;rw [ZcX,X2] at hf;have hb:∀ w:World,(Instr.buildSlice _ _ (gp L vs).toArray).run P w=.ok (.slice (some ⟨w.heap.size,0,none⟩) _ _) (w.alloc (.cells (gl L cs).toArray el)):=λw=>
  run_buildSlice w _ el _ _ _ ie z h2 h3 h4 (by omega) (by omega) hf
 have:=Z1 (P:=P) (n:=n) (w:=w) (d:=d) (ty:=ty) (pos:=pos) (af:=af) (g:=g) (Z7q hG h1) hb;rw [X2] at this;refine this.mono (λu w' hw=>?_);obtain ⟨b,rfl,iu,hB,hT⟩:=hw;exact ZiP (c:=_) [] iu (by rw [Xz];exact hB) hT hk (λ_=>⟨by rw [Xi];exact hl,c3⟩) (λ_=>rfl) (by simp only [Kv.v,ga,ZR]);cases hr;cases hr;cases hr;cases hr;split at hr;rename_i z h1;obtain ⟨ht,hr⟩:=Z00 hr;have:=Z2X ht;cases hr;refine (Zhs (Zv hG h1)).mono (λu w' hw=>?_);obtain ⟨b,rfl,hb,hI,hT⟩:=hw;exact ⟨(b,0),hb,hT,by show Itr _ _ _ _;rw [ZR];exact hI,by simp only [Kv.v,ga,ZR]⟩;cases hr;split at hr;rename_i z el h1 h2;split at hr;rename_i h3;obtain ⟨hc,hr⟩:=Z00 hr;simp only [Xf] at hc;have u1:=Z2X hc.1;have u2:Und P _ (.slice el):=⟨h2⟩
 have u3:Und P el (.int .u8):=⟨h3⟩
 cases hr;have hz:=Xj hc.2;refine (ZiQ (L:=L) (Zv hG h1) (by omega)).mono (λu w' hw=>?_);obtain ⟨⟨c,rfl⟩,hlt,am,hT⟩:=hw;refine ⟨(w.heap.size,c),Xl _,hT,?_,by simp only [Kv.v,ga,ZR]⟩;show (upd L k (w.heap.size,c) k).1 < _/\_;rw [ZR];refine ⟨hlt,λi u hu=>?_⟩;have:=am i u hu;rw [Yai,XN] at hu;obtain ⟨q,-,rfl⟩:=hu;exact this;cases hr;cases hr;cases hr;exact ZL (v:=.map (some w.heap.size)) (w':=w.alloc (.map #[] 0)) (λa ha=>by simp [execOp,run_makeMap]) ⟨(w.heap.size,0),Xl _,Stp.alloc _ _ _,⟨[],Yam _,#[],0,by rw [ZR];exact heap_alloc_new w _,rfl,rfl⟩,by simp only [Kv.v,ga,ZR]⟩;split at hr;rename_i el nn m h1 h2 h3;split at hr;rename_i ie h4;split at hr;rename_i z h5;obtain ⟨hc,aO⟩:=Z00 hr;simp only [Xf] at hc;obtain ⟨⟨c1,c2⟩,c3⟩:=hc;obtain ⟨rfl,c4,c5⟩:=of_decide_eq_true c1;have c2:0<ie.size:=Xj c2;have c3:=Xj c3;cases aO;obtain ⟨j,rfl⟩:∃ j:Nat,nn=(j:Int):=⟨nn.toNat,by omega⟩
 have hj:j<=1000000:=by omega
 rw [Ya8] at hk ⊢;have qA:ie.bytes * j<=281474976710656:=Xh (Yal c3 hj) (by decide);obtain ⟨w',bj,cm,o4⟩:=run_make_full (P:=P) w w.heap.size _ el ie z ie.size h1 h4 h5 rfl .i64 .i64 j qA (by simp only [maxLen];omega) (Xl _);refine ZL (v:=.slice (some ⟨w.heap.size,0,none⟩) j j) (w':=w') (λa ha=>by simp [execOp,ha.ev (Zv hG h2),ha.ev (Zv hG h3),ga,bj]) ?_;rcases cm.2 with ⟨h,_⟩|⟨gb,cap,cur,h,cg,hg,hn,hm,aR,ia⟩
 cases h;cases h;have hl:(gl L (zro z (j * ie.size))).length=j * ie.size:=by rw [Jg];simp [zro]
 refine ZiP (c:=j) [] (Xl _) (by
  rw [Xz,ZcX];show _=some _;rw [hg,<- X2 (xs:=cur),<- XS (l:=cur.toList) (i:=j * ie.size) (by rw [Yab,aR];exact Xl _),ia];rfl) (Stp.of_grown o4) hk (λ_=>⟨by rw [Xi,<- Jg L];exact hl,by simp only [maxLen];omega⟩) (λ_=>rfl) (by simp only [Kv.v,ga,ZR])
 cases hr;cases hr;cases hr;split at hr;rename_i el kn nn h1 h2 h3 h4;split at hr;rename_i ie h5;split at hr;rename_i z h6;obtain ⟨hc,hr⟩:=Z00 hr;simp only [Xf] at hc;obtain ⟨⟨⟨c1,c2⟩,c3⟩,c4⟩:=hc;obtain ⟨c5,c6⟩:=of_decide_eq_true c1;have c2:=Xq c2;have c3:0<ie.size:=Xj c3;have c4:=Xj c4;cases hr;obtain ⟨j,rfl⟩:∃ j:Nat,nn=(j:Int):=⟨nn.toNat,by omega⟩
 have hj:j<=1000000:=by omega
 rw [Ya8] at hk ⊢;have qA:j * ie.bytes<=281474976710656:=Xh (Yal hj c4) (by decide);have bj:=Go.Lib.run_append_nil_zeros (P:=P) w _ _ ty el ie z .i64 kn h1 h2 h5 h6 j (by omega) c3 (by omega) qA;have kT:=grownCap_ge w j 0 el;refine ZL (v:=.slice (some ⟨w.heap.size,0,none⟩) j (grownCap w j 0 el)) (w':=w.drew.alloc (.cells (Builtin.zeroCells z.cells j++Builtin.zeroCells z.cells (grownCap w j 0 el - j)) el)) (λa ha=>by
  have e1:=ha.ev (Zv hG h3);have e2:=ha.ev (Zv hG h4);simp only [ga] at e1 e2;simp [execOp,resolve,invoke,builtin,e1,e2,bj]) ?_
 refine ZiP (c:=grownCap w j 0 el) (Builtin.zeroCells z.cells (grownCap w j 0 el - j)).toList (Xl _) (by
  rw [ZcX];have:=heap_alloc_new w.drew (.cells (Builtin.zeroCells z.cells j++Builtin.zeroCells z.cells (grownCap w j 0 el - j)) el);show _=some _;rw [show w.heap.size=w.drew.heap.size from rfl,this];congr 2;apply Array.ext';simp [Builtin.zeroCells]) ((Stp.drew [] w).trans (Stp.alloc [] _ _)) hk (λ_=>⟨by
   have q1:(zro z (j * z.cells.size)).length=j * z.cells.size:=by simp [zro]
   have q2:(Builtin.zeroCells z.cells (grownCap w j 0 el - j)).toList.length=(grownCap w j 0 el - j) * z.cells.size:=by rw [Yab,size_zeroCells]
   rw [q1,q2,c2,<- YbR];congr 1;omega,grownCap_le_maxLen w j 0 el (by simp only [maxLen];omega)⟩) (λh0=>by omega) (by simp only [Kv.v,ga,ZR])
 cases hr;cases hr;cases hr;cases hr
theorem Zuf {x:Operand} {r:Rs} (h:Rel L s w) (hr:nxA e s x=some r):OE P n ⟨d,.next x true,ty,pos,af,g⟩ (ge L e) w (Po L s w r):=by
 unfold nxA at hr;split at hr;rename_i b h1;split at hr;rename_i z p h2;have hI:Itr w (L b).1 z p:=h.ob b _ h2;split at hr;rename_i c h3;obtain ⟨ha,hr⟩:=Z00 hr;cases hr;have hp:=(Xw.1 h3).1;have hc:z[p]=c:=(Xw.1 h3).2;have hd:=ZeD hp (by rw [hc];exact Xj ha);refine (ZkY (Zv h.g h1) hI hp).mono (λu w' hw=>?_);obtain ⟨rfl,hI',hS⟩:=hw;rw [hd] at hI';obtain ⟨a1,a2⟩:=h.set (o':=.it z (p+1)) h2 hS hI' rfl;exact ⟨L,a2,a1,λv' hv=>by cases hv;simp only [ga,gl,hd,hc]⟩;rename_i h3;cases hr;refine (Zcl (Zv h.g h1) hI (by simpa using h3)).mono (λu w' hw=>?_);obtain ⟨rfl,rfl⟩:=hw;exact ⟨L,Nx.refl _ _ _,h,λv' hv=>by cases hv;rfl⟩;cases hr;cases hr
end
noncomputable def Zm5 (e:AE) (s:S) (y:Operand) (k:Nat):Option (Nat×List V):=match evv e y with
 | some (.l b m) => match ldc s b with
   | some cs=>bif Nat.ble (m * k) cs.length then some (m,cs.take (m * k)) else none
   | none=>none
 | some (.c (.N))=>some (0,[])
 | _=>none
def Zbp (s:S) (b:Nat):S:=Z7s s b none
noncomputable def Zug (s:S) (el k:Nat) (xv:V) (m:Nat) (news:List V):Option Rs:=match xv with
 | .c (.N) => match m with
   | 0=>some (some xv,s,[])
   | _ => match Z56 s (.c el k news) with
     | some s'=>some (some (.l s.n m),s',[])
     | none=>none
 | .l b n => match s.m.get b with
   | some (.c T z cs) => bif Nat.beq T el && Nat.beq z k && Nat.ble (n * k) cs.length && Nat.ble (n + m) 1000000 then (match m with
     | 0=>some (some xv,s,[])
     | _ => match Z56 (Zbp s b) (.c el k (cs.take (n * k) ++ news)) with
       | some s'=>some (some (.l s.n (n+m)),s',[b])
       | none=>none) else none
   | _=>none
 | _=>none
noncomputable def apA (P:Program) (e:AE) (s:S):Op->Option Rs
 | .call ⟨.builtin .append, ⟨[x, y]⟩, ⟨[t, t']⟩⟩ => match P.underlying t with
   | some (.slice el) => match P.info? el with
     | some ie => match ie.zero with
       | some z => bif Nat.beq t t' && Nat.beq z.cells.size ie.size && Nat.blt 0 ie.size && Nat.ble ie.bytes 1000000 then (match evv e x, Zm5 e s y ie.size with
         | some xv,some (m,news)=>bif news.all oc && Nat.ble m 1000000 then Zug s el ie.size xv m news else none
         | _,_=>none) else none
       | none=>none
     | none=>none
   | _=>none
 | .call ⟨.builtin .copy, ⟨[x, y]⟩, ⟨[t, _]⟩⟩ => match P.underlying t, evv e x with
   | some (.slice el), some (.l b n) => match (P.info? el).map (·.size) with
     | some k => match s.m.get b, Zm5 e s y k with
       | some (.c T z cs),some (m,news)=>bif Nat.ble m n && news.all oc && bl s.n news && Nat.ble news.length cs.length then some (some (.i .i64 m),Z7s s b (some (.c T z (news++cs.drop news.length))),[b]) else none
       | _,_=>none
     | none=>none
   | _,_=>none
 | _=>none
section
variable {P:Program} {n:Nat} {e:AE} {w:World} {d:Option Nat} {ty:TypeId} {pos:String} {af:Array Edge} {g:Option (Nat×Bool)} {L:Lc} {s:S}
theorem Zeb {E:Env} {x y:Operand} {t el m c j:Nat} {ie:TypeInfo} {z v:Value} {a:Addr} {xs news:List Value} (ht:P.underlying t=some (.slice el)) (hi:P.info? el=some ie) (hz:ie.zero=some z) (dW:z.cells.size=ie.size) (aZ:0<ie.size) (oa:ie.bytes<=1000000)
 (hx:ev E x=some v) (hy:ev E y=some (.slice (some a) m c)) (cm:w.ownsRow 0 el ie.size v j xs) (hl:news.length=m * ie.size) (cx:∀ j u,news[j]?=some u->w.cell? (a.add j)=some u) (h1:∀ u∈news,u.oneCell'=true) (hm:0<m) (vB:j+m<=2000000) :
 OE P n ⟨d,.call { callee:=.builtin .append,args:=#[x,y],argTypes:=#[t,t] },ty,pos,af,g⟩ E w (λv' w'=>∃ q cap rest,v'=.slice (some ⟨q,0,none⟩) (j+m) cap/\Blk w' q el (xs++news++rest)/\(xs++news).length+rest.length=cap * ie.size/\cap<=maxLen/\Stp (ob v) w w'/\(q∈ob v\/w.heap.size<=q)):=by
 have cU:(j+m) * ie.bytes<=140737488355328:=Xh (Yal vB oa) (by omega);have eT:j+m<=maxLen:=by simp only [maxLen];omega
 obtain ⟨v',w',bj,h2,h3,h4⟩:=run_append_own (P:=P) w 0 t ty el ie z ie.size ie.bytes ht hi hz rfl rfl dW aZ v j xs cm a m c news hl cx h1 eT cU (Xr _);have ab:=Z4x (P:=P) ht hi hz rfl rfl cm hl cx h1 eT cU bj;have hS:Stp (ob v) w w':=by rw [<- ZbZ];exact Stp.of_grown h3
 refine ZL (v:=v') (w':=w') (λa ha=>by simp [execOp,resolve,invoke,builtin,ha.ev hx,ha.ev hy,bj]) ?_;rcases h2.2 with ⟨rfl,h0⟩|⟨q,cap,cur,rfl,hb,hg,bX,bE,aR,j9⟩
 omega;refine ⟨q,cap,cur.toList.drop ((j+m) * ie.size),rfl,?_,?_,bE,hS,ab q (by simp [ob])⟩;rw [<- j9,XZ];exact hg;rw [<- aR,<- j9,Xx,Yae,Yab];omega
theorem Zec {E:Env} {x y:Operand} {t el j c c':Nat} {p q:Option Addr} [ht:Und P t (.slice el)] {k:Nat} [hk:Siz P el k] (hx:ev E x=some (.slice p j c)) (hy:ev E y=some (.slice q 0 c')) (hj:j<=c) :
 OE P n ⟨d,.call { callee:=.builtin .append,args:=#[x,y],argTypes:=#[t,t] },ty,pos,af,g⟩ E w (λv w'=>v=.slice p j c/\w'=w):=by
 refine ZL (v:=.slice p j c) (w':=w) (λa ha=>?_) ⟨rfl,rfl⟩;have h1:(Builtin.firstCells k 0 (.slice q 0 c')).run P w=.ok #[] w:=by
  cases q with
  | none=>simp [Builtin.firstCells]
  | some a=>have:=run_loadCells_list (P:=P) (w:=w) a [] (by simp);simpa [Builtin.firstCells] using this
 have h2:(Builtin.append_ #[t,t] ty #[.slice p j c,.slice q 0 c']).run P w=.ok (.slice p j c) w:=by
  cases p<;>simp [Builtin.append_,run_underlying ht.h,Siz.run,Builtin.lenOf,h1,hj,storeCells]
 simp [execOp,resolve,invoke,builtin,ha.ev hx,ha.ev hy,h2]
theorem ZiR {E:Env} {x y:Operand} {t t' T el k b m N c c':Nat} {p:Option Addr} {news cs:List Value} [ht:Und P t (.slice el)] [hk:Siz P el k] (hx:ev E x=some (.slice (some ⟨b,0,none⟩) N c)) (hy:ev E y=some (.slice p m c')) (hm:m<=N)
 (mf:(Builtin.firstCells k m (.slice p m c')).run P w=.ok news.toArray w) (hB:Blk w b T cs) (hl:news.length<=cs.length) (aq:∀ u∈news,u.oneCell'=true) :
 OE P n ⟨d,.call { callee:=.builtin .copy,args:=#[x,y],argTypes:=#[t,t'] },ty,pos,af,g⟩ E w (λv w'=>v=.I m/\Blk w' b T (news++cs.drop news.length)/\Stp [b] w w'):=by
 have ax:=run_storeCells_at (P:=P) b 0 T news 0 cs.toArray w hB (by simpa using hl) aq;simp only [YbA,XJ,List.take_zero,XO] at ax;refine ZL (v:=goInt m) (w':=w.setRow b (news++cs.drop news.length).toArray) (λa ha=>?_) ⟨rfl,setRow_heap w b cs.toArray _ T (0,0) hB,Z1F _ _ _⟩;have hr:(Builtin.copy_ #[t,t'] ty #[.slice (some ⟨b,0,none⟩) N c,.slice p m c']).run P w=.ok (goInt m) (w.setRow b (news++cs.drop news.length).toArray):=by
  simp [Builtin.copy_,run_underlying ht.h,Builtin.lenOf,Siz.run,mf,ax,Yay hm]
 generalize w.setRow b (news++cs.drop news.length).toArray=W' at hr ⊢;simp [execOp,resolve,invoke,builtin,ha.ev hx,ha.ev hy,hr]
theorem ZiS {y:Operand} {k m:Nat} {news:List V} (h:Rel L s w) (hr:Zm5 e s y k=some (m,news)):∃ p c,ev (ge L e) y=some (.slice p m c)/\news.length=m * k/\(0<m->∃ b,p=some ⟨b,0,none⟩/\∀ j u,(gl L news)[j]?=some u->w.cell? ((⟨b,0,none⟩:Addr).add j)=some u):=by
 unfold Zm5 at hr;split at hr;rename_i b' m' h1;split at hr;rename_i cs h2;have dD:=Z00 hr;clear hr;obtain ⟨hc,hr⟩:=dD;cases hr;have c1:=Xj hc;refine ⟨_,_,Zv h.g h1,by rw [Xx];omega,λ_=>⟨_,rfl,λj u hu=>?_⟩⟩;rw [Z7o,XN] at hu;obtain ⟨q,hq,rfl⟩:=hu;have hj:=(Xw.1 hq).1;rw [Xx] at hj;rw [List.getElem?_take_of_lt (by omega)] at hq;rw [Addr.add_lit,XJ];exact Z3B h h2 hq;cases hr;rename_i h1;cases hr;exact ⟨_,_,Zv h.g h1,by simp,λh=>absurd h (Nat.lt_irrefl 0)⟩;cases hr
theorem Z9H (L:Lc) (a b:List V):gl L (a++b)=gl L a++gl L b:=by rw [Jw,Jw,Jw,XL]
theorem Z6s {o:O} {s':S} (hn:Z56 s o=some s'):o.bd s.n=true:=(Z00 hn).1
theorem Rel.grow {s':S} {w':World} {b:Nat} {o o':O} {p:Nat×Nat} (h:Rel L s w) (hb:s.m.get b=some o) (hn:Z56 (Zbp s b) o'=some s') (hS:Stp [(L b).1] w w') (hp:p.1=(L b).1\/w.heap.size<=p.1) (ho:Ob (upd L s.n p) w' s.n o') :
 Rel (upd L s.n p) s' w'/\Nx s s' L (upd L s.n p) w w' [b]:=by
 have qB:=(h.bn b o hb).1;have hk:=h.kill qB;have jg:∀ k,(Zbp s b).m.get k=if k=b then none else s.m.get k:=λk=>Tr.get_put _ _ _ _
 have bi:∀ k o1,(Zbp s b).m.get k=some o1->(L k).1≠(L b).1/\(L k).1<w.heap.size:=λk o1 bz=>by
  have hlt:=(hk.ob k o1 bz).lt;rw [jg] at bz;by_cases e:k=b;rw [if_pos e] at bz;cases bz;rw [if_neg e] at bz;exact ⟨λhe=>e (h.inj k b (by rw [bz];rfl) (by rw [hb];rfl) he),hlt⟩
 have jQ:Rel L (Zbp s b) w':=⟨hk.g,λk o1 bz=>(hk.ob k o1 bz).ext hS (by simpa using (bi k o1 bz).1),hk.bn,hk.inj,hk.n64⟩
 obtain ⟨a1,a2⟩:=jQ.new' hn (λk o1 bz he=>by
  obtain ⟨q1,q2⟩:=bi k o1 bz;rcases hp with hp|hp
  exact q1 (he.trans hp);omega) ho
 refine ⟨a1,⟨by show s.n<=_;rw [a2];exact YbH _,Z1k,λk h3 h4=>?_,hS.mono (λx hx=>?_)⟩⟩;have:k=s.n:=by rw [a2] at h4;have:k<s.n+1:=h4;omega
 subst this;rw [ZR];rcases hp with hp|hp
 exact .inr (JL.2 ⟨b,by simp,qB,hp.symm⟩);exact .inl hp;simp only [Xm] at hx;exact JL.2 ⟨b,by simp,qB,hx.symm⟩
theorem Po.same {v:V} {u:Value} (h:Rel L s w) (hu:u=ga L v):Po L s w (some v,s,[]) u w:=⟨L,Nx.refl _ _ _,h,λv' hv=>by cases hv;exact hu⟩
theorem Zuh {op:Op} {r:Rs} (h:Rel L s w) (hr:apA P e s op=some r):OE P n ⟨d,op,ty,pos,af,g⟩ (ge L e) w (Po L s w r):=by
 unfold apA at hr;split at hr;rename_i x y t t';split at hr;rename_i el h4;split at hr;rename_i ie h5;split at hr;rename_i z h6;have dD:=Z00 hr;clear hr;obtain ⟨hc,hr⟩:=dD;simp only [Xf] at hc;obtain ⟨⟨⟨c1,c2⟩,c3⟩,c4⟩:=hc;obtain rfl:t=t':=Xq c1;have c2:=Xq c2;have c3:0<ie.size:=Xj c3;have c4:=Xj c4;have u1:Und P t (.slice el):=⟨h4⟩
 have u2:Siz P el ie.size:=⟨by rw [h5];rfl⟩
 split at hr;rename_i xv m news h7 h8;have dD:=Z00 hr;clear hr;obtain ⟨hd,hr⟩:=dD;simp only [Xf] at hd;have d2:=Xj hd.2;obtain ⟨yp,yc,s1,s2,s4⟩:=ZiS h h8;have aq:∀ u∈gl L news,u.oneCell'=true:=λu hu=>by
  rw [Jw] at hu;obtain ⟨q,hq,rfl⟩:=XK.1 hu;exact ZcW (XQ.1 hd.1 q hq)
 have hx:=Zv h.g h7;unfold Zug at hr;split at hr;split at hr;cases hr;refine (Zec hx s1 (Xr _)).mono (λu w' hw=>?_);obtain ⟨rfl,rfl⟩:=hw;exact Po.same h rfl;rename_i hm;have s3:0<m:=Nat.pos_of_ne_zero hm;obtain ⟨yb,rfl,s5⟩:=s4 s3;split at hr;rename_i s' hn;cases hr;refine (Zeb (j:=0) (xs:=[]) h4 h5 h6 c2 c3 c4 hx s1 (World.ownsRow_nil w 0 el ie.size) (by rw [Jg];exact s2) s5 aq s3 (by omega)).mono (λu w' hw=>?_);obtain ⟨q,cap,rest,rfl,hB,hL,bE,hS,hq⟩:=hw;have iK:=Z6s hn;obtain ⟨a1,a2,a3⟩:=h.new (p:=(q,cap)) hn (by simpa [ob,ga] using hS) (hq.elim (λhq=>by simp [ob,ga] at hq) id) ⟨rest,by rw [ZR,Z52 Z1k news iK];simpa using hB,λ_=>by rw [ZR];refine ⟨?_,bE⟩;rw [<- Jg L news];simpa using hL,λh0=>by omega⟩;exact ⟨_,a2,a1,λv' hv=>by cases hv;simp only [ga,ZR,XJ]⟩;cases hr;rename_i bx nn;split at hr;rename_i T z' cs h9;have dD:=Z00 hr;clear hr;obtain ⟨hf,hr⟩:=dD;simp only [Xf] at hf;obtain ⟨⟨⟨f1,f2⟩,f3⟩,f4⟩:=hf;obtain rfl:T=el:=Xq f1;obtain rfl:z'=ie.size:=Xq f2;have f3:=Xj f3;have f4:=Xj f4;obtain ⟨rest,hB,ac,-⟩:=h.ob bx _ h9;obtain ⟨r1,r2⟩:=ac (by omega);have bX:nn<=(L bx).2:=Nat.le_of_mul_le_mul_right (by omega) c3;split at hr;cases hr;refine (Zec hx s1 bX).mono (λu w' hw=>?_);obtain ⟨rfl,rfl⟩:=hw;exact Po.same h rfl;rename_i hm;have s3:0<m:=Nat.pos_of_ne_zero hm;obtain ⟨yb,rfl,s5⟩:=s4 s3;split at hr;rename_i s' hn;cases hr;have cm:w.ownsRow 0 T ie.size (.slice (some ⟨(L bx).1,0,none⟩) nn (L bx).2) nn (gl L (cs.take (nn * ie.size))):=⟨by rw [Jg,Xx];omega,.inr ⟨(L bx).1,(L bx).2,(gl L cs++rest).toArray,rfl,Xr _,hB,bX,r2,by rw [Yah,Xa,Jg];exact r1,by
  rw [List.toList_toArray,Ya1 (by rw [Jg];omega),Jw,Jw,List.map_take]⟩⟩
 refine (Zeb h4 h5 h6 c2 c3 c4 hx s1 cm (by rw [Jg];exact s2) s5 aq s3 (by omega)).mono (λu w' hw=>?_);obtain ⟨q,cap,rest',rfl,kC,hL,bE,hS,hq⟩:=hw;have iK:=Z6s hn;obtain ⟨a1,a2⟩:=h.grow (p:=(q,cap)) h9 hn (by simpa [ob,ga] using hS) (by simpa [ob,ga] using hq) ⟨rest',by
  rw [ZR,Z52 (L:=L) (n:=s.n) Z1k _ iK,Z9H];exact kC,λ_=>by rw [ZR];refine ⟨?_,bE⟩;rw [<- Jg L (_++news),Z9H];exact hL,λh0=>by omega⟩
 exact ⟨_,a2,a1,λv' hv=>by cases hv;simp only [ga,ZR]⟩;cases hr;cases hr;cases hr;cases hr;cases hr;cases hr;cases hr;split at hr;rename_i el b N h1 h2;split at hr;rename_i k h3;split at hr;rename_i T z cs m news h4 h5;have dD:=Z00 hr;clear hr;obtain ⟨hc,hr⟩:=dD;cases hr;simp only [Xf] at hc;obtain ⟨⟨⟨c1,c2⟩,c3⟩,c4⟩:=hc;have c1:=Xj c1;have c4:=Xj c4;have u1:Und P _ (.slice el):=⟨h1⟩
 have u2:Siz P el k:=⟨h3⟩
 obtain ⟨yp,yc,s1,s2,s4⟩:=ZiS h h5;obtain ⟨rest,hB,ac,iZ⟩:=h.ob b _ h4;have mf:(Builtin.firstCells k m (.slice yp m yc)).run P w=.ok (gl L news).toArray w:=by
  rcases Nat.eq_zero_or_pos m with rfl|hm
  . have:news=[]:=XV.1 (by omega)
    subst this;cases yp with
    | none=>simp [Builtin.firstCells,gl]
    | some a=>have:=run_loadCells_list (P:=P) (w:=w) a [] (by simp);simpa [Builtin.firstCells,gl] using this
  obtain ⟨yb,rfl,s5⟩:=s4 hm;have:=run_loadCells_list (P:=P) (w:=w) ⟨yb,0,none⟩ (gl L news) s5;rw [Jg,s2] at this;simpa [Builtin.firstCells] using this
 refine (ZiR (Zv h.g h2) s1 c1 mf hB (by rw [Jg,Xa,Jg];omega) (λu hu=>by
  rw [Jw] at hu;obtain ⟨q,hq,rfl⟩:=XK.1 hu;exact ZcW (XQ.1 c2 q hq))).mono (λu w' hw=>?_)
 obtain ⟨rfl,kC,hS⟩:=hw;have dP:=(Z2f _ _).1 (show bl s.n cs=true from (h.bn b _ h4).2);have key:gl L news++(gl L cs++rest).drop (gl L news).length=gl L (news++cs.drop news.length)++rest:=by
  rw [Jg,List.drop_append_of_le_length (by rw [Jg];omega)];simp only [Jw,XL,List.map_drop,XC]
 rw [key] at kC;obtain ⟨a1,a2⟩:=h.set (o':=.c T z (news++cs.drop news.length)) h4 hS ⟨rest,kC,λhz=>by
  have:=ac hz;refine ⟨?_,this.2⟩;rw [<- this.1];simp only [Xa,Yae];omega,iZ⟩ ((Z2f _ _).2 λq hq=>(Xd.1 hq).elim ((Z2f _ _).1 c3 q) (λhq=>dP q (YaF hq)))
 exact ⟨L,a2,a1,λv hv=>by cases hv;rfl⟩;cases hr;cases hr;cases hr;cases hr
end
noncomputable def inA (P:Program) [KD P] (e:AE) (s:S) (t:Nat) (x k v:Operand):Option Rs:=match evv e x,evv e k,evv e v,P.underlying t with
 | some (.m b), some kv, some v, some (.map kt et) => match s.m.get b, kf (KD.l (P := P)) kt with
   | some (.mp l), some K => match K.dec kv with
     | some a => match ZcV K a l with
       | some []=>bif bl s.n [kv,v] then some (none,Z7s s b (some (.mp (l++[(kv,v)]))),[b]) else none
       | _=>none
     | none=>none
   | _,_=>none
 | _,_,_,_=>none
noncomputable def efA (P:Program) [KD P] (e:AE) (s:S):Op->Option Rs
 | .store t x y=>stA P e s t x y
 | .next x true=>nxA e s x
 | .insert t x k v=>inA P e s t x k v
 | .mapUpdate t x k v=>inA P e s t x k v
 | op => match mkO P e op with
   | some (f, o) => match Z56 s o with
     | some s'=>some (some (f.v s.n),s',[])
     | none=>none
   | none=>apA P e s op
section
variable {P:Program} [KD P] {n:Nat} {e:AE} {w:World} {d:Option Nat} {ty:TypeId} {pos:String} {af:Array Edge} {g:Option (Nat×Bool)} {L:Lc} {s:S}
theorem ZmF {t:Nat} {x k v:Operand} {r:Rs} (op:Op) (ho:op=.insert t x k v\/op=.mapUpdate t x k v) (h:Rel L s w) (hr:inA P e s t x k v=some r):OE P n ⟨d,op,ty,pos,af,g⟩ (ge L e) w (Po L s w r):=by
 unfold inA at hr;split at hr;rename_i b kv u kt et h1 h2 h3 h4;split at hr;rename_i l K h5 h6;obtain rfl:=ZiO h6;split at hr;rename_i a h7;split at hr;rename_i h8;have dD:=Z00 hr;clear hr;obtain ⟨hb,hr⟩:=dD;cases hr;obtain ⟨l',q1,es,c,q2,q3,q4⟩:ZcU L w (L b).1 l:=h.ob b _ h5;obtain ⟨m1,m2⟩:=Z55 h8;have m1':∀ p∈l',∃ b,K.dec p.1=some b:=λp hp=>m1 p (q1.mem_iff.1 hp);obtain ⟨k1,k2⟩:=Z7r (K:=K) L m1';have hM:Jz K.ek.enc w (L b).1 ((l'.filterMap (mfl K)).map λq=>(q.1,ga L q.2)):=⟨es,c,q2,by rw [q3,k1,Yao];rfl,by rw [q4,k2,Yao];rfl⟩
 have hn:∀ p∈(l'.filterMap (mfl K)).map (λq=>(q.1,ga L q.2)),¬ p.1=a:=λp hp he=>by
  obtain ⟨q,hq,rfl⟩:=XK.1 hp;have eK:=((q1.filterMap (mfl K)).mem_iff).1 hq;have:q.2∈(((l.filterMap (mfl K)).filter λq=>@decide (q.1=a) (K.de q.1 a)).map (·.2)):=XK.2 ⟨q,XW.2 ⟨eK,by simpa using he⟩,rfl⟩;rw [<- m2] at this;cases this
 have u1:Und P t (.map K.kt et):=⟨h4⟩
 have hk:=Zv h.g h2;rw [K.ok L kv a h7] at hk;have fin:∀ (u':Value) (w':World),Jz K.ek.enc w' (L b).1 ((l'.filterMap (mfl K)).map (λq=>(q.1,ga L q.2))++[(a,ga L u)])/\Stp [(L b).1] w w'->Po L s w (none,Z7s s b (some (.mp (l++[(kv,u)]))),[b]) u' w':=by
  rintro u' w' ⟨⟨es',c',p2,p3,p4⟩,hS⟩;obtain ⟨a1,a2⟩:=h.set (o':=.mp (l++[(kv,u)])) h5 hS ⟨l'++[(kv,u)],q1.append_right _,es',c',p2,by
   rw [p3,XL,XL,Yao,k1,XE,XE,K.ok L kv a h7];rfl,by
   rw [p4,XL,XL,Yao,k2];rfl⟩ (by
    show ((l++[(kv,u)]).all λp=>bl s.n [p.1,p.2])=true;rw [List.all_append,show (l.all λp=>bl s.n [p.1,p.2])=true from (h.bn b _ h5).2];simpa using hb)
  exact ⟨L,a2,a1,λv hv=>by cases hv⟩
 rcases ho with rfl|rfl
 exact (@Zz P n (ge L e) w d ty pos af g t K.kt et _ K.κ K.de _ _ _ u1 K.ek _ a _ (Zv h.g h1) hk (Zv h.g h3) hM hn).mono fin;exact (@Z2i P n (ge L e) w d ty pos af g t K.kt et _ K.κ K.de _ _ _ u1 K.ek _ a _ (Zv h.g h1) hk (Zv h.g h3) hM hn).mono fin;cases hr;cases hr;cases hr;cases hr
theorem Zui {op:Op} {r:Rs} (h:Rel L s w) (hr:efA P e s op=some r):OE P n ⟨d,op,ty,pos,af,g⟩ (ge L e) w (Po L s w r):=by
 unfold efA at hr;split at hr;exact ZqB h hr;exact Zuf h hr;exact ZmF _ (.inl rfl) h hr;exact ZmF _ (.inr rfl) h hr;split at hr;rename_i f o h1;split at hr;rename_i s' hn;cases hr;refine (ZcY s.n h.g h1 (Z6s hn)).mono (λu w' hw=>?_);obtain ⟨p,hp,hT,ho,hu⟩:=hw;obtain ⟨a1,a2,a3⟩:=h.new hn hT hp ho;exact ⟨_,a2,a1,λv hv=>by cases hv;exact hu⟩;cases hr;exact Zuh h hr
end
abbrev Cf:=Nat->List V->S->Option (V×S×List Nat)
noncomputable def cal (e:AE):Op->Option (Nat×List V)
 | .call c => match c.callee with
   | .value f => match evv e f, evs e c.args.toList with
     | some (.f g x y),some l=>some (g,x++l++y)
     | _,_=>none
   | _=>none
 | _=>none
def Z4s (P:Program) (call:Cf):Prop:=∀ f args s v s' ws,call f args s=some (v,s',ws)->bl s.n args=true->∀ L w,Rel L s w->Enters P f/\Calls P f (gl L args).toArray w (Ret λu w'=>∃ L',Nx s s' L L' w w' ws/\Rel L' s' w'/\u=ga L' v)
noncomputable def opV (P:Program) [KD P] (call:Cf) (e:AE) (s:S) (op:Op):Option Rs:=match pur P e op with
 | some v=>some (some v,s,[])
 | none => match rd P e s op with
   | some (v,_)=>some (some v,s,[])
   | none => match efA P e s op with
     | some r=>some r
     | none => match cal e op with
       | some (f, args) => bif bl s.n args then (match call f args s with
         | some (v,s',ws)=>some (some v,s',ws)
         | none=>none) else none
       | none=>none
section
variable {P:Program} [KD P] {n:Nat} {e:AE} {w:World} {d:Option Nat} {ty:TypeId} {pos:String} {af:Array Edge} {g:Option (Nat×Bool)} {L:Lc} {s:S} {call:Cf}
theorem ZqC {P:Program} {op:Op} {f:Nat} {args:List V} {v:V} {s':S} {ws:List Nat} (hC:Z4s P call) (h:Rel L s w) (hc:cal e op=some (f,args)) (hb:bl s.n args=true) (hr:call f args s=some (v,s',ws)) :
 OE P n ⟨d,op,ty,pos,af,g⟩ (ge L e) w (Po L s w (some v,s',ws)):=by
 unfold cal at hc;split at hc;rename_i c;obtain ⟨cl,xs,ts⟩:=c;split at hc;rename_i fo h1
 try dsimp only at h1
 subst h1;split at hc;rename_i g' x y l h2 h3;simp only [Xk,XM] at hc;obtain ⟨rfl,rfl⟩:=hc;obtain ⟨hE,hk⟩:=hC _ _ _ _ _ _ hr hb L w h;have hf:=Zv h.g h2;refine ⟨λa ha Q=>?_⟩;have hv:=Z9G h.g h3 a ha;have he:(execOp a.eval ⟨d,.call { callee:=.value fo,args:=xs,argTypes:=ts },ty,pos,af,g⟩).run P w=.ok (.enter g' (gl L (x++l++y)).toArray) w:=by
  simp only [execOp,resolve,ha.ev hf,ga,Deferred.ofValue,hv];simp only [invoke];rw [Z9H,Z9H];have:=hE ((gl L x).toArray++(gl L l).toArray++(gl L y).toArray) w;simpa using this
 unfold Oper.wp;rw [he];simp only [Oper.upon];refine hk.mono ?_;rintro r w' ⟨u,rfl,L',h4,h5,h6⟩;exact ⟨u,rfl,L',h4,h5,λv' im=>by cases im;exact h6⟩;cases hc;cases hc;cases hc
theorem ZiT {op:Op} {r:Rs} (hC:Z4s P call) (h:Rel L s w) (hr:opV P call e s op=some r):OE P n ⟨d,op,ty,pos,af,g⟩ (ge L e) w (Po L s w r):=by
 unfold opV at hr;split at hr;rename_i v h1;cases hr;exact (Z83 (ZiN h.g h1)).mono λu w' ⟨hu,hw⟩=>by subst hw;exact ⟨L,Nx.refl _ _ _,h,λv' hv=>by cases hv;exact hu⟩
 split at hr;rename_i v b h1;cases hr;exact (Z83 (ZmE h h1 rfl)).mono λu w' ⟨hu,hw⟩=>by subst hw;exact ⟨L,Nx.refl _ _ _,h,λv' hv=>by cases hv;exact hu⟩
 split at hr;rename_i r' h1;cases hr;exact Zui h h1;split at hr;rename_i f args h1;obtain ⟨hb,hr⟩:=Z00 hr;split at hr;rename_i v s' ws h2;cases hr;exact ZqC hC h h1 hb h2;cases hr;cases hr
def EB (n:Nat) (e:AE):Prop:=∀ t v,lk e t=some v->bd n v=true
theorem EB.le {m k:Nat} {e:AE} (h:EB m e) (hk:m<=k):EB k e:=λt v hv=>bd_le hk v (h t v hv)
def Z5H (n:Nat) (d:Option Nat) (r:Rs) (e:AE):Option (AE×S×List Nat):=match d,r.1 with
 | some d,some v=>bif bd r.2.1.n v && Nat.blt d n then some (pt d v e,r.2.1,r.2.2) else none
 | none,_=>some (e,r.2.1,r.2.2)
 | some _,none=>none
def Aft (n:Nat) (L:Lc) (e:AE) (u:Value) (L1:Lc) (e1:AE):Option Nat->Prop
 | some d=>Nat.blt d n=true/\∀ t v,Eng.look (ge L1 e1) t=some v->Eng.look ((d,u) :: ge L e) t=some v
 | none=>∀ t v,Eng.look (ge L1 e1) t=some v->Eng.look (ge L e) t=some v
theorem Z27 {r:Rs} {e1:AE} {s1:S} {ws:List Nat} {u:Value} {w':World} (hE:EB s.n e) (hp:Z5H n d r e=some (e1,s1,ws)) (hP:Po L s w r u w') :
 ∃ L1,Nx s s1 L L1 w w' ws/\Rel L1 s1 w'/\EB s1.n e1/\Aft n L e u L1 e1 d:=by
 obtain ⟨rv,s',ws'⟩:=r;obtain ⟨L1,hN,hR,hu⟩:=hP;have old:∀ t x,lk e t=some x->ga L1 x=ga L x:=λt x hx=>Z65 hN.ag x (hE t x hx);unfold Z5H at hp;cases d with
 | none=>
   simp only [Xk,XM] at hp;obtain ⟨rfl,rfl,rfl⟩:=hp;refine ⟨L1,hN,hR,hE.le hN.le,λt v hv=>?_⟩;rw [Z0R,XN] at hv ⊢;obtain ⟨x,hx,rfl⟩:=hv;exact ⟨x,hx,(old t x hx).symm⟩
 | some dd=>
   cases rv with
   | none=>cases hp
   | some v=>
     simp only at hp;obtain ⟨hc,hp⟩:=Z00 hp;simp only [Xk,XM] at hp;obtain ⟨rfl,rfl,rfl⟩:=hp;simp only [Xf] at hc;refine ⟨L1,hN,hR,λt x hx=>?_,hc.2,λt x hx=>?_⟩;rw [Z53] at hx;by_cases e1:dd=t;rw [if_pos e1] at hx;cases hx;exact hc.1;rw [if_neg e1] at hx;exact bd_le hN.le x (hE t x hx);rw [Z0R,Z53] at hx;rw [Zf];by_cases e1:dd=t;rw [if_pos e1] at hx ⊢;cases hx;rw [hu v rfl];rw [if_neg e1] at hx ⊢;rw [Z0R];rw [XN] at hx ⊢;obtain ⟨y,hy,rfl⟩:=hx;exact ⟨y,hy,(old t y hy).symm⟩
theorem WL.weak {P:Program} {ops:Array Oper} {Q:Exit->Act->World->Prop} {l:List Oper} {e e':Env} (hs:∀ t v,Eng.look e' t=some v->Eng.look e t=some v) (h:WL P n ops Q l e' w):WL P n ops Q l e w:=⟨λa ha=>h.h a (ha.weak hs)⟩
noncomputable def yl (ops:Array Oper) (e:AE) (j:Nat):Option V:=((ops[j]?).bind (·.dst)).bind (lk e)
theorem ZmG (L:Lc) (ops:Array Oper) (e:AE) (j:Nat):yld ops (ge L e) j=(yl ops e j).map (ga L):=by
 unfold yld yl;cases (ops[j]?).bind (·.dst) with
 | none=>rfl
 | some d=>exact Z0R L e d
def Zv2:V->Bool->Bool
 | .b c,b=>c != b
 | .c v,b=>ZmN v b
 | _,_=>false
def okC:V->Bool->Bool
 | .b c,b=>c == b
 | _,_=>false
noncomputable def gdW (ops:Array Oper) (e:AE):Option (Nat×Bool)->Bool
 | none=>true
 | some (j, b) => match yl ops e j with
   | some v=>okC v b
   | none=>false
noncomputable def gdN (ops:Array Oper) (e:AE):Option (Nat×Bool)->Bool
 | none=>false
 | some (j, b) => match yl ops e j with
   | some v=>Zv2 v b
   | none=>false
theorem ZiU {ops:Array Oper} {L:Lc} {j:Nat} {b:Bool} (h:gdW ops e (some (j,b))=true):yld ops (ge L e) j=some (.B b):=by
 simp only [gdW] at h;rw [ZmG];cases hy:yl ops e j with
 | none=>rw [hy] at h;cases h
 | some v=>
   rw [hy] at h;cases v<;>first|cases h|(simp only [okC,beq_iff_eq] at h;subst h;rfl)
theorem ZcZ {ops:Array Oper} {L:Lc} {g:Option (Nat×Bool)} (h:gdN ops e g=true):noB ops (ge L e) g=true:=by
 cases g with
 | none=>cases h
 | some p=>
   obtain ⟨j,b⟩:=p;simp only [gdN] at h;simp only [noB,ZmG];cases hy:yl ops e j with
   | none=>rw [hy] at h;cases h
   | some v=>
     rw [hy] at h;cases v<;>first|cases h|exact h
noncomputable def Zbq (P:Program) [KD P] (call:Cf) (n:Nat) (ops:Array Oper):List Oper->AE->S->Option (AE×S×List Nat)
 | [],e,s=>some (e,s,[])
 | o :: r, e, s => match gdW ops e o.guard with
   | true => match opV P call e s o.op with
     | some q => match Z5H n o.dst q e with
       | some (e1, s1, w1) => match Zbq P call n ops r e1 s1 with
         | some (e2,s2,w2)=>some (e2,s2,w1++w2)
         | none=>none
       | none=>none
     | none=>none
   | false => match gdN ops e o.guard, Z5H n o.dst (some (.c undef), s, []) e with
     | true,some (e1,s1,_)=>Zbq P call n ops r e1 s1
     | _,_=>none
theorem Z3C {ops:Array Oper} {Q:Exit->Act->World->Prop} {rest:List Oper} (hC:Z4s P call):∀ (l:List Oper) (e:AE) (s:S) (e':AE) (s':S) (ws:List Nat) (L:Lc) (w),Zbq P call n ops l e s=some (e',s',ws)->Rel L s w->EB s.n e->
 (∀ L' w',Nx s s' L L' w w' ws->Rel L' s' w'->EB s'.n e'->WL P n ops Q rest (ge L' e') w')->WL P n ops Q (l++rest) (ge L e) w
 | [], e, s, e', s', ws, L, w, h, hR, hE, k => by
   simp only [Zbq,Xk,XM] at h;obtain ⟨rfl,rfl,rfl⟩:=h;exact k L w (Nx.refl _ _ _) hR hE
 | o :: r, e, s, e', s', ws, L, w, h, hR, hE, k => by
   obtain ⟨d,op,ty,pos,af,g⟩:=o;simp only [Zbq] at h;split at h;rename_i hg;split at h;rename_i q h1;split at h;rename_i e1 s1 w1 h2;split at h
   . rename_i e2 s2 w2 h3
     simp only [Xk,XM] at h;obtain ⟨rfl,rfl,rfl⟩:=h;have go:WL P n ops Q (⟨d,op,ty,pos,af,none⟩ :: (r++rest)) (ge L e) w:=by
      have hO:=ZiT (n:=n) (d:=d) (ty:=ty) (pos:=pos) (af:=af) (g:=none) hC hR h1;cases d with
      | none=>
        refine Z8 hO (λu w1' hu=>?_);obtain ⟨L1,a1,a2,a3,a4⟩:=Z27 hE h2 hu;exact WL.weak a4 (Z3C hC r e1 s1 e2 s2 w2 L1 w1' h3 a2 a3 (λL' w' b1 b2 b3=>k L' w' (a1.trans b1) b2 b3))
      | some dd=>
        have aB:Nat.blt dd n=true:=by
         obtain ⟨rv,sx,wx⟩:=q;cases rv with
         | none=>cases h2
         | some v=>
           simp only [Z5H] at h2;cases hc:(bd sx.n v && Nat.blt dd n) with
           | false=>rw [hc] at h2;cases h2
           | true=>simp only [Xf] at hc;exact hc.2
        refine Z0 hO aB (λu w1' hu=>?_);obtain ⟨L1,a1,a2,a3,a4⟩:=Z27 hE h2 hu;exact WL.weak a4.2 (Z3C hC r e1 s1 e2 s2 w2 L1 w1' h3 a2 a3 (λL' w' b1 b2 b3=>k L' w' (a1.trans b1) b2 b3))
     cases g with
     | none=>exact go
     | some p=>
       obtain ⟨j,b⟩:=p;exact Zg1 (ZiU hg) go
   cases h;cases h;cases h;split at h
   . rename_i e1 s1 _ hg h2
     have hu:Po L s w (some (.c undef),s,[]) undef w:=⟨L,Nx.refl _ _ _,hR,λv hv=>by cases hv;rfl⟩
     obtain ⟨L1,a1,a2,a3,a4⟩:=Z27 hE h2 hu
     have hq:Nx s s1 L L1 w w []:=by
      cases d with
      | none=>simp only [Z5H,Xk,XM] at h2;obtain ⟨-,-,rfl⟩:=h2;exact a1
      | some dd=>
        simp only [Z5H] at h2;cases hc:(bd s.n (V.c undef) && Nat.blt dd n) with
        | false=>rw [hc] at h2;cases h2
        | true=>rw [hc] at h2;simp only [cond_true,Xk,XM] at h2;obtain ⟨-,-,rfl⟩:=h2;exact a1
     have ih:=Z3C hC r e1 s1 e' s' ws L1 w h a2 a3 (λL' w' b1 b2 b3=>k L' w' (by simpa using hq.trans b1) b2 b3)
     cases g with
     | none=>cases hg
     | some p=>
       obtain ⟨j,b⟩:=p;cases d with
       | none=>exact Zg2 (ZcZ hg) (WL.weak a4 ih)
       | some dd=>exact Zdl (ZcZ hg) a4.1 (WL.weak a4.2 ih)
   cases h
theorem Zm6 {ops:Array Oper} {Q:Exit->Act->World->Prop} (hC:Z4s P call) (l:List Oper) (e:AE) (s:S) (e':AE) (s':S) (ws:List Nat) (L:Lc) (w) (h:Zbq P call n ops l e s=some (e',s',ws)) (hR:Rel L s w) (hE:EB s.n e)
 (k:∀ L' w',Nx s s' L L' w w' ws->Rel L' s' w'->EB s'.n e'->WQ n Q .normal (ge L' e') w'):WL P n ops Q l (ge L e) w:=by
 have:=Z3C (rest:=[]) (Q:=Q) hC l e s e' s' ws L w h hR hE (λL' w' a b c=>Z5k (k L' w' a b c))
 rwa [Xz] at this
end
end Go.Sim
namespace Go.EngB
open Go Go.Eng Go.RowKit Go.Proofs
structure StpB (S:Nat×List Nat) (w w':World):Prop where
 os:w'.os=w.os
 tape:w'.tape=w.tape
 output:w'.output=w.output
 size:w.heap.size<=w'.heap.size
 block:∀ b,b<S.1->b∉S.2->w'.heap[b]?=w.heap[b]?
theorem StpB.refl (S:Nat×List Nat) (w):StpB S w w:=⟨rfl,rfl,rfl,Xl _,λ_ _ _=>rfl⟩
theorem StpB.trans {S:Nat×List Nat} {a b c:World} (h:StpB S a b) (k:StpB S b c):StpB S a c:=
 ⟨k.os.trans h.os,k.tape.trans h.tape,k.output.trans h.output,Xh h.size k.size,λx hx hn=>(k.block x hx hn).trans (h.block x hx hn)⟩
instance:Rl (Nat×List Nat):=⟨StpB,StpB.refl,λh k=>h.trans k⟩
abbrev WD (P:Program) (n:Nat) (ops:Array Oper) (S:Nat×List Nat) (Lt:List Nat) (Q:Exit->Act->World->Prop) (ord:List (Nat×Nat)) (e:Env) (w:World):Prop:=WG P n ops S Lt Q ord e w
section
variable {P:Program} {n:Nat} {Q:Exit->Act->World->Prop} {e:Env} {w:World} {ops:Array Oper} {Lt:List Nat} {rest:List (Nat×Nat)} {i d:Nat} {op:Op} {ty:TypeId} {pos:String} {af:Array Edge} {gd:Option (Nat×Bool)} {v:Value}
theorem WC_drawn {id:Nat} {l:List Oper} (m:Nat) (S:Nat×List Nat) (Lt:List Nat) (ord:List (Nat×Nat)) (ce:l.length=m) (hm:P.follows .mixedOrders=true) (hs:Region.noSelect l.toArray=true) (hl:Nat.beq (wt ord) l.length=true)
 (hB:J5 l.toArray Lt ord (Array.replicate m false)=true)
 (h:∀ w',Stp [] w w'->WD P n l.toArray S Lt Q ord e w'):WC P n (.region id l.toArray true) Q e w:=Z82 m S Lt ord ce hm hs hl hB h
theorem WD_read {S:Nat×List Nat} (hi:ops[i]?=some ⟨some d,op,ty,pos,af,gd⟩) (hg:Z08 ops e gd) (hp:∀ w',StpB S w w'->PR P n ⟨some d,op,ty,pos,af,gd⟩ e w' v) (aB:Nat.blt d n=true)
 (k:WD P n ops S Lt Q rest ((d,v) :: e) w):WD P n ops S Lt Q ((i,1) :: rest) e w:=Zdr hi hg hp aB k
end
end Go.EngB
namespace Go.Sim
open Go Go.Eng Go.RowKit Go.Proofs
abbrev Dr:=AE×S×List Nat×List Nat×List Nat
noncomputable def drS (P:Program) [KD P] (call:Cf) (n:Nat) (ops:Array Oper) (Lt:List Nat):List (Nat×Nat)->Bool->AE->S->Option Dr
 | [],_,e,s=>some (e,s,[],[],[])
 | (i, t) :: r, fl, e, s => match ops[i]? with
   | none=>none
   | some o => match gdW ops e o.guard with
     | false => match gdN ops e o.guard, o.dst, Z5H n o.dst (some (.c undef), s, []) e, Nat.ble t 2 with
       | true,some _,some (e1,_,_),true=>drS P call n ops Lt r fl e1 s
       | _,_,_,_=>none
     | true => match t with
       | 0 => match pur P e o.op, o.dst with
         | some v, some d => match Z5H n (some d) (some v, s, []) e with
           | some (e1,_,_)=>drS P call n ops Lt r fl e1 s
           | none=>none
         | _,_=>none
       | 1 => match fl, rd P e s o.op, o.dst with
         | false, some (v, b), some d => match Z5H n (some d) (some v, s, []) e with
           | some (e1, _, _) => match drS P call n ops Lt r fl e1 s with
             | some (e2,s2,wE,wL,rs)=>some (e2,s2,wE,wL,b :: rs)
             | none=>none
           | none=>none
         | _,_,_=>none
       | 2 => match opV P call e s o.op with
         | some q => match Z5H n o.dst q e with
           | some (e1, s1, w1) => match Lt.contains i with
             | true => match drS P call n ops Lt r true e1 s1 with
               | some (e2,s2,wE,wL,rs)=>some (e2,s2,wE,w1++wL,rs)
               | none=>none
             | false => match fl with
               | true=>none
               | false => match drS P call n ops Lt r false e1 s1 with
                 | some (e2,s2,wE,wL,rs)=>some (e2,s2,w1++wE,wL,rs)
                 | none=>none
           | none=>none
         | none=>none
       | t + 3 => match r with
         | (q, 2) :: r' => match ops[q]? with
           | some oq => match o.guard, oq.guard, o.dst, oq.dst, mkO P e o.op, mkO P e oq.op with
             | none, none, some di, some dq, some (fi, oi), some (fq, ox) => match Z56 s oi with
               | some s1 => match Z56 s1 ox with
                 | some s2=>bif Nat.beq q t && Nat.blt (q+3) 100000 && Nat.blt di n && Nat.blt dq n && !Nat.beq di dq && ox.bd s.n && (lk e di).isNone && (lk e dq).isNone then drS P call n ops Lt r' fl (pt dq (fq.v (s.n+1)) (pt di (fi.v s.n) e)) s2 else none
                 | none=>none
               | none=>none
             | _,_,_,_,_,_=>none
           | none=>none
         | _=>none
noncomputable def ZiV (P:Program) [KD P] (call:Cf) (n:Nat) (ops:Array Oper) (Lt:List Nat) (ord:List (Nat×Nat)) (e:AE) (s:S):Option (AE×S×List Nat):=
 match drS P call n ops Lt ord false e s with
 | some (e1,s1,wE,wL,rs)=>bif rs.all (λb=>Nat.blt b s.n && (s.m.get b).isSome && !wE.contains b) && wE.all (λk=>Nat.ble s.n k || (s.m.get k).isSome) then some (e1,s1,wE++wL) else none
 | none=>none
def ZqD (ops:Array Oper) (Lt:List Nat) (ord:List (Nat×Nat)):Bool:=Region.noSelect ops && Nat.beq (wt ord) ops.toList.length && J5 ops Lt ord (Array.replicate ops.toList.length false)
def chkC (od:Nat->Option (List Nat×List (Nat×Nat))):Code->Bool
 | .region id ops true => match od id with
   | some (Lt,ord)=>ZqD ops Lt ord
   | none=>true
 | .seq a b=>chkC od a && chkC od b
 | .cond _ a b=>chkC od a && chkC od b
 | .block _ b=>chkC od b
 | .loop b=>chkC od b
 | .scope b=>chkC od b
 | _=>true
section
variable {P:Program} [KD P] {n:Nat} {w:World} {call:Cf}
theorem WDB.weak {P:Program} {ops:Array Oper} {Lt:List Nat} {Q:Exit->Act->World->Prop} {S:Nat×List Nat} {e e':Env} {ord:List (Nat×Nat)} (hs:∀ t v,Eng.look e' t=some v->Eng.look e t=some v) (h:EngB.WD P n ops S Lt Q ord e' w):EngB.WD P n ops S Lt Q ord e w:=⟨λlisted a b c ha=>h.h listed a b c (ha.weak hs)⟩
theorem ZqE {ops:Array Oper} {L:Lc} {e:AE} {g:Option (Nat×Bool)} (h:gdW ops e g=true):Z08 ops (ge L e) g:=by
 cases g with
 | none=>trivial
 | some p=>exact ZiU h
theorem Z3U {d:Option Nat} {r:Rs} {e e1:AE} {s1:S} {ws:List Nat} (h:Z5H n d r e=some (e1,s1,ws)):s1=r.2.1/\ws=r.2.2/\∀ dd,d=some dd->Nat.blt dd n=true:=by
 unfold Z5H at h;split at h;rename_i d' v _;obtain ⟨hc,h⟩:=Z00 h;simp only [Xk,XM] at h;simp only [Xf] at hc;exact ⟨h.2.1.symm,h.2.2.symm,λdd hd=>by cases hd;exact hc.2⟩;simp only [Xk,XM] at h;exact ⟨h.2.1.symm,h.2.2.symm,λdd hd=>by cases hd⟩;cases h
theorem Kv.bd_lt {k m:Nat} (h:k<m) (f:Kv):bd m (f.v k)=true:=by cases f<;>exact X0 h
theorem Zbr {s s':S} {o:O} (h:Z56 s o=some s'):s'.n=s.n+1/\∀ k,s'.m.get k=if k=s.n then some o else s.m.get k:=by
 have:=(Z00 h).2;simp only [Xk] at this;subst this;exact ⟨rfl,λk=>Tr.get_put _ _ _ _⟩
theorem ZqF {e:AE} {L:Lc} {s s1 s2:S} {w':World} {oi ox:O} {fi fq:Kv} {di dq:Nat} {pi pq:Nat×Nat} (hR:Rel L s w) (hE:EB s.n e) (n1:Z56 s oi=some s1) (n2:Z56 s1 ox=some s2) (c6:ox.bd s.n=true) (h1:w.heap.size<=pi.1) (h2:w.heap.size<=pq.1) (h3:pi.1≠pq.1) (hS:Stp [] w w') (vC:Ob (upd L s.n pi) w' s.n oi) (cE:Ob (upd L (s.n+1) pq) w' (s.n+1) ox) :
 ∃ L2,Rel L2 s2 w'/\Nx s s2 L L2 w w' []/\EB s2.n (pt dq (fq.v (s.n+1)) (pt di (fi.v s.n) e))/\(∀ x,bd s.n x=true->ga L2 x=ga L x)/\ga L2 (fi.v s.n)=ga (upd L s.n pi) (fi.v s.n)/\ga L2 (fq.v (s.n+1))=ga (upd L (s.n+1) pq) (fq.v (s.n+1)):=by
 obtain ⟨a1,a2⟩:=Zbr n1;obtain ⟨b1,b2⟩:=Zbr n2;obtain ⟨r1,-⟩:=(hR.up hS).new' n1 (λk o' hk he=>by have:=(hR.ob k o' hk).lt;omega) vC;have q1:∀ k,k<s.n->upd (upd L s.n pi) (s.n+1) pq k=L k:=λk hk=>by rw [Z5G (by omega),Z5G (by omega)]
 have q2:upd (upd L s.n pi) (s.n+1) pq s.n=upd L s.n pi s.n:=Z5G (by omega);have q3:upd (upd L s.n pi) (s.n+1) pq (s.n+1)=upd L (s.n+1) pq (s.n+1):=by rw [ZR,ZR]
 obtain ⟨r2,-⟩:=r1.new' (p:=pq) n2 (λk o' hk he=>by
  rw [a2] at hk;by_cases e:k=s.n;subst e;rw [ZR] at he;exact h3 he;rw [if_neg e] at hk;rw [Z5G e] at he;have:=(hR.ob k o' hk).lt;omega) (by rw [a1];exact cE.eq q3 c6 (λk hk=>by rw [q1 k hk,Z5G (by omega)]))
 rw [a1] at r2;refine ⟨_,r2,⟨by omega,q1,λk g1 g2=>?_,by simpa [ids] using hS⟩,λt v hv=>?_,λx hx=>Z65 q1 x hx,Kv.eq q2 _,Kv.eq q3 _⟩;have:k=s.n\/k=s.n+1:=by omega
 rcases this with rfl|rfl
 rw [q2,ZR];exact .inl h1;rw [q3,ZR];exact .inl h2;rw [Z53] at hv;by_cases e1:dq=t;rw [if_pos e1] at hv;cases hv;exact Kv.bd_lt (by omega) _;rw [if_neg e1,Z53] at hv;by_cases e2:di=t;rw [if_pos e2] at hv;cases hv;exact Kv.bd_lt (by omega) _;rw [if_neg e2] at hv;exact bd_le (by omega) v (hE t v hv)
theorem Z4t {ops:Array Oper} {Lt:List Nat} {Q:Exit->Act->World->Prop} (hC:Z4s P call) {s0:S} {L0:Lc} {w0:World} {WE:List Nat} (eH:Rel L0 s0 w0) (kD:∀ k∈WE,k<s0.n->(s0.m.get k).isSome=true) :
 ∀ (ord : List (Nat × Nat)) (fl : Bool) (e : AE) (s : S) (e' : AE) (s' : S) (wE wL rs so : List Nat) (L : Lc) (w), drS P call n ops Lt ord fl e s = some (e', s', wE, wL, rs) -> Rel L s w -> EB s.n e -> Nx s0 s L0 L w0 w so -> (fl = false -> ∀ k ∈ so, k ∈ WE) -> (∀ k ∈ wE, k ∈ WE)->
   (∀ b∈rs,b<s0.n/\(s0.m.get b).isSome=true/\b∉WE)->(∀ L' w' so',Nx s0 s' L0 L' w0 w' so'->(∀ k∈so',k∈so\/k∈wE\/k∈wL)->Rel L' s' w'->EB s'.n e'->WQ n Q .normal (ge L' e') w')->
   EngB.WD P n ops (w0.heap.size,ids s0.n L0 WE) Lt Q ord (ge L e) w
 | [], fl, e, s, e', s', wE, wL, rs, so, L, w, h, hR, hE, hN, hf, hw, hr, k => by
   simp only [drS,Xk,XM] at h;obtain ⟨rfl,rfl,rfl,rfl,rfl⟩:=h;exact ZgR (k L w so hN (λk hk=>.inl hk) hR hE)
 | (i, t) :: r, fl, e, s, e', s', wE, wL, rs, so, L, w, h, hR, hE, hN, hf, hw, hr, k => by
   simp only [drS] at h;split at h;cases h;rename_i o hi;obtain ⟨d,op,ty,pos,af,g⟩:=o;dsimp only at h;split at h;rename_i jw;split at h;rename_i _ dd e1 s1 ws1 vD ht hp;obtain ⟨q1,q2,q3⟩:=Z3U hp;have hu:Po L s w (some (.c undef),s,[]) undef w:=⟨L,Nx.refl _ _ _,hR,λv hv=>by cases hv;rfl⟩
   obtain ⟨L1,a1,a2,a3,a4⟩:=Z27 hE hp hu
   try dsimp only at q1 q2
   subst q1;subst q2;have ih:=Z4t (Q:=Q) hC eH kD r fl e1 s1 e' s' wE wL rs so L1 w h a2 a3 (by simpa using hN.trans a1) hf hw hr k;have sA:=Xj ht;have qC:=ZcZ (L:=L) vD;rcases (by omega:t=0\/t=1\/t=2) with rfl|rfl|rfl
   exact Za9 hi qC a4.1 (WDB.weak a4.2 ih);exact Zaa hi qC a4.1 (WDB.weak a4.2 ih);exact Zab hi qC a4.1 (WDB.weak a4.2 ih);cases h;rename_i vE;have jx:=ZqE (L:=L) vE;split at h;split at h;rename_i v dd hv;split at h;rename_i e1 s1 ws1 hp;obtain ⟨q1,q2,q3⟩:=Z3U hp
   try dsimp only at q1 q2
   subst q1;subst q2;have hu:Po L s1 w (some v,s1,[]) (ga L v) w:=⟨L,Nx.refl _ _ _,hR,λv' im=>by cases im;rfl⟩
   obtain ⟨L1,a1,a2,a3,a4⟩:=Z27 hE hp hu;have ih:=Z4t (Q:=Q) hC eH kD r fl e1 s1 e' s' wE wL rs so L1 w h a2 a3 (by simpa using hN.trans a1) hf hw hr k;exact Jl hi jx (λw'=>ZiN hR.g hv) a4.1 (WDB.weak a4.2 ih);cases h;cases h;split at h;rename_i v b dd hv;split at h;rename_i e1 s1 ws1 hp;obtain ⟨q1,q2,q3⟩:=Z3U hp
   try dsimp only at q1 q2
   subst q1;subst q2;split at h;rename_i e2 s2 wE' wL' rs' h2;simp only [Xk,XM] at h;obtain ⟨rfl,rfl,rfl,rfl,rfl⟩:=h;have hu:Po L s1 w (some v,s1,[]) (ga L v) w:=⟨L,Nx.refl _ _ _,hR,λv' im=>by cases im;rfl⟩
   obtain ⟨L1,a1,a2,a3,a4⟩:=Z27 hE hp hu;have ih:=Z4t (Q:=Q) hC eH kD r false e1 s1 e2 s2 wE' wL' rs' so L1 w h2 a2 a3 (by simpa using hN.trans a1) hf hw (λb hb=>hr b (Yas _ hb)) k;obtain ⟨b1,b2,b3⟩:=hr b (YaP);refine EngB.WD_read hi jx (λw' hS=>ZmE hR hv (hS.block _ ?_ ?_)) a4.1 (WDB.weak a4.2 ih);rw [hN.ag b b1];obtain ⟨ob,aJ⟩:=X6.1 b2;exact (eH.ob b ob aJ).lt;rw [hN.ag b b1];intro hm;obtain ⟨j,j1,j2,j3⟩:=JL.1 hm;exact b3 (eH.inj j b (kD j j1 j2) b2 j3 ▸ j1);cases h;cases h;cases h;split at h;rename_i q hq;split at h;rename_i e1 s1 w1 hp;obtain ⟨q1,q2,q3⟩:=Z3U hp;have hO:=ZiT (n:=n) (d:=d) (ty:=ty) (pos:=pos) (af:=af) (g:=g) hC hR hq;split at h;rename_i sB;split at h
   . rename_i e2 s2 wE' wL' rs' h2
     simp only [Xk,XM] at h;obtain ⟨rfl,rfl,rfl,rfl,rfl⟩:=h;have kk:∀ u w1',Po L s w q u w1'->∃ L1,Aft n L e u L1 e1 d/\EngB.WD P n ops (w0.heap.size,ids s0.n L0 WE) Lt Q r (ge L1 e1) w1':=λu w1' hu=>by
      obtain ⟨L1,a1,a2,a3,a4⟩:=Z27 hE hp hu;exact ⟨L1,a4,Z4t (Q:=Q) hC eH kD r true e1 s1 e2 s2 wE' wL' rs' (so++w1) L1 w1' h2 a2 a3 (hN.trans a1) (λh=>by cases h) hw hr (λL' w' so' c1 c2 c3 c4=>k L' w' so' c1 (λj hj=>by
       rcases c2 j hj with h|h|h
       rcases Xd.1 h with h|h
       exact .inl h;exact .inr (.inr (Xd.2 (.inl h)));exact .inr (.inl h);exact .inr (.inr (Xd.2 (.inr h)))) c3 c4)⟩
     cases d with
     | none=>exact ZM hi jx hO sB (λu w1' hu=>by obtain ⟨L1,a4,ih⟩:=kk u w1' hu;exact WDB.weak a4 ih)
     | some dd=>exact Z2B hi jx hO sB (q3 dd rfl) (λu w1' hu=>by obtain ⟨L1,a4,ih⟩:=kk u w1' hu;exact WDB.weak a4.2 ih)
   cases h;split at h;cases h;split at h
   . rename_i e2 s2 wE' wL' rs' h2
     simp only [Xk,XM] at h;obtain ⟨rfl,rfl,rfl,rfl,rfl⟩:=h;have cp:=hf rfl;have hB:∀ u w1',Po L s w q u w1'->EngB.StpB (w0.heap.size,ids s0.n L0 WE) w w1':=λu w1' hu=>by
      obtain ⟨L1,a1,a2,a3⟩:=hu;refine ⟨a1.st.os,a1.st.tape,a1.st.output,a1.st.size,λb hb sC=>a1.st.block b (Xv hb hN.st.size) (λhm=>?_)⟩;obtain ⟨j,j1,j2,rfl⟩:=JL.1 hm;have jW:j∈WE:=hw j (Xd.2 (.inl (q2 ▸ j1)));by_cases hj:j<s0.n;exact sC (JL.2 ⟨j,jW,hj,(congrArg Prod.fst (hN.ag j hj)).symm⟩);rcases hN.nw j (YaW hj) j2 with g1|g1
      exact absurd hb (YaN.2 g1);obtain ⟨i',i1,i2,i3⟩:=JL.1 g1;exact sC (JL.2 ⟨i',cp i' i1,i2,i3⟩)
     have kk:∀ u w1',Po L s w q u w1'->∃ L1,Aft n L e u L1 e1 d/\EngB.WD P n ops (w0.heap.size,ids s0.n L0 WE) Lt Q r (ge L1 e1) w1':=λu w1' hu=>by
      obtain ⟨L1,a1,a2,a3,a4⟩:=Z27 hE hp hu;exact ⟨L1,a4,Z4t (Q:=Q) hC eH kD r false e1 s1 e2 s2 wE' wL' rs' (so++w1) L1 w1' h2 a2 a3 (hN.trans a1) (λ_ j hj=>(Xd.1 hj).elim (cp j) (λh=>hw j (Xd.2 (.inl h)))) (λj hj=>hw j (Xd.2 (.inr hj))) hr (λL' w' so' c1 c2 c3 c4=>k L' w' so' c1 (λj hj=>by
       rcases c2 j hj with h|h|h
       rcases Xd.1 h with h|h
       exact .inl h;exact .inr (.inl (Xd.2 (.inl h)));exact .inr (.inl (Xd.2 (.inr h)));exact .inr (.inr h)) c3 c4)⟩
     cases d with
     | none=>exact Z17 hi jx hO hB (λu w1' hu=>by obtain ⟨L1,a4,ih⟩:=kk u w1' hu;exact WDB.weak a4 ih)
     | some dd=>exact Z7 hi jx hO hB (q3 dd rfl) (λu w1' hu=>by obtain ⟨L1,a4,ih⟩:=kk u w1' hu;exact WDB.weak a4.2 ih)
   cases h;cases h;cases h;split at h;rename_i q r';split at h;rename_i oq hq;split at h;rename_i di dq fi oi fq ox g2 d2 m1 m2;split at h;rename_i s1 n1;split at h;rename_i s2 n2;have dD:=Z00 h;clear h;obtain ⟨hc,h⟩:=dD;simp only [Xf,Ya9] at hc;obtain ⟨⟨⟨⟨⟨⟨⟨c1,c2⟩,c3⟩,c4⟩,c5⟩,c6⟩,c7⟩,c8⟩:=hc;have c1:=Xq c1;subst c1;obtain ⟨dd',op',ty',pos',af',gq⟩:=oq;dsimp only at g2 d2 m2;subst g2 d2;have bi:di≠dq:=λhe=>by rw [he,Zbl] at c5;cases c5
   have k1:∀ w1 w2,w0.heap.size<=w1.heap.size->Stp [] w1 w2->EngB.StpB (w0.heap.size,ids s0.n L0 WE) w1 w2:=λw1 w2 hz hT=>⟨hT.os,hT.tape,hT.output,hT.size,λb hb _=>hT.block b (Xv hb hz) (by simp)⟩
   have fin:∀ (pi pq:Nat×Nat) (w2:World) (env:Env),w.heap.size<=pi.1->w.heap.size<=pq.1->pi.1≠pq.1->Stp [] w w2->Ob (upd L s.n pi) w2 s.n oi->Ob (upd L (s.n+1) pq) w2 (s.n+1) ox->(Eng.look env dq=some (ga (upd L (s.n+1) pq) (fq.v (s.n+1))))->(Eng.look env di=some (ga (upd L s.n pi) (fi.v s.n)))->(∀ t,t≠dq->t≠di->Eng.look env t=Eng.look (ge L e) t)->EngB.WD P n ops (w0.heap.size,ids s0.n L0 WE) Lt Q r' env w2:=λpi pq w2 env h1 h2 h3 hT o1 o2 v1 v2 v3=>by
    obtain ⟨L2,x1,x2,x3,x4,x5,x6⟩:=ZqF (fi:=fi) (fq:=fq) (di:=di) (dq:=dq) hR hE n1 n2 c6 h1 h2 h3 hT o1 o2;refine WDB.weak (e':=ge L2 (pt dq (fq.v (s.n+1)) (pt di (fi.v s.n) e))) (λt v hv=>?_) (Z4t (Q:=Q) hC eH kD r' fl _ s2 e' s' wE wL rs so L2 w2 h x1 x3 (by simpa using hN.trans x2) hf hw hr k);rw [Z0R,Z53] at hv;by_cases y1:dq=t;rw [if_pos y1] at hv;subst y1;rw [v1];simpa [x6] using hv;rw [if_neg y1,Z53] at hv;by_cases y2:di=t;rw [if_pos y2] at hv;subst y2;rw [v2];simpa [x5] using hv;rw [if_neg y2] at hv;rw [v3 t (Ne.symm y1) (Ne.symm y2),Z0R];rw [XN] at hv ⊢;obtain ⟨x,hx,rfl⟩:=hv;exact ⟨x,hx,(x4 x (hE t x hx)).symm⟩
   have vF:=Z6s n1;have vG:ox.bd (s.n+1)=true:=O.bd_le (YbH _) c6;have O1:∀ w1,OE P n ⟨some di,op,ty,pos,af,none⟩ (ge L e) w1 (Zfx L w1 s.n fi oi):=λw1=>ZcY s.n hR.g m1 vF;have O2:∀ w1,OE P n ⟨some dq,op',ty',pos',af',none⟩ (ge L e) w1 (Zfx L w1 (s.n+1) fq ox):=λw1=>ZcY (s.n+1) hR.g m2 vG;have fresh:∀ (d':Nat) (v':Value),(lk e d').isNone=true->∀ t v,Eng.look (ge L e) t=some v->Eng.look ((d',v') :: ge L e) t=some v:=λd' v' hd t v hv=>by
    rw [Zf];by_cases e1:d'=t;subst e1;rw [Z0R,Option.isNone_iff_eq_none.1 hd] at hv;cases hv;rw [if_neg e1];exact hv
   have lo:∀ (a b:Nat) (x y:Value) (t:Nat),Eng.look ((a,x) :: (b,y) :: ge L e) t=if a=t then some x else if b=t then some y else Eng.look (ge L e) t:=λa b x y t=>by rw [Zf,Zf]
   refine Z8P c2 (Z16 hi jx (O1 w) (λv w1 hv=>k1 _ _ hN.st.size hv.choose_spec.2.1) c3 (λvi w1 kO=>?_)) (Z16 hq trivial (O2 w) (λv w1 hv=>k1 _ _ hN.st.size hv.choose_spec.2.1) c4 (λvq w1 kO=>?_));obtain ⟨pi,h1,kE,o1,rfl⟩:=kO;refine Z7 hq trivial (G:=Zfx L w1 (s.n+1) fq ox) ⟨λa ha=>(O2 w1).h a (ha.weak (fresh di _ c7))⟩ (λv w2 hv=>k1 _ _ (Xh hN.st.size kE.size) hv.choose_spec.2.1) c4 (λvq w2 jF=>?_);obtain ⟨pq,h2,an,o2,rfl⟩:=jF;have hlt:=o1.lt;rw [ZR] at hlt;exact fin pi pq w2 _ h1 (Xh kE.size h2) (by omega) (kE.trans an) (o1.ext an (by simp)) o2 (by rw [lo,if_pos rfl]) (by rw [lo,if_neg (Ne.symm bi),if_pos rfl]) (λt y1 y2=>by rw [lo,if_neg (Ne.symm y1),if_neg (Ne.symm y2)]);obtain ⟨pq,h2,kE,o2,rfl⟩:=kO;simp only [Z3b,if_pos];refine Z7 hi jx (G:=Zfx L w1 s.n fi oi) ⟨λa ha=>(O1 w1).h a (ha.weak (fresh dq _ c8))⟩ (λv w2 hv=>k1 _ _ (Xh hN.st.size kE.size) hv.choose_spec.2.1) c3 (λvi w2 jF=>?_);obtain ⟨pi,h1,an,o1,rfl⟩:=jF;have hlt:=o2.lt;rw [ZR] at hlt;exact fin pi pq w2 _ (Xh kE.size h1) h2 (by omega) (kE.trans an) o1 (o2.ext an (by simp)) (by rw [lo,if_neg bi,if_pos rfl]) (by rw [lo,if_pos rfl]) (λt y1 y2=>by rw [lo,if_neg (Ne.symm y2),if_neg (Ne.symm y1)]);cases h;cases h;cases h;cases h;cases h
end
inductive Ex where
 | n
 | r
 | x (i:Nat)
def Ex.to:Ex->Exit
 | .n=>.normal
 | .r=>.ret
 | .x i=>.exit i
abbrev Cs:=Ex×AE×S×List Nat
def Zed (f:AE->S->Option Cs):Nat->AE->S->Option Cs
 | 0,_,_=>none
 | k + 1, e, s => match f e s with
   | some (.n, e1, s1, w1) => match Zed f k e1 s1 with
     | some (x,e2,s2,w2)=>some (x,e2,s2,w1++w2)
     | none=>none
   | some (.r,e1,s1,w1)=>some (.r,e1,s1,w1)
   | some (.x i,e1,s1,w1)=>some (.x i,e1,s1,w1)
   | none=>none
noncomputable def Z0S (P:Program) [KD P] (call:Cf) (od:Nat->Option (List Nat×List (Nat×Nat))) (n:Nat):Code->AE->S->Option Cs
 | .skip,e,s=>some (.n,e,s,[])
 | .region id ops false, e, s => match Zbq P call n ops ops.toList e s with
   | some (e1,s1,w1)=>some (.n,e1,s1,w1)
   | none=>none
 | .region id ops true, e, s => match od id with
   | some (Lt, ord) => match ZiV P call n ops Lt ord e s with
     | some (e1,s1,w1)=>some (.n,e1,s1,w1)
     | none=>none
   | none=>none
 | .seq a b, e, s => match Z0S P call od n a e s with
   | some (.n, e1, s1, w1) => match Z0S P call od n b e1 s1 with
     | some (x,e2,s2,w2)=>some (x,e2,s2,w1++w2)
     | none=>none
   | some (.r,e1,s1,w1)=>some (.r,e1,s1,w1)
   | some (.x i,e1,s1,w1)=>some (.x i,e1,s1,w1)
   | none=>none
 | .cond c a b, e, s => match evv e c with
   | some (.b true)=>Z0S P call od n a e s
   | some (.b false)=>Z0S P call od n b e s
   | _=>none
 | .block i b, e, s => match Z0S P call od n b e s with
   | some (.n,e1,s1,w1)=>some (.n,e1,s1,w1)
   | some (.r,e1,s1,w1)=>some (.r,e1,s1,w1)
   | some (.x j,e1,s1,w1)=>bif Nat.beq j i then some (.n,e1,s1,w1) else some (.x j,e1,s1,w1)
   | none=>none
 | .loop b,e,s=>Zed (Z0S P call od n b) 2000 e s
 | .exit i,e,s=>some (.x i,e,s,[])
 | .scope b,e,s=>Z0S P call od n b e s
 | .label _,e,s=>some (.n,e,s,[])
 | .ret,e,s=>some (.r,e,s,[])
 | _,_,_=>none
theorem Nx.sub {s s':S} {L L':Lc} {w w':World} {ws vs:List Nat} (h:Nx s s' L L' w w' ws) (hs:∀ k∈ws,k<s.n->k∈vs):Nx s s' L L' w w' vs:=by
 have hi:∀ b,b∈ids s.n L ws->b∈ids s.n L vs:=λb hb=>by
  obtain ⟨j,h1,h2,h3⟩:=JL.1 hb;exact JL.2 ⟨j,hs j h1 h2,h2,h3⟩
 exact ⟨h.le,h.ag,λj h1 h2=>(h.nw j h1 h2).imp id (hi _),h.st.mono hi⟩
theorem Zfy {P:Program} [KD P] {n:Nat} {Q:Exit->Act->World->Prop} {e:Env} {w} {ops:Array Oper} {S:Nat×List Nat} {Lt:List Nat} {ord:List (Nat×Nat)} (hs:Region.noSelect ops=true) (hl:Nat.beq (wt ord) ops.toList.length=true)
 (hB:J5 ops Lt ord (Array.replicate ops.toList.length false)=true) (h:EngB.WD P n ops S Lt Q ord e w) (a:Act) (ha:Has n e a):wpAny P .any ops Q ops.size (Array.replicate ops.size false) a w:=by
 have h2:=Z0u (Q:=Q) (λa w hz=>hz) _ _ _ _ (h.h _ hs hB a ha);rw [Xq hl] at h2;simpa using h2
section
variable {P:Program} [KD P] {n:Nat} {call:Cf} {od:Nat->Option (List Nat×List (Nat×Nat))}
theorem Zfz {ops:Array Oper} {Lt:List Nat} {ord:List (Nat×Nat)} {Q:Exit->Act->World->Prop} (hC:Z4s P call) (hc:ZqD ops Lt ord=true) {e:AE} {s:S} {e':AE} {s':S} {ws:List Nat} {L:Lc} {w} (h:ZiV P call n ops Lt ord e s=some (e',s',ws)) (hR:Rel L s w) (hE:EB s.n e)
 (k:∀ L' w',Nx s s' L L' w w' ws->Rel L' s' w'->EB s'.n e'->WQ n Q .normal (ge L' e') w'):∀ a,Has n (ge L e) a->wpAny P .any ops Q ops.size (Array.replicate ops.size false) a { w with drawn:=w.drawn+1 }:=by
 unfold ZiV at h;unfold ZqD at hc;simp only [Xf] at hc;obtain ⟨⟨c1,c2⟩,c3⟩:=hc;split at h;rename_i e1 s1 wE wL rs hd;obtain ⟨hx,h⟩:=Z00 h;simp only [Xk,XM] at h;obtain ⟨rfl,rfl,rfl⟩:=h;simp only [Xf] at hx;obtain ⟨x1,x2⟩:=hx;intro a ha;have hS:Stp [] w { w with drawn:=w.drawn+1 }:=Stp.drew [] w;generalize { w with drawn:=w.drawn+1 }=w1 at hS ⊢;refine Zfy c1 c2 c3 (S:=(w.heap.size,ids s.n L wE)) ?_ a ha;have lp:=hR.up hS;exact Z4t (P:=P) (n:=n) (ops:=ops) (Lt:=Lt) (Q:=Q) hC hR (WE:=wE) (λj hj sz=>by
  have:=XQ.1 x2 j hj;simp only [Yax] at this;rcases this with h|h
  have:=Xj h;omega;exact h) ord false e s e1 s1 wE wL rs [] L w1 hd lp hE ⟨Xl _,λ_ _=>rfl,λj h1 h2=>absurd h2 (YaN.2 h1),hS⟩ (λ_ j hj=>by cases hj) (λj hj=>hj) (λb hb=>by
  have:=XQ.1 x1 b hb;simp only [Xf,Ya9,List.contains_eq_mem,decide_eq_false_iff_not] at this;exact ⟨Xj this.1.1,this.1.2,this.2⟩) (λL' w' so' a1 a2 a3 a4=>k L' w' (a1.sub (λj hj _=>by
   rcases a2 j hj with h|h|h
   cases h;exact Xd.2 (.inl h);exact Xd.2 (.inr h))) a3 a4)
 cases h
def Zuj (P:Program) (n:Nat) (c:Code) (f:AE->S->Option Cs):Prop:=∀ (ds:List Deferred) (e:AE) (s:S) (x:Ex) (e':AE) (s':S) (ws:List Nat) (L:Lc) (w:World) (Q:Exit->Act->World->Prop),f e s=some (x,e',s',ws)->Rel L s w->EB s.n e->
 (∀ L' w',Nx s s' L L' w w' ws->Rel L' s' w'->EB s'.n e'->WQ n (Z6Y ds Q) x.to (ge L' e') w')->∀ a,Has n (ge L e) a->c.wp P Q (Z0C ds a) w
theorem Z8x {P:Program} {c:Code} {f:AE->S->Option Cs} (hf:Zuj P n c f) (ds:List Deferred) {Q:Exit->Act->World->Prop} {x:Ex} {e':AE} {s':S}:∀ (m:Nat) (e:AE) (s:S) (ws:List Nat) (L:Lc) (w),Zed f m e s=some (x,e',s',ws)->Rel L s w->EB s.n e->
 (∀ L' w',Nx s s' L L' w w' ws->Rel L' s' w'->EB s'.n e'->WQ n (Z6Y ds Q) x.to (ge L' e') w')->∀ a,Has n (ge L e) a->Code.rounds P c Q m (Z0C ds a) w
 | 0,_,_,_,_,_,h,_,_,_=>by cases h
 | m + 1, e, s, ws, L, w, h, hR, hE, k => by
   intro a ha;rw [rounds_succ];simp only [Zed] at h;split at h;rename_i h2;split at h;rename_i h3;cases h;refine hf ds _ _ _ _ _ _ L w _ h2 hR hE ?_ a ha;exact λL' w' a1 a2 a3=>⟨λa ha=>Z8x hf ds m _ _ _ L' w' h3 a2 a3 (λL2 w2 b1 b2 b3=>k L2 w2 (a1.trans b1) b2 b3) a ha⟩
   cases h;rename_i h2;cases h;refine hf ds _ _ _ _ _ _ L w _ h2 hR hE ?_ a ha;exact λL' w' a1 a2 a3=>⟨(k L' w' a1 a2 a3).h⟩
   rename_i h2;cases h;refine hf ds _ _ _ _ _ _ L w _ h2 hR hE ?_ a ha;exact λL' w' a1 a2 a3=>⟨(k L' w' a1 a2 a3).h⟩
   cases h
theorem Zbs (hC:Z4s P call) (hm:P.follows .mixedOrders=true):∀ c,chkC od c=true->Zuj P n c (Z0S P call od n c):=by
 intro c
 induction c with
 | skip=>
   intro hK ds e s x e' s' ws L w Q h hR hE k a ha;cases h;exact wp_skip ((k L w (Nx.refl _ _ _) hR hE).h a ha)
 | region id ops dr=>
   intro hK ds e s x e' s' ws L w Q h hR hE k a ha;cases dr with
   | false=>
     simp only [Z0S] at h;split at h;rename_i h1;cases h;have:=wp_region_lit (P:=P) (id:=id) (l:=ops.toList) (Z4p _ _ _ ((Zm6 hC _ e s _ _ _ L w h1 hR hE k).h a ha))
     rwa [X2] at this
     cases h
   | true=>
     simp only [Z0S] at h;simp only [chkC] at hK;split at h;rename_i h0;rw [h0] at hK;split at h;rename_i h1;cases h;exact wp_region_any hm (Z5A _ _ _ _ (Zfz hC hK h1 hR hE k a ha));cases h;cases h
 | seq b c ihb ihc=>
   intro hK ds e s x e' s' ws L w Q h hR hE k a ha;simp only [chkC,Xf] at hK;replace ihb:=ihb hK.1;replace ihc:=ihc hK.2;simp only [Z0S] at h;split at h;rename_i h2;split at h;rename_i h3;cases h;refine wp_seq (ihb ds _ _ _ _ _ _ L w _ h2 hR hE ?_ a ha);exact λL' w' a1 a2 a3=>⟨λa ha=>ihc ds _ _ _ _ _ _ L' w' Q h3 a2 a3 (λL2 w2 b1 b2 b3=>k L2 w2 (a1.trans b1) b2 b3) a ha⟩
   cases h;rename_i h2;cases h;refine wp_seq (ihb ds _ _ _ _ _ _ L w _ h2 hR hE ?_ a ha);exact λL' w' a1 a2 a3=>⟨(k L' w' a1 a2 a3).h⟩
   rename_i h2;cases h;refine wp_seq (ihb ds _ _ _ _ _ _ L w _ h2 hR hE ?_ a ha);exact λL' w' a1 a2 a3=>⟨(k L' w' a1 a2 a3).h⟩
   cases h
 | cond c b d ihb ihd=>
   intro hK ds e s x e' s' ws L w Q h hR hE k a ha;simp only [chkC,Xf] at hK;replace ihb:=ihb hK.1;replace ihd:=ihd hK.2;simp only [Z0S] at h;split at h;rename_i hc;exact wp_cond_true (HasD.ev ha (Zv hR.g hc)) (ihb ds e s x e' s' ws L w Q h hR hE k a ha);rename_i hc;exact wp_cond_false (HasD.ev ha (Zv hR.g hc)) (ihd ds e s x e' s' ws L w Q h hR hE k a ha);cases h
 | block i b ih=>
   intro hK ds e s x e' s' ws L w Q h hR hE k a ha;replace ih:=ih hK;simp only [Z0S] at h;split at h;rename_i h2;cases h;refine wp_block (ih ds _ _ _ _ _ _ L w _ h2 hR hE ?_ a ha);exact λL' w' a1 a2 a3=>⟨(k L' w' a1 a2 a3).h⟩
   rename_i h2;cases h;refine wp_block (ih ds _ _ _ _ _ _ L w _ h2 hR hE ?_ a ha);exact λL' w' a1 a2 a3=>⟨(k L' w' a1 a2 a3).h⟩
   . rename_i j e2 s2 w2 h2
     cases hj:Nat.beq j i with
     | true=>
       rw [hj] at h;cases h;cases Xq hj;refine wp_block (ih ds _ _ _ _ _ _ L w _ h2 hR hE ?_ a ha);exact λL' w' a1 a2 a3=>⟨(Zt (k L' w' a1 a2 a3)).h⟩
     | false=>
       rw [hj] at h;cases h;refine wp_block (ih ds _ _ _ _ _ _ L w _ h2 hR hE ?_ a ha);exact λL' w' a1 a2 a3=>⟨(ZB hj (k L' w' a1 a2 a3)).h⟩
   cases h
 | loop b ih=>
   intro hK ds e s x e' s' ws L w Q h hR hE k a ha;replace ih:=ih hK;exact wp_loop_rounds 2000 (Z8x ih ds 2000 e s ws L w h hR hE k a ha)
 | exit i=>
   intro hK ds e s x e' s' ws L w Q h hR hE k a ha;cases h;exact wp_exit ((k L w (Nx.refl _ _ _) hR hE).h a ha)
 | scope b ih=>
   intro hK ds e s x e' s' ws L w Q h hR hE k a ha;replace ih:=ih hK;refine wp_scope_straight (ih ds e s x e' s' ws L w _ h hR hE (λL' w' a1 a2 a3=>?_) a ha);have:=(k L' w' a1 a2 a3).h;cases x<;>exact ⟨this⟩
 | label l=>
   intro hK ds e s x e' s' ws L w Q h hR hE k a ha;cases h;exact wp_label ((k L w (Nx.refl _ _ _) hR hE).h a ha)
 | ret=>
   intro hK ds e s x e' s' ws L w Q h hR hE k a ha;cases h;exact wp_ret ((k L w (Nx.refl _ _ _) hR hE).h a ha)
 | _=>intro hK ds e s x e' s' ws L w Q h;cases h
theorem Zbt (a:Act):Z0C [] a=a:=by cases a;simp [Z0C]
theorem Zbu (hC:Z4s P call) (hm:P.follows .mixedOrders=true) {c:Code} (hK:chkC od c=true) {e:AE} {s:S} {x:Ex} {e':AE} {s':S} {ws:List Nat} {L:Lc} {w} {Q:Exit->Act->World->Prop} (h:Z0S P call od n c e s=some (x,e',s',ws)) (hR:Rel L s w) (hE:EB s.n e)
 (k:∀ L' w',Nx s s' L L' w w' ws->Rel L' s' w'->EB s'.n e'->WQ n Q x.to (ge L' e') w'):WC P n c Q (ge L e) w:=
 ⟨λa ha => by
   have:=Zbs hC hm c hK [] e s x e' s' ws L w Q h hR hE (λL' w' a1 a2 a3=>⟨λa ha=>by unfold Z6Y;rw [Zbt];exact (k L' w' a1 a2 a3).h a ha⟩) a ha
   rwa [Zbt] at this⟩
end
abbrev Od:=List (Nat×Nat×List Nat×List (Nat×Nat))
def odS (f:Nat):Od->Nat->Option (List Nat×List (Nat×Nat))
 | [],_=>none
 | (g,q,a,b) :: l,r=>bif Nat.beq g f && Nat.beq q r then some (a,b) else odS f l r
noncomputable def Z5I (P:Program) (e:AE) (s:S):ResultVar->Option V
 | .tmp t=>lk e t
 | .cell t T => match lk e t, P.underlying T with
   | some (.p b 0), some D => match ldc s b with
     | some cs => match Z06 D, (P.info? T).map (·.size) with
       | true,some k=>bif Nat.beq cs.length k then some (.a cs) else none
       | false,_=>cs[0]?
       | _,_=>none
     | none=>none
   | _,_=>none
noncomputable def Zd0 (P:Program) (e:AE) (s:S):List ResultVar->Option V
 | []=>some (.t [])
 | [x]=>Z5I P e s x
 | [x, y] => match Z5I P e s x, Z5I P e s y with
   | some a,some b=>some (.t [a,b])
   | _,_=>none
 | [x, y, z] => match Z5I P e s x, Z5I P e s y, Z5I P e s z with
   | some a,some b,some c=>some (.t [a,b,c])
   | _,_,_=>none
 | [x, y, z, u] => match Z5I P e s x, Z5I P e s y, Z5I P e s z, Z5I P e s u with
   | some a,some b,some c,some d=>some (.t [a,b,c,d])
   | _,_,_,_=>none
 | _=>none
def Z7S:Nat->List V->AE
 | _,[]=>[]
 | k,v :: r=>(k,v) :: Z7S (k+1) r
abbrev Hk:=Cf->Nat->List V->S->Option (Option (V×S×List Nat))
def gcS (s:S) (v:V) (s1:S) (ws:List Nat):V×S×List Nat:=match ws.filter (λk=>Nat.blt k s.n) with
 | []=>bif bd s.n v then (v,s,[]) else (v,s1,[])
 | ws=>(v,s1,ws)
noncomputable def Zm7 (P:Program) (fn:Func) (s:S):Option Cs->Option (V×S×List Nat)
 | some (.n, e, s1, ws) => match fn.results.toList with
   | []=>some (gcS s (.t []) s1 ws)
   | _=>none
 | some (.r, e, s1, ws) => match Zd0 P e s1 fn.results.toList with
   | some v=>some (gcS s v s1 ws)
   | none=>none
 | _=>none
noncomputable def fnS (P:Program) [KD P] (od:Od) (hk:Hk):Nat->Cf
 | 0,_,_,_=>none
 | k + 1, f, args, s => match hk (fnS P od hk k) f args s with
   | some r=>r
   | none => match P.funcs[f]? with
     | some fn => match fn.body with
       | some c=>bif Nat.ble args.length fn.ntmps then Zm7 P fn s (Z0S P (fnS P od hk k) (odS f od) fn.ntmps c (Z7S 0 args) s) else none
       | none=>none
     | none=>none
def ZqG (P:Program) (hk:Hk):Prop:=∀ call,Z4s P call->∀ f args s v s' ws,hk call f args s=some (some (v,s',ws))->bl s.n args=true->∀ L w,Rel L s w->Enters P f/\Calls P f (gl L args).toArray w (Ret λu w'=>∃ L',Nx s s' L L' w w' ws/\Rel L' s' w'/\u=ga L' v)
def Zbv (tmps:Array Value):ResultVar->Sem Value
 | .tmp t=>pure (tmps.getD t undef)
 | .cell a t=>do loadVar t (<- asAddr (tmps.getD a undef))
theorem Z7T (fn:Func) (tmps:Array Value):results fn tmps=(do
 let vs <- fn.results.mapM (Zbv tmps)
 pure (if h:vs.size=1 then vs[0] else .tuple vs)):=rfl
section
variable {P:Program} [KD P] {n:Nat}
theorem Z9I (L:Lc):∀ (l:List V) (k:Nat),ge L (Z7S k l)=Z39 (gl L l) k
 | [],k=>rfl
 | v :: r, k => by
   show (k,ga L v) :: ge L (Z7S (k+1) r)=_;rw [Z9I L r (k+1)];rfl
theorem Z9J:∀ (l:List V) (k t:Nat) (v:V),lk (Z7S k l) t=some v->v∈l
 | [],k,t,v,h=>by cases h
 | u :: r, k, t, v, h => by
   simp only [Z7S] at h;rw [Z53] at h;by_cases hb:k=t;rw [if_pos hb] at h;simp only [Xk] at h;subst h;exact .head _;rw [if_neg hb] at h;exact .tail _ (Z9J r (k+1) t v h)
theorem Z19 {P:Program} {L:Lc} {e:AE} {s:S} {w} (hR:Rel L s w) {x:ResultVar} {v:V} (h:Z5I P e s x=some v) {a:Act} (ha:Has n (ge L e) a):(Zbv a.tmps x).run P w=.ok (ga L v) w:=by
 cases x with
 | tmp t=>
   have:=ha.vals t (ga L v) (by rw [Z0R];simp only [Z5I] at h;rw [h];rfl);simp only [Zbv,this];rfl
 | cell t T=>
   simp only [Z5I] at h;split at h;rename_i b D h1 h2;have hu:Und P T D:=⟨h2⟩
   have hp:=ha.vals t (.pointer (some ⟨(L b).1,0,none⟩)) (by rw [Z0R,h1];rfl);have sD:(asAddr (a.tmps[t]?.getD undef)).run P w=.ok ⟨(L b).1,0,none⟩ w:=by rw [<- XH,hp];rfl
   split at h;rename_i cs h3;split at h;rename_i k hA h4;have hs:Siz P T k:=⟨h4⟩
   obtain ⟨hk,h⟩:=Z00 h;simp only [Xk] at h;subst h;have fa:=Xq hk;have h5:=run_loadCells_list (P:=P) w ⟨(L b).1,0,none⟩ (gl L cs) (λj v hv=>by
    rw [Addr.add_lit,XJ];rw [Z7o,XN] at hv;obtain ⟨u,jP,rfl⟩:=hv;exact Z3B hR h3 jP)
   rw [Jg,fa] at h5;simp [Zbv,sD,loadVar,Und.isAgg,hA,Siz.run,h5,ga];rename_i _ hA;have h5:=Z3B hR h3 h;simp [Zbv,sD,loadVar,Und.isAgg,hA,h5];cases h;cases h;cases h
theorem Zee {P:Program} {fn:Func} {L:Lc} {e:AE} {s:S} {w} (hR:Rel L s w) {v:V} (h:Zd0 P e s fn.results.toList=some v) {a:Act} (ha:Has n (ge L e) a):(results fn a.tmps).run P w=.ok (ga L v) w:=by
 rw [Z7T];obtain ⟨rs,vH⟩:∃ rs,fn.results=List.toArray rs:=⟨fn.results.toList,by rw [X2]⟩
 rw [vH] at h ⊢;simp only at h
 match rs,h with
 | [],h=>simp only [Zd0,Xk] at h;subst h;simp;rfl
 | [x], h=>
   have h1:=Z19 hR (x:=x) h ha;simp [h1]
 | [x, y], h=>
   simp only [Zd0] at h;split at h;rename_i p q e1 e2;simp only [Xk] at h;subst h;have h1:=Z19 hR e1 ha;have h2:=Z19 hR e2 ha;simp [h1,h2,ga,gl];cases h
 | [x, y, z], h=>
   simp only [Zd0] at h;split at h;rename_i p q r e1 e2 e3;simp only [Xk] at h;subst h;have h1:=Z19 hR e1 ha;have h2:=Z19 hR e2 ha;have h3:=Z19 hR e3 ha;simp [h1,h2,h3,ga,gl];cases h
 | [x, y, z, u], h=>
   simp only [Zd0] at h;split at h;rename_i p q r o e1 e2 e3 e4;simp only [Xk] at h;subst h;have h1:=Z19 hR e1 ha;have h2:=Z19 hR e2 ha;have h3:=Z19 hR e3 ha;have h4:=Z19 hR e4 ha;simp [h1,h2,h3,h4,ga,gl];cases h
 | _ :: _ :: _ :: _ :: _ :: _,h=>cases h
theorem ZiW {L L':Lc} {s s1 s2:S} {w w':World} {v v2:V} {w1 ws:List Nat} (hR:Rel L s w) (a1:Nx s s1 L L' w w' w1) (a2:Rel L' s1 w') (h:gcS s v s1 w1=(v2,s2,ws)):∃ L2,Nx s s2 L L2 w w' ws/\Rel L2 s2 w'/\ga L' v=ga L2 v2:=by
 have shr:Nx s s1 L L' w w' (w1.filter (λk=>Nat.blt k s.n)):=a1.sub (λk hk fW=>XW.2 ⟨hk,X0 fW⟩);unfold gcS at h;split at h
 . rename_i hf
   rw [hf] at shr;cases hb:bd s.n v with
   | true=>
     rw [hb] at h;cases h;have hT:Stp [] w w':=by simpa [ids] using shr.st
     exact ⟨L,⟨Xl _,λ_ _=>rfl,λk h1 h2=>absurd h2 (YaN.2 h1),by simpa [ids] using hT⟩,hR.up hT,Z65 a1.ag v hb⟩
   | false=>rw [hb] at h;cases h;exact ⟨L',shr,a2,rfl⟩
 cases h;exact ⟨L',shr,a2,rfl⟩
theorem Zm8 {call:Cf} {od:Nat->Option (List Nat×List (Nat×Nat))} (hC:Z4s P call) (hm:P.follows .mixedOrders=true) {fn:Func} {c:Code} (hK:chkC od c=true) {f:Nat} (hf:P.funcs[f]?=some fn) (hb:fn.body=some c) {args:List V} {s:S} {v:V} {s':S} {ws:List Nat}
 (hl:Nat.ble args.length fn.ntmps=true) (h:Zm7 P fn s (Z0S P call od fn.ntmps c (Z7S 0 args) s)=some (v,s',ws)) (hB:bl s.n args=true) {L:Lc} {w} (hR:Rel L s w) :
 Calls P f (gl L args).toArray w (Ret λu w'=>∃ L',Nx s s' L L' w w' ws/\Rel L' s' w'/\u=ga L' v):=by
 refine Z05 (n:=fn.ntmps) hf hb rfl (by simpa [Jg] using hl) ?_;have hz:=Z9I L args 0;have hE:EB s.n (Z7S 0 args):=λt v hv=>(Z2f s.n args).1 hB v (Z9J args 0 t v hv);rw [show ((gl L args).toArray).toList=gl L args from rfl,<- hz];cases hc:Z0S P call od fn.ntmps c (Z7S 0 args) s with
 | none=>rw [hc] at h;cases h
 | some q=>
   obtain ⟨x,e1,s1,w1⟩:=q;rw [hc] at h;refine Zbu hC hm hK hc hR hE (λL' w' a1 a2 a3=>?_);cases x with
   | n=>
     simp only [Zm7] at h;split at h;rename_i hr;simp only [Xk] at h;obtain ⟨L2,g1,g2,g3⟩:=ZiW hR a1 a2 h;exact Z8I (Array.toList_eq_nil_iff.1 hr) ⟨_,rfl,L2,g1,g2,g3⟩;cases h
   | r=>
     simp only [Zm7] at h;split at h;rename_i v' hr;simp only [Xk] at h;obtain ⟨L2,g1,g2,g3⟩:=ZiW hR a1 a2 h;exact ⟨λa ha=>⟨ha.defers,_,Zee a2 hr ha,_,rfl,L2,g1,g2,g3⟩⟩;cases h
   | x i=>cases h
def Zm9 (P:Program) (od:Od):Prop:=∀ (f:Nat) (fn:Func) (c:Code),P.funcs[f]?=some fn->fn.body=some c->chkC (odS f od) c=true
theorem Zd1 {od:Od} {hk:Hk} (hO:Zm9 P od) (hm:P.follows .mixedOrders=true) (hN:∀ (f:Nat) (fn:Func),P.funcs[f]?=some fn->(fn.name == "runtime.NumGoroutine")=false) (hH:ZqG P hk):∀ k,Z4s P (fnS P od hk k)
 | 0=>λf args s v s' ws h=>by cases h
 | k + 1 => λf args s v s' ws h hB L w hR => by
   have ih:=Zd1 (od:=od) hO hm hN hH k;simp only [fnS] at h;split at h;rename_i r hr;subst h;exact hH _ ih f args s v s' ws hr hB L w hR;split at h;rename_i fn hf;split at h;rename_i c hb;obtain ⟨hl,h⟩:=Z00 h;exact ⟨enters_of hf (hN f fn hf) hb,Zm8 ih hm (hO f fn c hf hb) hf hb hl h hB hR⟩;cases h;cases h
end
def dfS:Code->Option (Array Oper×List Oper×Operand×Array TypeId×TypeId×String×Array Edge)
 | .region id ops false => match ops.toList.reverse with
   | ⟨none,.defer ⟨.value t,⟨[]⟩,ts⟩,ty,pos,af,none⟩ :: r=>some (ops,r.reverse,t,ts,ty,pos,af)
   | _=>none
 | _=>none
noncomputable def ZiX (P:Program) [KD P] (call:Cf) (od:Nat->Option (List Nat×List (Nat×Nat))) (n:Nat) (nop:Nat->Nat->Bool) (fn:Func):Code->AE->S->Option (V×S×List Nat)
 | .seq a b, e, s => match dfS a with
   | some (ops, l, t, _) => match Zbq P call n ops l e s with
     | some (e1, s1, w1) => match evv e1 t with
       | some (.f g [] cap) => match nop g cap.length with
         | true => match Z0S P call od n b e1 s1 with
           | some (.r, e2, s2, w2) => match Zd0 P e2 s2 fn.results.toList with
             | some v=>some (v,s2,w1++w2)
             | none=>none
           | _=>none
         | false=>none
       | _=>none
     | none=>none
   | none => match Z0S P call od n a e s with
     | some (.n, e1, s1, w1) => match ZiX P call od n nop fn b e1 s1 with
       | some (v,s2,w2)=>some (v,s2,w1++w2)
       | none=>none
     | _=>none
 | _,_,_=>none
section
variable {P:Program} [KD P] {n:Nat} {call:Cf} {od:Nat->Option (List Nat×List (Nat×Nat))} {ds:List Deferred}
theorem ZqH {c:Code} {ops:Array Oper} {l:List Oper} {t:Operand} {ts:Array TypeId} {ty:TypeId} {pos:String} {af:Array Edge} (h:dfS c=some (ops,l,t,ts,ty,pos,af)) :
 (∃ id,c=.region id ops false)/\ops.toList=l++[⟨none,.defer ⟨.value t,#[],ts⟩,ty,pos,af,none⟩]:=by
 unfold dfS at h;split at h;rename_i id ops';split at h;rename_i r hr;simp only [Xk,XM] at h;obtain ⟨rfl,rfl,rfl,rfl,rfl,rfl,rfl⟩:=h;refine ⟨⟨id,rfl⟩,?_⟩;have:=congrArg List.reverse hr;simpa using this;cases h;cases h
def ZiY (P:Program) (nop:Nat->Nat->Bool):Prop:=∀ g k,nop g k=true->(∃ fn',Fun P g fn')/\∀ (cap:List Value) (w:World),cap.length=k->CallsD P g cap.toArray .returning w (λe u' w'=>∃ v,e=.returned v/\(u'=.returning/\Stp [] w w'))
theorem Zma {nop:Nat->Nat->Bool} {fn:Func} (hC:Z4s P call) (hm:P.follows .mixedOrders=true) (hN:ZiY P nop):∀ (c:Code),chkC od c=true->∀ (e:AE) (s:S) (v:V) (s':S) (ws:List Nat) (L:Lc) (w) (R:Ending->World->Prop),ZiX P call od n nop fn c e s=some (v,s',ws)->Rel L s w->EB s.n e->
 (∀ L' w',Nx s s' L L' w w' ws->Rel L' s' w'->R (.returned (ga L' v)) w')->WC P n c (bodyPostD P fn R) (ge L e) w:=by
 intro c
 induction c with
 | seq a b iha ihb=>
   intro hK e s v s' ws L w R h hR hE k;simp only [chkC,Xf] at hK;replace ihb:=ihb hK.2;simp only [ZiX] at h;split at h;rename_i ops l t q hd;obtain ⟨ts,ty,pos,af⟩:=q;obtain ⟨⟨id,rfl⟩,qD⟩:=ZqH hd;split at h;rename_i e1 s1 w1 h1;split at h;rename_i g cap bF;split at h;rename_i hn;split at h;rename_i e2 s2 w2 h2;split at h;rename_i v2 hv;simp only [Xk,XM] at h;obtain ⟨rfl,rfl,rfl⟩:=h;obtain ⟨⟨fn',hF⟩,qE⟩:=hN g _ hn;refine Z4g ?_;have:=Z1A (P:=P) (n:=n) (id:=id) (Q:=Exit.then (λa w=>b.wp P (bodyPostD P fn R) a w) (bodyPostD P fn R)) (e:=ge L e) (w:=w) (l:=ops.toList) (by
    rw [X2,qD];refine Z3C hC l e s e1 s1 w1 L w h1 hR hE (λL1 y1 a1 a2 a3=>?_);refine Ziy (fv:=.func g) (cap:=(gl L1 cap).toArray) (Zv a2.g bF) ?_;refine ⟨Zbs hC hm b hK.2 _ e1 s1 .r e2 s2 w2 L1 y1 _ h2 a2 a3 (λL2 y2 b1 b2 b3=>⟨λact ha=>?_⟩)⟩;show Leaves _ _ act.tmps _ (act.defers++_) .returning _;rw [ha.defers];refine ZcP (f:=g) (by simp) (qE (gl L1 cap) y2 (by rw [Jg])) ?_;rintro _ u' y3 ⟨rfl,hT⟩;have sE:=b2.up hT;have lR:Nx s2 s2 L2 L2 y2 y3 []:=⟨Xl _,λ_ _=>rfl,λj h1 h2=>absurd h2 (YaN.2 h1),hT⟩
    exact ⟨rfl,_,Zee sE hv ha,k L2 y3 (by simpa using (a1.trans b1).trans lR) sE⟩)
   rwa [X2] at this
   cases h;cases h;cases h;cases h;cases h;split at h;rename_i e1 s1 w1 h1;split at h;rename_i v2 s2 w2 h2;simp only [Xk,XM] at h;obtain ⟨rfl,rfl,rfl⟩:=h;exact Z4g (Zbu hC hm hK.1 h1 hR hE (λL1 y1 a1 a2 a3=>Z3H (ihb e1 s1 v2 s2 w2 L1 y1 R h2 a2 a3 (λL2 y2 b1 b2=>k L2 y2 (a1.trans b1) b2))));cases h;cases h
 | _=>
   intro hK e s v s' ws L w R h hR hE k;simp only [ZiX] at h;cases h
end
noncomputable def ZqI (P:Program) [KD P] (od:Od) (nop:Nat->Nat->Bool) (call:Cf) (f:Nat) (args:List V) (s:S):Option (V×S×List Nat):=match P.funcs[f]? with
 | some fn => match fn.body with
   | some c => bif Nat.ble args.length fn.ntmps then (match ZiX P call (odS f od) fn.ntmps nop fn c (Z7S 0 args) s with
     | some (v,s1,ws)=>some (v,s1,ws.filter (λk=>Nat.blt k s.n))
     | none=>none) else none
   | none=>none
 | none=>none
theorem Zmb {P:Program} [KD P] {od:Od} (hO:Zm9 P od) {nop:Nat->Nat->Bool} {call:Cf} (hC:Z4s P call) (hm:P.follows .mixedOrders=true) (hN:ZiY P nop) {f:Nat} {args:List V} {s:S} {v:V} {s':S} {ws:List Nat} (h:ZqI P od nop call f args s=some (v,s',ws)) (hB:bl s.n args=true) {L:Lc} {w} (hR:Rel L s w) :
 Calls P f (gl L args).toArray w (Ret λu w'=>∃ L',Nx s s' L L' w w' ws/\Rel L' s' w'/\u=ga L' v):=by
 unfold ZqI at h;split at h;rename_i fn hf;split at h;rename_i c hb;obtain ⟨hl,h⟩:=Z00 h;split at h;rename_i v1 s1 w1 h1;simp only [Xk,XM] at h;obtain ⟨rfl,rfl,rfl⟩:=h;refine Z9E (n:=fn.ntmps) hf hb rfl (by simpa [Jg] using hl) ?_;rw [show ((gl L args).toArray).toList=gl L args from rfl,<- Z9I L args 0];exact Zma hC hm hN c (hO f fn c hf hb) _ _ _ _ _ L w _ h1 hR (λt v hv=>(Z2f s.n args).1 hB v (Z9J args 0 t v hv)) (λL' w' a1 a2=>⟨_,rfl,L',a1.sub (λk hk fW=>XW.2 ⟨hk,X0 fW⟩),a2,rfl⟩);cases h;cases h;cases h
end Go.Sim
namespace Go.Proofs.YtgdicjnjhchooaaGreatDoor
open Go Go.Eng Go.RowKit Go.Proofs
theorem Zuk {P:Program} {n:Nat} {Q:Exit->Act->World->Prop} {e:Env} {w} {ops:Array Oper} {rest:List Oper} {ar:Nat} {ty:TypeId} {pos:String} {af:Array Edge} {t u:Nat} {x:Operand} {ds:TypeDesc} [hu:Und P t ds] (vJ:∃ l,ds=.interface l) (hx:ev e x=some .nilIface) (aB:Nat.blt ar n=true) (kk:WL P n ops Q rest ((ar,.B false) :: e) w) :
 WL P n ops Q (⟨some ar,.binOp .neq t x (.const .nilIface) u,ty,pos,af,none⟩ :: rest) e w:=by
 refine Z9 (v:=.B false) ⟨λa ha=>?_⟩ aB kk;obtain ⟨l,rfl⟩:=vJ;have hy:a.eval (.const .nilIface)=.nilIface:=rfl;simp only [execOp,ha.ev hx,hy];have:=run_equal_nil_nil (P:=P) (w:=w) t (by rw [hu.h,Program.methodsAt,hu.h]);simp [go_sem,binOp,eqGuard,this]
theorem ZfA (w) (el:TypeId) (t:ByteArray):Stp [] w (Lib.bytesWorld w el t):=by
 refine ⟨rfl,rfl,rfl,?_,λb hb _=>Lib.bytesWorld_at_old w el _ b hb⟩;rw [Lib.bytesWorld_size];omega
open Go Go.Eng Go.RowKit Go.Proofs Go.Sim
def ZqJ (g k:Nat):Bool:=Nat.beq g 195 && Nat.beq k 4
def Zd2 (b:Bool) (v:V) (s:S):Option (Option (V×S×List Nat)):=some (bif b then some (v,s,[]) else none)
def kdI:V->Option Int
 | .i .i64 n=>some n
 | _=>none
def kdS:V->Option Str
 | .s t=>some t
 | _=>none
def kdF:V->Option Fct
 | .a [.i .i64 a,.s b,.i .i64 c,.i .i64 d,.i .i64 e,.i .i64 f]=>some ⟨a,b,c,d,e,f⟩
 | _=>none
def kdG:V->Option Sig
 | .a [.i .i64 a,.s b,.i .i64 c,.i .i64 d,.i .i64 e]=>some ⟨a,b,c,d,e⟩
 | _=>none
instance:KD Tryz.prog where
 l := [⟨3, Int, inferInstance, inferInstance, kdI, λL v a h => by unfold kdI at h; split at h <;> cases h; rfl⟩,
   ⟨9,Str,inferInstance,inferInstance,kdS,λL v a h=>by unfold kdS at h;split at h<;>cases h;rfl⟩,
   ⟨40,Fct,inferInstance,inferInstance,kdF,λL v a h=>by unfold kdF at h;split at h<;>cases h;rfl⟩,
   ⟨349,Sig,inferInstance,inferInstance,kdG,λL v a h=>by unfold kdG at h;split at h<;>cases h;rfl⟩]
theorem ZmH {α:Type} [Z6 α] (w):SlV [] w (.N) ([]:List α):=⟨none,0,rfl,Xl _,by decide,λ_=>rfl,λi hi=>absurd hi (XF i)⟩
def ZqK (p:Zew):V×V:=(.a [.i .i64 p.1.kind,.s p.1.s,.i .i64 p.1.a,.i .i64 p.1.b,.i .i64 p.1.c],Sim.ofC p.2)
def eqN:List V->List Int->Bool
 | [],[]=>true
 | .i .i64 a :: r,b :: t=>decide (a=b) && eqN r t
 | _,_=>false
theorem ZiZ:∀ {cs:List V} {l:List Int},eqN cs l=true->cs=l.map (.i .i64)
 | [],[],_=>rfl
 | .i .i64 a :: r, b :: t, h => by
   simp only [eqN,Xf,decide_eq_true_eq] at h;rw [h.1,ZiZ h.2];rfl
 | [],_ :: _,h=>by cases h
 | .i .i64 a :: r,[],h=>by cases h
noncomputable def roN (s:S) (g:Nat) (l:List Int):Bool:=match s.m.get g with
 | some (.ro cs)=>eqN cs l
 | _=>false
theorem Zj0 {L:Lc} {s:S} {w} (hR:Rel L s w) {g:Nat} {l:List Int} (hg:g<64) (h:roN s g l=true):∀ i u,l[i]?=some u->w.cell? ⟨g,i,none⟩=some (.I u):=by
 unfold roN at h;split at h;rename_i cs hc;have:=(hR.ob g _ hc).2;rw [hR.g g hg,ZiZ h] at this;intro i u hu;exact this i _ (by rw [Yai,hu];rfl);cases h
noncomputable def jy (od:Od):Hk:=λcall f args s=>match args with
 | [.s t, .i k c] => match k with
   | .i32=>bif Nat.beq f 258 then Zd2 (decide (0<=c) && decide (c<128)) (.b (decide (0<=Lib.indexByte t c.toNat.toUInt8))) s else none
   | .u8=>bif Nat.beq f 298 then Zd2 true (.i .i64 (Lib.indexByte t c.toNat.toUInt8)) s else none
   | _=>none
 | [.s a, .s b] => bif Nat.beq f 269 then (match s.m.get 3 with
   | some .ig=>Zd2 (Nat.blt a.length 4294967281) (.b (Lib.contains a b)) s
   | _=>some none) else none
 | [.s t] => bif Nat.beq f 301 then (match Lib.atoiAll t with
   | .ok v=>Zd2 (Nat.ble t.length 1000000) (.t [.i .i64 v,.c .nilIface]) s
   | _=>some none) else none
 | [] => bif Nat.beq f 310 then (match Z56 s (.mp (Z34.map ZqK)) with
   | some s'=>some (some (.m s.n,s',[]))
   | none=>some none) else none
 | [.a [.b b0, .b b1, .b b2, .b b3, .b b4, .b b5, .b b6, .c (.N), .c (.N), z1, z2, z3], .i .i64 d, .i .i64 kn] => bif Nat.beq f 32 then
    Zd2 (roN s 1 Z2m && roN s 2 Z3p) (.t [.i .i64 (ZE (Ze ⟨[b0,b1,b2,b3,b4,b5,b6],[],[]⟩ kn) 1 d).1,.i .i64 (ZE (Ze ⟨[b0,b1,b2,b3,b4,b5,b6],[],[]⟩ kn) 1 d).2]) s else none
 | [.s t,.f g x y]=>bif Nat.beq f 135 then some (ZqI Tryz.prog od ZqJ call f args s) else none
 | _=>none
theorem Zj1 (w):(Instr.typeAssert .nilIface 20 244 true).run Tryz.prog w=.ok (.tuple #[.agg #[.I 0,.I 0],.B false]) w:=by kernel_rfl
theorem ZfB (v7 v4 v5 v6:Value) (w) :
 CallsD Tryz.prog 195 #[v7,v4,v5,v6] .returning w (λe u' w'=>∃ v,e=.returned v/\(u'=.returning/\Stp [] w w')):=by
 refine callsD_of_wpS Tryz.func195 rfl λgN cs hu=>?_;have hc:gN={ gN with mode:=.returning }:=by rw [<- hu]
 apply wpS_seq;apply wpS_region;simp [wpOpsS,go_sem,recoverD,hu,Tryz.ntmps195,Exit.thenS];rw [hc];refine Zfm (n:=22) (e:=[(0,v7),(1,v4),(2,v5),(3,v6),(4,.nilIface)]) (Has.of rfl (by simp) (by
  intro p hp;simp only [Xc,Xn,or_false] at hp;rcases hp with rfl|rfl|rfl|rfl|rfl<;>kernel_rfl)) ?_
 refine W ?_;refine Z9 (Z7P rfl Zj1) rfl ?_;refine W ?_;refine Z0 Z4 rfl ?_;rintro _ w1 ⟨bf,rfl,xA,ef,hT⟩;refine SB (us:=[.I 0,.I 0]) (by intro u hu;simp at hu;rcases hu with rfl|rfl<;>rfl) ef ?_;rintro _ w2 ⟨an,ef'⟩;have hS:=hT.ow an;refine W ?_;refine Zuk ⟨_,rfl⟩ rfl rfl ?_;refine W ?_;first|refine Zdm rfl ?_|refine Z8I rfl ?_
 exact ⟨⟨_,rfl⟩,rfl,hS⟩
theorem Zmc:ZiY Tryz.prog ZqJ:=by
 intro g k h;unfold ZqJ at h;simp only [Xf] at h;have h1:=Xq h.1;have h2:=Xq h.2;subst h1 h2;refine ⟨⟨_,inferInstance⟩,λcap w hc=>?_⟩
 match cap,hc with
 | [a,b,c,d],_=>exact ZfB a b c d w
theorem Z57 {b:Bool} {v u:V} {s s':S} {ws:List Nat} (h:Zd2 b v s=some (some (u,s',ws))):b=true/\u=v/\s'=s/\ws=[]:=by
 unfold Zd2 at h;cases b with
 | false=>cases h
 | true=>cases h;exact ⟨rfl,rfl,rfl,rfl⟩
theorem Zj2 (od:Od) (hO:Zm9 Tryz.prog od):ZqG Tryz.prog (jy od):=by
 intro call hC f args s v s' ws h hB L w hR;have same:∀ {u:Value} {w':World},Stp [] w w'->u=ga L v->s'=s->ws=[]->∃ L',Nx s s' L L' w w' ws/\Rel L' s' w'/\u=ga L' v:=by
  rintro u w' hT rfl rfl rfl;exact ⟨L,⟨Xl _,λ_ _=>rfl,λj h1 h2=>absurd h2 (YaN.2 h1),hT⟩,hR.up hT,rfl⟩
 unfold jy at h;split at h;rename_i t k c;split at h;obtain ⟨h1,h2⟩:=Z00 h;have:=Xq h1;subst this;obtain ⟨h3,rfl,rfl,rfl⟩:=Z57 h2;simp only [Xf,decide_eq_true_eq] at h3;refine ⟨Fun.enters,(Tryz.strings_ContainsRune_ascii ⟨t.toArray⟩ c w h3.1 h3.2).mono ?_⟩;rintro e w' ⟨rfl,rfl⟩;exact ⟨_,rfl,same (Stp.refl _ _) rfl rfl rfl⟩;obtain ⟨h1,h2⟩:=Z00 h;have:=Xq h1;subst this;obtain ⟨h3,rfl,rfl,rfl⟩:=Z57 h2;refine ⟨Fun.enters,(Tryz.strings_IndexByte ⟨t.toArray⟩ c w).mono ?_⟩;rintro e w' ⟨rfl,rfl⟩;exact ⟨_,rfl,same (Stp.refl _ _) rfl rfl rfl⟩;cases h;rename_i a b;obtain ⟨h1,h2⟩:=Z00 h;have:=Xq h1;subst this;split at h2;rename_i hg;obtain ⟨h3,rfl,rfl,rfl⟩:=Z57 h2;obtain ⟨_,m,dQ⟩:=hR.ob _ _ hg;rw [hR.g _ (by decide)] at dQ;refine ⟨Fun.enters,(Tryz.strings_Contains ⟨a.toArray⟩ ⟨b.toArray⟩ m w (by rw [Z0a];exact Xj h3) dQ).mono ?_⟩;rintro e w' ⟨rfl,rfl⟩;exact ⟨_,rfl,same (Stp.refl _ _) rfl rfl rfl⟩;cases h2;rename_i t;obtain ⟨h1,h2⟩:=Z00 h;have:=Xq h1;subst this;split at h2;rename_i x hx;obtain ⟨h3,rfl,rfl,rfl⟩:=Z57 h2;have:=Xj h3;refine ⟨Fun.enters,(Tryz.strconv_Atoi_ok ⟨t.toArray⟩ (by rw [Z0a];omega) x (by simpa using hx) w).mono ?_⟩;rintro e w' ⟨rfl,hw⟩;refine ⟨_,rfl,same ?_ rfl rfl rfl⟩;rcases hw with rfl|⟨x,rfl⟩
 exact Stp.refl _ _;exact ZfA _ _ _;cases h2;obtain ⟨h1,h2⟩:=Z00 h;have:=Xq h1;subst this;split at h2;rename_i s1 hn;cases h2;refine ⟨Fun.enters,(Z6c w).mono ?_⟩;rintro _ w' ⟨u,rfl,m,l,rfl,⟨es,c,q1,q2,q3⟩,hp,hT,hm⟩;have aJ:Ob (upd L s.n (m,0)) w' s.n (.mp (Z34.map ZqK)):=⟨l.map ZqK,hp.map _,es,c,by rw [ZR];exact q1,by rw [q2,Yao];rfl,by rw [q3,Yao];exact Ybi λp _=>by show p.2=ga _ (Sim.ofC p.2);rw [Z7n]⟩
 obtain ⟨a1,a2,a3⟩:=hR.new hn hT hm aJ;exact ⟨_,rfl,_,a2,a1,by simp only [ga,ZR]⟩;cases h2;rename_i b0 b1 b2 b3 b4 b5 b6 z1 z2 z3 d kn;obtain ⟨h1,h2⟩:=Z00 h;have:=Xq h1;subst this;obtain ⟨h3,rfl,rfl,rfl⟩:=Z57 h2;simp only [Xf] at h3;have hc:Z1y w ⟨[b0,b1,b2,b3,b4,b5,b6],[],[]⟩ (.N) (.N) (ga L z1) (ga L z2) (ga L z3):=⟨ZmH _,ZmH _,Zj0 hR (by decide) h3.1,Zj0 hR (by decide) h3.2,⟨rfl,by simp,by simp⟩⟩
 refine ⟨Fun.enters,(Z5D d kn _ _ _ _ _ _ w hc).mono ?_⟩;rintro _ w' ⟨u,rfl,rfl,hT⟩;exact ⟨_,rfl,same hT rfl rfl rfl⟩;rename_i t g x y;obtain ⟨h1,h2⟩:=Z00 h;have:=Xq h1;subst this;exact ⟨Fun.enters,Zmb hO hC mixed Zmc (XU h2) hB hR⟩;cases h
end Go.Proofs.YtgdicjnjhchooaaGreatDoor
namespace Go.Sim
open Go Go.Eng Go.RowKit Go.Proofs
mutual
def eqV:V->V->Bool
 | .i k a,.i k' b=>decide (k=k') && decide (a=b)
 | .b x,.b y=>decide (x=y)
 | .s a,.s b=>decide (a=b)
 | .p b o,.p b' o'=>Nat.beq b b' && Nat.beq o o'
 | .l b o,.l b' o'=>Nat.beq b b' && Nat.beq o o'
 | .a l,.a l'=>eqL l l'
 | .t l,.t l'=>eqL l l'
 | .c (.N),.c (.N)=>true
 | _,_=>false
def eqL:List V->List V->Bool
 | [],[]=>true
 | a :: r,b :: t=>eqV a b && eqL r t
 | _,_=>false
end
mutual
theorem Zj3:∀ a b,eqV a b=true->a=b
 | .i k a,b,h=>by cases b<;>first|(cases h;done)|(simp only [eqV,Xf,decide_eq_true_eq] at h;rw [h.1,h.2])
 | .b x,b,h=>by cases b<;>first|(cases h;done)|(simp only [eqV,decide_eq_true_eq] at h;rw [h])
 | .s x,b,h=>by cases b<;>first|(cases h;done)|(simp only [eqV,decide_eq_true_eq] at h;rw [h])
 | .p x o,b,h=>by cases b<;>first|(cases h;done)|(simp only [eqV,Xf] at h;rw [Xq h.1,Xq h.2])
 | .l x o,b,h=>by cases b<;>first|(cases h;done)|(simp only [eqV,Xf] at h;rw [Xq h.1,Xq h.2])
 | .a l,b,h=>by cases b<;>first|(cases h;done)|(simp only [eqV] at h;rw [Z5J l _ h])
 | .t l,b,h=>by cases b<;>first|(cases h;done)|(simp only [eqV] at h;rw [Z5J l _ h])
 | .c v, b, h => by
   unfold eqV at h;split at h<;>first|(cases h;done)|simp_all
 | .f ..,b,h=>by cases b<;>cases h
 | .m ..,b,h=>by cases b<;>cases h
 | .q ..,b,h=>by cases b<;>cases h
 | .z ..,b,h=>by cases b<;>cases h
theorem Z5J:∀ l t,eqL l t=true->l=t
 | [],[],_=>rfl
 | a :: r, b :: t, h => by
   simp only [eqL,Xf] at h;rw [Zj3 a b h.1,Z5J r t h.2]
 | [],_ :: _,h=>by cases h
 | _ :: _,[],h=>by cases h
end
def eqO:O->O->Bool
 | .c T z cs,.c T' z' cs'=>Nat.beq T T' && Nat.beq z z' && eqL cs cs'
 | .ro cs,.ro cs'=>eqL cs cs'
 | .ig,.ig=>true
 | _,_=>false
theorem ZqL {a b:O} (h:eqO a b=true):a=b:=by
 unfold eqO at h;split at h;simp only [Xf] at h;rw [Xq h.1.1,Xq h.1.2,Z5J _ _ h.2];rw [Z5J _ _ h];rfl;cases h
noncomputable def Zd3 (a s:S):Bool:=Nat.beq a.n s.n && a.m.all λp=>match p.2,s.m.get p.1 with
 | some o,some o'=>eqO o o'
 | none,_=>true
 | _,_=>false
theorem Zj4 {α:Type}:∀ {l:List (Nat×α)} {k:Nat} {v:α},lk l k=some v->(k,v)∈l
 | [],_,_,h=>by cases h
 | (j, u) :: r, k, v, h => by
   rw [Z53] at h;by_cases e:j=k;rw [if_pos e] at h;cases h;subst e;exact .head _;rw [if_neg e] at h;exact .tail _ (Zj4 h)
theorem Zef {α:Type} {t:Tr α} {k:Nat} {v:α} (h:t.get k=some v):(k,some v)∈t:=by
 unfold Tr.get at h;cases hl:lk t k with
 | none=>rw [hl] at h;cases h
 | some u=>rw [hl] at h;cases h;exact Zj4 hl
theorem Z9K {a s:S} (h:Zd3 a s=true):a.n=s.n/\∀ k o,a.m.get k=some o->s.m.get k=some o:=by
 simp only [Zd3,Xf] at h;refine ⟨Xq h.1,λk o ho=>?_⟩;have:=XQ.1 h.2 _ (Zef ho);dsimp only at this;split at this;rename_i o1 o2 h1 h2;cases h1;rw [h2,ZqL this];rename_i h1;cases h1;cases this
theorem Rel.sub {L:Lc} {a s:S} {w} (h:Rel L s w) (hs:Zd3 a s=true):Rel L a w:=by
 obtain ⟨h1,h2⟩:=Z9K hs;refine ⟨h.g,λk o ho=>h.ob k o (h2 k o ho),λk o ho=>by rw [h1];exact h.bn k o (h2 k o ho),λj k hj hk he=>?_,by rw [h1];exact h.n64⟩;obtain ⟨x,hx⟩:=X6.1 hj;obtain ⟨y,hy⟩:=X6.1 hk;exact h.inj j k (by rw [h2 j x hx];rfl) (by rw [h2 k y hy];rfl) he
structure En where
 f:Nat
 args:List V
 a:S
 v:V
 r:Option S
noncomputable def Zmd (f:Nat) (args:List V) (s:S):List En->Option (V×S×List Nat)
 | []=>none
 | E :: t => bif Nat.beq E.f f && eqL E.args args && Zd3 E.a s then (match E.r with
   | none=>some (E.v,s,[])
   | some s1=>some (E.v,s1,[])) else Zmd f args s t
noncomputable def Zd4 (E:En):Option (V×S×List Nat)->Bool
 | some (v, s, []) => eqV E.v v && bl E.a.n E.args && (match E.r with
   | none=>bd E.a.n E.v
   | some s1=>Zd3 s1 s)
 | _=>false
def ZqM (P:Program) (E:En):Prop:=∀ L w s,Rel L s w->Zd3 E.a s=true->Enters P E.f/\Calls P E.f (gl L E.args).toArray w (Ret λu w'=>match E.r with
 | none=>u=ga L E.v/\Stp [] w w'
 | some s1=>∃ L',Nx s s1 L L' w w' []/\Rel L' s1 w'/\u=ga L' E.v)
theorem Z58 {P:Program} {call:Cf} (hC:Z4s P call) {E:En} (h:Zd4 E (call E.f E.args E.a)=true):ZqM P E:=by
 intro L w s hR hs;generalize hf:call E.f E.args E.a=r at h;unfold Zd4 at h;split at h;rename_i v s1;simp only [Xf] at h;obtain ⟨⟨h1,h2⟩,h3⟩:=h;have h1:=Zj3 _ _ h1;subst h1;have hn:=(Z9K hs).1;obtain ⟨q1,q2⟩:=hC _ _ _ _ _ _ hf h2 L w (hR.sub hs);refine ⟨q1,q2.mono ?_⟩;rintro _ w' ⟨u,rfl,L',hN,vK,rfl⟩;refine ⟨_,rfl,?_⟩;split at h3;exact ⟨Z65 hN.ag _ h3,by simpa [ids] using hN.st⟩;rename_i s2 hr;have hm:=(Z9K h3).1;exact ⟨L',⟨by have:=hN.le;omega,λk hk=>hN.ag k (by omega),λk h1 h2=>by have:=hN.nw k (by omega) (by omega);simpa [ids] using this,by simpa [ids] using hN.st⟩,vK.sub h3,rfl⟩;cases h
theorem Zeg {P:Program} {f:Nat} {args:List V} {s:S}:∀ {t:List En},(∀ E∈t,ZqM P E)->∀ {v s' ws},Zmd f args s t=some (v,s',ws)->bl s.n args=true->∀ L w,Rel L s w->Enters P f/\Calls P f (gl L args).toArray w (Ret λu w'=>∃ L',Nx s s' L L' w w' ws/\Rel L' s' w'/\u=ga L' v)
 | [],_,_,_,_,h,_,_,_,_=>by cases h
 | E :: t, ht, v, s', ws, h, hb, L, w, hR => by
   simp only [Zmd] at h;cases hc:(Nat.beq E.f f && eqL E.args args && Zd3 E.a s) with
   | false=>rw [hc] at h;exact Zeg (λE' vL=>ht E' (.tail _ vL)) h hb L w hR
   | true=>
     rw [hc] at h;simp only [Xf] at hc;obtain ⟨⟨c1,c2⟩,c3⟩:=hc;have c1:=Xq c1;have c2:=Z5J _ _ c2;subst c1 c2;obtain ⟨q1,q2⟩:=ht E (.head _) L w s hR c3;refine ⟨q1,q2.mono ?_⟩;rintro _ w' ⟨u,rfl,hu⟩;refine ⟨_,rfl,?_⟩;simp only [cond_true] at h;split at h;rename_i hr;rw [hr] at hu;cases h;obtain ⟨rfl,hT⟩:=hu;exact ⟨L,⟨Xl _,λ_ _=>rfl,λj h1 h2=>absurd h2 (YaN.2 h1),by simpa [ids] using hT⟩,hR.up hT,rfl⟩;rename_i s1 hr;rw [hr] at hu;cases h;exact hu
end Go.Sim
namespace Go.Proofs.YtgdicjnjhchooaaGreatDoor
open Go Go.Eng Go.RowKit Go.Proofs Go.Sim
def odP:Od:=[(83,20,[],[(0,0),(1,1),(2,0),(3,1),(5,0),(6,1),(8,0),(9,1),(4,2),(7,2),(10,2),(11,2),(12,2),(13,0)]),
 (28,5,[],[(0,0),(1,1),(2,0),(3,0),(4,0),(5,0),(6,1),(7,0),(8,0),(9,0),(10,0),(11,0),(12,0),(13,0),(14,0),(15,1),(16,0),(17,0),(18,0),(19,0),(20,1),(21,0),(22,0),(23,0)]),
 (10,6,[],[(0,0),(1,1),(2,0),(3,0),(4,1),(5,0),(6,1),(7,0),(8,0),(9,1),(10,0)]),
 (13,1,[],[(0,0),(1,1),(2,1),(3,2),(4,2),(5,2),(6,0)]),
 (15,6,[],[(0,0),(1,0),(2,0),(3,1),(4,0),(5,0),(6,0),(7,1),(8,0)]),
 (46,6,[],[(0,0),(1,0),(2,1),(3,1),(4,2),(5,0)]),
 (30,11,[],[(0,0),(2,1),(1,2),(3,0),(4,0),(5,0)]),
 (49,1,[],[(0,0),(1,1),(2,0),(3,1),(5,0),(6,1),(7,0),(8,1),(10,0),(11,1),(12,0),(13,1),(15,0),(16,1),(17,0),(18,1),(20,0),(21,1),(22,0),(23,1),(25,0),(26,1),(27,0),(28,1),(4,2),(9,2),(14,2),(19,2),(24,2),(29,2),(30,2),(31,2),(32,0)]),
 (54,2,[22],[(0,0),(1,1),(2,0),(3,1),(4,0),(5,0),(6,0),(7,1),(8,0),(9,1),(10,0),(11,1),(12,0),(13,0),(14,0),(15,1),(16,0),(17,1),(18,0),(19,1),(20,0),(21,2),(22,2)]),
 (54,3,[],[(0,1),(1,0),(2,1),(3,0),(4,0),(5,0),(6,1),(7,0),(8,0),(9,0),(10,0),(11,1),(12,0),(13,1),(14,0),(15,0),(16,2),(17,0)]),
 (210,3,[],[(0,0),(1,0),(2,0),(4,0),(5,0),(3,9),(6,2),(7,0),(8,2),(9,0)]),
 (70,9,[],[(0,0),(1,0),(2,0),(3,0),(4,1),(5,0),(6,0),(7,0),(8,0),(9,0),(10,1),(11,0),(12,0),(13,0)]),
 (135,8,[],[(0,0),(1,0),(2,0),(3,1),(4,0),(5,0),(6,0),(7,1),(8,0),(9,0),(10,1),(11,0)]),
 (136,2,[],[(0,0),(1,0),(2,0),(3,1),(4,0),(5,0),(6,0),(7,1),(8,0),(9,0),(10,1),(11,0)]),
 (278,1,[],[(0,0),(1,0),(2,0),(3,1),(4,0),(5,0),(6,1),(7,0),(8,0),(9,0),(10,1),(11,0),(12,0),(13,1),(14,2),(15,2),(16,0)]),
 (102,0,[37],[(0,0),(1,0),(2,0),(3,0),(4,1),(5,0),(6,0),(7,0),(8,0),(9,1),(10,0),(11,0),(12,0),(13,0),(14,1),(15,0),(16,0),(17,0),(18,0),(19,1),(20,0),(21,0),(22,0),(23,0),(24,1),(25,0),(26,0),(27,0),(28,0),(29,1),(30,0),(31,0),(32,0),(33,0),(34,1),(35,0),(36,2),(37,2)]),
 (146,4,[],[(0,0),(1,0),(2,0),(3,0),(4,0),(5,0),(6,0),(7,0),(8,1),(9,0),(10,0),(11,0),(12,0),(13,1),(14,2),(15,0),(16,0)]),
 (377,4,[],[(0,0),(1,0),(2,0),(3,0),(4,0),(5,0),(6,0),(7,0),(8,0),(9,0),(10,0),(11,0),(12,0),(13,0),(14,0),(15,0),(16,0),(17,0),(18,0),(19,0),(20,0),(21,0)]),
 (199,1,[11],[(0,0),(1,0),(2,0),(3,1),(4,0),(5,0),(6,0),(7,1),(8,0),(9,1),(10,2),(11,2)]),
 (200,1,[],[(0,0),(1,0),(2,0),(3,1),(4,0),(5,0),(6,0),(7,1),(8,0),(9,0),(10,1),(11,0)]),
 (317,13,[],[(0,0),(2,0),(3,1),(4,0),(5,0),(6,0),(7,1),(8,0),(9,0),(10,0),(11,0),(1,2),(12,0),(13,0)]),
 (317,4,[],[(1,0),(2,1),(3,0),(4,0),(5,0),(6,1),(7,0),(8,0),(9,0),(10,0),(0,2),(11,0),(12,0)]),
 (317,44,[],[(0,0),(1,0),(2,0),(3,0),(4,1),(5,0),(6,0),(7,0),(8,0),(9,0)]),
 (317,6,[],[(1,0),(2,1),(3,0),(4,0),(5,0),(6,1),(7,0),(8,0),(9,0),(10,0),(0,2),(11,0),(12,0)]),
 (318,6,[],[(0,0),(1,0),(2,0),(3,1),(4,0),(5,0),(6,0),(7,1),(8,0)]),
 (320,5,[12,14],[(0,0),(1,0),(2,0),(3,1),(4,0),(5,0),(6,0),(7,0),(8,1),(9,0),(10,0),(11,0),(12,2),(13,0),(14,2)]),
 (268,14,[8],[(0,0),(1,1),(2,0),(3,0),(4,0),(5,2),(6,2),(7,0),(8,2)]),
 (272,19,[],[(1,0),(2,1),(3,0),(4,1),(5,1),(6,0),(0,2),(7,2),(8,0)]),
 (276,8,[],[(1,0),(2,1),(5,0),(0,2),(3,2),(4,0)]),
 (362,1,[],[(0,0),(1,1),(2,0),(3,0),(4,0),(5,1),(6,0),(7,0),(8,0),(9,0),(10,1),(11,0),(12,0),(13,0),(14,0),(15,1),(16,0),(17,0),(18,0),(19,0),(20,1),(21,0),(22,0),(23,0),(24,0),(25,1),(26,0),(27,1),(28,0),(29,1),(30,2),(31,0),(32,0)]),
 (237,1,[],[(0,0),(1,1),(2,0),(3,1),(4,0),(5,0),(6,0)]),
 (304,1,[11],[(0,0),(1,0),(2,0),(3,1),(4,0),(5,0),(6,0),(7,1),(8,0),(9,1),(10,2),(11,2)])]
theorem Zul:(Tryz.prog.funcs.toList.all λfn=>!(fn.name == "runtime.NumGoroutine"))=true:=by kernel_rfl
theorem Zj5 (f:Nat) (fn:Func) (h:Tryz.prog.funcs[f]?=some fn):(fn.name == "runtime.NumGoroutine")=false:=by
 simpa using XQ.1 Zul fn (Array.mem_toList_iff.2 (Array.mem_of_getElem? h))
def ZfC (lo hi:Nat):Nat->List Func->Bool
 | _,[]=>true
 | k, fn :: r => (match Nat.ble lo k && Nat.blt k hi, fn.body with
   | true,some c=>Sim.chkC (odS k odP) c
   | _,_=>true) && ZfC lo hi (k+1) r
theorem Z9L (lo hi:Nat):∀ (l:List Func) (k i:Nat) (fn:Func) (c:Code),ZfC lo hi k l=true->l[i]?=some fn->fn.body=some c->lo<=k+i->k+i<hi->Sim.chkC (odS (k+i) odP) c=true
 | [],_,_,_,_,_,h,_,_,_=>by cases h
 | x :: r, k, 0, fn, c, h, ca, hb, h1, h2 => by
   simp only [ZfC,Xf] at h;cases ca;have:=h.1;rw [hb,X0 (show lo<=k from h1),show Nat.blt k hi=true from X0 h2] at this;exact this
 | x :: r, k, i + 1, fn, c, h, ca, hb, h1, h2 => by
   simp only [ZfC,Xf] at h;have:=Z9L lo hi r (k+1) i fn c h.2 ca hb (by omega) (by omega)
   rwa [show k+1+i=k+(i+1) by omega] at this
theorem Zum:ZfC 0 150 0 Tryz.prog.funcs.toList=true:=by kernel_rfl
theorem Zun:ZfC 150 1000 0 Tryz.prog.funcs.toList=true:=by kernel_rfl
theorem Zme:Nat.ble Tryz.prog.funcs.toList.length 1000=true:=by kernel_rfl
theorem Z9M:Zm9 Tryz.prog odP:=λf fn c hf hb=>by
 have mi:Tryz.prog.funcs.toList[f]?=some fn:=by rw [YaR];exact hf
 have hl:=(Xw.1 mi).1;have:=Xj Zme;by_cases h:f<150;have:=Z9L 0 150 _ 0 f fn c Zum mi hb (by omega) (by omega)
 rwa [XJ] at this
 have:=Z9L 150 1000 _ 0 f fn c Zun mi hb (by omega) (by omega)
 rwa [XJ] at this
noncomputable abbrev ZfD (hk:Hk):Sim.Cf:=fnS Tryz.prog odP hk 30
def Zuo:Str:=[114,117,108,101,32,114,32,102,114,111,109,32,64,50,48,50,54,45,48,49,45,48,49,32,123,32,111,110,32,99,108,97,105,109,59,32,100,117,101,32,100,97,121,32,43,32,50,48,32,100,97,121,115,59,32,117,110,108,101,115,115,32,97,110,115,119,101,114,59,32,101,108,115,101,32,108,97,112,115,101,59,32,125]
abbrev nS:V:=.c (.N)
abbrev vI (n:Int):V:=.i .i64 n
abbrev Ms:=List (Nat×Option O)
def m0:Ms:=[(0,some (.ro (Zj.map V.s))),(1,some (.ro (Z2m.map vI))),(2,some (.ro (Z3p.map vI))),(3,some .ig)]
def mC:Ms:=(220,some (.c 151 2 [vI 4,vI 0,vI 1,vI 20,vI 15,vI 0,vI 24,vI 0])) :: (185,some (.c 151 2 [vI 2,vI 1,vI 24,vI 0])) :: (223,some (.c 65 7 [.s [114],vI 739616,.s [99,108,97,105,109],.l 185 2,.l 220 4,.s [97,110,115,119,101,114],.s [108,97,112,115,101]])) :: m0
def clV:List V:=[vI 4,.s [99,108,97,105,109],vI 739616,vI 1,vI 2,vI 50]
def mF:Ms:=(225,some (.c 40 6 clV)) :: mC
def csV (f s:V) (d:Int):V:=.a [f,.l 223 1,nS,nS,s,.b false,.b false,.b false,.b false,.b false,.b false,.b false,nS,nS,vI 0,nS,vI 0,vI 0,vI d]
def Zmf (a:List V) (m:Ms) (n:Nat):En:=⟨46,a,⟨m,n⟩,.b true,none⟩
def E0:En:=⟨45,[.s Zuo],⟨m0,64⟩,.t [.l 223 1,.b true],some ⟨mC,224⟩⟩
def E1:En:=Zmf [csV (.l 225 1) nS 739630,vI 739636,vI 0,nS,nS] mF 233
def E2:En:=Zmf [csV (.l 225 1) nS 739640,vI 739636,vI 2,nS,.l 233 1] ((233,some (.c 40 6 [vI 4,.s [108,97,112,115,101],vI 739637,vI 2,vI 1,vI 50])) :: mF) 234
def E3:En:=Zmf [csV (.l 229 2) nS 739640,vI 739636,vI 1,.l 234 1,nS] ((234,some (.c 96 3 [vI 6,vI 7,vI 739636])) :: (229,some (.c 40 6 (clV++[vI 7,.s [97,110,115,119,101,114],vI 739636,vI 2,vI 0,vI 0]))) :: mC) 235
def E4:En:=Zmf [csV (.l 225 1) (.l 231 1) 739630,vI 739638,vI 0,.l 235 2,nS] ((235,some (.c 96 3 [vI 4,vI 739638,vI 739638,vI 5,vI 739620,vI 739621])) :: (231,some (.c 94 2 [vI 739620,vI 739621])) :: mF) 236
theorem Zv3:Zd4 E0 (ZfD (jy odP) E0.f E0.args E0.a)=true:=by kernel_rfl
theorem Zv4:Zd4 E1 (ZfD (jy odP) E1.f E1.args E1.a)=true:=by kernel_rfl
theorem Zv5:Zd4 E2 (ZfD (jy odP) E2.f E2.args E2.a)=true:=by kernel_rfl
theorem Zv6:Zd4 E3 (ZfD (jy odP) E3.f E3.args E3.a)=true:=by kernel_rfl
theorem Zv7:Zd4 E4 (ZfD (jy odP) E4.f E4.args E4.a)=true:=by kernel_rfl
def ZqN:List En:=[E0,E1,E2,E3,E4]
theorem ZqO:∀ E∈ZqN,ZqM Tryz.prog E:=by
 have hC:=Zd1 Z9M mixed Zj5 (Zj2 odP Z9M) 30;intro E hE;simp only [ZqN,Xc,Xn,or_false] at hE;rcases hE with rfl|rfl|rfl|rfl|rfl
 exact Z58 hC Zv3;exact Z58 hC Zv4;exact Z58 hC Zv5;exact Z58 hC Zv6;exact Z58 hC Zv7
noncomputable def qF:Hk:=λcall f args s=>match Zmd f args s ZqN with
 | some r=>some (some r)
 | none=>jy odP call f args s
theorem ZqP:ZqG Tryz.prog qF:=by
 intro call hC f args s v s' ws h hB L w hR;unfold qF at h;split at h;rename_i r hr;cases h;exact Zeg ZqO hr hB L w hR;exact Zj2 odP Z9M call hC f args s v s' ws h hB L w hR
def Zj6:Option (V×S×List Nat)->Bool
 | some (.b true,_,[])=>true
 | _=>false
theorem Zv8:Zj6 (ZfD qF 11 [] ⟨m0,64⟩)=true:=by kernel_rfl
theorem Zup (m:Int) (w) (hF:SlV [] w Zag Zj) (fP:Z0K w) (fQ:Z2d w) (dQ:w.cell? ⟨3,0,none⟩=some (.I m)):Rel (λk=>(k,7)) ⟨m0,64⟩ w:=by
 have hN:∀ {g:Nat} {l:List Int},l≠[]->(∀ i u,l[i]?=some u->w.cell? ⟨g,i,none⟩=some (.I u))->Ob (λk=>(k,7)) w g (.ro (l.map vI)):=λ{g l} hl h=>by
  refine ⟨?_,λi u hu=>?_⟩
  . cases l with
    | nil=>exact absurd rfl hl
    | cons a t=>exact block_lt_of_cell (h 0 a rfl)
  rw [Yai,XN] at hu;obtain ⟨z,hz,rfl⟩:=hu;exact h i z hz
 have hS:Ob (λk=>(k,7)) w 0 (.ro (Zj.map V.s)):=by
  obtain ⟨p,c,he,hl,hm,hn,hc⟩:=hF;cases he;have hc':∀ i (hi:i<Zj.length),w.cell? ⟨0,i,none⟩=some (str Zj[i]):=λi hi=>by
   obtain ⟨b,o,cs,h1,h2,h3,h4,h5⟩:=hc i hi;cases h1;have h4:cs=[str Zj[i]]:=h4;have:=h5 0 (str Zj[i]) (by rw [h4];rfl);simpa [show Z6.k Str=1 from rfl] using this
  refine ⟨block_lt_of_cell (hc' 0 (by decide)),λi u hu=>?_⟩;rw [Yai,XN] at hu;obtain ⟨z,hz,rfl⟩:=hu;obtain ⟨hi,rfl⟩:=Xw.1 hz;exact hc' i hi
 have cs:∀ (k:Nat) (o:O),Tr.get m0 k=some o->k<64/\O.bd 64 o=true/\Ob (λk=>(k,7)) w k o:=λk o h=>by
  have:=Zef h;simp only [m0,Xc,Xn,or_false,XM,Xk] at this;rcases this with ⟨rfl,rfl⟩|⟨rfl,rfl⟩|⟨rfl,rfl⟩|⟨rfl,rfl⟩
  exact ⟨by decide,by decide +kernel,hS⟩;exact ⟨by decide,by decide +kernel,hN (by decide) fP⟩;exact ⟨by decide,by decide +kernel,hN (by decide) fQ⟩;exact ⟨by decide,rfl,block_lt_of_cell dQ,m,dQ⟩
 exact ⟨λ_ _=>rfl,λk o h=>(cs k o h).2.2,λk o h=>⟨(cs k o h).1,(cs k o h).2.1⟩,λj k _ _ h=>h,Xl _⟩
theorem ZqQ (call:Sim.Cf) (hC:Z4s Tryz.prog call) (run:Zj6 (call 11 [] ⟨m0,64⟩)=true) (m:Int) (w) (hF:SlV [] w Zag Zj) (fP:Z0K w) (fQ:Z2d w) (dQ:w.cell? ⟨3,0,none⟩=some (.I m)) :
 CC 11 #[] w λr w'=>r=.B true/\Stp [] w w':=by
 generalize hf:call 11 [] ⟨m0,64⟩=r at run;unfold Zj6 at run;split at run;refine (hC _ _ _ _ _ _ hf rfl _ w (Zup m w hF fP fQ dQ)).2.mono ?_;rintro _ w' ⟨u,rfl,L',hN,-,rfl⟩;exact ⟨_,rfl,rfl,by simpa [ids] using hN.st⟩;cases run
theorem Zd5 (er:Value) (m:Int) (w) (hF:SlV [] w Zag Zj) (fP:Z0K w) (fQ:Z2d w) (dQ:w.cell? ⟨3,0,none⟩=some (.I m)) (fH:w.cell? ⟨5,0,none⟩=some er) (bF:er=.nilIface\/∃ te pe,er=.iface te pe) :
 CC 11 #[] w λr w'=>r=.B true/\Stp [] w w':=ZqQ _ (Zd1 Z9M mixed Zj5 ZqP 30) Zv8 m w hF fP fQ dQ
theorem Z9N (op:BinOp) (x y:Operand) (a b:Fct) (w):(eqGuard op 40 x y (agg a) (agg b)).run Tryz.prog w=.ok () w:=by
 cases op<;>kernel_rfl
theorem ZmI (a b:Fct) (w):(binOp .neq 40 (agg a) (agg b)).run Tryz.prog w=.ok (.B (decide (¬ a=b))) w:=by
 have h1:Program.stoodInHeld Tryz.prog 40=false:=by kernel_rfl
 obtain ⟨i,hi⟩:∃ i,Tryz.prog.info? 3=some i:=by
  have:=(inferInstance:Siz Tryz.prog 3 1).h;cases h:Tryz.prog.info? 3 with
  | none=>rw [h] at this;cases this
  | some i=>exact ⟨i,rfl⟩
 obtain ⟨a1,a2,a3,a4,a5,a6⟩:=a;obtain ⟨b1,b2,b3,b4,b5,b6⟩:=b;simp [agg,Z2.enc,run_neq_struct,run_equalIn_struct,h1,Program.fieldsOf,Tryz.underlying40,Op.eqFields,part,Und.isAgg,Siz.run,Z06,run_equalIn_int w _ _ .i64 .i64 _ _ Tryz.underlying3,run_equalIn_string w _ _ _ _ Tryz.underlying9];repeat' split
 all_goals simp_all
theorem Z7U (va vb:Value) (xs ys:List Fct) (w) (ha:SlV [] w va xs) (hb:SlV [] w vb ys) :
 CC 15 #[va,vb] w λr w'=>r=.B (decide (xs=ys))/\Stp [] w w':=by
 have sF:=ha.max;have tJ:=hb.max;refine cW2 26 Tryz.func15 ?_;refine W ?_;by_cases hl:xs.length=ys.length
 case neg=>
  refine RT ?_;exact ⟨by congr 1;rw [eq_comm,decide_eq_false_iff_not];exact λh=>hl (by rw [h]),Stp.refl _ _⟩
 refine QO ?_;refine LP (σ:=Nat) (λj=>[(0,va),(1,vb),(4,.B false),(5,.I (j:Int))]) (λj w'=>j<=xs.length/\Stp [] w w'/\∀ i (h:i<xs.length),i<j->xs[i]=ys[i]'(by omega)) (λj=>xs.length - j) 0 ⟨Xr _,Stp.refl _ _,λi _ h=>absurd h (XF _)⟩ ?_;rintro j w2 ⟨hj,hS,jD⟩
 try dsimp only at hj jD ⊢
 replace ha:=ha.up hS;replace hb:=hb.up hS;by_cases hlt:j<xs.length;have d6:j<ys.length:=by omega
 refine QO ?_;refine ZDr 9 [] [] [(0,0),(1,0),(2,0),(3,1),(4,0),(5,0),(6,0),(7,1),(8,0)] (λw1 ae=>?_);replace ha:=ha.up ae;replace hb:=hb.up ae;replace hS:=hS.trans ae;refine D ?_;apply Z1I;exact rfl;refine Zdy (c:=xs[j]=ys[j]) trivial rfl rfl (λw=>Z9N _ _ _ xs[j] ys[j] w) (by intro w;exact ZmI xs[j] ys[j] w) rfl ?_;refine D ?_
 (refine QP ?_ ?_<;>intro hc)
 refine RU ?_;exact ⟨by congr 1;rw [eq_comm,decide_eq_false_iff_not];exact λh=>hc (by simp [h]),hS⟩;have he:xs[j]=ys[j]:=Decidable.byContradiction hc;have hk:∀ i (h:i<xs.length),i<j+1->xs[i]=ys[i]'(by omega):=λi h hi=>by
  by_cases cW:i=j;subst cW;exact he;exact jD i h (by omega)
 exact QL (j+1) ⟨hlt,hS,hk⟩ (Xp hlt (Xt j));have gz:j=xs.length:=by omega
 subst gz;refine RT ?_;exact ⟨by congr 1;rw [eq_comm,decide_eq_true_eq];exact YaY hl (λi h h'=>jD i h h),hS⟩
theorem Zmg (op:BinOp) (x y:Operand) (a b:Rsn) (w):(eqGuard op 96 x y (agg a) (agg b)).run Tryz.prog w=.ok () w:=by
 cases op<;>kernel_rfl
theorem Zuq (a b:Rsn) (w):(binOp .neq 96 (agg a) (agg b)).run Tryz.prog w=.ok (.B (decide (¬ a=b))) w:=by
 have h1:Program.stoodInHeld Tryz.prog 96=false:=by kernel_rfl
 obtain ⟨i,hi⟩:∃ i,Tryz.prog.info? 3=some i:=by
  have:=(inferInstance:Siz Tryz.prog 3 1).h;cases h:Tryz.prog.info? 3 with
  | none=>rw [h] at this;cases this
  | some i=>exact ⟨i,rfl⟩
 obtain ⟨a1,a2,a3⟩:=a;obtain ⟨b1,b2,b3⟩:=b;simp [agg,Z2.enc,run_neq_struct,run_equalIn_struct,h1,Program.fieldsOf,Tryz.underlying96,Op.eqFields,part,Und.isAgg,Siz.run,Z06,run_equalIn_int w _ _ .i64 .i64 _ _ Tryz.underlying3];repeat' split
 all_goals simp_all
theorem Z67 (d:Dln) (ra rb:Value) (w) (ha:SlV [] w ra d.reas) (hb:SlV [] w rb d.reas) :
 CC 10 #[.agg (dlC d ra).toArray,.agg (dlC d rb).toArray] w λr w'=>r=.B true/\Stp [] w w':=by
 have sF:=ha.max;refine cW2 66 Tryz.func10 ?_;refine W ?_;refine BX (Stp.refl [] w) λb2 w1 h2 e2 _ hS=>?_;refine BX hS λb3 w2 h3 e3 hT hS=>?_;replace e2:=e2.up hT;replace e2:Blk w2 b2 45 (dlC d ra):=e2;replace e3:Blk w2 b3 45 (dlC d rb):=e3
 (refine QP ?_ ?_<;>intro hg)
 exact absurd rfl hg;refine Z9 (Zn rfl rfl e2 (us:=Z2.enc d.trig) rfl rfl) rfl ?_;refine W ?_;refine Z9 (Zn rfl rfl e3 (us:=Z2.enc d.trig) rfl rfl) rfl ?_;refine W ?_;refine ZkN (c:=d.trig=d.trig) rfl rfl (λw=>Z9N _ _ _ d.trig d.trig w) (λw=>ZmI d.trig d.trig w) rfl ?_;rw [decide_eq_false (λh=>h rfl)];refine QO ?_;refine LP (σ:=Nat) (λj=>[(2,pQ b2),(3,pQ b3),(4,.B false),(5,.I (j:Int))]) (λj w'=>j<=d.reas.length/\Stp [] w2 w') (λj=>d.reas.length - j) 0 ⟨Xr _,Stp.refl _ _⟩ ?_;rintro j y ⟨hj,hT⟩;replace e2:=e2.up hT;replace e3:=e3.up hT;have aj:=hS.trans hT;have cT:=ha.up aj;have cg:=hb.up aj;by_cases hlt:j<d.reas.length;refine QO ?_;refine ZDr 11 [] [] [(0,0),(1,1),(2,0),(3,0),(4,1),(5,0),(6,1),(7,0),(8,0),(9,1),(10,0)] (λw1 ae=>?_);replace cT:=cT.up ae;replace cg:=cg.up ae;replace e2:=e2.up ae;replace e3:=e3.up ae;refine QD ?_;apply Z1I;exact rfl;refine Zdy (c:=d.reas[j]=d.reas[j]) trivial rfl rfl (λw=>Zmg _ _ _ d.reas[j] d.reas[j] w) (by intro w;exact Zuq d.reas[j] d.reas[j] w) rfl ?_;rw [decide_eq_false (λh=>h rfl)];refine D ?_;refine QO ?_;exact QL (j+1) ⟨hlt,hT.trans ae⟩ (Xp hlt (Xt j));refine RT ?_;exact ⟨rfl,aj⟩
theorem Z9O (va vb:Value) (xs:List Dln) (w) (ha:SlV [] w va xs) (hb:SlV [] w vb xs) :
 CC 12 #[va,vb] w λr w'=>r=.B true/\Stp [] w w':=by
 have sF:=ha.max;refine cW2 27 Tryz.func12 ?_;refine QO ?_;refine LP (σ:=Nat) (λj=>[(0,va),(1,vb),(4,.B false),(5,.I (j:Int))]) (λj w'=>j<=xs.length/\Stp [] w w') (λj=>xs.length - j) 0 ⟨Xr _,Stp.refl _ _⟩ ?_;rintro j y ⟨hj,hS⟩;have cT:=ha.up hS;have cg:=hb.up hS;by_cases hlt:j<xs.length;refine QO ?_;refine ZDr 10 [] [] [(0,0),(1,0),(2,0),(3,1),(4,0),(5,0),(6,0),(7,1),(8,2),(9,0)] (λw1 ae=>?_);replace cT:=cT.up ae;replace cg:=cg.up ae;replace hS:=hS.trans ae;obtain ⟨csa,⟨ra,rfl,eB⟩,mQ⟩:=cT.cell hlt;obtain ⟨csb,⟨rb,rfl,gu⟩,dP⟩:=cg.cell hlt;refine QD ?_;refine WD_read rfl trivial (λw' be=>Z2r rfl rfl (cT.up be) hlt ⟨ra,rfl,eB.up be⟩ (λj u hu=>be.cell0 (mQ j u hu))) rfl ?_;refine QD ?_;refine WD_read rfl trivial (λw' be=>Z2r rfl rfl (cg.up be) hlt ⟨rb,rfl,gu.up be⟩ (λj u hu=>be.cell0 (dP j u hu))) rfl ?_;focus repeat'(first|refine D1 ?_|omega|refine Zl rfl rfl rfl rfl (λhg=>?_) (λhg=>?_)|(refine Zh rfl rfl rfl rfl (λhg=>?_) (λhg=>?_)<;>refine D1 ?_)|fail)
 refine DP hS (Z67 xs[j] ra rb _ eB gu) λw5 hT hS=>?_;refine QD ?_;refine QO ?_;exact QL (j+1) ⟨hlt,hS⟩ (Xp hlt (Xt j));refine RT ?_;exact ⟨rfl,hS⟩
theorem Z2R.cell {c:Cas} {R:Z0o} {w} (h:Z2R w c R):∀ u∈Jc c R,u.oneCell'=true:=by
 have h1:=h.ff.one;have h2:=h.rr.one;have h3:=h.aa.one;have h4:=h.cc.one;have h5:=h.ss.one;have h6:=h.cal.hols.one;have h7:=h.cal.clos.one;obtain ⟨h8,h9,gt⟩:=h.one;intro u hu;simp only [Jc,Ji,Xc,Xn,or_false,Yaa,XO] at hu;rcases hu with rfl|rfl|rfl|rfl|rfl|rfl|rfl|rfl|rfl|rfl|rfl|rfl|rfl|rfl|rfl|rfl|rfl|rfl|rfl<;>first|assumption|rfl
theorem Zmh (f:Fct) (w):(Instr.buildSlice 23 1 #[(0,aG f)]).run Tryz.prog w=.ok (.slice (some ⟨w.heap.size,0,none⟩) 1 1) (w.alloc (.cells (Z2.enc f).toArray 40)):=by kernel_rfl
theorem Z68 (er:Value) (m:Int) (w) (hF:SlV [] w Zag Zj) (fP:Z0K w) (fQ:Z2d w) (dQ:w.cell? ⟨3,0,none⟩=some (.I m)) (fH:w.cell? ⟨5,0,none⟩=some er) (bF:er=.nilIface\/∃ te pe,er=.iface te pe) :
 CC 11 #[] w λr w'=>r=.B true/\Stp [] w w':=Zd5 er m w hF fP fQ dQ fH bF
theorem Zj7 (w):(Instr.buildSlice 23 0 #[]).run Tryz.prog w=.ok (.slice (some ⟨w.heap.size,0,none⟩) 0 0) (w.alloc (.cells #[] 40)):=by kernel_rfl
theorem J0 {α:Type} (l:List α):l=[]\/∃ A u,l=A++[u]:=by
 rcases Yaj l with h|⟨A,u,h⟩
 exact .inl h;exact .inr ⟨A,u,by rw [h,Yak]⟩
def inB (L:List Spn) (x:Int):Bool:=L.any λs=>decide (s.1<=x/\x<=s.2)
theorem J1 {L:List Spn} {x:Int}:inB L x=true↔∃ s∈L,s.1<=x/\x<=s.2:=by simp [inB]
theorem Z3V (L M:List Spn) (x:Int):inB (L++M) x=(inB L x || inB M x):=by simp [inB]
theorem Zj8 {L M:List Spn} (h:L.Perm M) (x:Int):inB L x=inB M x:=by
 rw [YaI,J1,J1];simp only [h.mem_iff]
theorem Z59 (s:Spn) (x:Int):inB [s] x=decide (s.1<=x/\x<=s.2):=by simp [inB]
theorem Zbw:∀ (L acc:List Spn),(∀ a∈acc,∀ s∈L,a.1<=s.1)->L.Pairwise (λa b=>a.1<=b.1)->(∀ s∈L,s.1<=s.2)->(∀ s∈acc,s.1<=s.2)->∀ x,inB (L.foldl Jh acc) x=(inB acc x || inB L x)
 | [],acc,_,_,_,_,x=>by simp [inB]
 | s :: L, acc, ha, hs, hv, hw, x => by
   have hm:(∀ x,inB (Jh acc s) x=(inB acc x || inB [s] x))/\(∀ a∈Jh acc s,a.1<=s.1/\a.1<=a.2):=by
    rcases J0 acc with rfl|⟨A,u,rfl⟩
    rw [Z1C];exact ⟨λx=>by simp [inB],λa h=>by simp at h;subst h;exact ⟨XI _,hv a (by simp)⟩⟩;rw [Jo];have hu:=ha u (by simp) s (by simp);have o7:=hw u (by simp);have aX:=hv s (by simp);split;rename_i hc;constructor;intro x;rw [Z3V,Z3V,Z59,Z59,Z59,Bool.or_assoc];congr 1;rw [YaI];simp only [Yax,decide_eq_true_eq];omega;intro a h;rcases Xd.1 h with h|h
    exact ⟨ha a (by simp [h]) s (by simp),hw a (by simp [h])⟩;simp at h;subst h;dsimp only;omega;constructor;intro x;rw [Z3V];intro a h;rcases Xd.1 h with h|h
    exact ⟨ha a h s (by simp),hw a h⟩;simp at h;subst h;omega
   rw [X5,Zbw L (Jh acc s) (λa h t ht=>YbC (hm.2 a h).1 ((XD.1 hs).1 t ht)) (XD.1 hs).2 (λt ht=>hv t (by simp [ht])) (λa h=>(hm.2 a h).2),hm.1,Bool.or_assoc,<- Z3V];rfl
theorem Z7t {l:List Spn} (hv:∀ s∈l,s.1<=s.2) (x:Int):inB (Ja l) x=inB l x:=by
 unfold Ja;rw [Zbw _ [] (by simp) (Z2N l) (λs h=>hv s ((Z0w l).mem_iff.1 h)) (by simp),Zj8 (Z0w l)];simp [inB]
def Z2x (L:List Spn):Prop:=L.Pairwise (λa b=>a.2+1<b.1)
theorem Z69:∀ (L acc:List Spn),Z2x acc->(∀ s∈L,s.1<=s.2)->(∀ s∈acc,s.1<=s.2)->Z2x (L.foldl Jh acc)/\∀ s∈L.foldl Jh acc,s.1<=s.2
 | [],acc,ha,_,hw=>⟨ha,hw⟩
 | s :: L, acc, ha, hv, hw => by
   have hm:Z2x (Jh acc s)/\∀ a∈Jh acc s,a.1<=a.2:=by
    rcases J0 acc with rfl|⟨A,u,rfl⟩
    rw [Z1C];exact ⟨YaZ _ _,λa h=>by simp at h;subst h;exact hv a (by simp)⟩;have o7:=hw u (by simp);have aX:=hv s (by simp);have hA:=(XX.1 ha)
    rw [Jo];split;refine ⟨XX.2 ⟨hA.1,YaZ _ _,λa h b hb=>?_⟩,λa h=>?_⟩;simp at hb;subst hb;exact hA.2.2 a h u (by simp);rcases Xd.1 h with h|h
    exact hw a (by simp [h]);simp at h;subst h;dsimp only;omega;refine ⟨XX.2 ⟨ha,YaZ _ _,λa h b hb=>?_⟩,λa h=>?_⟩;simp at hb;subst hb;rcases Xd.1 h with h|h
    have:=hA.2.2 a h u (by simp);omega;simp at h;subst h;omega;rcases Xd.1 h with h|h
    exact hw a h;simp at h;subst h;exact aX
   exact Z69 L _ hm.1 (λt ht=>hv t (by simp [ht])) hm.2
theorem Z3D {l:List Spn} (hv:∀ s∈l,s.1<=s.2):Z2x (Ja l)/\∀ s∈Ja l,s.1<=s.2:=
 Z69 _ [] List.Pairwise.nil (λs h=>hv s ((Z0w l).mem_iff.1 h)) (by simp)
def swS (z:Int) (s:Spn):Int:=if s.1<=z+1/\z<s.2 then s.2 else z
def swM (l:List Spn) (d:Int):Int:=l.foldl swS d
def itM (l:List Spn) (d:Int):Nat->Int
 | 0=>d
 | k+1=>swM l (itM l d k)
def Z4u (l:List Spn) (d:Int):Int:=itM l d l.length
theorem Zbx:∀ (l:List Spn) (d:Int),d<=swM l d
 | [],d=>XI _
 | s :: l, d => by
   have h:=Zbx l (swS d s);have:d<=swS d s:=by unfold swS;split<;>omega
   exact YbC this h
theorem Zj9:∀ (l:List Spn) (d:Int),swM l d=d->∀ s∈l,s.1<=d+1->s.2<=d
 | [],d,_,s,hs,_=>by cases hs
 | t :: l, d, h, s, hs, h1 => by
   have g:=Zbx l (swS d t);have e:swM (t :: l) d=swM l (swS d t):=rfl;have e2:swS d t=d:=by
    have:d<=swS d t:=by unfold swS;split<;>omega
    omega
   rcases Xc.1 hs with rfl|hs
   unfold swS at e2;split at e2<;>omega;rw [e,e2] at h;exact Zj9 l d h s hs h1
theorem ZmJ:∀ (l:List Spn) (d:Int),(∀ s∈l,s.2<=d)->swM l d=d
 | [],d,_=>rfl
 | s :: l, d, h => by
   have e:swS d s=d:=by
    have:=h s (by simp);unfold swS;rw [if_neg (by omega)]
   show swM l (swS d s)=d;rw [e];exact ZmJ l d (λt ht=>h t (by simp [ht]))
theorem Zja:∀ (l:List Spn) (d:Int),swM l d=d\/∃ s∈l,swM l d=s.2
 | [],d=>.inl rfl
 | s :: l, d => by
   show swM l (swS d s)=d\/∃ t∈s :: l,swM l (swS d s)=t.2;rcases Zja l (swS d s) with h|⟨t,ht,h⟩
   rw [h];unfold swS;split;exact .inr ⟨s,by simp,rfl⟩;exact .inl rfl;exact .inr ⟨t,by simp [ht],h⟩
theorem ZmK (l:List Spn):∀ (L:List Spn) (d:Int),(∀ s∈L,s∈l)->∀ x,d<x->x<=swM L d->inB l x=true
 | [],d,_,x,h1,h2=>by have:x<=d:=h2;omega
 | s :: L, d, hL, x, h1, h2 => by
   have iq:x<=swM L (swS d s):=h2;by_cases hx:swS d s<x;exact ZmK l L _ (λt ht=>hL t (by simp [ht])) x hx iq;unfold swS at hx;split at hx;exact J1.2 ⟨s,hL s (by simp),by omega,by omega⟩;omega
def Z7V (l:List Spn) (d:Int):Nat:=(l.filter (λs=>decide (s.2<=d))).length
theorem ZfE (l:List Spn) {d e:Int} (h:d<=e):Z7V l d<=Z7V l e:=by
 unfold Z7V
 induction l with
 | nil=>simp
 | cons s l ih=>
   simp only [XT,decide_eq_true_eq];split;rw [if_pos (by omega)];simpa using ih;split;simp only [Xe];omega;exact ih
theorem Zeh (l:List Spn) {d e:Int} (h:d<=e) {s:Spn} (hs:s∈l) (h1:d<s.2) (h2:s.2<=e):Z7V l d<Z7V l e:=by
 induction l with
 | nil=>cases hs
 | cons t l ih=>
   have hm:=ZfE l h;unfold Z7V at ih hm ⊢;simp only [XT,decide_eq_true_eq];rcases Xc.1 hs with rfl|hs
   rw [if_neg (by omega),if_pos h2];simp only [Xe];omega;have:=ih hs;split;rw [if_pos (by omega)];simpa using this;split;simp only [Xe];omega;exact this
theorem Zjb (l:List Spn) {d:Int} (h:l.length<=Z7V l d):∀ s∈l,s.2<=d:=by
 intro s hs;unfold Z7V at h;have e:l.filter (λs=>decide (s.2<=d))=l:=List.filter_eq_self.2 (by
  have:=Ybj (p:=λs:Spn=>decide (s.2<=d)) (l:=l);have e:=this.eq_of_length_le h;intro a ha;rw [<- e] at ha;exact (XW.1 ha).2)
 rw [<- e] at hs;exact of_decide_eq_true (XW.1 hs).2
theorem Zei (l:List Spn) (d:Int):∀ k,d<=itM l d k
 | 0=>XI _
 | k+1=>YbC (Zei l d k) (Zbx l _)
theorem ZmL (l:List Spn) (d:Int):∀ k x,d<x->x<=itM l d k->inB l x=true
 | 0,x,h1,h2=>by have:x<=d:=h2;omega
 | k + 1, x, h1, h2 => by
   by_cases hx:itM l d k<x;exact ZmK l l _ (λ_ h=>h) x hx h2;exact ZmL l d k x h1 (by omega)
theorem Zjc (l:List Spn) (d:Int):∀ k,swM l (itM l d k)=itM l d k\/k<=Z7V l (itM l d k)
 | 0=>.inr (Xr _)
 | k + 1 => by
   by_cases hf:swM l (itM l d k)=itM l d k
   left;show swM l (swM l (itM l d k))=swM l (itM l d k);rw [hf,hf]
   right;have hk:=(Zjc l d k).resolve_left hf;obtain ⟨s,hs,he⟩:=(Zja l (itM l d k)).resolve_left hf;have hg:=Zbx l (itM l d k);have:=Zeh l (d:=itM l d k) (e:=itM l d (k+1)) hg hs (by rw [<- he];omega) (by rw [<- he];exact XI _);omega
theorem Zjd (l:List Spn) (d:Int):d<=Z4u l d/\(∀ x,d<x->x<=Z4u l d->inB l x=true)/\∀ s∈l,s.1<=Z4u l d+1->s.2<=Z4u l d:=by
 refine ⟨Zei l d _,ZmL l d _,?_⟩;have hf:swM l (Z4u l d)=Z4u l d:=by
  rcases Zjc l d l.length with h|h
  exact h;exact ZmJ l _ (Zjb l h)
 exact Zj9 l _ hf
def Z48 (l:List Spn) (fr:Int):Nat->Int
 | 0=>-1
 | k+1=>if (l.getD k (0,0)).1 > fr/\(Z48 l fr k<0\/(l.getD k (0,0)).1<(l.getD (Z48 l fr k).toNat (0,0)).1) then k else Z48 l fr k
theorem Z3E (l:List Spn) (fr:Int):∀ k,k<=l.length->(Z48 l fr k=-1/\∀ i (h:i<l.length),i<k->l[i].1<=fr)\/(∃ j:Nat,Z48 l fr k=(j:Int)/\j<k/\∃ h:j<l.length,fr<l[j].1/\∀ i (h:i<l.length),i<k->fr<l[i].1->l[j].1<=l[i].1)
 | 0,_=>.inl ⟨rfl,λi h hi=>by omega⟩
 | k + 1, hk => by
   have hl:k<l.length:=by omega
   have e:l.getD k (0,0)=l[k]:=by simp [hl]
   rw [Z48,e];rcases Z3E l fr k (by omega) with ⟨h1,h2⟩|⟨j,h1,hj,aT,h3,h4⟩
   rw [h1];by_cases hc:l[k].1 > fr;rw [if_pos ⟨hc,.inl (by decide)⟩];refine .inr ⟨k,rfl,by omega,hl,hc,λi h hi hf=>?_⟩;by_cases kF:i=k;subst kF;exact XI _;have:=h2 i h (by omega);omega;rw [if_neg (λh=>hc h.1)];refine .inl ⟨rfl,λi h hi=>?_⟩;by_cases kF:i=k;subst kF;omega;exact h2 i h (by omega);rw [h1];have ej:l.getD ((j:Int)).toNat (0,0)=l[j]:=by simp [aT]
   rw [ej];by_cases hc:l[k].1 > fr/\l[k].1<l[j].1;rw [if_pos ⟨hc.1,.inr hc.2⟩];refine .inr ⟨k,rfl,by omega,hl,hc.1,λi h hi hf=>?_⟩;by_cases kF:i=k;subst kF;exact XI _;have:=h4 i h (by omega) hf;omega;rw [if_neg (λh=>hc ⟨h.1,h.2.resolve_left (by omega)⟩)];refine .inr ⟨j,rfl,by omega,aT,h3,λi h hi hf=>?_⟩;by_cases kF:i=k;subst kF;omega;exact h4 i h (by omega) hf
def mrR (l:List Spn):Nat->List Spn×Int
 | 0=>([],-1)
 | k + 1 => let s := mrR l k; let b := Z48 l s.2 l.length
   if 0<=b then (s.1++[((l.getD b.toNat (0,0)).1,Z4u l (l.getD b.toNat (0,0)).1)],Z4u l (l.getD b.toNat (0,0)).1) else s
structure MrI (l:List Spn) (k:Nat) (s:List Spn×Int):Prop where
 ap:Z2x s.1
 va:∀ t∈s.1,0<=t.1/\t.1<=t.2/\t.2<=s.2
 cl:s.1=[]/\s.2=-1\/∀ t∈l,t.1<=s.2+1->t.2<=s.2
 inn:∀ x,inB s.1 x=(inB l x && decide (x<=s.2))
 pr:(∀ t∈l,t.1<=s.2)\/k<=(l.filter (λt=>decide (t.1<=s.2))).length
 len:s.1.length<=k
theorem ZqR (l:List Spn) {d e:Int} (h:d<=e) {s:Spn} (hs:s∈l) (h1:d<s.1) (h2:s.1<=e):(l.filter (λt=>decide (t.1<=d))).length<(l.filter (λt=>decide (t.1<=e))).length:=by
 have:=Zeh (l.map λt=>((0,t.1):Spn)) h (s:=(0,s.1)) (XK.2 ⟨s,hs,rfl⟩) h1 h2;unfold Z7V at this;simpa [List.filter_map,Function.comp_def] using this
theorem Zje {l:List Spn} (hv:∀ s∈l,0<=s.1/\s.1<=s.2):∀ k,MrI l k (mrR l k)
 | 0 => ⟨List.Pairwise.nil, (λt ht => by cases ht), .inl ⟨rfl, rfl⟩, (λx => by
     show false=(inB l x && decide (x<=-1))
     by_cases hx:x<=-1;have:inB l x=false:=by
      rw [YaH];intro h;obtain ⟨s,hs,h1,h2⟩:=J1.1 h;have:=hv s hs;omega
     rw [this];rfl;simp [hx]),.inr (Xr _),Xl _⟩
 | k + 1 => by
   have I:=Zje hv k;rw [mrR]
   try dsimp only
   generalize mrR l k=s at I;rcases Z3E l s.2 l.length (Xl _) with ⟨h1,h2⟩|⟨j,h1,hj,aT,h3,h4⟩
   rw [h1,if_neg (by decide)];refine ⟨I.ap,I.va,I.cl,I.inn,.inl λt ht=>?_,by have:=I.len;omega⟩;obtain ⟨i,hi,rfl⟩:=XB ht;exact h2 i hi hi;rw [h1,if_pos (by omega)];have ej:l.getD ((j:Int)).toNat (0,0)=l[j]:=by simp [aT]
   rw [ej];obtain ⟨e1,e2,e3⟩:=Zjd l l[j].1;have hb:l[j]∈l:=Xb aT;have aI:=hv _ hb;generalize l[j]=b at *;generalize hE:Z4u l b.1=E at *;have gf:∀ t∈l,s.2<t.1->b.1<=t.1:=λt ht hlt=>by
    obtain ⟨i,hi,rfl⟩:=XB ht;exact h4 i hi hi hlt
   have qG:s.1=[]\/s.2+1<b.1:=by
    rcases I.cl with h|h
    exact .inl h.1
    right;by_cases hc:b.1<=s.2+1;have:=h b hb hc;omega;omega
   have eO:∀ t∈l,t.1<=s.2->t.2<=s.2:=λt ht du=>by
    rcases I.cl with h|h
    have:=hv t ht;have:=h.2;omega;exact h t ht (by omega)
   refine ⟨?_,?_,.inr e3,?_,?_,?_⟩;unfold Z2x;refine XX.2 ⟨I.ap,by simp,λt ht u hu=>?_⟩;obtain rfl:=Xm.1 hu;have:=(I.va t ht).2.2;rcases qG with h|h
   rw [h] at ht;cases ht;dsimp only;omega;intro t ht;dsimp only;rcases Xd.1 ht with ht|ht
   have:=I.va t ht;omega;obtain rfl:=Xm.1 ht;dsimp only;omega;intro x;dsimp only;rw [Z3V,Z59,I.inn x];by_cases c1:x<=s.2;have a1:decide (x<=s.2)=true:=decide_eq_true c1;have a2:decide (b.1<=x/\x<=E)=false:=decide_eq_false (by omega);have a3:decide (x<=E)=true:=decide_eq_true (by omega);rw [a1,a2,a3];simp;have a1:decide (x<=s.2)=false:=decide_eq_false c1;rw [a1,Ybs,YaL];by_cases c2:x<b.1;have a2:decide (b.1<=x/\x<=E)=false:=decide_eq_false (by omega);have a3:inB l x=false:=by
    rw [YaH];intro h;obtain ⟨t,ht,g1,g2⟩:=J1.1 h;by_cases g3:t.1<=s.2;have:=eO t ht g3;omega;have:=gf t ht (by omega);omega
   rw [a2,a3];rfl;by_cases c3:x<=E;have a2:decide (b.1<=x/\x<=E)=true:=decide_eq_true (by omega);have a3:inB l x=true:=by
    by_cases g:b.1=x;exact J1.2 ⟨b,hb,by omega,by omega⟩;exact e2 x (by omega) c3
   rw [a2,a3,decide_eq_true c3];rfl;rw [decide_eq_false c3,decide_eq_false (by omega),Ybs];rcases I.pr with h|h
   exact .inl λt ht=>by have:=h t ht;dsimp only;omega
   right;have:=ZqR l (d:=s.2) (e:=E) (by omega) hb (by omega) (by omega);dsimp only;omega;dsimp only;rw [Xa];have:=I.len;simp only [Xe,Xi];omega
theorem Z7u:∀ (L M:List Spn),Z2x L->Z2x M->(∀ s∈L,s.1<=s.2)->(∀ s∈M,s.1<=s.2)->(∀ x,inB L x=inB M x)->L=M
 | [],[],_,_,_,_,_=>rfl
 | [], b :: M, _, _, _, hw, h => by
   have:=h b.1;have h2:inB (b :: M) b.1=true:=J1.2 ⟨b,by simp,XI _,hw b (by simp)⟩;rw [h2] at this;cases this
 | a :: L, [], _, _, hv, _, h => by
   have:=h a.1;have h2:inB (a :: L) a.1=true:=J1.2 ⟨a,by simp,XI _,hv a (by simp)⟩;rw [h2] at this;cases this
 | a :: L, b :: M, hL, hM, hv, hw, h => by
   unfold Z2x at hL hM;rw [XD] at hL hM;have va:=hv a (by simp);have vb:=hw b (by simp);have e1:∀ {a b:Spn} {L M:List Spn},(∀ t∈M,b.2+1<t.1)->b.1<=b.2->a.1<=a.2->(∀ x,inB (a :: L) x=inB (b :: M) x)->b.1<=a.1:=by
    intro a b L M g1 g2 g3 g;have h2:inB (a :: L) a.1=true:=J1.2 ⟨a,by simp,XI _,g3⟩;rw [g] at h2;obtain ⟨t,ht,h3,h4⟩:=J1.1 h2;rcases Xc.1 ht with rfl|ht
    exact h3;have:=g1 t ht;omega
   have f1:a.1=b.1:=by
    have p1:=e1 hM.1 vb va h;have p2:=e1 hL.1 va vb (λx=>(h x).symm);omega
   have e2:∀ {a b:Spn} {L M:List Spn},(∀ t∈L,a.2+1<t.1)->a.1=b.1->a.1<=a.2->(∀ x,inB (a :: L) x=inB (b :: M) x)->b.2<=a.2:=by
    intro a b L M g1 g2 g3 g;by_cases hc:b.2<=a.2;exact hc;have h2:inB (b :: M) (a.2+1)=true:=J1.2 ⟨b,by simp,by omega,by omega⟩;rw [<- g] at h2;obtain ⟨t,ht,h3,h4⟩:=J1.1 h2;rcases Xc.1 ht with rfl|ht
    omega;have:=g1 t ht;omega
   have f2:a.2=b.2:=by
    have p1:=e2 hL.1 f1 va h;have p2:=e2 hM.1 f1.symm vb (λx=>(h x).symm);omega
   have f3:a=b:=Prod.ext f1 f2;subst f3;have f4:∀ x,inB L x=inB M x:=λx=>by
    have hx:=h x;by_cases c:x<=a.2;have n1:∀ {L:List Spn},(∀ t∈L,a.2+1<t.1)->inB L x=false:=by
     intro L g;rw [YaH];intro g2;obtain ⟨t,ht,h3,h4⟩:=J1.1 g2;have:=g t ht;omega
    rw [n1 hL.1,n1 hM.1];have n2:∀ L:List Spn,inB (a :: L) x=inB L x:=by
     intro L;show inB ([a]++L) x=_;rw [Z3V,Z59,decide_eq_false (by omega),YaL]
    rwa [n2,n2] at hx
   rw [Z7u L M hL.2 hM.2 (λs hs=>hv s (by simp [hs])) (λs hs=>hw s (by simp [hs])) f4]
theorem Zjf {l:List Spn} (hv:∀ s∈l,0<=s.1/\s.1<=s.2):(mrR l l.length).1=Ja l:=by
 have I:=Zje hv l.length;obtain ⟨m1,m2⟩:=Z3D (l:=l) (λs hs=>(hv s hs).2);have aP:∀ t∈l,t.1<=(mrR l l.length).2:=by
  rcases I.pr with h|h
  exact h;intro t ht;have e:l.filter (λt=>decide (t.1<=(mrR l l.length).2))=l:=(Ybj).eq_of_length_le h;rw [<- e] at ht;exact of_decide_eq_true (XW.1 ht).2
 refine Z7u _ _ I.ap m1 (λs hs=>(I.va s hs).2.1) m2 (λx=>?_);rw [I.inn x,Z7t (λs hs=>(hv s hs).2) x];by_cases hx:x<=(mrR l l.length).2;rw [decide_eq_true hx,Bool.and_true];rw [decide_eq_false hx,Ybs];symm;rw [YaH];intro h;obtain ⟨t,ht,h1,h2⟩:=J1.1 h;have h3:=aP t ht;rcases I.cl with h|h
 have:=hv t ht;have:=h.2;omega;have:=h t ht (by omega);omega
theorem Z5K (start:Int):∀ (m:List Spn) (d:Int),start<d->(∀ s∈m,s.1<=s.2)->Z1i start m d=Z1i start (m.filter (λs=>decide (start<s.2))) d
 | [],d,_,_=>rfl
 | s :: m, d, h, hv => by
   have hs:=hv s (by simp);rw [XT];by_cases c:start<s.2;rw [if_pos (decide_eq_true c),Z1i,Z1i];split;rfl;exact Z5K start m _ (by omega) (λt ht=>hv t (by simp [ht]));have vM:¬ (decide (start<s.2)=true):=by simpa using c
   rw [if_neg vM,Z1i,if_neg (by omega)];have e:d+max 0 (s.2 - max s.1 (start+1)+1)=d:=by omega
   rw [e];exact Z5K start m _ h (λt ht=>hv t (by simp [ht]))
theorem Z8y:∀ (m:List Spn) (a b d:Int),(∀ t∈m,a+1<=t.1/\b+1<=t.1)->Z1i a m d=Z1i b m d
 | [],a,b,d,_=>rfl
 | s :: m, a, b, d, h => by
   have hs:=h s (by simp);rw [Z1i,Z1i];have e1:max s.1 (a+1)=s.1:=by omega
   have e2:max s.1 (b+1)=s.1:=by omega
   rw [e1,e2];split;rfl;exact Z8y m a b _ (λt ht=>h t (by simp [ht]))
theorem Zej (start:Int):∀ (m:List Spn) (d:Int),d<=Z1i start m d
 | [],d=>XI _
 | s :: m, d => by
   rw [Z1i];split;exact XI _;exact YbC (by omega) (Zej start m _)
theorem Z5a:∀ (m:List Spn) (d:Int) (s:Spn),Z2x m->(∀ t∈m,t.1<=t.2)->m.find? (λt=>decide (d<t.2))=some s->m.filter (λt=>decide (d<t.2))=s :: m.filter (λt=>decide (s.2<t.2))/\(∀ t∈m.filter (λt=>decide (s.2<t.2)),s.2+1<t.1)/\s∈m/\d<s.2
 | [],d,s,_,_,h=>by cases h
 | t :: m, d, s, ha, hv, h => by
   unfold Z2x at ha;rw [XD] at ha;rw [YbQ] at h;have ht:=hv t (by simp);by_cases c:d<t.2;rw [decide_eq_true c] at h;simp only [Xk] at h;subst h;have n1:¬ decide (t.2<t.2)=true:=by simp
   have hf:∀ e,e<=t.2->m.filter (λu=>decide (e<u.2))=m:=λe he=>List.filter_eq_self.2 (λu hu=>decide_eq_true (by have:=ha.1 u hu;have:=hv u (by simp [hu]);omega))
   refine ⟨?_,?_,by simp,c⟩;rw [XT,if_pos (decide_eq_true c),XT,if_neg n1,hf d (by omega),hf t.2 (XI _)];intro u hu;rw [XT,if_neg n1] at hu;exact ha.1 u (XW.1 hu).1;have hd:decide (d<t.2)=false:=decide_eq_false c;rw [hd] at h;obtain ⟨g1,g2,g3,g4⟩:=Z5a m d s ha.2 (λu hu=>hv u (by simp [hu])) h;have h3:=ha.1 s g3;have iJ:=hv s (by simp [g3]);have n2:¬ decide (s.2<t.2)=true:=by simp;omega
   have n3:¬ decide (d<t.2)=true:=by simp;omega
   refine ⟨?_,?_,by simp [g3],g4⟩;rw [XT,if_neg n3,XT,if_neg n2,g1];intro u hu;rw [XT,if_neg n2] at hu;exact g2 u hu
def ExI (m:List Spn) (E d left:Int):Prop:=Z1i d (m.filter (λt=>decide (d<t.2))) (d+left)=E
theorem Zjg {m:List Spn} {E d left:Int} (h:ExI m E d left) (hf:m.find? (λt=>decide (d<t.2))=none):E=d+left:=by
 unfold ExI at h;have:m.filter (λt=>decide (d<t.2))=[]:=by
  rw [List.filter_eq_nil_iff];intro a ha hc;exact absurd hc (by simpa using YaO.1 hf a ha)
 rw [this] at h;exact h.symm
theorem Zjh {m:List Spn} {E d left:Int} (ha:Z2x m) (hv:∀ t∈m,t.1<=t.2) (h:ExI m E d left) (hl:0<left) {s:Spn} (hf:m.find? (λt=>decide (d<t.2))=some s) :
 (left<=max s.1 (d+1) - 1 - d->E=d+left/\d+left<s.1)/\(max s.1 (d+1) - 1 - d<left->ExI m E s.2 (left - (max s.1 (d+1) - 1 - d))/\s.2+(left - (max s.1 (d+1) - 1 - d))<=E):=by
 obtain ⟨g1,g2,g3,g4⟩:=Z5a m d s ha hv hf;have iJ:=hv s g3;unfold ExI at h;rw [g1,Z1i] at h;constructor;intro hc;rw [if_pos (by omega)] at h;exact ⟨h.symm,by omega⟩;intro hc;rw [if_neg (by omega)] at h;have e:d+left+max 0 (s.2 - max s.1 (d+1)+1)=s.2+(left - (max s.1 (d+1) - 1 - d)):=by omega
 rw [e,Z8y _ d s.2 _ (λt ht=>by have:=g2 t ht;omega)] at h;exact ⟨h,by rw [<- h];exact Zej _ _ _⟩
theorem Zmi {m:List Spn} {d:Int} {s:Spn} (ha:Z2x m) (hv:∀ t∈m,t.1<=t.2) (hf:m.find? (λt=>decide (d<t.2))=some s):(m.filter (λt=>decide (s.2<t.2))).length<(m.filter (λt=>decide (d<t.2))).length:=by
 obtain ⟨g1,-⟩:=Z5a m d s ha hv hf;rw [g1];simp
def Z0T (l:List Rtn) (day c:Int):Int:=((l.filter (λr=>decide (r.crr=c) && Jv r day)).length:Int)
def exG (l:List Rtn) (crrs:List Crr) (day:Int):Nat->Int
 | 0=>0
 | k+1=>exG l crrs day k+max 0 (Z0T l day k - (crrs.getD k ⟨0,0⟩).tol)
def Z5L (st:List (Int×Int)) (c:Int):Int:=match st with
 | []=>0
 | p :: l=>if p.1=c then p.2 else Z5L l c
theorem Zek (c d:Int):∀ st:List (Int×Int),Z5L (Z38 c st) d=Z5L st d+if c=d then 1 else 0
 | [] => by
   show (if c=d then (1:Int) else 0)=0+if c=d then 1 else 0
   rw [Int.zero_add]
 | p :: l => by
   rw [Z38];by_cases h:p.1=c;rw [if_pos h,Z5L,Z5L];dsimp only;by_cases e:c=d;rw [if_pos e,if_pos e,if_pos (h.trans e)];rw [if_neg e,if_neg e,if_neg (λg=>e (h.symm.trans g))];omega;rw [if_neg h,Z5L,Z5L,Zek c d l];split;rename_i g;rw [if_neg (λe=>h (g.trans e.symm))];omega;rfl
theorem Zel (crrs:List Crr) (ht:∀ c∈crrs,0<=c.tol) (c:Int):∀ st:List (Int×Int),(((Z38 c st).map (Z4O crrs)).sum:Int)=(st.map (Z4O crrs)).sum - max 0 (Z5L st c - (crrs.getD c.toNat ⟨0,0⟩).tol)+max 0 (Z5L st c+1 - (crrs.getD c.toNat ⟨0,0⟩).tol)
 | [] => by
   have h0:0<=(crrs.getD c.toNat ⟨0,0⟩).tol:=by
    by_cases h:c.toNat<crrs.length;rw [show crrs.getD c.toNat ⟨0,0⟩=crrs[c.toNat] by simp [h]];exact ht _ (Xb h);rw [show crrs.getD c.toNat ⟨0,0⟩=⟨0,0⟩ by simp [h]];exact XI _
   simp only [Z38,XE,Yap,Ybk,List.sum_nil,Z5L,Z4O];omega
 | p :: l => by
   rw [Z38,Z5L];by_cases h:p.1=c;rw [if_pos h,if_pos h];simp only [XE,Ybk,Z4O];rw [h];omega;rw [if_neg h,if_neg h];simp only [XE,Ybk];rw [Zel crrs ht c l];omega
theorem Zby (crrs:List Crr) (l m:List Rtn) (day:Int):∀ k:Nat,(∀ i:Nat,i<k->Z0T l day i=Z0T m day i)->exG l crrs day k=exG m crrs day k
 | 0,_=>rfl
 | k + 1, h => by
   rw [exG,exG,Zby crrs l m day k (λi hi=>h i (by omega)),h k (by omega)]
theorem Z5b (l:List Rtn) (r:Rtn) (day c:Int):Z0T (l++[r]) day c=Z0T l day c+if r.crr=c/\Jv r day=true then 1 else 0:=by
 unfold Z0T;rw [YaD,Xa];by_cases h:r.crr=c/\Jv r day=true;rw [if_pos h];have:(decide (r.crr=c) && Jv r day)=true:=by simp [h]
 simp [this];rw [if_neg h];have:¬ (decide (r.crr=c) && Jv r day)=true:=by simpa using h
 simp [this]
theorem Zbz (crrs:List Crr) (l:List Rtn) (r:Rtn) (day:Int) (c:Nat) (hc:r.crr=(c:Int)) (hw:Jv r day=true):∀ k:Nat,exG (l++[r]) crrs day k=exG l crrs day k+if c<k then max 0 (Z0T l day c+1 - (crrs.getD c ⟨0,0⟩).tol) - max 0 (Z0T l day c - (crrs.getD c ⟨0,0⟩).tol) else 0
 | 0=>by simp [exG]
 | k + 1 => by
   rw [exG,exG,Zbz crrs l r day c hc hw k,Z5b];by_cases h:c=k;subst h;rw [if_neg (by omega),if_pos ⟨hc,hw⟩,if_pos (by omega)];omega;rw [if_neg (show ¬ (r.crr=(k:Int)/\Jv r day=true) by rw [hc];omega)];by_cases h2:c<k;rw [if_pos h2,if_pos (by omega)];omega;rw [if_neg h2,if_neg (by omega)];omega
theorem Z3W (l:List Rtn) (r:Rtn) (day:Int):Z1v (l++[r]) day=Z4e day (Z1v l day) r:=by
 unfold Z1v;rw [XP];rfl
theorem Zur (crrs:List Crr) (ht:∀ c∈crrs,0<=c.tol) (day:Int) (l:List Rtn) (hr:∀ r∈l,0<=r.crr/\r.crr<crrs.length):(∀ c,Z5L (Z1v l day) c=Z0T l day c)/\ZA l crrs day=exG l crrs day crrs.length:=by
 have key:∀ n,∀ l:List Rtn,l.length=n->(∀ r∈l,0<=r.crr/\r.crr<crrs.length)->(∀ c,Z5L (Z1v l day) c=Z0T l day c)/\ZA l crrs day=exG l crrs day crrs.length:=by
  intro n
  induction n with
  | zero=>
    intro l hl _;obtain rfl:=XV.1 hl;refine ⟨λc=>rfl,?_⟩;have:∀ k,exG [] crrs day k=0:=by
     intro k
     induction k with
     | zero=>rfl
     | succ k ih=>
       rw [exG,ih];have h0:0<=(crrs.getD k ⟨0,0⟩).tol:=by
        by_cases h:k<crrs.length;rw [show crrs.getD k ⟨0,0⟩=crrs[k] by simp [h]];exact ht _ (Xb h);rw [show crrs.getD k ⟨0,0⟩=⟨0,0⟩ by simp [h]];exact XI _
       show 0+max 0 (0 - _)=(0:Int)
       omega
    rw [this];rfl
  | succ n ih=>
    intro l hl hr;rcases J0 l with rfl|⟨A,r,rfl⟩
    cases hl;obtain ⟨i1,i2⟩:=ih A (by simpa using hl) (λq hq=>hr q (by simp [hq]));have cr:=hr r (by simp);obtain ⟨c,hc⟩:∃ c:Nat,r.crr=(c:Int):=⟨r.crr.toNat,by omega⟩
    by_cases hw:Jv r day=true;refine ⟨λd=>?_,?_⟩;rw [Z3W,Z4e,if_pos hw,Zek,i1,Z5b];congr 1;by_cases e:r.crr=d;rw [if_pos e,if_pos ⟨e,hw⟩];rw [if_neg e,if_neg (λh=>e h.1)];rw [Zbz crrs A r day c hc hw,if_pos (by omega)];unfold ZA at i2 ⊢;rw [Z3W,Z4e,if_pos hw,Zel crrs ht,i2,i1,hc,Ya8];omega;have mr:∀ d,Z0T (A++[r]) day d=Z0T A day d:=λd=>by rw [Z5b,if_neg (λh=>hw h.2)];omega
    refine ⟨λd=>?_,?_⟩;rw [Z3W,Z4e,if_neg hw,i1,mr];rw [Zby crrs _ A day _ (λi _=>mr i),<- i2];unfold ZA;rw [Z3W,Z4e,if_neg hw]
 exact key l.length l rfl hr
def Z1l (sent:Int) (out:List Int) (d:Int):List Int:=if sent<d/\d<=3652058/\d∉out then out++[d] else out
def stR (l:List Rtn) (sent:Int):List Int:=l.foldl (λout r=>Z1l sent (Z1l sent out r.lo) (r.hi+1)) [sent]
theorem Zem {sent d:Int} {out:List Int} (h:out.Nodup):(Z1l sent out d).Nodup:=by
 unfold Z1l;split;rename_i hc;refine Ybq.2 ⟨h,by simp,λa ha b hb=>?_⟩;obtain rfl:=Xm.1 hb;intro e;exact hc.2.2 (e ▸ ha);exact h
theorem ZbA {sent d x:Int} {out:List Int}:x∈Z1l sent out d↔x∈out\/(x=d/\sent<d/\d<=3652058):=by
 unfold Z1l;split;rename_i hc;simp only [Xd,Xc,Xn,or_false];exact ⟨λh=>h.imp id (λh=>⟨h,hc.1,hc.2.1⟩),λh=>h.imp id (λh=>h.1)⟩;rename_i hc;refine ⟨.inl,λh=>h.elim id λ⟨h1,h2,h3⟩=>?_⟩;subst h1;by_cases hx:x∈out;exact hx;exact absurd ⟨h2,h3,hx⟩ hc
theorem Zji (l:List Rtn) (sent:Int):(stR l sent).Nodup/\∀ x,x∈stR l sent↔x=sent\/∃ r∈l,(x=r.lo\/x=r.hi+1)/\sent<x/\x<=3652058:=by
 have key:∀ n,∀ l:List Rtn,l.length=n->(stR l sent).Nodup/\∀ x,x∈stR l sent↔x=sent\/∃ r∈l,(x=r.lo\/x=r.hi+1)/\sent<x/\x<=3652058:=by
  intro n
  induction n with
  | zero=>
    intro l hl;obtain rfl:=XV.1 hl;refine ⟨by simp [stR],λx=>by simp [stR]⟩
  | succ n ih=>
    intro l hl;rcases J0 l with rfl|⟨A,r,rfl⟩
    cases hl;obtain ⟨i1,i2⟩:=ih A (by simpa using hl);have e:stR (A++[r]) sent=Z1l sent (Z1l sent (stR A sent) r.lo) (r.hi+1):=by
     unfold stR;rw [XP];rfl
    rw [e];refine ⟨Zem (Zem i1),λx=>?_⟩;rw [ZbA,ZbA,i2];constructor;rintro (((h|⟨q,hq,h⟩)|⟨rfl,h⟩)|⟨rfl,h⟩);exact .inl h;exact .inr ⟨q,by simp [hq],h⟩;exact .inr ⟨r,by simp,.inl rfl,h⟩;exact .inr ⟨r,by simp,.inr rfl,h⟩;rintro (h|⟨q,hq,h,h2⟩);exact .inl (.inl (.inl h));rcases Xd.1 hq with hq|hq
    exact .inl (.inl (.inr ⟨q,hq,h,h2⟩));obtain rfl:=Xm.1 hq;rcases h with rfl|rfl
    exact .inl (.inr ⟨rfl,h2⟩);exact .inr ⟨rfl,h2⟩
 exact key l.length l rfl
def Z2Y (x:Int):List Int->List Int
 | []=>[x]
 | y :: l=>if y<x then y :: Z2Y x l else x :: y :: l
def Z5c (l:List Int):List Int:=l.foldl (λo x=>Z2Y x o) []
theorem Z2y (x:Int):∀ l,(Z2Y x l).Perm (x :: l)
 | []=>Yam _
 | y :: l => by
   rw [Z2Y];split
   . exact ((Z2y x l).cons y).trans (List.Perm.swap _ _ _)
   exact Yam _
theorem ZbB (x:Int):∀ l:List Int,l.Pairwise (· < ·)->x∉l->(Z2Y x l).Pairwise (· < ·)
 | [],_,_=>by simp [Z2Y]
 | y :: l, h, hx => by
   rw [XD] at h;simp only [Xc,not_or] at hx;rw [Z2Y];split;rename_i hlt;refine XD.2 ⟨λz hz=>?_,ZbB x l h.2 hx.2⟩;rcases Xc.1 ((Z2y x l).mem_iff.1 hz) with rfl|hz
   exact hlt;exact h.1 z hz;rename_i hlt;refine XD.2 ⟨λz hz=>?_,XD.2 h⟩;rcases Xc.1 hz with rfl|hz
   omega;have:=h.1 z hz;omega
theorem Z8z:∀ (l o:List Int),(o++l).Nodup->o.Pairwise (· < ·)->(l.foldl (λo x=>Z2Y x o) o).Pairwise (· < ·)/\∀ z,z∈l.foldl (λo x=>Z2Y x o) o↔z∈o\/z∈l
 | [],o,_,h=>⟨h,λz=>by simp⟩
 | x :: l, o, hn, h => by
   have hp:(Z2Y x o++l).Perm (o++x :: l):=((Z2y x o).append_right l).trans (YbK.symm);have hx:x∉o:=λhm=>by
    have:=(Ybq.1 hn).2.2 x hm x (by simp);exact this rfl
   obtain ⟨a,b⟩:=Z8z l (Z2Y x o) (hp.nodup_iff.2 hn) (ZbB x o h hx);refine ⟨a,λz=>?_⟩;show z∈l.foldl (λo x=>Z2Y x o) (Z2Y x o)↔_;rw [b z,(Z2y x o).mem_iff];simp only [Xc];exact ⟨λh=>h.elim (λh=>h.elim (λh=>.inr (.inl h)) .inl) (λh=>.inr (.inr h)),λh=>h.elim (λh=>.inl (.inr h)) (λh=>h.elim (λh=>.inl (.inl h)) .inr)⟩
theorem Zjj (l:List Rtn) (sent:Int) (hs:0<=sent/\sent<=3652058):Z5c (stR l sent)++[3652059]=Z0D l sent:=by
 obtain ⟨n1,n2⟩:=Zji l sent;obtain ⟨a,b⟩:=Z8z (stR l sent) [] (by simpa using n1) List.Pairwise.nil;obtain ⟨c,d⟩:=Z0v ([sent,3652059]++l.flatMap (λr=>[r.lo,r.hi+1].filter (λd=>decide (sent<d/\d<=3652058))));have hm:∀ z,z∈Z5c (stR l sent)↔z=sent\/∃ r∈l,(z=r.lo\/z=r.hi+1)/\sent<z/\z<=3652058:=λz=>by
  unfold Z5c;rw [b z,<- n2 z];simp
 refine ZhK ?_ c (λz=>?_);refine XX.2 ⟨a,by simp,λx hx y hy=>?_⟩;obtain rfl:=Xm.1 hy;rcases (hm x).1 hx with rfl|⟨r,hr,-,h1,h2⟩<;>omega
 have hd:z∈Z0D l sent↔_:=d z;rw [Xd,hm z,hd];simp only [Xd,Xc,Xn,or_false,Ybf,XW,decide_eq_true_eq];constructor;rintro ((rfl|⟨r,hr,h,h2⟩)|rfl);exact .inl (.inl rfl);exact .inr ⟨r,hr,h,h2⟩;exact .inl (.inr rfl);rintro ((rfl|rfl)|⟨r,hr,h,h2⟩);exact .inl (.inl rfl);exact .inr rfl;exact .inl (.inr ⟨r,hr,h,h2⟩)
def Z14 (f:Int->Int) (nv:Int) (L:List Spn):Int:=L.foldl (λm s=>min m (f s.1)) nv
theorem Z7v (f:Int->Int) (nv:Int) (L:List Spn) (x:Spn):Z14 f nv (L++[x])=min (Z14 f nv L) (f x.1):=by
 unfold Z14;rw [XP];rfl
theorem Zjk (f:Int->Int):∀ (L:List Spn) (nv:Int),Z14 f nv L<=nv/\∀ s∈L,Z14 f nv L<=f s.1
 | [],nv=>⟨XI _,λs hs=>by cases hs⟩
 | x :: L, nv => by
   obtain ⟨a,b⟩:=Zjk f L (min nv (f x.1));have e:Z14 f nv (x :: L)=Z14 f (min nv (f x.1)) L:=rfl;rw [e];refine ⟨by omega,λs hs=>?_⟩;rcases Xc.1 hs with rfl|hs
   omega;exact b s hs
structure AlR (f:Int->Int) (nv:Int) (L:List Spn) (s:AlS):Prop where
 lea:s.least=Z14 f nv L
 nev:s.never=decide (Z14 f nv L=nv)
 out:(s.out.getLast?).map Prod.snd=((L.filter (λx=>decide (f x.1=Z14 f nv L))).getLast?).map Prod.snd
theorem Z9P {α:Type} (L:List α) (x:α):(L++[x]).getLast?=some x:=by simp
theorem Zjl (t:AlS) (x:Spn):∀ q,q=(match t.out.getLast? with
 | some y=>if y.2=x.1 - 1 then { t with out:=t.out.dropLast++[(y.1,x.2)] } else { t with out:=t.out++[x] }
 | none=>{ t with out:=t.out++[x] }:AlS)->q.least=t.least/\q.never=t.never/\(q.out.getLast?).map Prod.snd=some x.2:=by
 rintro q rfl;split;split;exact ⟨rfl,rfl,by simp⟩;exact ⟨rfl,rfl,by simp⟩;exact ⟨rfl,rfl,by simp⟩
theorem Zmj {l:List Rtn} {crrs:List Crr} {nv:Int} {L:List Spn} {s:AlS} (h:AlR (ZA l crrs) nv L s) (x:Spn):AlR (ZA l crrs) nv (L++[x]) (JX l crrs s x):=by
 have du:=Zjk (ZA l crrs) L nv;unfold JX;dsimp only;by_cases h1:s.least<ZA l crrs x.1;rw [if_pos h1];rw [h.lea] at h1;have e:Z14 (ZA l crrs) nv (L++[x])=Z14 (ZA l crrs) nv L:=by rw [Z7v];omega
 refine ⟨by rw [e];exact h.lea,by rw [e];exact h.nev,?_⟩;rw [e,YaD,h.out];have:¬ decide (ZA l crrs x.1=Z14 (ZA l crrs) nv L)=true:=by simp;omega
 simp [this];rw [if_neg h1];rw [h.lea] at h1;have e:Z14 (ZA l crrs) nv (L++[x])=ZA l crrs x.1:=by rw [Z7v];omega
 have fin:∀ t:AlS,t=(if ZA l crrs x.1<s.least then ⟨ZA l crrs x.1,false,[]⟩ else s)->∀ q:AlS,q.least=t.least/\q.never=t.never/\(q.out.getLast?).map Prod.snd=some x.2->AlR (ZA l crrs) nv (L++[x]) q:=by
  rintro t rfl q ⟨q1,q2,q3⟩;refine ⟨?_,?_,?_⟩;rw [q1,e];split;rfl;rename_i h2;rw [h.lea] at h2 ⊢;omega;rw [q2,e];split;rename_i h2;rw [h.lea] at h2;symm;exact decide_eq_false (by omega);rename_i h2;rw [h.lea] at h2;rw [h.nev];congr 1;rw [show Z14 (ZA l crrs) nv L=ZA l crrs x.1 by omega];rw [q3,e,YaD];simp
 exact fin _ rfl _ (Zjl _ x _ rfl)
theorem ZqS (l:List Rtn) (crrs:List Crr) (sent:Int):AlR (ZA l crrs) (ZA l crrs (-1)) (Z1w l sent) (Z9p l crrs sent):=by
 unfold Z9p;generalize Z1w l sent=L;have key:∀ n,∀ L:List Spn,L.length=n->AlR (ZA l crrs) (ZA l crrs (-1)) L (L.foldl (JX l crrs) ⟨ZA l crrs (-1),true,[]⟩):=by
  intro n
  induction n with
  | zero=>
    intro L hL;obtain rfl:=XV.1 hL;exact ⟨rfl,(decide_eq_true rfl).symm,rfl⟩
  | succ n ih=>
    intro L hL;rcases J0 L with rfl|⟨A,x,rfl⟩
    cases hL;rw [XP];exact Zmj (ih A (by simpa using hL)) x
 exact key L.length L rfl
theorem Zd6 {L:List Spn} (hv:∀ s∈L,s.1<=s.2) (ha:L.Pairwise (λa b=>a.2<b.2)):((Ja L).getLast?).map Prod.snd=(L.getLast?).map Prod.snd:=by
 obtain ⟨m1,m2⟩:=Z3D hv;have aY:=Z7t hv;rcases J0 L with rfl|⟨A,u,rfl⟩
 rfl;rcases J0 (Ja (A++[u])) with e|⟨B,t,e⟩
 have:=aY u.2;rw [e] at this;have h2:inB (A++[u]) u.2=true:=J1.2 ⟨u,by simp,hv u (by simp),XI _⟩;rw [h2] at this;cases this;rw [e] at m1 m2 aY ⊢;simp only [List.getLast?_append,List.getLast?_singleton,Option.some_or,YaT,Xk];have bh:∀ s∈A++[u],s.2<=u.2:=λs hs=>by
  rcases Xd.1 hs with h|h
  have:=(XX.1 ha).2.2 s h u (by simp);omega;obtain rfl:=Xm.1 h;exact XI _
 have h1:t.2<=u.2:=by
  have h2:inB (B++[t]) t.2=true:=J1.2 ⟨t,by simp,m2 t (by simp),XI _⟩;rw [aY] at h2;obtain ⟨s,hs,g1,g2⟩:=J1.1 h2;have:=bh s hs;omega
 have h3:u.2<=t.2:=by
  have h2:inB (A++[u]) u.2=true:=J1.2 ⟨u,by simp,hv u (by simp),XI _⟩;rw [<- aY] at h2;obtain ⟨s,hs,g1,g2⟩:=J1.1 h2;rcases Xd.1 hs with h|h
  have h4:=(XX.1 m1).2.2 s h t (by simp);have:=m2 t (by simp);omega;obtain rfl:=Xm.1 h;exact g2
 omega
def Zd7 (l:List Rtn) (crrs:List Crr) (sent:Int):List Spn:=(Z1w l sent).filter (λx=>decide (ZA l crrs x.1=Z14 (ZA l crrs) (ZA l crrs (-1)) (Z1w l sent)))
theorem Zen (l:List Rtn) (sent:Int):(Z1w l sent).Pairwise (λa b=>a.2<b.2)/\∀ s∈Z1w l sent,s.1<=s.2:=by
 have hd:=(Z0v ([sent,3652059]++l.flatMap (λr=>[r.lo,r.hi+1].filter (λd=>decide (sent<d/\d<=3652058))))).1;unfold Z1w;show (((Z0D l sent).zip (Z0D l sent).tail).map (λp=>((p.1,p.2 - 1):Spn))).Pairwise (λa b=>a.2<b.2)/\∀ s∈((Z0D l sent).zip (Z0D l sent).tail).map (λp=>((p.1,p.2 - 1):Spn)),s.1<=s.2;have m5:(Z0D l sent).Pairwise (· < ·):=hd;generalize Z0D l sent=D at m5;clear hd
 induction D with
 | nil=>simp
 | cons a D ih=>
   cases D with
   | nil=>simp
   | cons b D=>
     rw [XD] at m5;obtain ⟨i1,i2⟩:=ih m5.2;simp only [List.tail_cons,List.zip_cons_cons,XE] at i1 i2 ⊢;refine ⟨XD.2 ⟨λs hs=>?_,i1⟩,λs hs=>?_⟩;obtain ⟨p,hp,rfl⟩:=XK.1 hs;have h2:=(YbN hp).2;have:=(XD.1 m5.2).1 _ h2;dsimp only;omega;rcases Xc.1 hs with rfl|hs
     have:=m5.1 b (by simp);dsimp only;omega;exact i2 s hs
theorem ZqT (l:List Rtn) (crrs:List Crr) (sent:Int):Z4R l crrs sent=if Z14 (ZA l crrs) (ZA l crrs (-1)) (Z1w l sent)=ZA l crrs (-1) then (0,false) else match (Ja (Zd7 l crrs sent)).getLast? with|some y=>(y.2,true)|none=>(0,false):=by
 have h:=ZqS l crrs sent;obtain ⟨a1,a2⟩:=Zen l sent;have hm:=Zd6 (L:=Zd7 l crrs sent) (λs hs=>a2 s (XW.1 hs).1) (a1.sublist Ybj);unfold Z4R;dsimp only;rw [h.nev];by_cases hc:Z14 (ZA l crrs) (ZA l crrs (-1)) (Z1w l sent)=ZA l crrs (-1);rw [if_pos hc,if_pos (decide_eq_true hc)];rw [if_neg hc,if_neg (by simpa using hc)];have ho:=h.out;rw [show ((Z1w l sent).filter (λx=>decide (ZA l crrs x.1=Z14 (ZA l crrs) (ZA l crrs (-1)) (Z1w l sent))))=Zd7 l crrs sent from rfl,<- hm] at ho
 revert ho;cases (Z9p l crrs sent).out.getLast?<;>cases (Ja (Zd7 l crrs sent)).getLast?<;>intro ho
 rfl;cases ho;cases ho;simp only [YaT,Xk] at ho;exact congrArg (λz=>(z,true)) ho
end Go.Proofs.YtgdicjnjhchooaaGreatDoor
