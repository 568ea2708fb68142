/-
Contracts and plain laws, merged out of own texts.
-/
import Derived.Test.YtkojegdemoahlaaGreatDoorM1
import Derived.Lib.ItoaNum
import Derived.Laws.OwnMore
import Derived.Laws.CopyRow
import Derived.Recover
import Derived.LoopN
import Derived.Test.YtkojegdemoahlaaGreatDoorRows
import Derived.ChangeKeysEq
import Derived.Shelf.Small.Utf8
import Derived.Shelf.Small.Bits
import Derived.Shelf.Small.Strs
import Derived.Shelf.Small.Wraps
import Derived.Shelf.Strconv.Atoi
import Derived.Shelf.Strconv.Itoa0
import Derived.Shelf.Strconv.Itoa1
import Derived.Shelf.LaysM
import Derived.Shelf.Strconv.Itoa2
import Derived.Shelf.Strconv.Itoa3
import Derived.Shelf.Strconv.AtoiErrFast
import Derived.Shelf.Strconv.ParseIntEmpty
import Derived.Shelf.Strconv.AtoiFail
import Derived.Shelf.Strconv.Clone
import Derived.Shelf.Strconv.SyntaxError
import Derived.Shelf.LaysC
import Derived.Shelf.Strconv.ToError
import Derived.Shelf.Strconv.Lower
import Derived.Shelf.Strconv.ParseUint10
import Derived.Shelf.Strconv.ParseUint10Empty
import Derived.Shelf.Strconv.ParseUint10Any
import Derived.Shelf.Strconv.ParseInt10
import Derived.Shelf.Strconv.AtoiLong
import Derived.Shelf.Strconv.AtoiInnerAll
import Derived.Shelf.Strconv.RangeError
import Derived.Shelf.Strconv.ToErrorRange
import Derived.Shelf.Strconv.AtoiAll
import Derived.Shelf.Strconv.ErrVarAll
import Derived.Shelf.Strings.Search1
import Derived.Shelf.Strings.Search2
import Derived.Shelf.Strings.Search3
import Derived.Shelf.Strings.Shaped
import Derived.Shelf.Sort.Plain
import Derived.Shelf.Strings.Prefix
import Derived.Shelf.Strings.Runes
import Derived.Shelf.Slices.Turned
import Derived.Ground.Names2Prog
import Derived.Shelf.Slices.CompactI
import Derived.Shelf.Slices.SearchI
import Derived.Shelf.Slices.Cells
import Derived.Shelf.Slices.In.SortNone
import Derived.Test.YtkojegdemoahlaaGreatDoorProg
import Derived.WideLaws
set_option linter.unusedVariables false
set_option linter.unusedSimpArgs false
set_option maxHeartbeats 4000000
set_option maxRecDepth 20000
namespace Go.Sim
open Go Go.Eng Go.RowKit Go.Proofs
abbrev Tr (α:Type):=List (Nat×Option α)
noncomputable def Tr.get {α:Type} (t:Tr α) (k:Nat):Option α:=Option.rec (motive:=λ_=>Option α) none (λv=>v) (lk t k)
def Tr.put {α:Type} (v:Option α) (t:Tr α) (k:Nat):Tr α:=(k,v) :: t
theorem Tr.get_put {α:Type} (v:Option α) (t:Tr α) (k j:Nat):(Tr.put v t k).get j=if j=k then v else t.get j:=by
 unfold Tr.get Tr.put;rw [Z39];by_cases e:k=j;rw [if_pos e,if_pos e.symm];rw [if_neg e,if_neg (Ne.symm e)]
structure KI (P:Program) where
 kt:Nat
 κ:Type
 de:DecidableEq κ
 ek:Z6A P kt κ
 dec:V->Option κ
 ok:∀ L v a,dec v=some a->ga L v=ek.enc a
class KD (P:Program) where
 l:List (KI P)
def kf {P:Program}:List (KI P)->Nat->Option (KI P)
 | [],_=>none
 | K :: r,t=>bif Nat.beq K.kt t then some K else kf r t
theorem Zcw {P:Program}:∀ {l:List (KI P)} {t:Nat} {K:KI P},kf l t=some K->K.kt=t
 | [],_,_,h=>by cases h
 | K :: r, t, K', h => by
   simp only [kf] at h;cases hb:Nat.beq K.kt t with
   | true=>rw [hb] at h;cases h;exact Xk hb
   | false=>rw [hb] at h;exact Zcw (l:=r) h
inductive O where
 | c (T z:Nat) (cs:List V)
 | it (s:Str) (p:Nat)
 | mp (l:List (V×V))
 | ro (cs:List V)
 | ig
def O.bd (n:Nat):O->Bool
 | .c _ _ cs=>bl n cs
 | .it _ _=>true
 | .mp l=>l.all λp=>bl n [p.1,p.2]
 | .ro cs=>bl n cs
 | .ig=>true
structure S where
 m:Tr O
 n:Nat
def Z8Z (L:Lc) (w:World) (r:Nat) (l:List (V×V)):Prop:=∃ l':List (V×V),l'.Perm l/\∃ (es:Array MapEntry) (clock:Nat),w.heap[r]?=some (.map es clock)/\es.toList.map (·.key)=l'.map (λp=>ga L p.1)/\es.toList.map (·.val)=l'.map (λp=>ga L p.2)
def Ob (L:Lc) (w:World) (k:Nat):O->Prop
 | .c T z cs=>∃ rest,Blk w (L k).1 T (gl L cs++rest)/\(z≠0->cs.length+rest.length=(L k).2 * z/\(L k).2<=maxLen)/\(z=0->rest=[])
 | .it s p=>Itr w (L k).1 s p
 | .mp l=>Z8Z L w (L k).1 l
 | .ro cs=>(L k).1<w.heap.size/\∀ i u,cs[i]?=some u->w.cell? ⟨(L k).1,i,none⟩=some (ga L u)
 | .ig=>(L k).1<w.heap.size/\∃ m,w.cell? ⟨(L k).1,0,none⟩=some (.I m)
structure Rel (L:Lc) (s:S) (w:World):Prop where
 g:Gl L
 ob:∀ k o,s.m.get k=some o->Ob L w k o
 bn:∀ k o,s.m.get k=some o->k<s.n/\O.bd s.n o=true
 inj:∀ j k,(s.m.get j).isSome=true->(s.m.get k).isSome=true->(L j).1=(L k).1->j=k
 n64:64<=s.n
theorem Itr.ext {S:List Nat} {w w':World} {b p:Nat} {s:Str} (h:Itr w b s p) (hS:Stp S w w') (hb:b∉S):Itr w' b s p:=by
 have hl:=h.lt;unfold Itr at *;rw [hS.block b hl hb];exact h
theorem Ob.ext {L:Lc} {S:List Nat} {w w':World} {k:Nat} {o:O} (h:Ob L w k o) (hS:Stp S w w') (hb:(L k).1∉S):Ob L w' k o:=by
 cases o with
 | c T z cs=>obtain ⟨r,h1,h2⟩:=h;exact ⟨r,h1.ext hS hb,h2⟩
 | it s p=>exact Itr.ext h hS hb
 | mp l=>
   obtain ⟨l',h1,es,c,h2,h3⟩:=h;exact ⟨l',h1,es,c,by rw [hS.block _ (Xi.1 h2).1 hb];exact h2,h3⟩
 | ro cs=>exact ⟨Xj h.1 hS.size,λi u hu=>hS.cell hb (h.2 i u hu)⟩
 | ig=>exact ⟨Xj h.1 hS.size,h.2.imp λ_ hm=>hS.cell hb hm⟩
theorem Ob.lt {L:Lc} {w} {k:Nat} {o:O} (h:Ob L w k o):(L k).1<w.heap.size:=by
 cases o with
 | c T z cs=>obtain ⟨r,h1,h2⟩:=h;exact h1.lt
 | it s p=>exact Itr.lt h
 | mp l=>
   obtain ⟨l',h1,es,c,h2,h3⟩:=h;exact (Xi.1 h2).1
 | ro cs=>exact h.1
 | ig=>exact h.1
theorem Ob.eq {L L':Lc} {n:Nat} {w} {k:Nat} {o:O} (h:Ob L w k o) (hk:L' k=L k) (ho:o.bd n=true) (hL:∀ k,k<n->L' k=L k):Ob L' w k o:=by
 cases o with
 | c T z cs=>obtain ⟨r,h1,h2⟩:=h;exact ⟨r,by rw [hk,Z38 hL cs ho];exact h1,by rw [hk];exact h2⟩
 | it s p=>show Itr _ _ _ _;rw [hk];exact h
 | mp l=>
   obtain ⟨l',h1,es,c,h2,h3,h4⟩:=h;have hb:∀ p∈l',bd n p.1=true/\bd n p.2=true:=λp hp=>by
    have:=XS.1 (show (l.all λp=>bl n [p.1,p.2])=true from ho) p (h1.mem_iff.1 hp);simpa [bl] using this
   refine ⟨l',h1,es,c,by rw [hk];exact h2,?_,?_⟩;rw [h3];exact Ybf λp hp=>(Z48 hL _ (hb p hp).1).symm;rw [h4];exact Ybf λp hp=>(Z48 hL _ (hb p hp).2).symm
 | ro cs=>
   refine ⟨by rw [hk];exact h.1,λi u hu=>?_⟩;rw [hk,Z48 hL u ((Z17 n cs).1 ho u (List.mem_of_getElem? hu))];exact h.2 i u hu
 | ig=>show _/\_;rw [hk];exact h
theorem O.bd_le {n m:Nat} (h:n<=m) {o:O} (ho:o.bd n=true):o.bd m=true:=by
 cases o with
 | c T z cs=>exact Z49 h cs ho
 | it s p=>rfl
 | mp l=>
   refine XS.2 λp hp=>Z49 h _ (XS.1 (show (l.all λp=>bl n [p.1,p.2])=true from ho) p hp)
 | ro cs=>exact Z49 h cs ho
 | ig=>rfl
def ids (n:Nat) (L:Lc) (ws:List Nat):List Nat:=(ws.filter (λk=>Nat.blt k n)).map (λk=>(L k).1)
theorem Je {n:Nat} {L:Lc} {ws:List Nat} {b:Nat}:b∈ids n L ws↔∃ k∈ws,k<n/\(L k).1=b:=by
 unfold ids;simp only [XE,X2];constructor;rintro ⟨k,⟨h1,h2⟩,h3⟩;exact ⟨k,h1,Xb h2,h3⟩;rintro ⟨k,h1,h2,h3⟩;exact ⟨k,⟨h1,XV h2⟩,h3⟩
structure Nx (s s':S) (L L':Lc) (w w':World) (ws:List Nat):Prop where
 le:s.n<=s'.n
 ag:∀ k,k<s.n->L' k=L k
 nw:∀ k,s.n<=k->k<s'.n->w.heap.size<=(L' k).1\/(L' k).1∈ids s.n L ws
 st:Stp (ids s.n L ws) w w'
theorem Nx.refl (s:S) (L:Lc) (w):Nx s s L L w w []:=⟨Xm _,λ_ _=>rfl,λk h1 h2=>absurd h2 (Ya0.2 h1),Stp.refl _ _⟩
theorem Nx.trans {s s1 s2:S} {L L1 L2:Lc} {w w1 w2:World} {ws vs:List Nat} (h:Nx s s1 L L1 w w1 ws) (k:Nx s1 s2 L1 L2 w1 w2 vs):Nx s s2 L L2 w w2 (ws++vs):=by
 have hz:=h.st.size;have eV:∀ b,b∈ids s1.n L1 vs->b∈ids s.n L (ws++vs)\/w.heap.size<=b:=λb hb=>by
  obtain ⟨j,hj,nZ,rfl⟩:=Je.1 hb;by_cases lE:j<s.n;rw [h.ag j lE];exact .inl (Je.2 ⟨j,Xg.2 (.inr hj),lE,rfl⟩);rcases h.nw j (Yba lE) nZ with g|g
  exact .inr g;obtain ⟨i,hi,aX,he⟩:=Je.1 g;exact .inl (Je.2 ⟨i,Xg.2 (.inl hi),aX,he⟩)
 have aX:∀ b,b∈ids s.n L ws->b∈ids s.n L (ws++vs):=λb hb=>by
  obtain ⟨i,hi,aX,he⟩:=Je.1 hb;exact Je.2 ⟨i,Xg.2 (.inl hi),aX,he⟩
 refine ⟨Xl h.le k.le,λj hj=>(k.ag j (Xj hj h.le)).trans (h.ag j hj),λj h1 h2=>?_,(h.st.mono aX).own k.st eV⟩;by_cases hj:j<s1.n;rw [k.ag j hj];exact (h.nw j h1 hj).imp id (aX _);rcases k.nw j (Yba hj) h2 with g|g
 exact .inl (Xl hz g);exact (eV _ g).symm
noncomputable def ldc (s:S) (b:Nat):Option (List V):=match s.m.get b with
 | some (.c _ _ cs)=>some cs
 | some (.ro cs)=>some cs
 | _=>none
theorem Z1c {L:Lc} {s:S} {w} (h:Rel L s w) {b:Nat} {cs:List V} (hl:ldc s b=some cs) {i:Nat} {u:V} (hu:cs[i]?=some u):w.cell? ⟨(L b).1,i,none⟩=some (ga L u):=by
 unfold ldc at hl;split at hl;rename_i T z cs' hg;cases hl;obtain ⟨r,h1,-⟩:=h.ob b _ hg;refine h1.cell ?_;rw [Yae (by rw [ZQ];exact (Xn.1 hu).1),Z4a,hu];rfl;rename_i cs' hg;cases hl;exact (h.ob b _ hg).2 i u hu;cases hl
def Z90 {P:Program} (K:KI P) (a:K.κ):List (V×V)->Option (List V)
 | []=>some []
 | (q, v) :: r => match K.dec q, Z90 K a r with
   | some b, some l => match K.de b a with
     | .isTrue _=>some (v :: l)
     | .isFalse _=>some l
   | _,_=>none
def vz:Value->V
 | .agg cs=>.a (cs.toList.map ofC)
 | v=>ofC v
theorem Zmp (L:Lc) (v:Value):ga L (vz v)=v:=by
 cases v with
 | agg cs=>simp only [vz,ga,Z6y,XW]
 | _=>simp only [vz,Z4O]
noncomputable def Ziu (P:Program) [KD P] (s:S) (t b:Nat) (kv:V):Option V:=match P.underlying t with
 | some (.map kt et) => match s.m.get b, kf (KD.l (P := P)) kt, (P.info? et).bind (·.zero) with
   | some (.mp l), some K, some z => match K.dec kv with
     | some a => match Z90 K a l with
       | some []=>some (vz z)
       | some [v]=>some v
       | _=>none
     | none=>none
   | _,_,_=>none
 | _=>none
noncomputable def Zmq (P:Program) (e:AE) (s:S) (t b n:Nat):Option Operand->Option Operand->Option V:=λlo hi=>match s.m.get b,P.underlying t with
 | some (.c T z cs), some (.slice el) => match (P.info? el).map (·.size) with
   | some k => bif Nat.blt 0 z && Nat.ble (n * z) cs.length then (match lo, hi with
     | none, some h => match evv e h with
       | some (.i .i64 h)=>cut (decide (0<=h/\h<=n)) (.l b h.toNat)
       | _=>none
     | some h, none => match evv e h with
       | some (.i .i64 h)=>cut (decide (0<=h/\h<=n)) (.q b h.toNat k (n - h.toNat))
       | _=>none
     | _,_=>none) else none
   | none=>none
 | _,_=>none
noncomputable def rd (P:Program) [KD P] (e:AE) (s:S):Op->Option (V×Nat)
 | .load t x => match evv e x, P.underlying t with
   | some (.p b o), some D => match ldc s b with
     | some cs => match JO D, (P.info? t).map (·.size) with
       | true,some k=>bif Nat.ble (o+k) cs.length then some (.a ((cs.drop o).take k),b) else none
       | false, _ => match cs[o]? with
         | some v=>some (v,b)
         | none=>none
       | _,_=>none
     | none=>none
   | _,_=>none
 | .lookup t x k false => match evv e x, evv e k with
   | some (.m b),some kv=>(Ziu P s t b kv).map λv=>(v,b)
   | _,_=>none
 | .slice t x lo hi none => match evv e x with
   | some (.l b n)=>(Zmq P e s t b n lo hi).map λv=>(v,b)
   | _=>none
 | _=>none
def mfl {P:Program} (K:KI P) (p:V×V):Option (K.κ×V):=(K.dec p.1).map λb=>(b,p.2)
theorem Z3b {P:Program} {K:KI P} {a:K.κ}:∀ {l:List (V×V)} {r:List V},Z90 K a l=some r->(∀ p∈l,∃ b,K.dec p.1=some b)/\r=((l.filterMap (mfl K)).filter λq=>@decide (q.1=a) (K.de q.1 a)).map (·.2)
 | [],r,h=>by simp only [Z90,Xh] at h;subst h;exact ⟨by simp,rfl⟩
 | (q, v) :: t, r, h => by
   simp only [Z90] at h;split at h;rename_i b l' h1 h2;obtain ⟨h3,h4⟩:=Z3b h2;have hf:mfl K (q,v)=some (b,v):=by simp [mfl,h1]
   refine ⟨λp hp=>(Xd.1 hp).elim (λe=>⟨b,by rw [e];exact h1⟩) (h3 p),?_⟩;rw [List.filterMap_cons_some hf];split at h;rename_i e e';cases h;rw [YaS (by simpa using e),XQ,h4];rename_i e e';cases h;rw [YaT (by simpa using e),h4];cases h
theorem Z4S {P:Program} {K:KI P} (L:Lc):∀ {l:List (V×V)},(∀ p∈l,∃ b,K.dec p.1=some b)->l.map (λp=>ga L p.1)=(l.filterMap (mfl K)).map (λq=>K.ek.enc q.1)/\l.map (λp=>ga L p.2)=(l.filterMap (mfl K)).map (λq=>ga L q.2)
 | [],_=>⟨rfl,rfl⟩
 | p :: l, h => by
   obtain ⟨b,hb⟩:=h p (.head _);obtain ⟨h1,h2⟩:=Z4S L (l:=l) (λq hq=>h q (.tail _ hq));have hf:mfl K p=some (b,p.2):=by simp [mfl,hb]
   rw [List.filterMap_cons_some hf,XQ,XQ,XQ,XQ,h1,h2,K.ok L p.1 b hb];exact ⟨rfl,rfl⟩
theorem Zj0 {P:Program} {K:KI P} {L:Lc} {w} {r:Nat} {l:List (V×V)} (h:Z8Z L w r l) (hd:∀ p∈l,∃ b,K.dec p.1=some b):∃ N:List (K.κ×V),N.Perm (l.filterMap (mfl K))/\Ja K.ek.enc w r (N.map λq=>(q.1,ga L q.2)):=by
 obtain ⟨l',h1,es,c,h2,h3,h4⟩:=h;obtain ⟨k1,k2⟩:=Z4S (K:=K) L (l:=l') (λp hp=>hd p (h1.mem_iff.1 hp));refine ⟨l'.filterMap (mfl K),h1.filterMap _,es,c,h2,?_,?_⟩;rw [h3,k1,Yad];rfl;rw [h4,k2,Yad];rfl
theorem Z7A {κ:Type} [DecidableEq κ] (N N':List (κ×V)) (hp:N'.Perm N) (L:Lc) (a:κ) (z:Value):(∀ v,(N.filter λq=>decide (q.1=a)).map (·.2)=[v]->Z1V (N'.map λq=>(q.1,ga L q.2)) a z=ga L v)/\
 ((N.filter λq=>decide (q.1=a)).map (·.2)=[]->Z1V (N'.map λq=>(q.1,ga L q.2)) a z=z):=by
 have hf:(N'.map λq=>(q.1,ga L q.2)).find? (λp=>decide (p.1=a))=((N'.filter λq=>decide (q.1=a)).head?).map λq=>(q.1,ga L q.2):=by
  rw [List.head?_filter,List.find?_map];rfl
 have hq:=hp.filter (λq=>decide (q.1=a));constructor;intro v hv;obtain ⟨q,kG,rfl⟩:=List.map_eq_singleton_iff.1 hv;rw [kG] at hq;unfold Z1V;rw [hf,List.perm_singleton.1 hq];rfl;intro hv;rw [List.map_eq_nil_iff.1 hv] at hq;unfold Z1V;rw [hf,hq.eq_nil];rfl
theorem Z8Z.same {L:Lc} {w w':World} {r:Nat} {l:List (V×V)} (h:Z8Z L w r l) (hS:w'.heap[r]?=w.heap[r]?):Z8Z L w' r l:=by
 obtain ⟨l',h1,es,c,h2,h3⟩:=h;exact ⟨l',h1,es,c,by rw [hS];exact h2,h3⟩
theorem Ziv {P:Program} [KD P] {n:Nat} {e:AE} {w w':World} {d:Option Nat} {ty:TypeId} {pos:String} {af:Array Edge} {g:Option (Nat×Bool)} {L:Lc} {s:S} {op:Op} {v:V} {b:Nat}
 (h:Rel L s w) (hr:rd P e s op=some (v,b)) (hS:w'.heap[(L b).1]?=w.heap[(L b).1]?):PR P n ⟨d,op,ty,pos,af,g⟩ (ge L e) w' (ga L v):=by
 unfold rd at hr;split at hr;split at hr;rename_i b' o D h1 h2;have u1:Und P _ D:=⟨h2⟩
 split at hr;rename_i cs h3;split at hr;rename_i k hA h4;obtain ⟨hk,hr⟩:=Jr hr;simp only [Xh,XG] at hr;obtain ⟨rfl,rfl⟩:=hr;have gU:=Xb hk;have u2:Siz P _ k:=⟨h4⟩
 refine Z1P (cs:=gl L ((cs.drop o).take k)) hA (Zi h.g h1) (by rw [ZQ,Xv,X4];omega) (λj u hu=>?_);rw [Z4a] at hu;rw [XB] at hu;obtain ⟨u',eW,rfl⟩:=hu;have hj:=(Xn.1 eW).1;rw [Xv] at hj;rw [Ybg (by omega),Ybm] at eW;rw [World.cell?_of_block (w:=w) hS];exact Z1c h h3 eW;rename_i _ hA;split at hr;rename_i u h4;cases hr;exact ZP hA (Zi h.g h1) (by rw [World.cell?_of_block (w:=w) hS];exact Z1c h h3 h4);cases hr;cases hr;cases hr;cases hr;split at hr;rename_i b' kv h1 h2;rw [XB] at hr;obtain ⟨v',hr,hp⟩:=hr;simp only [XG] at hp;obtain ⟨rfl,rfl⟩:=hp;unfold Ziu at hr;split at hr;rename_i kt et h3;split at hr;rename_i l K z h4 h5 h6;obtain rfl:=Zcw h5;split at hr;rename_i a h7;have hm:Z8Z L w (L b').1 l:=h.ob b' _ h4;have u1:Und P _ (.map K.kt et):=⟨h3⟩
 have u2:Zer P et z:=⟨h6⟩
 have hk:=Zi h.g h2;rw [K.ok L kv a h7] at hk;have fin:∀ r,Z90 K a l=some r->∃ N:List (K.κ×V),N.Perm (l.filterMap (mfl K))/\PR P n ⟨d,.lookup _ _ _ false,ty,pos,af,g⟩ (ge L e) w' (@Z1V K.κ K.de (N.map λq=>(q.1,ga L q.2)) a z):=λr hr=>by
  obtain ⟨N,q1,q2⟩:=Zj0 (K:=K) (hm.same hS) (Z3b hr).1;exact ⟨N,q1,@Z1b P n (ge L e) w' d ty pos af g _ K.kt et _ K.κ K.de _ _ z u1 K.ek u2 _ a (Zi h.g h1) hk q2⟩
 split at hr;rename_i h8;cases hr;obtain ⟨N,q1,q2⟩:=fin _ h8;rw [(@Z7A K.κ K.de _ N q1 L a z).2 (Z3b h8).2.symm] at q2;rw [Zmp];exact q2;rename_i h8;cases hr;obtain ⟨N,q1,q2⟩:=fin _ h8;rw [(@Z7A K.κ K.de _ N q1 L a z).1 _ (Z3b h8).2.symm] at q2;exact q2;cases hr;cases hr;cases hr;cases hr;cases hr;split at hr;rename_i b' m h1;rw [XB] at hr;obtain ⟨v',hr,hp⟩:=hr;simp only [XG] at hp;obtain ⟨rfl,rfl⟩:=hp;unfold Zmq at hr;split at hr;rename_i T z cs el h2 h3;split at hr;rename_i k h4;obtain ⟨hc,hr⟩:=Jr hr;simp only [Xa] at hc;have c1:0<z:=Xb hc.1;have c2:=Xb hc.2;obtain ⟨rest,-,ac,-⟩:=h.ob b' _ h2;obtain ⟨r1,r2⟩:=ac (by omega);have jl:m<=(L b').2:=Ya8 (by omega) c1;have u1:Und P _ (.slice el):=⟨h3⟩
 have u2:Siz P el k:=⟨h4⟩
 have ex:=Zi h.g h1;split at hr;rename_i ho;split at hr;rename_i hh h5;obtain ⟨h6,rfl⟩:=JL hr;have h6:=of_decide_eq_true h6;obtain ⟨j,rfl⟩:∃ j:Nat,hh=(j:Int):=⟨hh.toNat,by omega⟩
 exact ⟨λa ha=>by simp [execOp,ha.ev ex,ha.ev (Zi h.g h5),ga,Instr.sliceAt,run_underlying u1.h,Instr.slice,Instr.sliceBounds,Instr.sliceBound,asIntOf,u2.run,Addr.add_lit,show j<=(L b').2 by omega]⟩;cases hr;rename_i ho;split at hr;rename_i hh h5;obtain ⟨h6,rfl⟩:=JL hr;have h6:=of_decide_eq_true h6;obtain ⟨j,rfl⟩:∃ j:Nat,hh=(j:Int):=⟨hh.toNat,by omega⟩
 refine ⟨λa ha=>?_⟩;by_cases e1:(L b').2=j;have e2:m=j:=by omega
 simp [execOp,ha.ev ex,ha.ev (Zi h.g h5),ga,Instr.sliceAt,run_underlying u1.h,Instr.slice,Instr.sliceBounds,Instr.sliceBound,asIntOf,u2.run,Addr.add_lit,e1,e2];have e3:(Nat.beq (m - j) 0 && Nat.beq (L b').2 j)=false:=by rw [Z8V e1,YbU]
 have e4:ga L (.q b' j k (m - j))=.slice (some ⟨(L b').1,j * k,none⟩) (m - j) ((L b').2 - j):=by simp only [ga];rw [e3];rfl
 rw [Ybo,e4];simp [execOp,ha.ev ex,ha.ev (Zi h.g h5),ga,Instr.sliceAt,run_underlying u1.h,Instr.slice,Instr.sliceBounds,Instr.sliceBound,asIntOf,u2.run,Addr.add_lit,e1,show j<=m by omega];cases hr;cases hr;cases hr;cases hr;cases hr;cases hr
def upd (L:Lc) (n:Nat) (p:Nat×Nat):Lc:=λk=>if k=n then p else L k
theorem Z3H {L:Lc} {n k:Nat} {p:Nat×Nat} (h:k≠n):upd L n p k=L k:=if_neg h
theorem ZD (L:Lc) (n:Nat) (p:Nat×Nat):upd L n p n=p:=if_pos rfl
theorem Z0p {L:Lc} {n:Nat} {p:Nat×Nat}:∀ k,k<n->upd L n p k=L k:=λ_ hk=>Z3H (Nat.ne_of_lt hk)
def Z3c (s:S) (o:O):Option S:=bif o.bd s.n then some ⟨s.m.put (some o) s.n,s.n+1⟩ else none
theorem Rel.new' {L:Lc} {s s':S} {w} {o:O} {p:Nat×Nat} (h:Rel L s w) (hn:Z3c s o=some s') (hf:∀ k o',s.m.get k=some o'->(L k).1≠p.1) (ho:Ob (upd L s.n p) w s.n o):Rel (upd L s.n p) s' w/\s'.n=s.n+1:=by
 unfold Z3c at hn;obtain ⟨h2,hn⟩:=Jr hn;simp only [Xh] at hn;subst hn;have cb:∀ k,(Tr.put (some o) s.m s.n).get k=if k=s.n then some o else s.m.get k:=λk=>Tr.get_put _ _ _ _
 have n64:=h.n64;refine ⟨⟨λg hg=>?_,λk o' hk=>?_,λk o' hk=>?_,λj k hj hk he=>?_,by show 64<=s.n+1;omega⟩,rfl⟩;rw [Z0p g (by omega)];exact h.g g hg;dsimp only at hk;rw [cb] at hk;by_cases e:k=s.n;rw [if_pos e] at hk;cases hk;subst e;exact ho;rw [if_neg e] at hk;obtain ⟨a,b⟩:=h.bn k o' hk;exact (h.ob k o' hk).eq (Z0p k a) b Z0p;dsimp only at hk;rw [cb] at hk;by_cases e:k=s.n;rw [if_pos e] at hk;cases hk;exact ⟨by show k<s.n+1;omega,O.bd_le (YbV _) h2⟩;rw [if_neg e] at hk;obtain ⟨a,b⟩:=h.bn k o' hk;exact ⟨Nat.lt_succ_of_lt a,O.bd_le (YbV _) b⟩;dsimp only at hj hk;rw [cb] at hj hk;by_cases e1:j=s.n;by_cases e2:k=s.n;rw [e1,e2];rw [if_neg e2] at hk;obtain ⟨o',fE⟩:=X1.1 hk;rw [e1,ZD,Z0p k (h.bn k o' fE).1] at he;exact absurd he.symm (hf k o' fE);rw [if_neg e1] at hj;obtain ⟨o',fE⟩:=X1.1 hj;by_cases e2:k=s.n;rw [e2,ZD,Z0p j (h.bn j o' fE).1] at he;exact absurd he (hf j o' fE);rw [if_neg e2] at hk;obtain ⟨o2,lF⟩:=X1.1 hk;rw [Z0p j (h.bn j o' fE).1,Z0p k (h.bn k o2 lF).1] at he;exact h.inj j k (by rw [fE];rfl) hk he
theorem Rel.up {L:Lc} {s:S} {w w':World} (h:Rel L s w) (hS:Stp [] w w'):Rel L s w':=⟨h.g,λk o hk=>(h.ob k o hk).ext hS (by simp),h.bn,h.inj,h.n64⟩
theorem Rel.new {L:Lc} {s s':S} {w w':World} {o:O} {p:Nat×Nat} (h:Rel L s w) (hn:Z3c s o=some s') (hT:Stp [] w w') (hb:w.heap.size<=p.1) (ho:Ob (upd L s.n p) w' s.n o) :
 Rel (upd L s.n p) s' w'/\Nx s s' L (upd L s.n p) w w' []/\s'.n=s.n+1:=by
 obtain ⟨a1,a2⟩:=(h.up hT).new' hn (λk o' hk he=>by have:=(h.ob k o' hk).lt;omega) ho;refine ⟨a1,⟨by omega,Z0p,λk h3 h4=>?_,by simpa [ids] using hT⟩,a2⟩;obtain rfl:k=s.n:=by omega
 rw [ZD];exact .inl hb
def Z4T (s:S) (k:Nat) (o:Option O):S:=⟨s.m.put o k,s.n⟩
theorem Rel.set {L:Lc} {s:S} {w w':World} {k:Nat} {o o':O} (h:Rel L s w) (hk:s.m.get k=some o) (hS:Stp [(L k).1] w w') (ho:Ob L w' k o') (hb:o'.bd s.n=true) :
 Rel L (Z4T s k (some o')) w'/\Nx s (Z4T s k (some o')) L L w w' [k]:=by
 have iN:=(h.bn k o hk).1;have cb:∀ j,(Tr.put (some o') s.m k).get j=if j=k then some o' else s.m.get j:=λj=>Tr.get_put _ _ _ _
 have fr:∀ j,((Tr.put (some o') s.m k).get j).isSome=true->(s.m.get j).isSome=true:=λj hj=>by
  rw [cb] at hj;by_cases e:j=k;rw [e,hk];rfl
  rwa [if_neg e] at hj
 refine ⟨⟨h.g,λj o1 hj=>?_,λj o1 hj=>?_,λi j hi hj he=>h.inj i j (fr i hi) (fr j hj) he,h.n64⟩,⟨Xm _,λ_ _=>rfl,λj h1 h2=>absurd h2 (Ya0.2 h1),?_⟩⟩;dsimp only [Z4T] at hj;rw [cb] at hj;by_cases e:j=k;rw [if_pos e] at hj;cases hj;exact e ▸ ho;rw [if_neg e] at hj;exact (h.ob j o1 hj).ext hS (by
  simp only [Xw];exact λhe=>e (h.inj j k (by rw [hj];rfl) (by rw [hk];rfl) he))
 dsimp only [Z4T] at hj;rw [cb] at hj;by_cases e:j=k;rw [if_pos e] at hj;cases hj;exact ⟨e ▸ iN,hb⟩;rw [if_neg e] at hj;exact h.bn j o1 hj;refine hS.mono (λb hb=>?_);simp only [Xw] at hb;exact Je.2 ⟨k,by simp,iN,hb.symm⟩
theorem Rel.kill {L:Lc} {s:S} {w} {k:Nat} (h:Rel L s w) (hk:k<s.n):Rel L (Z4T s k none) w:=by
 have cb:∀ j,(Tr.put (none:Option O) s.m k).get j=if j=k then none else s.m.get j:=λj=>Tr.get_put _ _ _ _
 have fr:∀ j o,(Tr.put (none:Option O) s.m k).get j=some o->s.m.get j=some o:=λj o hj=>by
  rw [cb] at hj;by_cases e:j=k;rw [if_pos e] at hj;cases hj
  rwa [if_neg e] at hj
 refine ⟨h.g,λj o hj=>h.ob j o (fr j o hj),λj o hj=>h.bn j o (fr j o hj),λi j hi hj he=>?_,h.n64⟩;obtain ⟨a,ha⟩:=X1.1 hi;obtain ⟨b,hb⟩:=X1.1 hj;exact h.inj i j (by rw [fr i a ha];rfl) (by rw [fr j b hb];rfl) he
def oc:V->Bool
 | .a _=>false
 | .t _=>false
 | .c v=>v.oneCell'
 | _=>true
theorem Z91 {L:Lc} {v:V} (h:oc v=true):(ga L v).oneCell'=true:=by
 cases v<;>first|rfl|exact h|cases h
abbrev Rs:=Option V×S×List Nat
noncomputable def stA (P:Program) (e:AE) (s:S) (t:Nat) (x y:Operand):Option Rs:=match evv e x,evv e y with
 | some (.p b o), some v => match s.m.get b, (P.info? t).map (·.size) with
   | some (.c T z cs),some m=>bif decide ((vc v).length=m) && (vc v).all oc && Nat.ble (o+(vc v).length) cs.length && bl s.n (vc v) then some (none,Z4T s b (some (.c T z (cs.take o++vc v++cs.drop (o+(vc v).length)))),[b]) else none
   | _,_=>none
 | _,_=>none
def Po (L:Lc) (s:S) (w:World) (r:Rs) (u:Value) (w':World):Prop:=∃ L',Nx s r.2.1 L L' w w' r.2.2/\Rel L' r.2.1 w'/\∀ v,r.1=some v->u=ga L' v
section
variable {P:Program} {n:Nat} {e:AE} {w:World} {d:Option Nat} {ty:TypeId} {pos:String} {af:Array Edge} {g:Option (Nat×Bool)} {L:Lc} {s:S}
theorem Zj1 {t:Nat} {x y:Operand} {r:Rs} (h:Rel L s w) (hr:stA P e s t x y=some r):OE P n ⟨d,.store t x y,ty,pos,af,g⟩ (ge L e) w (Po L s w r):=by
 unfold stA at hr;split at hr;rename_i b o v h1 h2;split at hr;rename_i T z cs m h3 h4;obtain ⟨hc,hr⟩:=Jr hr;simp only [Xh] at hr;subst hr;simp only [Xa] at hc;obtain ⟨⟨⟨c1,c2⟩,c3⟩,c4⟩:=hc;have c1:=of_decide_eq_true c1;have c3:=Xb c3;have u1:Siz P t m:=⟨h4⟩
 obtain ⟨rest,hB,ac,fZ⟩:=h.ob b _ h3;have am:=ZQ L cs;refine (Z4J (us:=gl L (vc v)) (Zi h.g h1) (Zi h.g h2) (Zct L v) (by rw [ZQ];exact c1) (λc hc=>?_) hB (by rw [ZQ,Xe,am];omega)).mono (λu w' hw=>?_);rw [J1] at hc;obtain ⟨q,hq,rfl⟩:=XE.1 hc;exact Z91 (XS.1 c2 q hq);obtain ⟨hS,gV⟩:=hw;have lG:=(h.bn b _ h3).2;have key:((gl L cs++rest).take o++gl L (vc v)++(gl L cs++rest).drop (o+(gl L (vc v)).length))=gl L (cs.take o++vc v++cs.drop (o+(vc v).length))++rest:=by
  rw [ZQ,Yav (by rw [am];omega),List.drop_append_of_le_length (by rw [am];omega)];simp only [J1,XL,List.map_take,List.map_drop,XA]
 rw [key] at gV;obtain ⟨a1,a2⟩:=h.set (o':=.c T z (cs.take o++vc v++cs.drop (o+(vc v).length))) h3 hS ⟨rest,gV,λhz=>by
  have:=ac hz;refine ⟨?_,this.2⟩;rw [<- this.1];simp only [Xe,Xv,X4];omega,fZ⟩ ((Z17 _ _).2 λq hq=>by
   have jm:=(Z17 _ _).1 (show bl s.n cs=true from lG);rcases Xg.1 hq with hq|hq
   rcases Xg.1 hq with hq|hq
   exact jm q (YaK hq);exact (Z17 _ _).1 c4 q hq;exact jm q (List.mem_of_mem_drop hq))
 exact ⟨L,a2,a1,λv hv=>by cases hv⟩;cases hr;cases hr
end
def zro (z:Value) (N:Nat):List V:=(List.range N).map λi=>ofC (z.cells[i % z.cells.size]!)
theorem Z92 (L:Lc) (z:Value) (N:Nat):gl L (zro z N)=((Array.range N).map (z.cells[· % z.cells.size]!)).toList:=by
 rw [J1];simp [zro,Yad,Function.comp_def,Z4O]
def byV (c:UInt8):V:=.i .u8 (c.toNat:Int)
inductive Kv where
 | p
 | l (n:Nat)
 | m
def Kv.v:Kv->Nat->V
 | .p,k=>.p k 0
 | .l n,k=>.l k n
 | .m,k=>.m k
theorem Kv.eq {L L':Lc} {k:Nat} (h:L' k=L k) (f:Kv):ga L' (f.v k)=ga L (f.v k):=by cases f<;>simp only [Kv.v,ga,h]
noncomputable def mkO (P:Program) (e:AE):Op->Option (Kv×O)
 | .alloc t => match (P.info? t).bind (·.zero) with
   | some z=>some (.p,.c t 0 (z.cells.toList.map ofC))
   | none=>none
 | .box t x => match evv e x with
   | some v=>some (.p,.c t 0 (vc v))
   | none=>none
 | .buildSlice t len ps => match parts e ps.toList, P.underlying t with
   | some ps, some (.slice el) => match P.info? el with
     | some ie => match ie.zero with
       | some z => bif Nat.blt 0 (len * ie.size) && Nat.ble (len * ie.size) 100000 && Nat.ble len maxLen then
          (match Z4P (λi=>some (i * ie.size,ie.size)) (zro z (len * ie.size)) ps with
          | some cs=>bif Nat.beq cs.length (len * ie.size) then some (.l len,.c el ie.size cs) else none
          | none=>none) else none
       | none=>none
     | none=>none
   | _,_=>none
 | .range t x => match evv e x with
   | some (.s z)=>bif isT P t then some (.p,.it z 0) else none
   | _=>none
 | .convert sr ds x => match evv e x, P.underlying ds with
   | some (.s z), some (.slice el) => match P.underlying el with
     | some (.int .u8)=>bif isT P sr && Nat.ble z.length 100000 then some (.l z.length,.ro (z.map byV)) else none
     | _=>none
   | _,_=>none
 | .makeMap t none=>some (.m,.mp [])
 | .makeSlice t x y => match P.underlying t, evv e x, evv e y with
   | some (.slice el), some (.i .i64 n), some (.i .i64 m) => match P.info? el with
     | some ie => match ie.zero with
       | some z=>bif decide (n=m/\0<=n/\n<=1000000) && Nat.blt 0 ie.size && Nat.ble ie.bytes 1000000 then some (.l n.toNat,.c el ie.size (zro z (n.toNat * ie.size))) else none
       | none=>none
     | none=>none
   | _,_,_=>none
 | .call ⟨.builtin .append, ⟨[x, y]⟩, ⟨[t, t']⟩⟩ => match P.underlying t, P.underlying t', evv e x, evv e y with
   | some (.slice el), some (.int kn), some (.c (.N)), some (.i .i64 n) => match P.info? el with
     | some ie => match ie.zero with
       | some z=>bif decide (0<n/\n<=1000000) && Nat.beq z.cells.size ie.size && Nat.blt 0 ie.size && Nat.ble ie.bytes 1000000 then some (.l n.toNat,.c el ie.size (zro z (n.toNat * z.cells.size))) else none
       | none=>none
     | none=>none
   | _,_,_,_=>none
 | _=>none
def ZaX (L:Lc) (w:World) (k:Nat) (f:Kv) (o:O) (u:Value) (w':World):Prop:=∃ p:Nat×Nat,w.heap.size<=p.1/\Stp [] w w'/\Ob (upd L k p) w' k o/\u=ga (upd L k p) (f.v k)
noncomputable def nxA (e:AE) (s:S) (x:Operand):Option Rs:=match evv e x with
 | some (.p b 0) => match s.m.get b with
   | some (.it z p) => match z[p]? with
     | some c=>bif Nat.blt c.toNat 128 then some (some (.t [.b true,.i .i64 p,.i .i32 c.toNat]),Z4T s b (some (.it z (p+1))),[b]) else none
     | none=>some (some (.t [.b false]),s,[])
   | _=>none
 | _=>none
section
variable {P:Program} {n:Nat} {e:AE} {w:World} {d:Option Nat} {ty:TypeId} {pos:String} {af:Array Edge} {g:Option (Nat×Bool)} {L:Lc} {s:S}
theorem Zcx {k T z c b:Nat} {cs:List V} {f:Kv} {u:Value} {w':World} (rest:List Value) (hb:w.heap.size<=b) (hB:Blk w' b T (gl L cs++rest)) (hT:Stp [] w w') (eF:bl k cs=true) (hz:z≠0->cs.length+rest.length=c * z/\c<=maxLen) (h0:z=0->rest=[])
 (hu:u=ga (upd L k (b,c)) (f.v k)):ZaX L w k f (.c T z cs) u w':=
 ⟨(b,c),hb,hT,⟨rest,by rw [ZD,Z38 (L:=L) Z0p cs eF];exact hB,λh=>by rw [ZD];exact hz h,h0⟩,hu⟩
theorem Zcy {src dst el:TypeId} {x:Operand} {z:Str} {E:Env} [hs:Und P src .string] [hd:Und P dst (.slice el)] [he:Und P el (.int .u8)] (hx:ev E x=some (str z)) (hl:z.length<=1000000) :
 OE P n ⟨d,.convert src dst x,ty,pos,af,g⟩ E w (λv w'=>(∃ c,v=.slice (some ⟨w.heap.size,0,none⟩) z.length c)/\w.heap.size<w'.heap.size/\(∀ i u,(z.map byV)[i]?=some u->w'.cell? ⟨w.heap.size,i,none⟩=some (ga L u))/\Stp [] w w'):=by
 refine Zs (v:=.slice (some ⟨w.heap.size,0,none⟩) z.length (grownCap w z.length 0 el)) (w':=Go.Lib.bytesWorld w el ⟨z.toArray⟩) (λa ha=>?_) ⟨⟨_,rfl⟩,by rw [Go.Lib.bytesWorld_size];omega,λi u hu=>?_,?_⟩;have h:=Go.Lib.run_convert_string_bytes (P:=P) w src dst el ⟨z.toArray⟩ hs.h hd.h he.h;simp only [J5] at h;simp [execOp,ha.ev hx,h];rw [Yag,XB] at hu;obtain ⟨c,hc,rfl⟩:=hu;have hi:=(Xn.1 hc).1;have hz:=(Xn.1 hc).2;have h:=Go.Lib.bytesWorld_cell w el ⟨z.toArray⟩ i (by rw [J5];exact hi);rw [h];simp [byV,ga,hi,hz];refine ⟨rfl,rfl,rfl,?_,λb hb _=>Go.Lib.bytesWorld_at_old w el _ b hb⟩;rw [Go.Lib.bytesWorld_size];omega
theorem Z93 {op:Op} {f:Kv} {o:O} (k:Nat) (hG:Gl L) (hr:mkO P e op=some (f,o)) (hk:o.bd k=true):OE P n ⟨d,op,ty,pos,af,g⟩ (ge L e) w (ZaX L w k f o):=by
 unfold mkO at hr;split at hr;split at hr;rename_i z h1;cases hr;have u1:Zer P _ z:=⟨h1⟩
 refine Z4.mono (λu w' hw=>?_);obtain ⟨b,rfl,hb,hB,hT⟩:=hw;exact Zcx (c:=0) [] hb (by rw [Z6y,XJ];exact hB) hT hk (λh=>absurd rfl h) (λ_=>rfl) (by simp only [Kv.v,ga,ZD]);cases hr;split at hr;rename_i v h1;cases hr;refine (Zl (Zi hG h1)).mono (λu w' hw=>?_);obtain ⟨b,rfl,hb,hB,hT⟩:=hw;exact Zcx (c:=0) [] hb (by rw [<- Zct,XJ];exact hB) hT hk (λh=>absurd rfl h) (λ_=>rfl) (by simp only [Kv.v,ga,ZD]);cases hr;split at hr;rename_i vs el h1 h2;split at hr;rename_i ie h3;split at hr;rename_i z h4;obtain ⟨hc,hr⟩:=Jr hr;simp only [Xa] at hc;obtain ⟨⟨c1,c2⟩,c3⟩:=hc;have c1:=Xb c1;have c2:=Xb c2;have c3:=Xb c3;split at hr;rename_i cs h5;obtain ⟨hl,hr⟩:=Jr hr;have hl:=Xk hl;cases hr;have hf:=Z3a L _ _ _ _ h5;rw [Z92,XW] at hf;have hb:∀ w:World,(Instr.buildSlice _ _ (gp L vs).toArray).run P w=.ok (.slice (some ⟨w.heap.size,0,none⟩) _ _) (w.alloc (.cells (gl L cs).toArray el)):=λw=>
  run_buildSlice w _ el _ _ _ ie z h2 h3 h4 (by omega) (by omega) hf
 have:=Z3 (P:=P) (n:=n) (w:=w) (d:=d) (ty:=ty) (pos:=pos) (af:=af) (g:=g) (Z4Q hG h1) hb;rw [XW] at this;refine this.mono (λu w' hw=>?_);obtain ⟨b,rfl,bQ,hB,hT⟩:=hw;exact Zcx (c:=_) [] bQ (by rw [XJ];exact hB) hT hk (λ_=>⟨by rw [Xr];exact hl,c3⟩) (λ_=>rfl) (by simp only [Kv.v,ga,ZD]);cases hr;cases hr;cases hr;cases hr;split at hr;rename_i z h1;obtain ⟨ht,hr⟩:=Jr hr;have:=Z1v ht;cases hr;refine (Zcm (Zi hG h1)).mono (λu w' hw=>?_);obtain ⟨b,rfl,hb,hI,hT⟩:=hw;exact ⟨(b,0),hb,hT,by show Itr _ _ _ _;rw [ZD];exact hI,by simp only [Kv.v,ga,ZD]⟩;cases hr;split at hr;rename_i z el h1 h2;split at hr;rename_i h3;obtain ⟨hc,hr⟩:=Jr hr;simp only [Xa] at hc;have u1:=Z1v hc.1;have u2:Und P _ (.slice el):=⟨h2⟩
 have u3:Und P el (.int .u8):=⟨h3⟩
 cases hr;have hz:=Xb hc.2;refine (Zcy (L:=L) (Zi hG h1) (by omega)).mono (λu w' hw=>?_);obtain ⟨⟨c,rfl⟩,ah,ak,hT⟩:=hw;refine ⟨(w.heap.size,c),Xm _,hT,?_,by simp only [Kv.v,ga,ZD]⟩;show (upd L k (w.heap.size,c) k).1 < _/\_;rw [ZD];refine ⟨ah,λi u hu=>?_⟩;have:=ak i u hu;rw [Yag,XB] at hu;obtain ⟨q,-,rfl⟩:=hu;exact this;cases hr;cases hr;cases hr;exact Zs (v:=.map (some w.heap.size)) (w':=w.alloc (.map #[] 0)) (λa ha=>by simp [execOp,run_makeMap]) ⟨(w.heap.size,0),Xm _,Stp.alloc _ _ _,⟨[],YaA _,#[],0,by rw [ZD];exact heap_alloc_new w _,rfl,rfl⟩,by simp only [Kv.v,ga,ZD]⟩;split at hr;rename_i el nn m h1 h2 h3;split at hr;rename_i ie h4;split at hr;rename_i z h5;obtain ⟨hc,aV⟩:=Jr hr;simp only [Xa] at hc;obtain ⟨⟨c1,c2⟩,c3⟩:=hc;obtain ⟨rfl,c4,c5⟩:=of_decide_eq_true c1;have c2:0<ie.size:=Xb c2;have c3:=Xb c3;cases aV;obtain ⟨j,rfl⟩:∃ j:Nat,nn=(j:Int):=⟨nn.toNat,by omega⟩
 have hj:j<=1000000:=by omega
 rw [Ybo] at hk ⊢;have lH:ie.bytes * j<=281474976710656:=Xl (Ya9 c3 hj) (by decide);obtain ⟨w',aI,bA,ji⟩:=run_make_full (P:=P) w w.heap.size _ el ie z ie.size h1 h4 h5 rfl .i64 .i64 j lH (by simp only [maxLen];omega) (Xm _);refine Zs (v:=.slice (some ⟨w.heap.size,0,none⟩) j j) (w':=w') (λa ha=>by simp [execOp,ha.ev (Zi hG h2),ha.ev (Zi hG h3),ga,aI]) ?_;rcases bA.2 with ⟨h,_⟩|⟨gb,cap,cur,h,fw,hg,hn,hm,aH,n3⟩
 cases h;cases h;have hl:(gl L (zro z (j * ie.size))).length=j * ie.size:=by rw [ZQ];simp [zro]
 refine Zcx (c:=j) [] (Xm _) (by
  rw [XJ,Z92];show _=some _;rw [hg,<- XW (xs:=cur),<- XH (l:=cur.toList) (i:=j * ie.size) (by rw [XK,aH];exact Xm _),n3];rfl) (Stp.of_grown ji) hk (λ_=>⟨by rw [Xr,<- ZQ L];exact hl,by simp only [maxLen];omega⟩) (λ_=>rfl) (by simp only [Kv.v,ga,ZD])
 cases hr;cases hr;cases hr;split at hr;rename_i el kn nn h1 h2 h3 h4;split at hr;rename_i ie h5;split at hr;rename_i z h6;obtain ⟨hc,hr⟩:=Jr hr;simp only [Xa] at hc;obtain ⟨⟨⟨c1,c2⟩,c3⟩,c4⟩:=hc;obtain ⟨c5,c6⟩:=of_decide_eq_true c1;have c2:=Xk c2;have c3:0<ie.size:=Xb c3;have c4:=Xb c4;cases hr;obtain ⟨j,rfl⟩:∃ j:Nat,nn=(j:Int):=⟨nn.toNat,by omega⟩
 have hj:j<=1000000:=by omega
 rw [Ybo] at hk ⊢;have lH:j * ie.bytes<=281474976710656:=Xl (Ya9 hj c4) (by decide);have aI:=Go.Lib.run_append_nil_zeros (P:=P) w _ _ ty el ie z .i64 kn h1 h2 h5 h6 j (by omega) c3 (by omega) lH;have fu:=grownCap_ge w j 0 el;refine Zs (v:=.slice (some ⟨w.heap.size,0,none⟩) j (grownCap w j 0 el)) (w':=w.drew.alloc (.cells (Builtin.zeroCells z.cells j++Builtin.zeroCells z.cells (grownCap w j 0 el - j)) el)) (λa ha=>by
  have e1:=ha.ev (Zi hG h3);have e2:=ha.ev (Zi hG h4);simp only [ga] at e1 e2;simp [execOp,resolve,invoke,builtin,e1,e2,aI]) ?_
 refine Zcx (c:=grownCap w j 0 el) (Builtin.zeroCells z.cells (grownCap w j 0 el - j)).toList (Xm _) (by
  rw [Z92];have:=heap_alloc_new w.drew (.cells (Builtin.zeroCells z.cells j++Builtin.zeroCells z.cells (grownCap w j 0 el - j)) el);show _=some _;rw [show w.heap.size=w.drew.heap.size from rfl,this];congr 2;apply Array.ext';simp [Builtin.zeroCells]) ((Stp.drew [] w).trans (Stp.alloc [] _ _)) hk (λ_=>⟨by
   have q1:(zro z (j * z.cells.size)).length=j * z.cells.size:=by simp [zro]
   have q2:(Builtin.zeroCells z.cells (grownCap w j 0 el - j)).toList.length=(grownCap w j 0 el - j) * z.cells.size:=by rw [XK,size_zeroCells]
   rw [q1,q2,c2,<- YbS];congr 1;omega,grownCap_le_maxLen w j 0 el (by simp only [maxLen];omega)⟩) (λh0=>by omega) (by simp only [Kv.v,ga,ZD])
 cases hr;cases hr;cases hr;cases hr
theorem Zmr {x:Operand} {r:Rs} (h:Rel L s w) (hr:nxA e s x=some r):OE P n ⟨d,.next x true,ty,pos,af,g⟩ (ge L e) w (Po L s w r):=by
 unfold nxA at hr;split at hr;rename_i b h1;split at hr;rename_i z p h2;have hI:Itr w (L b).1 z p:=h.ob b _ h2;split at hr;rename_i c h3;obtain ⟨ha,hr⟩:=Jr hr;cases hr;have hp:=(Xn.1 h3).1;have hc:z[p]=c:=(Xn.1 h3).2;have hd:=ZaP hp (by rw [hc];exact Xb ha);refine (Zft (Zi h.g h1) hI hp).mono (λu w' hw=>?_);obtain ⟨rfl,hI',hS⟩:=hw;rw [hd] at hI';obtain ⟨a1,a2⟩:=h.set (o':=.it z (p+1)) h2 hS hI' rfl;exact ⟨L,a2,a1,λv' hv=>by cases hv;simp only [ga,gl,hd,hc]⟩;rename_i h3;cases hr;refine (Z8R (Zi h.g h1) hI (by simpa using h3)).mono (λu w' hw=>?_);obtain ⟨rfl,rfl⟩:=hw;exact ⟨L,Nx.refl _ _ _,h,λv' hv=>by cases hv;rfl⟩;cases hr;cases hr
end
noncomputable def ZfO (e:AE) (s:S) (y:Operand) (k:Nat):Option (Nat×List V):=match evv e y with
 | some (.l b m) => match ldc s b with
   | some cs=>bif Nat.ble (m * k) cs.length then some (m,cs.take (m * k)) else none
   | none=>none
 | some (.c (.N))=>some (0,[])
 | _=>none
def Z7B (s:S) (b:Nat):S:=Z4T s b none
noncomputable def Zms (s:S) (el k:Nat) (xv:V) (m:Nat) (news:List V):Option Rs:=match xv with
 | .c (.N) => match m with
   | 0=>some (some xv,s,[])
   | _ => match Z3c s (.c el k news) with
     | some s'=>some (some (.l s.n m),s',[])
     | none=>none
 | .l b n => match s.m.get b with
   | some (.c T z cs) => bif Nat.beq T el && Nat.beq z k && Nat.ble (n * k) cs.length && Nat.ble (n + m) 1000000 then (match m with
     | 0=>some (some xv,s,[])
     | _ => match Z3c (Z7B s b) (.c el k (cs.take (n * k) ++ news)) with
       | some s'=>some (some (.l s.n (n+m)),s',[b])
       | none=>none) else none
   | _=>none
 | _=>none
noncomputable def apA (P:Program) (e:AE) (s:S):Op->Option Rs
 | .call ⟨.builtin .append, ⟨[x, y]⟩, ⟨[t, t']⟩⟩ => match P.underlying t with
   | some (.slice el) => match P.info? el with
     | some ie => match ie.zero with
       | some z => bif Nat.beq t t' && Nat.beq z.cells.size ie.size && Nat.blt 0 ie.size && Nat.ble ie.bytes 1000000 then (match evv e x, ZfO e s y ie.size with
         | some xv,some (m,news)=>bif news.all oc && Nat.ble m 1000000 then Zms s el ie.size xv m news else none
         | _,_=>none) else none
       | none=>none
     | none=>none
   | _=>none
 | .call ⟨.builtin .copy, ⟨[x, y]⟩, ⟨[t, _]⟩⟩ => match P.underlying t, evv e x with
   | some (.slice el), some (.l b n) => match (P.info? el).map (·.size) with
     | some k => match s.m.get b, ZfO e s y k with
       | some (.c T z cs),some (m,news)=>bif Nat.ble m n && news.all oc && bl s.n news && Nat.ble news.length cs.length then some (some (.i .i64 m),Z4T s b (some (.c T z (news++cs.drop news.length))),[b]) else none
       | _,_=>none
     | none=>none
   | _,_=>none
 | _=>none
section
variable {P:Program} {n:Nat} {e:AE} {w:World} {d:Option Nat} {ty:TypeId} {pos:String} {af:Array Edge} {g:Option (Nat×Bool)} {L:Lc} {s:S}
theorem Zac {E:Env} {x y:Operand} {t el m c j:Nat} {ie:TypeInfo} {z v:Value} {a:Addr} {xs news:List Value} (ht:P.underlying t=some (.slice el)) (hi:P.info? el=some ie) (hz:ie.zero=some z) (ee:z.cells.size=ie.size) (aO:0<ie.size) (lc:ie.bytes<=1000000)
 (hx:ev E x=some v) (hy:ev E y=some (.slice (some a) m c)) (bA:w.ownsRow 0 el ie.size v j xs) (hl:news.length=m * ie.size) (bP:∀ j u,news[j]?=some u->w.cell? (a.add j)=some u) (h1:∀ u∈news,u.oneCell'=true) (hm:0<m) (pV:j+m<=2000000) :
 OE P n ⟨d,.call { callee:=.builtin .append,args:=#[x,y],argTypes:=#[t,t] },ty,pos,af,g⟩ E w (λv' w'=>∃ q cap rest,v'=.slice (some ⟨q,0,none⟩) (j+m) cap/\Blk w' q el (xs++news++rest)/\(xs++news).length+rest.length=cap * ie.size/\cap<=maxLen/\Stp (ob v) w w'/\(q∈ob v\/w.heap.size<=q)):=by
 have iO:(j+m) * ie.bytes<=140737488355328:=Xl (Ya9 pV lc) (by omega);have gW:j+m<=maxLen:=by simp only [maxLen];omega
 obtain ⟨v',w',aI,h2,h3,h4⟩:=run_append_own (P:=P) w 0 t ty el ie z ie.size ie.bytes ht hi hz rfl rfl ee aO v j xs bA a m c news hl bP h1 gW iO (Xu _);have ab:=Z32 (P:=P) ht hi hz rfl rfl bA hl bP h1 gW iO aI;have hS:Stp (ob v) w w':=by rw [<- Z8L];exact Stp.of_grown h3
 refine Zs (v:=v') (w':=w') (λa ha=>by simp [execOp,resolve,invoke,builtin,ha.ev hx,ha.ev hy,aI]) ?_;rcases h2.2 with ⟨rfl,h0⟩|⟨q,cap,cur,rfl,hb,hg,bj,aW,aH,fx⟩
 omega;refine ⟨q,cap,cur.toList.drop ((j+m) * ie.size),rfl,?_,?_,aW,hS,ab q (by simp [ob])⟩;rw [<- fx,Xy];exact hg;rw [<- aH,<- fx,Xv,X4,XK];omega
theorem Zad {E:Env} {x y:Operand} {t el j c c':Nat} {p q:Option Addr} [ht:Und P t (.slice el)] {k:Nat} [hk:Siz P el k] (hx:ev E x=some (.slice p j c)) (hy:ev E y=some (.slice q 0 c')) (hj:j<=c) :
 OE P n ⟨d,.call { callee:=.builtin .append,args:=#[x,y],argTypes:=#[t,t] },ty,pos,af,g⟩ E w (λv w'=>v=.slice p j c/\w'=w):=by
 refine Zs (v:=.slice p j c) (w':=w) (λa ha=>?_) ⟨rfl,rfl⟩;have h1:(Builtin.firstCells k 0 (.slice q 0 c')).run P w=.ok #[] w:=by
  cases q with
  | none=>simp [Builtin.firstCells]
  | some a=>have:=run_loadCells_list (P:=P) (w:=w) a [] (by simp);simpa [Builtin.firstCells] using this
 have h2:(Builtin.append_ #[t,t] ty #[.slice p j c,.slice q 0 c']).run P w=.ok (.slice p j c) w:=by
  cases p<;>simp [Builtin.append_,run_underlying ht.h,Siz.run,Builtin.lenOf,h1,hj,storeCells]
 simp [execOp,resolve,invoke,builtin,ha.ev hx,ha.ev hy,h2]
theorem Zcz {E:Env} {x y:Operand} {t t' T el k b m N c c':Nat} {p:Option Addr} {news cs:List Value} [ht:Und P t (.slice el)] [hk:Siz P el k] (hx:ev E x=some (.slice (some ⟨b,0,none⟩) N c)) (hy:ev E y=some (.slice p m c')) (hm:m<=N)
 (jo:(Builtin.firstCells k m (.slice p m c')).run P w=.ok news.toArray w) (hB:Blk w b T cs) (hl:news.length<=cs.length) (az:∀ u∈news,u.oneCell'=true) :
 OE P n ⟨d,.call { callee:=.builtin .copy,args:=#[x,y],argTypes:=#[t,t'] },ty,pos,af,g⟩ E w (λv w'=>v=.I m/\Blk w' b T (news++cs.drop news.length)/\Stp [b] w w'):=by
 have ax:=run_storeCells_at (P:=P) b 0 T news 0 cs.toArray w hB (by simpa using hl) az;simp only [YaY,XO,List.take_zero,XM] at ax;refine Zs (v:=goInt m) (w':=w.setRow b (news++cs.drop news.length).toArray) (λa ha=>?_) ⟨rfl,setRow_heap w b cs.toArray _ T (0,0) hB,JB _ _ _⟩;have hr:(Builtin.copy_ #[t,t'] ty #[.slice (some ⟨b,0,none⟩) N c,.slice p m c']).run P w=.ok (goInt m) (w.setRow b (news++cs.drop news.length).toArray):=by
  simp [Builtin.copy_,run_underlying ht.h,Builtin.lenOf,Siz.run,jo,ax,X7 hm]
 generalize w.setRow b (news++cs.drop news.length).toArray=W' at hr ⊢;simp [execOp,resolve,invoke,builtin,ha.ev hx,ha.ev hy,hr]
theorem ZcA {y:Operand} {k m:Nat} {news:List V} (h:Rel L s w) (hr:ZfO e s y k=some (m,news)):∃ p c,ev (ge L e) y=some (.slice p m c)/\news.length=m * k/\(0<m->∃ b,p=some ⟨b,0,none⟩/\∀ j u,(gl L news)[j]?=some u->w.cell? ((⟨b,0,none⟩:Addr).add j)=some u):=by
 unfold ZfO at hr;split at hr;rename_i b' m' h1;split at hr;rename_i cs h2;have dK:=Jr hr;clear hr;obtain ⟨hc,hr⟩:=dK;cases hr;have c1:=Xb hc;refine ⟨_,_,Zi h.g h1,by rw [Xv];omega,λ_=>⟨_,rfl,λj u hu=>?_⟩⟩;rw [Z4a,XB] at hu;obtain ⟨q,hq,rfl⟩:=hu;have hj:=(Xn.1 hq).1;rw [Xv] at hj;rw [Ybg (by omega)] at hq;rw [Addr.add_lit,XO];exact Z1c h h2 hq;cases hr;rename_i h1;cases hr;exact ⟨_,_,Zi h.g h1,by simp,λh=>absurd h (YbK 0)⟩;cases hr
theorem Z6B (L:Lc) (a b:List V):gl L (a++b)=gl L a++gl L b:=by rw [J1,J1,J1,XL]
theorem Z4y {o:O} {s':S} (hn:Z3c s o=some s'):o.bd s.n=true:=(Jr hn).1
theorem Rel.grow {s':S} {w':World} {b:Nat} {o o':O} {p:Nat×Nat} (h:Rel L s w) (hb:s.m.get b=some o) (hn:Z3c (Z7B s b) o'=some s') (hS:Stp [(L b).1] w w') (hp:p.1=(L b).1\/w.heap.size<=p.1) (ho:Ob (upd L s.n p) w' s.n o') :
 Rel (upd L s.n p) s' w'/\Nx s s' L (upd L s.n p) w w' [b]:=by
 have gw:=(h.bn b o hb).1;have hk:=h.kill gw;have dc:∀ k,(Z7B s b).m.get k=if k=b then none else s.m.get k:=λk=>Tr.get_put _ _ _ _
 have dp:∀ k o1,(Z7B s b).m.get k=some o1->(L k).1≠(L b).1/\(L k).1<w.heap.size:=λk o1 bz=>by
  have ah:=(hk.ob k o1 bz).lt;rw [dc] at bz;by_cases e:k=b;rw [if_pos e] at bz;cases bz;rw [if_neg e] at bz;exact ⟨λhe=>e (h.inj k b (by rw [bz];rfl) (by rw [hb];rfl) he),ah⟩
 have gU:Rel L (Z7B s b) w':=⟨hk.g,λk o1 bz=>(hk.ob k o1 bz).ext hS (by simpa using (dp k o1 bz).1),hk.bn,hk.inj,hk.n64⟩
 obtain ⟨a1,a2⟩:=gU.new' hn (λk o1 bz he=>by
  obtain ⟨q1,q2⟩:=dp k o1 bz;rcases hp with hp|hp
  exact q1 (he.trans hp);omega) ho
 refine ⟨a1,⟨by show s.n<=_;rw [a2];exact YbV _,Z0p,λk h3 h4=>?_,hS.mono (λx hx=>?_)⟩⟩;have:k=s.n:=by rw [a2] at h4;have:k<s.n+1:=h4;omega
 subst this;rw [ZD];rcases hp with hp|hp
 exact .inr (Je.2 ⟨b,by simp,gw,hp.symm⟩);exact .inl hp;simp only [Xw] at hx;exact Je.2 ⟨b,by simp,gw,hx.symm⟩
theorem Po.same {v:V} {u:Value} (h:Rel L s w) (hu:u=ga L v):Po L s w (some v,s,[]) u w:=⟨L,Nx.refl _ _ _,h,λv' hv=>by cases hv;exact hu⟩
theorem Zmt {op:Op} {r:Rs} (h:Rel L s w) (hr:apA P e s op=some r):OE P n ⟨d,op,ty,pos,af,g⟩ (ge L e) w (Po L s w r):=by
 unfold apA at hr;split at hr;rename_i x y t t';split at hr;rename_i el h4;split at hr;rename_i ie h5;split at hr;rename_i z h6;have dK:=Jr hr;clear hr;obtain ⟨hc,hr⟩:=dK;simp only [Xa] at hc;obtain ⟨⟨⟨c1,c2⟩,c3⟩,c4⟩:=hc;obtain rfl:t=t':=Xk c1;have c2:=Xk c2;have c3:0<ie.size:=Xb c3;have c4:=Xb c4;have u1:Und P t (.slice el):=⟨h4⟩
 have u2:Siz P el ie.size:=⟨by rw [h5];rfl⟩
 split at hr;rename_i xv m news h7 h8;have dK:=Jr hr;clear hr;obtain ⟨hd,hr⟩:=dK;simp only [Xa] at hd;have d2:=Xb hd.2;obtain ⟨yp,yc,s1,s2,s4⟩:=ZcA h h8;have az:∀ u∈gl L news,u.oneCell'=true:=λu hu=>by
  rw [J1] at hu;obtain ⟨q,hq,rfl⟩:=XE.1 hu;exact Z91 (XS.1 hd.1 q hq)
 have hx:=Zi h.g h7;unfold Zms at hr;split at hr;split at hr;cases hr;refine (Zad hx s1 (Xu _)).mono (λu w' hw=>?_);obtain ⟨rfl,rfl⟩:=hw;exact Po.same h rfl;rename_i hm;have s3:0<m:=YbE hm;obtain ⟨yb,rfl,s5⟩:=s4 s3;split at hr;rename_i s' hn;cases hr;refine (Zac (j:=0) (xs:=[]) h4 h5 h6 c2 c3 c4 hx s1 (World.ownsRow_nil w 0 el ie.size) (by rw [ZQ];exact s2) s5 az s3 (by omega)).mono (λu w' hw=>?_);obtain ⟨q,cap,rest,rfl,hB,hL,aW,hS,hq⟩:=hw;have eF:=Z4y hn;obtain ⟨a1,a2,a3⟩:=h.new (p:=(q,cap)) hn (by simpa [ob,ga] using hS) (hq.elim (λhq=>by simp [ob,ga] at hq) id) ⟨rest,by rw [ZD,Z38 Z0p news eF];simpa using hB,λ_=>by rw [ZD];refine ⟨?_,aW⟩;rw [<- ZQ L news];simpa using hL,λh0=>by omega⟩;exact ⟨_,a2,a1,λv' hv=>by cases hv;simp only [ga,ZD,XO]⟩;cases hr;rename_i bx nn;split at hr;rename_i T z' cs h9;have dK:=Jr hr;clear hr;obtain ⟨hf,hr⟩:=dK;simp only [Xa] at hf;obtain ⟨⟨⟨f1,f2⟩,f3⟩,f4⟩:=hf;obtain rfl:T=el:=Xk f1;obtain rfl:z'=ie.size:=Xk f2;have f3:=Xb f3;have f4:=Xb f4;obtain ⟨rest,hB,ac,-⟩:=h.ob bx _ h9;obtain ⟨r1,r2⟩:=ac (by omega);have bj:nn<=(L bx).2:=Ya8 (by omega) c3;split at hr;cases hr;refine (Zad hx s1 bj).mono (λu w' hw=>?_);obtain ⟨rfl,rfl⟩:=hw;exact Po.same h rfl;rename_i hm;have s3:0<m:=YbE hm;obtain ⟨yb,rfl,s5⟩:=s4 s3;split at hr;rename_i s' hn;cases hr;have bA:w.ownsRow 0 T ie.size (.slice (some ⟨(L bx).1,0,none⟩) nn (L bx).2) nn (gl L (cs.take (nn * ie.size))):=⟨by rw [ZQ,Xv];omega,.inr ⟨(L bx).1,(L bx).2,(gl L cs++rest).toArray,rfl,Xu _,hB,bj,r2,by rw [XZ,Xe,ZQ];exact r1,by
  rw [List.toList_toArray,Yav (by rw [ZQ];omega),J1,J1,List.map_take]⟩⟩
 refine (Zac h4 h5 h6 c2 c3 c4 hx s1 bA (by rw [ZQ];exact s2) s5 az s3 (by omega)).mono (λu w' hw=>?_);obtain ⟨q,cap,rest',rfl,gV,hL,aW,hS,hq⟩:=hw;have eF:=Z4y hn;obtain ⟨a1,a2⟩:=h.grow (p:=(q,cap)) h9 hn (by simpa [ob,ga] using hS) (by simpa [ob,ga] using hq) ⟨rest',by
  rw [ZD,Z38 (L:=L) (n:=s.n) Z0p _ eF,Z6B];exact gV,λ_=>by rw [ZD];refine ⟨?_,aW⟩;rw [<- ZQ L (_++news),Z6B];exact hL,λh0=>by omega⟩
 exact ⟨_,a2,a1,λv' hv=>by cases hv;simp only [ga,ZD]⟩;cases hr;cases hr;cases hr;cases hr;cases hr;cases hr;cases hr;split at hr;rename_i el b N h1 h2;split at hr;rename_i k h3;split at hr;rename_i T z cs m news h4 h5;have dK:=Jr hr;clear hr;obtain ⟨hc,hr⟩:=dK;cases hr;simp only [Xa] at hc;obtain ⟨⟨⟨c1,c2⟩,c3⟩,c4⟩:=hc;have c1:=Xb c1;have c4:=Xb c4;have u1:Und P _ (.slice el):=⟨h1⟩
 have u2:Siz P el k:=⟨h3⟩
 obtain ⟨yp,yc,s1,s2,s4⟩:=ZcA h h5;obtain ⟨rest,hB,ac,fZ⟩:=h.ob b _ h4;have jo:(Builtin.firstCells k m (.slice yp m yc)).run P w=.ok (gl L news).toArray w:=by
  rcases YbF m with rfl|hm
  . have:news=[]:=X3.1 (by omega)
    subst this;cases yp with
    | none=>simp [Builtin.firstCells,gl]
    | some a=>have:=run_loadCells_list (P:=P) (w:=w) a [] (by simp);simpa [Builtin.firstCells,gl] using this
  obtain ⟨yb,rfl,s5⟩:=s4 hm;have:=run_loadCells_list (P:=P) (w:=w) ⟨yb,0,none⟩ (gl L news) s5;rw [ZQ,s2] at this;simpa [Builtin.firstCells] using this
 refine (Zcz (Zi h.g h2) s1 c1 jo hB (by rw [ZQ,Xe,ZQ];omega) (λu hu=>by
  rw [J1] at hu;obtain ⟨q,hq,rfl⟩:=XE.1 hu;exact Z91 (XS.1 c2 q hq))).mono (λu w' hw=>?_)
 obtain ⟨rfl,gV,hS⟩:=hw;have lG:=(Z17 _ _).1 (show bl s.n cs=true from (h.bn b _ h4).2);have key:gl L news++(gl L cs++rest).drop (gl L news).length=gl L (news++cs.drop news.length)++rest:=by
  rw [ZQ,List.drop_append_of_le_length (by rw [ZQ];omega)];simp only [J1,XL,List.map_drop,XA]
 rw [key] at gV;obtain ⟨a1,a2⟩:=h.set (o':=.c T z (news++cs.drop news.length)) h4 hS ⟨rest,gV,λhz=>by
  have:=ac hz;refine ⟨?_,this.2⟩;rw [<- this.1];simp only [Xe,X4];omega,fZ⟩ ((Z17 _ _).2 λq hq=>(Xg.1 hq).elim ((Z17 _ _).1 c3 q) (λhq=>lG q (List.mem_of_mem_drop hq)))
 exact ⟨L,a2,a1,λv hv=>by cases hv;rfl⟩;cases hr;cases hr;cases hr;cases hr
end
noncomputable def inA (P:Program) [KD P] (e:AE) (s:S) (t:Nat) (x k v:Operand):Option Rs:=match evv e x,evv e k,evv e v,P.underlying t with
 | some (.m b), some kv, some v, some (.map kt et) => match s.m.get b, kf (KD.l (P := P)) kt with
   | some (.mp l), some K => match K.dec kv with
     | some a => match Z90 K a l with
       | some []=>bif bl s.n [kv,v] then some (none,Z4T s b (some (.mp (l++[(kv,v)]))),[b]) else none
       | _=>none
     | none=>none
   | _,_=>none
 | _,_,_,_=>none
noncomputable def efA (P:Program) [KD P] (e:AE) (s:S):Op->Option Rs
 | .store t x y=>stA P e s t x y
 | .next x true=>nxA e s x
 | .insert t x k v=>inA P e s t x k v
 | .mapUpdate t x k v=>inA P e s t x k v
 | op => match mkO P e op with
   | some (f, o) => match Z3c s o with
     | some s'=>some (some (f.v s.n),s',[])
     | none=>none
   | none=>apA P e s op
section
variable {P:Program} [KD P] {n:Nat} {e:AE} {w:World} {d:Option Nat} {ty:TypeId} {pos:String} {af:Array Edge} {g:Option (Nat×Bool)} {L:Lc} {s:S}
theorem Ziw {t:Nat} {x k v:Operand} {r:Rs} (op:Op) (ho:op=.insert t x k v\/op=.mapUpdate t x k v) (h:Rel L s w) (hr:inA P e s t x k v=some r):OE P n ⟨d,op,ty,pos,af,g⟩ (ge L e) w (Po L s w r):=by
 unfold inA at hr;split at hr;rename_i b kv u kt et h1 h2 h3 h4;split at hr;rename_i l K h5 h6;obtain rfl:=Zcw h6;split at hr;rename_i a h7;split at hr;rename_i h8;have dK:=Jr hr;clear hr;obtain ⟨hb,hr⟩:=dK;cases hr;obtain ⟨l',q1,es,c,q2,q3,q4⟩:Z8Z L w (L b).1 l:=h.ob b _ h5;obtain ⟨m1,m2⟩:=Z3b h8;have m1':∀ p∈l',∃ b,K.dec p.1=some b:=λp hp=>m1 p (q1.mem_iff.1 hp);obtain ⟨k1,k2⟩:=Z4S (K:=K) L m1';have hM:Ja K.ek.enc w (L b).1 ((l'.filterMap (mfl K)).map λq=>(q.1,ga L q.2)):=⟨es,c,q2,by rw [q3,k1,Yad];rfl,by rw [q4,k2,Yad];rfl⟩
 have hn:∀ p∈(l'.filterMap (mfl K)).map (λq=>(q.1,ga L q.2)),¬ p.1=a:=λp hp he=>by
  obtain ⟨q,hq,rfl⟩:=XE.1 hp;have gQ:=((q1.filterMap (mfl K)).mem_iff).1 hq;have:q.2∈(((l.filterMap (mfl K)).filter λq=>@decide (q.1=a) (K.de q.1 a)).map (·.2)):=XE.2 ⟨q,X2.2 ⟨gQ,by simpa using he⟩,rfl⟩;rw [<- m2] at this;cases this
 have u1:Und P t (.map K.kt et):=⟨h4⟩
 have hk:=Zi h.g h2;rw [K.ok L kv a h7] at hk;have fin:∀ (u':Value) (w':World),Ja K.ek.enc w' (L b).1 ((l'.filterMap (mfl K)).map (λq=>(q.1,ga L q.2))++[(a,ga L u)])/\Stp [(L b).1] w w'->Po L s w (none,Z4T s b (some (.mp (l++[(kv,u)]))),[b]) u' w':=by
  rintro u' w' ⟨⟨es',c',p2,p3,p4⟩,hS⟩;obtain ⟨a1,a2⟩:=h.set (o':=.mp (l++[(kv,u)])) h5 hS ⟨l'++[(kv,u)],q1.append_right _,es',c',p2,by
   rw [p3,XL,XL,Yad,k1,XQ,XQ,K.ok L kv a h7];rfl,by
   rw [p4,XL,XL,Yad,k2];rfl⟩ (by
    show ((l++[(kv,u)]).all λp=>bl s.n [p.1,p.2])=true;rw [List.all_append,show (l.all λp=>bl s.n [p.1,p.2])=true from (h.bn b _ h5).2];simpa using hb)
  exact ⟨L,a2,a1,λv hv=>by cases hv⟩
 rcases ho with rfl|rfl
 exact (@Zf P n (ge L e) w d ty pos af g t K.kt et _ K.κ K.de _ _ _ u1 K.ek _ a _ (Zi h.g h1) hk (Zi h.g h3) hM hn).mono fin;exact (@Z1a P n (ge L e) w d ty pos af g t K.kt et _ K.κ K.de _ _ _ u1 K.ek _ a _ (Zi h.g h1) hk (Zi h.g h3) hM hn).mono fin;cases hr;cases hr;cases hr;cases hr
theorem Zmu {op:Op} {r:Rs} (h:Rel L s w) (hr:efA P e s op=some r):OE P n ⟨d,op,ty,pos,af,g⟩ (ge L e) w (Po L s w r):=by
 unfold efA at hr;split at hr;exact Zj1 h hr;exact Zmr h hr;exact Ziw _ (.inl rfl) h hr;exact Ziw _ (.inr rfl) h hr;split at hr;rename_i f o h1;split at hr;rename_i s' hn;cases hr;refine (Z93 s.n h.g h1 (Z4y hn)).mono (λu w' hw=>?_);obtain ⟨p,hp,hT,ho,hu⟩:=hw;obtain ⟨a1,a2,a3⟩:=h.new hn hT hp ho;exact ⟨_,a2,a1,λv hv=>by cases hv;exact hu⟩;cases hr;exact Zmt h hr
end
abbrev Cf:=Nat->List V->S->Option (V×S×List Nat)
noncomputable def cal (e:AE):Op->Option (Nat×List V)
 | .call c => match c.callee with
   | .value f => match evv e f, evs e c.args.toList with
     | some (.f g x y),some l=>some (g,x++l++y)
     | _,_=>none
   | _=>none
 | _=>none
def Z2L (P:Program) (call:Cf):Prop:=∀ f args s v s' ws,call f args s=some (v,s',ws)->bl s.n args=true->∀ L w,Rel L s w->Enters P f/\Calls P f (gl L args).toArray w (Ret λu w'=>∃ L',Nx s s' L L' w w' ws/\Rel L' s' w'/\u=ga L' v)
noncomputable def opV (P:Program) [KD P] (call:Cf) (e:AE) (s:S) (op:Op):Option Rs:=match pur P e op with
 | some v=>some (some v,s,[])
 | none => match rd P e s op with
   | some (v,_)=>some (some v,s,[])
   | none => match efA P e s op with
     | some r=>some r
     | none => match cal e op with
       | some (f, args) => bif bl s.n args then (match call f args s with
         | some (v,s',ws)=>some (some v,s',ws)
         | none=>none) else none
       | none=>none
section
variable {P:Program} [KD P] {n:Nat} {e:AE} {w:World} {d:Option Nat} {ty:TypeId} {pos:String} {af:Array Edge} {g:Option (Nat×Bool)} {L:Lc} {s:S} {call:Cf}
theorem Zj2 {P:Program} {op:Op} {f:Nat} {args:List V} {v:V} {s':S} {ws:List Nat} (hC:Z2L P call) (h:Rel L s w) (hc:cal e op=some (f,args)) (hb:bl s.n args=true) (hr:call f args s=some (v,s',ws)) :
 OE P n ⟨d,op,ty,pos,af,g⟩ (ge L e) w (Po L s w (some v,s',ws)):=by
 unfold cal at hc;split at hc;rename_i c;obtain ⟨cl,xs,ts⟩:=c;split at hc;rename_i fo h1
 try dsimp only at h1
 subst h1;split at hc;rename_i g' x y l h2 h3;simp only [Xh,XG] at hc;obtain ⟨rfl,rfl⟩:=hc;obtain ⟨hE,hk⟩:=hC _ _ _ _ _ _ hr hb L w h;have hf:=Zi h.g h2;refine ⟨λa ha Q=>?_⟩;have hv:=Z6z h.g h3 a ha;have he:(execOp a.eval ⟨d,.call { callee:=.value fo,args:=xs,argTypes:=ts },ty,pos,af,g⟩).run P w=.ok (.enter g' (gl L (x++l++y)).toArray) w:=by
  simp only [execOp,resolve,ha.ev hf,ga,Deferred.ofValue,hv];simp only [invoke];rw [Z6B,Z6B];have:=hE ((gl L x).toArray++(gl L l).toArray++(gl L y).toArray) w;simpa using this
 unfold Oper.wp;rw [he];simp only [Oper.upon];refine hk.mono ?_;rintro r w' ⟨u,rfl,L',h4,h5,h6⟩;exact ⟨u,rfl,L',h4,h5,λv' iM=>by cases iM;exact h6⟩;cases hc;cases hc;cases hc
theorem ZcB {op:Op} {r:Rs} (hC:Z2L P call) (h:Rel L s w) (hr:opV P call e s op=some r):OE P n ⟨d,op,ty,pos,af,g⟩ (ge L e) w (Po L s w r):=by
 unfold opV at hr;split at hr;rename_i v h1;cases hr;exact (Zch (Zcv h.g h1)).mono λu w' ⟨hu,hw⟩=>by subst hw;exact ⟨L,Nx.refl _ _ _,h,λv' hv=>by cases hv;exact hu⟩
 split at hr;rename_i v b h1;cases hr;exact (Zch (Ziv h h1 rfl)).mono λu w' ⟨hu,hw⟩=>by subst hw;exact ⟨L,Nx.refl _ _ _,h,λv' hv=>by cases hv;exact hu⟩
 split at hr;rename_i r' h1;cases hr;exact Zmu h h1;split at hr;rename_i f args h1;obtain ⟨hb,hr⟩:=Jr hr;split at hr;rename_i v s' ws h2;cases hr;exact Zj2 hC h h1 hb h2;cases hr;cases hr
def EB (n:Nat) (e:AE):Prop:=∀ t v,lk e t=some v->bd n v=true
theorem EB.le {m k:Nat} {e:AE} (h:EB m e) (hk:m<=k):EB k e:=λt v hv=>bd_le hk v (h t v hv)
def Z3I (n:Nat) (d:Option Nat) (r:Rs) (e:AE):Option (AE×S×List Nat):=match d,r.1 with
 | some d,some v=>bif bd r.2.1.n v && Nat.blt d n then some (pt d v e,r.2.1,r.2.2) else none
 | none,_=>some (e,r.2.1,r.2.2)
 | some _,none=>none
def Aft (n:Nat) (L:Lc) (e:AE) (u:Value) (L1:Lc) (e1:AE):Option Nat->Prop
 | some d=>Nat.blt d n=true/\∀ t v,Eng.look (ge L1 e1) t=some v->Eng.look ((d,u) :: ge L e) t=some v
 | none=>∀ t v,Eng.look (ge L1 e1) t=some v->Eng.look (ge L e) t=some v
theorem Z0V {r:Rs} {e1:AE} {s1:S} {ws:List Nat} {u:Value} {w':World} (hE:EB s.n e) (hp:Z3I n d r e=some (e1,s1,ws)) (hP:Po L s w r u w') :
 ∃ L1,Nx s s1 L L1 w w' ws/\Rel L1 s1 w'/\EB s1.n e1/\Aft n L e u L1 e1 d:=by
 obtain ⟨rv,s',ws'⟩:=r;obtain ⟨L1,hN,hR,hu⟩:=hP;have old:∀ t x,lk e t=some x->ga L1 x=ga L x:=λt x hx=>Z48 hN.ag x (hE t x hx);unfold Z3I at hp;cases d with
 | none=>
   simp only [Xh,XG] at hp;obtain ⟨rfl,rfl,rfl⟩:=hp;refine ⟨L1,hN,hR,hE.le hN.le,λt v hv=>?_⟩;rw [JY,XB] at hv ⊢;obtain ⟨x,hx,rfl⟩:=hv;exact ⟨x,hx,(old t x hx).symm⟩
 | some dd=>
   cases rv with
   | none=>cases hp
   | some v=>
     simp only at hp;obtain ⟨hc,hp⟩:=Jr hp;simp only [Xh,XG] at hp;obtain ⟨rfl,rfl,rfl⟩:=hp;simp only [Xa] at hc;refine ⟨L1,hN,hR,λt x hx=>?_,hc.2,λt x hx=>?_⟩;rw [Z39] at hx;by_cases e1:dd=t;rw [if_pos e1] at hx;cases hx;exact hc.1;rw [if_neg e1] at hx;exact bd_le hN.le x (hE t x hx);rw [JY,Z39] at hx;rw [Zb];by_cases e1:dd=t;rw [if_pos e1] at hx ⊢;cases hx;rw [hu v rfl];rw [if_neg e1] at hx ⊢;rw [JY];rw [XB] at hx ⊢;obtain ⟨y,hy,rfl⟩:=hx;exact ⟨y,hy,(old t y hy).symm⟩
theorem WL.weak {P:Program} {ops:Array Oper} {Q:Exit->Act->World->Prop} {l:List Oper} {e e':Env} (hs:∀ t v,Eng.look e' t=some v->Eng.look e t=some v) (h:WL P n ops Q l e' w):WL P n ops Q l e w:=⟨λa ha=>h.h a (ha.weak hs)⟩
noncomputable def yl (ops:Array Oper) (e:AE) (j:Nat):Option V:=((ops[j]?).bind (·.dst)).bind (lk e)
theorem Zix (L:Lc) (ops:Array Oper) (e:AE) (j:Nat):yld ops (ge L e) j=(yl ops e j).map (ga L):=by
 unfold yld yl;cases (ops[j]?).bind (·.dst) with
 | none=>rfl
 | some d=>exact JY L e d
def ZpP:V->Bool->Bool
 | .b c,b=>c != b
 | .c v,b=>ZiI v b
 | _,_=>false
def okC:V->Bool->Bool
 | .b c,b=>c == b
 | _,_=>false
noncomputable def gdW (ops:Array Oper) (e:AE):Option (Nat×Bool)->Bool
 | none=>true
 | some (j, b) => match yl ops e j with
   | some v=>okC v b
   | none=>false
noncomputable def gdN (ops:Array Oper) (e:AE):Option (Nat×Bool)->Bool
 | none=>false
 | some (j, b) => match yl ops e j with
   | some v=>ZpP v b
   | none=>false
theorem ZcC {ops:Array Oper} {L:Lc} {j:Nat} {b:Bool} (h:gdW ops e (some (j,b))=true):yld ops (ge L e) j=some (.B b):=by
 simp only [gdW] at h;rw [Zix];cases hy:yl ops e j with
 | none=>rw [hy] at h;cases h
 | some v=>
   rw [hy] at h;cases v<;>first|cases h|(simp only [okC,beq_iff_eq] at h;subst h;rfl)
theorem Z94 {ops:Array Oper} {L:Lc} {g:Option (Nat×Bool)} (h:gdN ops e g=true):noB ops (ge L e) g=true:=by
 cases g with
 | none=>cases h
 | some p=>
   obtain ⟨j,b⟩:=p;simp only [gdN] at h;simp only [noB,Zix];cases hy:yl ops e j with
   | none=>rw [hy] at h;cases h
   | some v=>
     rw [hy] at h;cases v<;>first|cases h|exact h
noncomputable def Z7C (P:Program) [KD P] (call:Cf) (n:Nat) (ops:Array Oper):List Oper->AE->S->Option (AE×S×List Nat)
 | [],e,s=>some (e,s,[])
 | o :: r, e, s => match gdW ops e o.guard with
   | true => match opV P call e s o.op with
     | some q => match Z3I n o.dst q e with
       | some (e1, s1, w1) => match Z7C P call n ops r e1 s1 with
         | some (e2,s2,w2)=>some (e2,s2,w1++w2)
         | none=>none
       | none=>none
     | none=>none
   | false => match gdN ops e o.guard, Z3I n o.dst (some (.c undef), s, []) e with
     | true,some (e1,s1,_)=>Z7C P call n ops r e1 s1
     | _,_=>none
theorem Z1W {ops:Array Oper} {Q:Exit->Act->World->Prop} {rest:List Oper} (hC:Z2L P call):∀ (l:List Oper) (e:AE) (s:S) (e':AE) (s':S) (ws:List Nat) (L:Lc) (w),Z7C P call n ops l e s=some (e',s',ws)->Rel L s w->EB s.n e->
 (∀ L' w',Nx s s' L L' w w' ws->Rel L' s' w'->EB s'.n e'->WL P n ops Q rest (ge L' e') w')->WL P n ops Q (l++rest) (ge L e) w
 | [], e, s, e', s', ws, L, w, h, hR, hE, k => by
   simp only [Z7C,Xh,XG] at h;obtain ⟨rfl,rfl,rfl⟩:=h;exact k L w (Nx.refl _ _ _) hR hE
 | o :: r, e, s, e', s', ws, L, w, h, hR, hE, k => by
   obtain ⟨d,op,ty,pos,af,g⟩:=o;simp only [Z7C] at h;split at h;rename_i hg;split at h;rename_i q h1;split at h;rename_i e1 s1 w1 h2;split at h
   . rename_i e2 s2 w2 h3
     simp only [Xh,XG] at h;obtain ⟨rfl,rfl,rfl⟩:=h;have go:WL P n ops Q (⟨d,op,ty,pos,af,none⟩ :: (r++rest)) (ge L e) w:=by
      have hO:=ZcB (n:=n) (d:=d) (ty:=ty) (pos:=pos) (af:=af) (g:=none) hC hR h1;cases d with
      | none=>
        refine Z5 hO (λu w1' hu=>?_);obtain ⟨L1,a1,a2,a3,a4⟩:=Z0V hE h2 hu;exact WL.weak a4 (Z1W hC r e1 s1 e2 s2 w2 L1 w1' h3 a2 a3 (λL' w' b1 b2 b3=>k L' w' (a1.trans b1) b2 b3))
      | some dd=>
        have aD:Nat.blt dd n=true:=by
         obtain ⟨rv,sx,wx⟩:=q;cases rv with
         | none=>cases h2
         | some v=>
           simp only [Z3I] at h2;cases hc:(bd sx.n v && Nat.blt dd n) with
           | false=>rw [hc] at h2;cases h2
           | true=>simp only [Xa] at hc;exact hc.2
        refine Z0 hO aD (λu w1' hu=>?_);obtain ⟨L1,a1,a2,a3,a4⟩:=Z0V hE h2 hu;exact WL.weak a4.2 (Z1W hC r e1 s1 e2 s2 w2 L1 w1' h3 a2 a3 (λL' w' b1 b2 b3=>k L' w' (a1.trans b1) b2 b3))
     cases g with
     | none=>exact go
     | some p=>
       obtain ⟨j,b⟩:=p;exact Zir (ZcC hg) go
   cases h;cases h;cases h;split at h
   . rename_i e1 s1 _ hg h2
     have hu:Po L s w (some (.c undef),s,[]) undef w:=⟨L,Nx.refl _ _ _,hR,λv hv=>by cases hv;rfl⟩
     obtain ⟨L1,a1,a2,a3,a4⟩:=Z0V hE h2 hu;have hq:Nx s s1 L L1 w w []:=by
      cases d with
      | none=>simp only [Z3I,Xh,XG] at h2;obtain ⟨-,-,rfl⟩:=h2;exact a1
      | some dd=>
        simp only [Z3I] at h2;cases hc:(bd s.n (V.c undef) && Nat.blt dd n) with
        | false=>rw [hc] at h2;cases h2
        | true=>rw [hc] at h2;simp only [cond_true,Xh,XG] at h2;obtain ⟨-,-,rfl⟩:=h2;exact a1
     have ih:=Z1W hC r e1 s1 e' s' ws L1 w h a2 a3 (λL' w' b1 b2 b3=>k L' w' (by simpa using hq.trans b1) b2 b3);cases g with
     | none=>cases hg
     | some p=>
       obtain ⟨j,b⟩:=p;cases d with
       | none=>exact Zc3 (Z94 hg) (WL.weak a4 ih)
       | some dd=>exact Z9Z (Z94 hg) a4.1 (WL.weak a4.2 ih)
   cases h
theorem ZfP {ops:Array Oper} {Q:Exit->Act->World->Prop} (hC:Z2L P call) (l:List Oper) (e:AE) (s:S) (e':AE) (s':S) (ws:List Nat) (L:Lc) (w) (h:Z7C P call n ops l e s=some (e',s',ws)) (hR:Rel L s w) (hE:EB s.n e)
 (k:∀ L' w',Nx s s' L L' w w' ws->Rel L' s' w'->EB s'.n e'->WQ n Q .normal (ge L' e') w'):WL P n ops Q l (ge L e) w:=by
 have:=Z1W (rest:=[]) (Q:=Q) hC l e s e' s' ws L w h hR hE (λL' w' a b c=>Z3E (k L' w' a b c))
 rwa [XJ] at this
end
end Go.Sim
namespace Go.EngB
open Go Go.Eng Go.RowKit Go.Proofs
structure StpB (S:Nat×List Nat) (w w':World):Prop where
 os:w'.os=w.os
 tape:w'.tape=w.tape
 output:w'.output=w.output
 size:w.heap.size<=w'.heap.size
 block:∀ b,b<S.1->b∉S.2->w'.heap[b]?=w.heap[b]?
theorem StpB.refl (S:Nat×List Nat) (w):StpB S w w:=⟨rfl,rfl,rfl,Xm _,λ_ _ _=>rfl⟩
theorem StpB.trans {S:Nat×List Nat} {a b c:World} (h:StpB S a b) (k:StpB S b c):StpB S a c:=
 ⟨k.os.trans h.os,k.tape.trans h.tape,k.output.trans h.output,Xl h.size k.size,λx hx hn=>(k.block x hx hn).trans (h.block x hx hn)⟩
theorem StpB.of {B:Nat} {S:List Nat} {w w':World} (h:Stp S w w') (hB:B<=w.heap.size) (hS:∀ b∈S,B<=b):StpB (B,[]) w w':=
 ⟨h.os,h.tape,h.output,h.size,λb hb _=>h.block b (Xj hb hB) (λhm=>by have:=hS b hm;omega)⟩
theorem StpB.blk {B b T:Nat} {cs:List Value} {w w':World} (h:StpB (B,[]) w w') (hb:Blk w b T cs) (hl:b<B):Blk w' b T cs:=by
 unfold Blk at *;rw [h.block b hl (by simp)];exact hb
instance:Rl (Nat×List Nat):=⟨StpB,StpB.refl,λh k=>h.trans k⟩
abbrev WD (P:Program) (n:Nat) (ops:Array Oper) (S:Nat×List Nat) (Lt:List Nat) (Q:Exit->Act->World->Prop) (ord:List (Nat×Nat)) (e:Env) (w:World):Prop:=WG P n ops S Lt Q ord e w
section
variable {P:Program} {n:Nat} {Q:Exit->Act->World->Prop} {e:Env} {w:World} {ops:Array Oper} {Lt:List Nat} {rest:List (Nat×Nat)} {i d:Nat} {op:Op} {ty:TypeId} {pos:String} {af:Array Edge} {gd:Option (Nat×Bool)} {v:Value}
theorem WC_drawn {id:Nat} {l:List Oper} (m:Nat) (S:Nat×List Nat) (Lt:List Nat) (ord:List (Nat×Nat)) (dl:l.length=m) (hm:P.follows .mixedOrders=true) (hs:Region.noSelect l.toArray=true) (hl:Nat.beq (wt ord) l.length=true)
 (hB:ZW l.toArray Lt ord (Array.replicate m false)=true)
 (h:∀ w',Stp [] w w'->WD P n l.toArray S Lt Q ord e w'):WC P n (.region id l.toArray true) Q e w:=Z5O m S Lt ord dl hm hs hl hB h
theorem WD_read {S:Nat×List Nat} (hi:ops[i]?=some ⟨some d,op,ty,pos,af,gd⟩) (hg:Z0f ops e gd) (hp:∀ w',StpB S w w'->PR P n ⟨some d,op,ty,pos,af,gd⟩ e w' v) (aD:Nat.blt d n=true)
 (k:WD P n ops S Lt Q rest ((d,v) :: e) w):WD P n ops S Lt Q ((i,1) :: rest) e w:=Za4 hi hg hp aD k
end
end Go.EngB
namespace Go.Sim
open Go Go.Eng Go.RowKit Go.Proofs
abbrev Dr:=AE×S×List Nat×List Nat×List Nat
noncomputable def drS (P:Program) [KD P] (call:Cf) (n:Nat) (ops:Array Oper) (Lt:List Nat):List (Nat×Nat)->Bool->AE->S->Option Dr
 | [],_,e,s=>some (e,s,[],[],[])
 | (i, t) :: r, fl, e, s => match ops[i]? with
   | none=>none
   | some o => match gdW ops e o.guard with
     | false => match gdN ops e o.guard, o.dst, Z3I n o.dst (some (.c undef), s, []) e, Nat.ble t 2 with
       | true,some _,some (e1,_,_),true=>drS P call n ops Lt r fl e1 s
       | _,_,_,_=>none
     | true => match t with
       | 0 => match pur P e o.op, o.dst with
         | some v, some d => match Z3I n (some d) (some v, s, []) e with
           | some (e1,_,_)=>drS P call n ops Lt r fl e1 s
           | none=>none
         | _,_=>none
       | 1 => match fl, rd P e s o.op, o.dst with
         | false, some (v, b), some d => match Z3I n (some d) (some v, s, []) e with
           | some (e1, _, _) => match drS P call n ops Lt r fl e1 s with
             | some (e2,s2,wE,wL,rs)=>some (e2,s2,wE,wL,b :: rs)
             | none=>none
           | none=>none
         | _,_,_=>none
       | 2 => match opV P call e s o.op with
         | some q => match Z3I n o.dst q e with
           | some (e1, s1, w1) => match Lt.contains i with
             | true => match drS P call n ops Lt r true e1 s1 with
               | some (e2,s2,wE,wL,rs)=>some (e2,s2,wE,w1++wL,rs)
               | none=>none
             | false => match fl with
               | true=>none
               | false => match drS P call n ops Lt r false e1 s1 with
                 | some (e2,s2,wE,wL,rs)=>some (e2,s2,w1++wE,wL,rs)
                 | none=>none
           | none=>none
         | none=>none
       | t + 3 => match r with
         | (q, 2) :: r' => match ops[q]? with
           | some oq => match o.guard, oq.guard, o.dst, oq.dst, mkO P e o.op, mkO P e oq.op with
             | none, none, some di, some dq, some (fi, oi), some (fq, ox) => match Z3c s oi with
               | some s1 => match Z3c s1 ox with
                 | some s2=>bif Nat.beq q t && Nat.blt (q+3) 100000 && Nat.blt di n && Nat.blt dq n && !Nat.beq di dq && ox.bd s.n && (lk e di).isNone && (lk e dq).isNone then drS P call n ops Lt r' fl (pt dq (fq.v (s.n+1)) (pt di (fi.v s.n) e)) s2 else none
                 | none=>none
               | none=>none
             | _,_,_,_,_,_=>none
           | none=>none
         | _=>none
noncomputable def ZcD (P:Program) [KD P] (call:Cf) (n:Nat) (ops:Array Oper) (Lt:List Nat) (ord:List (Nat×Nat)) (e:AE) (s:S):Option (AE×S×List Nat):=
 match drS P call n ops Lt ord false e s with
 | some (e1,s1,wE,wL,rs)=>bif rs.all (λb=>Nat.blt b s.n && (s.m.get b).isSome && !wE.contains b) && wE.all (λk=>Nat.ble s.n k || (s.m.get k).isSome) then some (e1,s1,wE++wL) else none
 | none=>none
def Zj3 (ops:Array Oper) (Lt:List Nat) (ord:List (Nat×Nat)):Bool:=Region.noSelect ops && Nat.beq (wt ord) ops.toList.length && ZW ops Lt ord (Array.replicate ops.toList.length false)
def chkC (od:Nat->Option (List Nat×List (Nat×Nat))):Code->Bool
 | .region id ops true => match od id with
   | some (Lt,ord)=>Zj3 ops Lt ord
   | none=>true
 | .seq a b=>chkC od a && chkC od b
 | .cond _ a b=>chkC od a && chkC od b
 | .block _ b=>chkC od b
 | .loop b=>chkC od b
 | .scope b=>chkC od b
 | _=>true
section
variable {P:Program} [KD P] {n:Nat} {w:World} {call:Cf}
theorem WDB.weak {P:Program} {ops:Array Oper} {Lt:List Nat} {Q:Exit->Act->World->Prop} {S:Nat×List Nat} {e e':Env} {ord:List (Nat×Nat)} (hs:∀ t v,Eng.look e' t=some v->Eng.look e t=some v) (h:EngB.WD P n ops S Lt Q ord e' w):EngB.WD P n ops S Lt Q ord e w:=⟨λlisted a b c ha=>h.h listed a b c (ha.weak hs)⟩
theorem Zj4 {ops:Array Oper} {L:Lc} {e:AE} {g:Option (Nat×Bool)} (h:gdW ops e g=true):Z0f ops (ge L e) g:=by
 cases g with
 | none=>trivial
 | some p=>exact ZcC h
theorem Z2m {d:Option Nat} {r:Rs} {e e1:AE} {s1:S} {ws:List Nat} (h:Z3I n d r e=some (e1,s1,ws)):s1=r.2.1/\ws=r.2.2/\∀ dd,d=some dd->Nat.blt dd n=true:=by
 unfold Z3I at h;split at h;rename_i d' v _;obtain ⟨hc,h⟩:=Jr h;simp only [Xh,XG] at h;simp only [Xa] at hc;exact ⟨h.2.1.symm,h.2.2.symm,λdd hd=>by cases hd;exact hc.2⟩;simp only [Xh,XG] at h;exact ⟨h.2.1.symm,h.2.2.symm,λdd hd=>by cases hd⟩;cases h
theorem Kv.bd_lt {k m:Nat} (h:k<m) (f:Kv):bd m (f.v k)=true:=by cases f<;>exact XV h
theorem Z7D {s s':S} {o:O} (h:Z3c s o=some s'):s'.n=s.n+1/\∀ k,s'.m.get k=if k=s.n then some o else s.m.get k:=by
 have:=(Jr h).2;simp only [Xh] at this;subst this;exact ⟨rfl,λk=>Tr.get_put _ _ _ _⟩
theorem Zj5 {e:AE} {L:Lc} {s s1 s2:S} {w':World} {oi ox:O} {fi fq:Kv} {di dq:Nat} {pi pq:Nat×Nat} (hR:Rel L s w) (hE:EB s.n e) (n1:Z3c s oi=some s1) (n2:Z3c s1 ox=some s2) (c6:ox.bd s.n=true) (h1:w.heap.size<=pi.1) (h2:w.heap.size<=pq.1) (h3:pi.1≠pq.1) (hS:Stp [] w w') (pW:Ob (upd L s.n pi) w' s.n oi) (lF:Ob (upd L (s.n+1) pq) w' (s.n+1) ox) :
 ∃ L2,Rel L2 s2 w'/\Nx s s2 L L2 w w' []/\EB s2.n (pt dq (fq.v (s.n+1)) (pt di (fi.v s.n) e))/\(∀ x,bd s.n x=true->ga L2 x=ga L x)/\ga L2 (fi.v s.n)=ga (upd L s.n pi) (fi.v s.n)/\ga L2 (fq.v (s.n+1))=ga (upd L (s.n+1) pq) (fq.v (s.n+1)):=by
 obtain ⟨a1,a2⟩:=Z7D n1;obtain ⟨b1,b2⟩:=Z7D n2;obtain ⟨r1,-⟩:=(hR.up hS).new' n1 (λk o' hk he=>by have:=(hR.ob k o' hk).lt;omega) pW;have q1:∀ k,k<s.n->upd (upd L s.n pi) (s.n+1) pq k=L k:=λk hk=>by rw [Z3H (by omega),Z3H (by omega)]
 have q2:upd (upd L s.n pi) (s.n+1) pq s.n=upd L s.n pi s.n:=Z3H (by omega);have q3:upd (upd L s.n pi) (s.n+1) pq (s.n+1)=upd L (s.n+1) pq (s.n+1):=by rw [ZD,ZD]
 obtain ⟨r2,-⟩:=r1.new' (p:=pq) n2 (λk o' hk he=>by
  rw [a2] at hk;by_cases e:k=s.n;subst e;rw [ZD] at he;exact h3 he;rw [if_neg e] at hk;rw [Z3H e] at he;have:=(hR.ob k o' hk).lt;omega) (by rw [a1];exact lF.eq q3 c6 (λk hk=>by rw [q1 k hk,Z3H (by omega)]))
 rw [a1] at r2;refine ⟨_,r2,⟨by omega,q1,λk g1 g2=>?_,by simpa [ids] using hS⟩,λt v hv=>?_,λx hx=>Z48 q1 x hx,Kv.eq q2 _,Kv.eq q3 _⟩;have:k=s.n\/k=s.n+1:=by omega
 rcases this with rfl|rfl
 rw [q2,ZD];exact .inl h1;rw [q3,ZD];exact .inl h2;rw [Z39] at hv;by_cases e1:dq=t;rw [if_pos e1] at hv;cases hv;exact Kv.bd_lt (by omega) _;rw [if_neg e1,Z39] at hv;by_cases e2:di=t;rw [if_pos e2] at hv;cases hv;exact Kv.bd_lt (by omega) _;rw [if_neg e2] at hv;exact bd_le (by omega) v (hE t v hv)
theorem Z2M {ops:Array Oper} {Lt:List Nat} {Q:Exit->Act->World->Prop} (hC:Z2L P call) {s0:S} {L0:Lc} {w0:World} {WE:List Nat} (eB:Rel L0 s0 w0) (gX:∀ k∈WE,k<s0.n->(s0.m.get k).isSome=true) :
 ∀ (ord : List (Nat × Nat)) (fl : Bool) (e : AE) (s : S) (e' : AE) (s' : S) (wE wL rs so : List Nat) (L : Lc) (w), drS P call n ops Lt ord fl e s = some (e', s', wE, wL, rs) -> Rel L s w -> EB s.n e -> Nx s0 s L0 L w0 w so -> (fl = false -> ∀ k ∈ so, k ∈ WE) -> (∀ k ∈ wE, k ∈ WE)->
   (∀ b∈rs,b<s0.n/\(s0.m.get b).isSome=true/\b∉WE)->(∀ L' w' so',Nx s0 s' L0 L' w0 w' so'->(∀ k∈so',k∈so\/k∈wE\/k∈wL)->Rel L' s' w'->EB s'.n e'->WQ n Q .normal (ge L' e') w')->
   EngB.WD P n ops (w0.heap.size,ids s0.n L0 WE) Lt Q ord (ge L e) w
 | [], fl, e, s, e', s', wE, wL, rs, so, L, w, h, hR, hE, hN, hf, hw, hr, k => by
   simp only [drS,Xh,XG] at h;obtain ⟨rfl,rfl,rfl,rfl,rfl⟩:=h;exact Z3F (k L w so hN (λk hk=>.inl hk) hR hE)
 | (i, t) :: r, fl, e, s, e', s', wE, wL, rs, so, L, w, h, hR, hE, hN, hf, hw, hr, k => by
   simp only [drS] at h;split at h;cases h;rename_i o hi;obtain ⟨d,op,ty,pos,af,g⟩:=o;dsimp only at h;split at h;rename_i gx;split at h;rename_i _ dd e1 s1 ws1 pX ht hp;obtain ⟨q1,q2,q3⟩:=Z2m hp;have hu:Po L s w (some (.c undef),s,[]) undef w:=⟨L,Nx.refl _ _ _,hR,λv hv=>by cases hv;rfl⟩
   obtain ⟨L1,a1,a2,a3,a4⟩:=Z0V hE hp hu
   try dsimp only at q1 q2
   subst q1;subst q2;have ih:=Z2M (Q:=Q) hC eB gX r fl e1 s1 e' s' wE wL rs so L1 w h a2 a3 (by simpa using hN.trans a1) hf hw hr k;have n4:=Xb ht;have lI:=Z94 (L:=L) pX;rcases (by omega:t=0\/t=1\/t=2) with rfl|rfl|rfl
   exact Z7n hi lI a4.1 (WDB.weak a4.2 ih);exact Z7o hi lI a4.1 (WDB.weak a4.2 ih);exact Z7p hi lI a4.1 (WDB.weak a4.2 ih);cases h;rename_i pY;have gy:=Zj4 (L:=L) pY;split at h;split at h;rename_i v dd hv;split at h;rename_i e1 s1 ws1 hp;obtain ⟨q1,q2,q3⟩:=Z2m hp
   try dsimp only at q1 q2
   subst q1;subst q2;have hu:Po L s1 w (some v,s1,[]) (ga L v) w:=⟨L,Nx.refl _ _ _,hR,λv' iM=>by cases iM;rfl⟩
   obtain ⟨L1,a1,a2,a3,a4⟩:=Z0V hE hp hu;have ih:=Z2M (Q:=Q) hC eB gX r fl e1 s1 e' s' wE wL rs so L1 w h a2 a3 (by simpa using hN.trans a1) hf hw hr k;exact Zg hi gy (λw'=>Zcv hR.g hv) a4.1 (WDB.weak a4.2 ih);cases h;cases h;split at h;rename_i v b dd hv;split at h;rename_i e1 s1 ws1 hp;obtain ⟨q1,q2,q3⟩:=Z2m hp
   try dsimp only at q1 q2
   subst q1;subst q2;split at h;rename_i e2 s2 wE' wL' rs' h2;simp only [Xh,XG] at h;obtain ⟨rfl,rfl,rfl,rfl,rfl⟩:=h;have hu:Po L s1 w (some v,s1,[]) (ga L v) w:=⟨L,Nx.refl _ _ _,hR,λv' iM=>by cases iM;rfl⟩
   obtain ⟨L1,a1,a2,a3,a4⟩:=Z0V hE hp hu;have ih:=Z2M (Q:=Q) hC eB gX r false e1 s1 e2 s2 wE' wL' rs' so L1 w h2 a2 a3 (by simpa using hN.trans a1) hf hw (λb hb=>hr b (X0 _ hb)) k;obtain ⟨b1,b2,b3⟩:=hr b (YaB);refine EngB.WD_read hi gy (λw' hS=>Ziv hR hv (hS.block _ ?_ ?_)) a4.1 (WDB.weak a4.2 ih);rw [hN.ag b b1];obtain ⟨ob,aJ⟩:=X1.1 b2;exact (eB.ob b ob aJ).lt;rw [hN.ag b b1];intro hm;obtain ⟨j,j1,j2,j3⟩:=Je.1 hm;exact b3 (eB.inj j b (gX j j1 j2) b2 j3 ▸ j1);cases h;cases h;cases h;split at h;rename_i q hq;split at h;rename_i e1 s1 w1 hp;obtain ⟨q1,q2,q3⟩:=Z2m hp;have hO:=ZcB (n:=n) (d:=d) (ty:=ty) (pos:=pos) (af:=af) (g:=g) hC hR hq;split at h;rename_i n5;split at h
   . rename_i e2 s2 wE' wL' rs' h2
     simp only [Xh,XG] at h;obtain ⟨rfl,rfl,rfl,rfl,rfl⟩:=h;have kk:∀ u w1',Po L s w q u w1'->∃ L1,Aft n L e u L1 e1 d/\EngB.WD P n ops (w0.heap.size,ids s0.n L0 WE) Lt Q r (ge L1 e1) w1':=λu w1' hu=>by
      obtain ⟨L1,a1,a2,a3,a4⟩:=Z0V hE hp hu;exact ⟨L1,a4,Z2M (Q:=Q) hC eB gX r true e1 s1 e2 s2 wE' wL' rs' (so++w1) L1 w1' h2 a2 a3 (hN.trans a1) (λh=>by cases h) hw hr (λL' w' so' c1 c2 c3 c4=>k L' w' so' c1 (λj hj=>by
       rcases c2 j hj with h|h|h
       rcases Xg.1 h with h|h
       exact .inl h;exact .inr (.inr (Xg.2 (.inl h)));exact .inr (.inl h);exact .inr (.inr (Xg.2 (.inr h)))) c3 c4)⟩
     cases d with
     | none=>exact Jg hi gy hO n5 (λu w1' hu=>by obtain ⟨L1,a4,ih⟩:=kk u w1' hu;exact WDB.weak a4 ih)
     | some dd=>exact Zfh hi gy hO n5 (q3 dd rfl) (λu w1' hu=>by obtain ⟨L1,a4,ih⟩:=kk u w1' hu;exact WDB.weak a4.2 ih)
   cases h;split at h;cases h;split at h
   . rename_i e2 s2 wE' wL' rs' h2
     simp only [Xh,XG] at h;obtain ⟨rfl,rfl,rfl,rfl,rfl⟩:=h;have br:=hf rfl;have hB:∀ u w1',Po L s w q u w1'->EngB.StpB (w0.heap.size,ids s0.n L0 WE) w w1':=λu w1' hu=>by
      obtain ⟨L1,a1,a2,a3⟩:=hu;refine ⟨a1.st.os,a1.st.tape,a1.st.output,a1.st.size,λb hb gz=>a1.st.block b (Xj hb hN.st.size) (λhm=>?_)⟩;obtain ⟨j,j1,j2,rfl⟩:=Je.1 hm;have jW:j∈WE:=hw j (Xg.2 (.inl (q2 ▸ j1)));by_cases hj:j<s0.n;exact gz (Je.2 ⟨j,jW,hj,(congrArg Prod.fst (hN.ag j hj)).symm⟩);rcases hN.nw j (Yba hj) j2 with g1|g1
      exact absurd hb (Ya0.2 g1);obtain ⟨i',i1,i2,i3⟩:=Je.1 g1;exact gz (Je.2 ⟨i',br i' i1,i2,i3⟩)
     have kk:∀ u w1',Po L s w q u w1'->∃ L1,Aft n L e u L1 e1 d/\EngB.WD P n ops (w0.heap.size,ids s0.n L0 WE) Lt Q r (ge L1 e1) w1':=λu w1' hu=>by
      obtain ⟨L1,a1,a2,a3,a4⟩:=Z0V hE hp hu;exact ⟨L1,a4,Z2M (Q:=Q) hC eB gX r false e1 s1 e2 s2 wE' wL' rs' (so++w1) L1 w1' h2 a2 a3 (hN.trans a1) (λ_ j hj=>(Xg.1 hj).elim (br j) (λh=>hw j (Xg.2 (.inl h)))) (λj hj=>hw j (Xg.2 (.inr hj))) hr (λL' w' so' c1 c2 c3 c4=>k L' w' so' c1 (λj hj=>by
       rcases c2 j hj with h|h|h
       rcases Xg.1 h with h|h
       exact .inl h;exact .inr (.inl (Xg.2 (.inl h)));exact .inr (.inl (Xg.2 (.inr h)));exact .inr (.inr h)) c3 c4)⟩
     cases d with
     | none=>exact Z2i hi gy hO hB (λu w1' hu=>by obtain ⟨L1,a4,ih⟩:=kk u w1' hu;exact WDB.weak a4 ih)
     | some dd=>exact Zp hi gy hO hB (q3 dd rfl) (λu w1' hu=>by obtain ⟨L1,a4,ih⟩:=kk u w1' hu;exact WDB.weak a4.2 ih)
   cases h;cases h;cases h;split at h;rename_i q r';split at h;rename_i oq hq;split at h;rename_i di dq fi oi fq ox g2 d2 m1 m2;split at h;rename_i s1 n1;split at h;rename_i s2 n2;have dK:=Jr h;clear h;obtain ⟨hc,h⟩:=dK;simp only [Xa,YbH] at hc;obtain ⟨⟨⟨⟨⟨⟨⟨c1,c2⟩,c3⟩,c4⟩,c5⟩,c6⟩,c7⟩,c8⟩:=hc;have c1:=Xk c1;subst c1;obtain ⟨dd',op',ty',pos',af',gq⟩:=oq;dsimp only at g2 d2 m2;subst g2 d2;have dp:di≠dq:=λhe=>by rw [he,Z7x] at c5;cases c5
   have k1:∀ w1 w2,w0.heap.size<=w1.heap.size->Stp [] w1 w2->EngB.StpB (w0.heap.size,ids s0.n L0 WE) w1 w2:=λw1 w2 hz hT=>⟨hT.os,hT.tape,hT.output,hT.size,λb hb _=>hT.block b (Xj hb hz) (by simp)⟩
   have fin:∀ (pi pq:Nat×Nat) (w2:World) (env:Env),w.heap.size<=pi.1->w.heap.size<=pq.1->pi.1≠pq.1->Stp [] w w2->Ob (upd L s.n pi) w2 s.n oi->Ob (upd L (s.n+1) pq) w2 (s.n+1) ox->(Eng.look env dq=some (ga (upd L (s.n+1) pq) (fq.v (s.n+1))))->(Eng.look env di=some (ga (upd L s.n pi) (fi.v s.n)))->(∀ t,t≠dq->t≠di->Eng.look env t=Eng.look (ge L e) t)->EngB.WD P n ops (w0.heap.size,ids s0.n L0 WE) Lt Q r' env w2:=λpi pq w2 env h1 h2 h3 hT o1 o2 v1 v2 v3=>by
    obtain ⟨L2,x1,x2,x3,x4,x5,x6⟩:=Zj5 (fi:=fi) (fq:=fq) (di:=di) (dq:=dq) hR hE n1 n2 c6 h1 h2 h3 hT o1 o2;refine WDB.weak (e':=ge L2 (pt dq (fq.v (s.n+1)) (pt di (fi.v s.n) e))) (λt v hv=>?_) (Z2M (Q:=Q) hC eB gX r' fl _ s2 e' s' wE wL rs so L2 w2 h x1 x3 (by simpa using hN.trans x2) hf hw hr k);rw [JY,Z39] at hv;by_cases y1:dq=t;rw [if_pos y1] at hv;subst y1;rw [v1];simpa [x6] using hv;rw [if_neg y1,Z39] at hv;by_cases y2:di=t;rw [if_pos y2] at hv;subst y2;rw [v2];simpa [x5] using hv;rw [if_neg y2] at hv;rw [v3 t (Ne.symm y1) (Ne.symm y2),JY];rw [XB] at hv ⊢;obtain ⟨x,hx,rfl⟩:=hv;exact ⟨x,hx,(x4 x (hE t x hx)).symm⟩
   have kH:=Z4y n1;have lJ:ox.bd (s.n+1)=true:=O.bd_le (YbV _) c6;have O1:∀ w1,OE P n ⟨some di,op,ty,pos,af,none⟩ (ge L e) w1 (ZaX L w1 s.n fi oi):=λw1=>Z93 s.n hR.g m1 kH;have O2:∀ w1,OE P n ⟨some dq,op',ty',pos',af',none⟩ (ge L e) w1 (ZaX L w1 (s.n+1) fq ox):=λw1=>Z93 (s.n+1) hR.g m2 lJ;have fresh:∀ (d':Nat) (v':Value),(lk e d').isNone=true->∀ t v,Eng.look (ge L e) t=some v->Eng.look ((d',v') :: ge L e) t=some v:=λd' v' hd t v hv=>by
    rw [Zb];by_cases e1:d'=t;subst e1;rw [JY,Option.isNone_iff_eq_none.1 hd] at hv;cases hv;rw [if_neg e1];exact hv
   have lo:∀ (a b:Nat) (x y:Value) (t:Nat),Eng.look ((a,x) :: (b,y) :: ge L e) t=if a=t then some x else if b=t then some y else Eng.look (ge L e) t:=λa b x y t=>by rw [Zb,Zb]
   refine Z6u c2 (Z0U hi gy (O1 w) (λv w1 hv=>k1 _ _ hN.st.size hv.choose_spec.2.1) c3 (λvi w1 gA=>?_)) (Z0U hq trivial (O2 w) (λv w1 hv=>k1 _ _ hN.st.size hv.choose_spec.2.1) c4 (λvq w1 gA=>?_));obtain ⟨pi,h1,bM,o1,rfl⟩:=gA;refine Zp hq trivial (G:=ZaX L w1 (s.n+1) fq ox) ⟨λa ha=>(O2 w1).h a (ha.weak (fresh di _ c7))⟩ (λv w2 hv=>k1 _ _ (Xl hN.st.size bM.size) hv.choose_spec.2.1) c4 (λvq w2 gk=>?_);obtain ⟨pq,h2,aK,o2,rfl⟩:=gk;have ah:=o1.lt;rw [ZD] at ah;exact fin pi pq w2 _ h1 (Xl bM.size h2) (by omega) (bM.trans aK) (o1.ext aK (by simp)) o2 (by rw [lo,if_pos rfl]) (by rw [lo,if_neg (Ne.symm dp),if_pos rfl]) (λt y1 y2=>by rw [lo,if_neg (Ne.symm y1),if_neg (Ne.symm y2)]);obtain ⟨pq,h2,bM,o2,rfl⟩:=gA;simp only [Z1R,if_pos];refine Zp hi gy (G:=ZaX L w1 s.n fi oi) ⟨λa ha=>(O1 w1).h a (ha.weak (fresh dq _ c8))⟩ (λv w2 hv=>k1 _ _ (Xl hN.st.size bM.size) hv.choose_spec.2.1) c3 (λvi w2 gk=>?_);obtain ⟨pi,h1,aK,o1,rfl⟩:=gk;have ah:=o2.lt;rw [ZD] at ah;exact fin pi pq w2 _ (Xl bM.size h1) h2 (by omega) (bM.trans aK) o1 (o2.ext aK (by simp)) (by rw [lo,if_neg dp,if_pos rfl]) (by rw [lo,if_pos rfl]) (λt y1 y2=>by rw [lo,if_neg (Ne.symm y2),if_neg (Ne.symm y1)]);cases h;cases h;cases h;cases h;cases h
end
end Go.Sim
namespace Go.Eng
open Go Go.RowKit Go.Proofs
structure Fl where
 i:Nat
 d:Nat
 T:Nat
 z:Value
def JW (ds:List Deferred) (a:Act):Act:={ a with defers:=a.defers++ds }
def Z4U (ds:List Deferred) (Q:Exit->Act->World->Prop):Exit->Act->World->Prop:=λx a w=>Q x (JW ds a) w
theorem Z0L (ds:List Deferred) (a:Act) (d:Option Nat) (v:Value):JW ds (a.put d v)=(JW ds a).put d v:=by cases d<;>rfl
theorem Z3J (ds:List Deferred) (a:Act):(JW ds a).eval=a.eval:=by funext x;cases x<;>rfl
theorem Z1X {ds:List Deferred} {Q:Exit->Act->World->Prop} (h:LetsOut (Z4U ds Q)):LetsOut Q:=let ⟨a,w,h⟩:=h;⟨_,w,h⟩
theorem Z7E {P:Program} {ds:List Deferred} {Q:Exit->Act->World->Prop} {o:Oper} {a:Act} {w} {K K':Act->World->Prop} (hK:∀ a w,K' a w->K (JW ds a) w) (h:o.wp P a w K' (Z4U ds Q)):o.wp P (JW ds a) w K Q:=by
 unfold Oper.wp at *;rw [Z3J];generalize (execOp a.eval o).run P w=r at *;cases r with
 | ok x w'=>
   cases x<;>simp only [Oper.upon] at h ⊢
   case value v=>have:=hK _ _ h;rw [Z0L] at this;exact this
   case skip=>have:=hK _ _ h;rw [Z0L] at this;exact this
   case defer d=>have:=hK _ _ h;rw [Z0L] at this;exact this
   case enter f args=>
    refine Calls.mono h λe w'' he=>?_;cases e with
    | returned v=>have:=hK _ _ he;rw [Z0L] at this;exact this
    | panicked c=>exact he
    | outgrown=>exact Z1X he
   case row row args=>exact Rows.mono h λv w'' he=>by have:=hK _ _ he;rw [Z0L] at this;exact this
 | halt x w'=>cases x<;>simp only [Oper.upon] at h ⊢;exact h
theorem Z7F {P:Program} {ds:List Deferred} {o:Oper} {a:Act} {w} (h:o.asks P a w):o.asks P (JW ds a) w:=by
 unfold Oper.asks at *;rw [Z3J];exact h
theorem Z2N {P:Program} {ds:List Deferred} {Q:Exit->Act->World->Prop} {ops:Array Oper}:∀ (l:List Oper) (a:Act) (w),wpList P ops (Z4U ds Q) l a w->wpList P ops Q l (JW ds a) w
 | [],a,w,h=>h
 | o :: rest, a, w, h => by
   unfold wpList at *;split at h;rename_i hw;rw [if_pos (show Region.wanted o (yielded ops (JW ds a).tmps)=true from hw)];rcases h with h|⟨h1,h2⟩
   exact .inl (Z7E (λa w h=>Z2N rest a w h) h);exact .inr ⟨Z7F h1,Z1X h2⟩;rename_i hw;rw [if_neg (show ¬ Region.wanted o (yielded ops (JW ds a).tmps)=true from hw)];rw [<- Z0L];exact Z2N rest _ w h
theorem ZcE {P:Program} {ds:List Deferred} {Q:Exit->Act->World->Prop} {ops:Array Oper} {i:Nat} {a:Act} {w} {K K':Act->World->Prop} (hK:∀ a w,K' a w->K (JW ds a) w) (h:wpOp P ops (Z4U ds Q) i K' a w):wpOp P ops Q i K (JW ds a) w:=by
 unfold wpOp at *;cases ho:ops[i]? with
 | none=>simp only [ho] at h ⊢;exact hK _ _ h
 | some o=>
   simp only [ho] at h ⊢;split at h;rename_i hw;rw [if_pos (show Region.wanted o (yielded ops (JW ds a).tmps)=true from hw)];rcases h with h|⟨h1,h2⟩
   exact .inl (Z7E hK h);exact .inr ⟨Z7F h1,Z1X h2⟩;rename_i hw;rw [if_neg (show ¬ Region.wanted o (yielded ops (JW ds a).tmps)=true from hw)];rw [<- Z0L];exact hK _ _ h
theorem Z3K {P:Program} {ds:List Deferred} {Q:Exit->Act->World->Prop} {ops:Array Oper} {md:Region.Mode}:∀ (fuel:Nat) (listed:Array Bool) (a:Act) (w),wpAny P md ops (Z4U ds Q) fuel listed a w->wpAny P md ops Q fuel listed (JW ds a) w
 | 0,_,_,_,h=>h
 | fuel+1,_,_,_,h=>⟨h.1,λi hi=>ZcE (λa w h=>Z3K fuel _ a w h) (h.2 i hi)⟩
structure WQD (ds:List Deferred) (n:Nat) (Q:Exit->Act->World->Prop) (x:Exit) (e:Env) (w):Prop where
 h:∀ a,Has n e a->Q x (JW ds a) w
structure WCD (ds:List Deferred) (P:Program) (n:Nat) (c:Code) (Q:Exit->Act->World->Prop) (e:Env) (w):Prop where
 h:∀ a,Has n e a->c.wp P Q (JW ds a) w
section rules
variable {P:Program} {n:Nat} {ds:List Deferred} {Q:Exit->Act->World->Prop} {e:Env} {w}
theorem Zj6 {x:Exit} (h:WQD ds n Q x e w):WQ n (Z4U ds Q) x e w:=⟨λa ha=>h.h a ha⟩
theorem ZfQ {x y:Code} (h:WCD ds P n x (Exit.then (λa w=>y.wp P Q a w) Q) e w):WCD ds P n (x.seq y) Q e w:=⟨λa ha=>wp_seq (h.h a ha)⟩
theorem Z7G {y:Code} (h:WCD ds P n y Q e w):WQD ds n (Exit.then (λa w=>y.wp P Q a w) Q) .normal e w:=⟨λa ha=>h.h a ha⟩
theorem ZfR (h:WQD ds n Q .ret e w):WCD ds P n .ret Q e w:=⟨λa ha=>wp_ret (h.h a ha)⟩
theorem HasD.ev {a:Act} (ha:Has n e a) {x:Operand} {v:Value} (hx:ev e x=some v):(JW ds a).eval x=v:=by rw [Z3J];exact ha.ev hx
theorem ZaY {id:Nat} {l:List Oper} (m:Nat) (S:List Nat) (Lt:List Nat) (ord:List (Nat×Nat)) (dl:l.length=m) (hm:P.follows .mixedOrders=true) (hs:Region.noSelect l.toArray=true) (hl:Nat.beq (wt ord) l.length=true)
 (hB:ZW l.toArray Lt ord (Array.replicate m false)=true)
 (h:∀ w',Stp [] w w'->WD P n l.toArray S Lt (Z4U ds Q) ord e w'):WCD ds P n (.region id l.toArray true) Q e w:=by
 subst dl;refine ⟨λa ha=>wp_region_any hm (Z3K _ _ _ _ ?_)⟩;have h1:=(h { w with drawn:=w.drawn+1 } (Stp.drew [] w)).h _ hs hB a ha;have h2:=Z0H (Q:=Z4U ds Q) (λa w hz=>hz) _ _ _ _ h1;rw [Xk hl] at h2;simpa using h2
end rules
theorem Z4b:∀ {e:Env} {t:Nat} {v:Value},look e t=some v->(t,v)∈e
 | (k, u) :: r, t, v, h => by
   rw [Zb] at h;by_cases hk:k=t;subst hk;simp at h;subst h;simp;rw [if_neg hk] at h;exact X0 _ (Z4b h)
theorem Has.of {n:Nat} {e:Env} {a:Act} (h1:a.defers=[]) (h2:a.tmps.size=n) (h3:∀ p∈e,a.tmps.getD p.1 undef=p.2):Has n e a:=⟨h1,h2,λt v h=>h3 (t,v) (Z4b h)⟩
section
variable {P:Program} {n:Nat} {Q:Exit->Act->World->Prop} {e:Env} {w:World} {ops:Array Oper} {rest:List Oper} {ty:TypeId} {pos:String} {af:Array Edge} {ds:List Deferred}
theorem ZaZ {fn:Func} {eX:Frame} {cs:List Frame} {u':FrameMode} {R:Ending->FrameMode->World->Prop} {c:Code} {a:Act} (ha:Has n e a) (h:WC P n c (bodyPost P fn (λx w=>R x u' w)) e w) :
 c.wpS P (bodyPostS P fn eX cs R) a ({ eX with mode:=u' } :: cs) w:=by
 refine wpS_of_wp (wp_mono (h.h a ha) λex a' w' hq=>?_);cases ex with
 | normal=>obtain ⟨hd,v,hr,hR⟩:=hq;exact ⟨hd,u',rfl,v,hr,hR⟩
 | ret=>obtain ⟨hd,v,hr,hR⟩:=hq;exact ⟨hd,u',rfl,v,hr,hR⟩
 | panic ch=>obtain ⟨hd,hR⟩:=hq;exact ⟨hd,u',rfl,hR⟩
 | exit i=>exact hq.elim
 | goto l=>exact hq.elim
 | outgrown=>exact ⟨u',hq⟩
theorem Z6C {f:FuncId} {fn:Func} {c:Code} {args:Array Value} {w} {R:Ending->World->Prop} {n:Nat} (hf:P.funcs[f]?=some fn) (hb:fn.body=some c)
 (hn:fn.ntmps=n) (hs:Nat.ble args.size n=true) (h:WC P n c (bodyPostD P fn R) (Z1N args.toList 0) w):Calls P f args w R:=by
 refine calls_of_wp_defers hf hb (h.h _ ?_);rw [hn];have fC:args.size<=n:=Xb hs;refine ⟨rfl,by simp;omega,λt v hv=>?_⟩;obtain ⟨_,h2⟩:=Z1O _ _ _ _ hv;simp only [Nat.sub_zero] at h2;have ah:t<args.size:=by
  have:=(Xn.1 h2).1;simpa using this
 have:args[t]?=some v:=by simpa using h2
 have h3:(args++Array.replicate (n - args.size) undef)[t]?=some v:=by
  rw [XX ah];exact this
 simp [Xz,h3]
theorem ZcF {y:Code} {t:Operand} {fv:Fn} {cap:Array Value} (hc:ev e t=some (.func fv #[] cap)) {ts:Array TypeId}
 (h:WCD [{ target:=.fn fv cap,args:=#[] }] P n y Q e w) :
 WL P n ops (Exit.then (λa w=>y.wp P Q a w) Q) [⟨none,.defer { callee:=.value t,args:=#[],argTypes:=ts },ty,pos,af,none⟩] e w:=by
 refine ⟨λa ha=>?_⟩;refine wpList_plain rfl (λK hK=>?_);unfold Oper.wp;have he:(execOp a.eval ⟨none,.defer { callee:=.value t,args:=#[],argTypes:=ts },ty,pos,af,none⟩).run P w=.ok (.defer { target:=.fn fv cap,args:=#[] }) w:=by
  simp [execOp,resolve,ha.ev hc,Deferred.ofValue]
 rw [he];simp only [Oper.upon];refine hK _ _ ?_;have hd:({ a with defers:={ target:=.fn fv cap,args:=#[] } :: a.defers }:Act)=JW [{ target:=.fn fv cap,args:=#[] }] a:=by
  unfold JW;rw [ha.defers];rfl
 show wpList P ops _ [] (Act.put { a with defers:=_ } none undef) w;rw [hd];exact wpList_nil (h.h a ha)
theorem Z95 {fn fn':Func} {tmps:Array Value} {R:Ending->World->Prop} {f:FuncId} {cap:Array Value} {u:FrameMode} (hu:u≠.run) [hf:Fun P f fn'] {G:Value->FrameMode->World->Prop}
 (h:CallsD P f cap u w λe u' w'=>∃ v,e=.returned v/\G v u' w') (hk:∀ v u' w',G v u' w'->settle u'=.returning/\∃ r,(results fn tmps).run P w'=.ok r w'/\R (.returned r) w') :
 Leaves P fn tmps R [{ target:=.fn (.func f) cap,args:=#[] }] u w:=by
 refine leaves_cons (f:=f) (args:=cap) hu ?_ (h.mono λe u' w' ⟨v,h1,h2⟩=>?_);simp [invoke];exact hf.enters cap w;subst h1;obtain ⟨h3,r,h4,h5⟩:=hk v u' w' h2;show Leaves P fn tmps R [] (settle u') w';rw [h3];exact ⟨r,h4,h5⟩
theorem Z5w {d:Option Nat} {g:Option (Nat×Bool)} {x:Operand} {t s:TypeId} {u v:Value} (hx:ev e x=some u) (hb:∀ w,(Instr.typeAssert u t s true).run P w=.ok v w):PR P n ⟨d,.typeAssert x t s true,ty,pos,af,g⟩ e w v:=
 ⟨λa ha=>by simp [execOp,ha.ev hx,hb]⟩
end
end Go.Eng
namespace Go.Sim
open Go Go.Eng Go.RowKit Go.Proofs
inductive Ex where
 | n
 | r
 | x (i:Nat)
def Ex.to:Ex->Exit
 | .n=>.normal
 | .r=>.ret
 | .x i=>.exit i
abbrev Cs:=Ex×AE×S×List Nat
def Zae (f:AE->S->Option Cs):Nat->AE->S->Option Cs
 | 0,_,_=>none
 | k + 1, e, s => match f e s with
   | some (.n, e1, s1, w1) => match Zae f k e1 s1 with
     | some (x,e2,s2,w2)=>some (x,e2,s2,w1++w2)
     | none=>none
   | some (.r,e1,s1,w1)=>some (.r,e1,s1,w1)
   | some (.x i,e1,s1,w1)=>some (.x i,e1,s1,w1)
   | none=>none
noncomputable def JZ (P:Program) [KD P] (call:Cf) (od:Nat->Option (List Nat×List (Nat×Nat))) (n:Nat):Code->AE->S->Option Cs
 | .skip,e,s=>some (.n,e,s,[])
 | .region id ops false, e, s => match Z7C P call n ops ops.toList e s with
   | some (e1,s1,w1)=>some (.n,e1,s1,w1)
   | none=>none
 | .region id ops true, e, s => match od id with
   | some (Lt, ord) => match ZcD P call n ops Lt ord e s with
     | some (e1,s1,w1)=>some (.n,e1,s1,w1)
     | none=>none
   | none=>none
 | .seq a b, e, s => match JZ P call od n a e s with
   | some (.n, e1, s1, w1) => match JZ P call od n b e1 s1 with
     | some (x,e2,s2,w2)=>some (x,e2,s2,w1++w2)
     | none=>none
   | some (.r,e1,s1,w1)=>some (.r,e1,s1,w1)
   | some (.x i,e1,s1,w1)=>some (.x i,e1,s1,w1)
   | none=>none
 | .cond c a b, e, s => match evv e c with
   | some (.b true)=>JZ P call od n a e s
   | some (.b false)=>JZ P call od n b e s
   | _=>none
 | .block i b, e, s => match JZ P call od n b e s with
   | some (.n,e1,s1,w1)=>some (.n,e1,s1,w1)
   | some (.r,e1,s1,w1)=>some (.r,e1,s1,w1)
   | some (.x j,e1,s1,w1)=>bif Nat.beq j i then some (.n,e1,s1,w1) else some (.x j,e1,s1,w1)
   | none=>none
 | .loop b,e,s=>Zae (JZ P call od n b) 2000 e s
 | .exit i,e,s=>some (.x i,e,s,[])
 | .scope b,e,s=>JZ P call od n b e s
 | .label _,e,s=>some (.n,e,s,[])
 | .ret,e,s=>some (.r,e,s,[])
 | _,_,_=>none
theorem Nx.sub {s s':S} {L L':Lc} {w w':World} {ws vs:List Nat} (h:Nx s s' L L' w w' ws) (hs:∀ k∈ws,k<s.n->k∈vs):Nx s s' L L' w w' vs:=by
 have hi:∀ b,b∈ids s.n L ws->b∈ids s.n L vs:=λb hb=>by
  obtain ⟨j,h1,h2,h3⟩:=Je.1 hb;exact Je.2 ⟨j,hs j h1 h2,h2,h3⟩
 exact ⟨h.le,h.ag,λj h1 h2=>(h.nw j h1 h2).imp id (hi _),h.st.mono hi⟩
theorem Zb0 {P:Program} [KD P] {n:Nat} {Q:Exit->Act->World->Prop} {e:Env} {w} {ops:Array Oper} {S:Nat×List Nat} {Lt:List Nat} {ord:List (Nat×Nat)} (hs:Region.noSelect ops=true) (hl:Nat.beq (wt ord) ops.toList.length=true)
 (hB:ZW ops Lt ord (Array.replicate ops.toList.length false)=true) (h:EngB.WD P n ops S Lt Q ord e w) (a:Act) (ha:Has n e a):wpAny P .any ops Q ops.size (Array.replicate ops.size false) a w:=by
 have h2:=Z0H (Q:=Q) (λa w hz=>hz) _ _ _ _ (h.h _ hs hB a ha);rw [Xk hl] at h2;simpa using h2
section
variable {P:Program} [KD P] {n:Nat} {call:Cf} {od:Nat->Option (List Nat×List (Nat×Nat))}
theorem Zb1 {ops:Array Oper} {Lt:List Nat} {ord:List (Nat×Nat)} {Q:Exit->Act->World->Prop} (hC:Z2L P call) (hc:Zj3 ops Lt ord=true) {e:AE} {s:S} {e':AE} {s':S} {ws:List Nat} {L:Lc} {w} (h:ZcD P call n ops Lt ord e s=some (e',s',ws)) (hR:Rel L s w) (hE:EB s.n e)
 (k:∀ L' w',Nx s s' L L' w w' ws->Rel L' s' w'->EB s'.n e'->WQ n Q .normal (ge L' e') w'):∀ a,Has n (ge L e) a->wpAny P .any ops Q ops.size (Array.replicate ops.size false) a { w with drawn:=w.drawn+1 }:=by
 unfold ZcD at h;unfold Zj3 at hc;simp only [Xa] at hc;obtain ⟨⟨c1,c2⟩,c3⟩:=hc;split at h;rename_i e1 s1 wE wL rs hd;obtain ⟨hx,h⟩:=Jr h;simp only [Xh,XG] at h;obtain ⟨rfl,rfl,rfl⟩:=h;simp only [Xa] at hx;obtain ⟨x1,x2⟩:=hx;intro a ha;have hS:Stp [] w { w with drawn:=w.drawn+1 }:=Stp.drew [] w;generalize { w with drawn:=w.drawn+1 }=w1 at hS ⊢;refine Zb0 c1 c2 c3 (S:=(w.heap.size,ids s.n L wE)) ?_ a ha;have pZ:=hR.up hS;exact Z2M (P:=P) (n:=n) (ops:=ops) (Lt:=Lt) (Q:=Q) hC hR (WE:=wE) (λj hj nZ=>by
  have:=XS.1 x2 j hj;simp only [YbA] at this;rcases this with h|h
  have:=Xb h;omega;exact h) ord false e s e1 s1 wE wL rs [] L w1 hd pZ hE ⟨Xm _,λ_ _=>rfl,λj h1 h2=>absurd h2 (Ya0.2 h1),hS⟩ (λ_ j hj=>by cases hj) (λj hj=>hj) (λb hb=>by
  have:=XS.1 x1 b hb;simp only [Xa,YbH,List.contains_eq_mem,decide_eq_false_iff_not] at this;exact ⟨Xb this.1.1,this.1.2,this.2⟩) (λL' w' so' a1 a2 a3 a4=>k L' w' (a1.sub (λj hj _=>by
   rcases a2 j hj with h|h|h
   cases h;exact Xg.2 (.inl h);exact Xg.2 (.inr h))) a3 a4)
 cases h
def Zmv (P:Program) (n:Nat) (c:Code) (f:AE->S->Option Cs):Prop:=∀ (ds:List Deferred) (e:AE) (s:S) (x:Ex) (e':AE) (s':S) (ws:List Nat) (L:Lc) (w:World) (Q:Exit->Act->World->Prop),f e s=some (x,e',s',ws)->Rel L s w->EB s.n e->
 (∀ L' w',Nx s s' L L' w w' ws->Rel L' s' w'->EB s'.n e'->WQ n (Z4U ds Q) x.to (ge L' e') w')->∀ a,Has n (ge L e) a->c.wp P Q (JW ds a) w
theorem Z5S {P:Program} {c:Code} {f:AE->S->Option Cs} (hf:Zmv P n c f) (ds:List Deferred) {Q:Exit->Act->World->Prop} {x:Ex} {e':AE} {s':S}:∀ (m:Nat) (e:AE) (s:S) (ws:List Nat) (L:Lc) (w),Zae f m e s=some (x,e',s',ws)->Rel L s w->EB s.n e->
 (∀ L' w',Nx s s' L L' w w' ws->Rel L' s' w'->EB s'.n e'->WQ n (Z4U ds Q) x.to (ge L' e') w')->∀ a,Has n (ge L e) a->Code.rounds P c Q m (JW ds a) w
 | 0,_,_,_,_,_,h,_,_,_=>by cases h
 | m + 1, e, s, ws, L, w, h, hR, hE, k => by
   intro a ha;rw [rounds_succ];simp only [Zae] at h;split at h;rename_i h2;split at h;rename_i h3;cases h;refine hf ds _ _ _ _ _ _ L w _ h2 hR hE ?_ a ha;exact λL' w' a1 a2 a3=>⟨λa ha=>Z5S hf ds m _ _ _ L' w' h3 a2 a3 (λL2 w2 b1 b2 b3=>k L2 w2 (a1.trans b1) b2 b3) a ha⟩
   cases h;rename_i h2;cases h;refine hf ds _ _ _ _ _ _ L w _ h2 hR hE ?_ a ha;exact λL' w' a1 a2 a3=>⟨(k L' w' a1 a2 a3).h⟩
   rename_i h2;cases h;refine hf ds _ _ _ _ _ _ L w _ h2 hR hE ?_ a ha;exact λL' w' a1 a2 a3=>⟨(k L' w' a1 a2 a3).h⟩
   cases h
theorem Z7H (hC:Z2L P call) (hm:P.follows .mixedOrders=true):∀ c,chkC od c=true->Zmv P n c (JZ P call od n c):=by
 intro c
 induction c with
 | skip=>
   intro hK ds e s x e' s' ws L w Q h hR hE k a ha;cases h;exact wp_skip ((k L w (Nx.refl _ _ _) hR hE).h a ha)
 | region id ops dr=>
   intro hK ds e s x e' s' ws L w Q h hR hE k a ha;cases dr with
   | false=>
     simp only [JZ] at h;split at h;rename_i h1;cases h;have:=wp_region_lit (P:=P) (id:=id) (l:=ops.toList) (Z2N _ _ _ ((ZfP hC _ e s _ _ _ L w h1 hR hE k).h a ha))
     rwa [XW] at this
     cases h
   | true=>
     simp only [JZ] at h;simp only [chkC] at hK;split at h;rename_i h0;rw [h0] at hK;split at h;rename_i h1;cases h;exact wp_region_any hm (Z3K _ _ _ _ (Zb1 hC hK h1 hR hE k a ha));cases h;cases h
 | seq b c ihb ihc=>
   intro hK ds e s x e' s' ws L w Q h hR hE k a ha;simp only [chkC,Xa] at hK;replace ihb:=ihb hK.1;replace ihc:=ihc hK.2;simp only [JZ] at h;split at h;rename_i h2;split at h;rename_i h3;cases h;refine wp_seq (ihb ds _ _ _ _ _ _ L w _ h2 hR hE ?_ a ha);exact λL' w' a1 a2 a3=>⟨λa ha=>ihc ds _ _ _ _ _ _ L' w' Q h3 a2 a3 (λL2 w2 b1 b2 b3=>k L2 w2 (a1.trans b1) b2 b3) a ha⟩
   cases h;rename_i h2;cases h;refine wp_seq (ihb ds _ _ _ _ _ _ L w _ h2 hR hE ?_ a ha);exact λL' w' a1 a2 a3=>⟨(k L' w' a1 a2 a3).h⟩
   rename_i h2;cases h;refine wp_seq (ihb ds _ _ _ _ _ _ L w _ h2 hR hE ?_ a ha);exact λL' w' a1 a2 a3=>⟨(k L' w' a1 a2 a3).h⟩
   cases h
 | cond c b d ihb ihd=>
   intro hK ds e s x e' s' ws L w Q h hR hE k a ha;simp only [chkC,Xa] at hK;replace ihb:=ihb hK.1;replace ihd:=ihd hK.2;simp only [JZ] at h;split at h;rename_i hc;exact wp_cond_true (HasD.ev ha (Zi hR.g hc)) (ihb ds e s x e' s' ws L w Q h hR hE k a ha);rename_i hc;exact wp_cond_false (HasD.ev ha (Zi hR.g hc)) (ihd ds e s x e' s' ws L w Q h hR hE k a ha);cases h
 | block i b ih=>
   intro hK ds e s x e' s' ws L w Q h hR hE k a ha;replace ih:=ih hK;simp only [JZ] at h;split at h;rename_i h2;cases h;refine wp_block (ih ds _ _ _ _ _ _ L w _ h2 hR hE ?_ a ha);exact λL' w' a1 a2 a3=>⟨(k L' w' a1 a2 a3).h⟩
   rename_i h2;cases h;refine wp_block (ih ds _ _ _ _ _ _ L w _ h2 hR hE ?_ a ha);exact λL' w' a1 a2 a3=>⟨(k L' w' a1 a2 a3).h⟩
   . rename_i j e2 s2 w2 h2
     cases hj:Nat.beq j i with
     | true=>
       rw [hj] at h;cases h;cases Xk hj;refine wp_block (ih ds _ _ _ _ _ _ L w _ h2 hR hE ?_ a ha);exact λL' w' a1 a2 a3=>⟨(Ze (k L' w' a1 a2 a3)).h⟩
     | false=>
       rw [hj] at h;cases h;refine wp_block (ih ds _ _ _ _ _ _ L w _ h2 hR hE ?_ a ha);exact λL' w' a1 a2 a3=>⟨(Zo hj (k L' w' a1 a2 a3)).h⟩
   cases h
 | loop b ih=>
   intro hK ds e s x e' s' ws L w Q h hR hE k a ha;replace ih:=ih hK;exact wp_loop_rounds 2000 (Z5S ih ds 2000 e s ws L w h hR hE k a ha)
 | exit i=>
   intro hK ds e s x e' s' ws L w Q h hR hE k a ha;cases h;exact wp_exit ((k L w (Nx.refl _ _ _) hR hE).h a ha)
 | scope b ih=>
   intro hK ds e s x e' s' ws L w Q h hR hE k a ha;replace ih:=ih hK;refine wp_scope_straight (ih ds e s x e' s' ws L w _ h hR hE (λL' w' a1 a2 a3=>?_) a ha);have:=(k L' w' a1 a2 a3).h;cases x<;>exact ⟨this⟩
 | label l=>
   intro hK ds e s x e' s' ws L w Q h hR hE k a ha;cases h;exact wp_label ((k L w (Nx.refl _ _ _) hR hE).h a ha)
 | ret=>
   intro hK ds e s x e' s' ws L w Q h hR hE k a ha;cases h;exact wp_ret ((k L w (Nx.refl _ _ _) hR hE).h a ha)
 | _=>intro hK ds e s x e' s' ws L w Q h;cases h
theorem Z7I (a:Act):JW [] a=a:=by cases a;simp [JW]
theorem Z7J (hC:Z2L P call) (hm:P.follows .mixedOrders=true) {c:Code} (hK:chkC od c=true) {e:AE} {s:S} {x:Ex} {e':AE} {s':S} {ws:List Nat} {L:Lc} {w} {Q:Exit->Act->World->Prop} (h:JZ P call od n c e s=some (x,e',s',ws)) (hR:Rel L s w) (hE:EB s.n e)
 (k:∀ L' w',Nx s s' L L' w w' ws->Rel L' s' w'->EB s'.n e'->WQ n Q x.to (ge L' e') w'):WC P n c Q (ge L e) w:=
 ⟨λa ha => by
   have:=Z7H hC hm c hK [] e s x e' s' ws L w Q h hR hE (λL' w' a1 a2 a3=>⟨λa ha=>by unfold Z4U;rw [Z7I];exact (k L' w' a1 a2 a3).h a ha⟩) a ha
   rwa [Z7I] at this⟩
end
abbrev Od:=List (Nat×Nat×List Nat×List (Nat×Nat))
def odS (f:Nat):Od->Nat->Option (List Nat×List (Nat×Nat))
 | [],_=>none
 | (g,q,a,b) :: l,r=>bif Nat.beq g f && Nat.beq q r then some (a,b) else odS f l r
noncomputable def Z3L (P:Program) (e:AE) (s:S):ResultVar->Option V
 | .tmp t=>lk e t
 | .cell t T => match lk e t, P.underlying T with
   | some (.p b 0), some D => match ldc s b with
     | some cs => match JO D, (P.info? T).map (·.size) with
       | true,some k=>bif Nat.beq cs.length k then some (.a cs) else none
       | false,_=>cs[0]?
       | _,_=>none
     | none=>none
   | _,_=>none
noncomputable def Z96 (P:Program) (e:AE) (s:S):List ResultVar->Option V
 | []=>some (.t [])
 | [x]=>Z3L P e s x
 | [x, y] => match Z3L P e s x, Z3L P e s y with
   | some a,some b=>some (.t [a,b])
   | _,_=>none
 | [x, y, z] => match Z3L P e s x, Z3L P e s y, Z3L P e s z with
   | some a,some b,some c=>some (.t [a,b,c])
   | _,_,_=>none
 | [x, y, z, u] => match Z3L P e s x, Z3L P e s y, Z3L P e s z, Z3L P e s u with
   | some a,some b,some c,some d=>some (.t [a,b,c,d])
   | _,_,_,_=>none
 | _=>none
def Z5x:Nat->List V->AE
 | _,[]=>[]
 | k,v :: r=>(k,v) :: Z5x (k+1) r
abbrev Hk:=Cf->Nat->List V->S->Option (Option (V×S×List Nat))
def gcS (s:S) (v:V) (s1:S) (ws:List Nat):V×S×List Nat:=match ws.filter (λk=>Nat.blt k s.n) with
 | []=>bif bd s.n v then (v,s,[]) else (v,s1,[])
 | ws=>(v,s1,ws)
noncomputable def ZfS (P:Program) (fn:Func) (s:S):Option Cs->Option (V×S×List Nat)
 | some (.n, e, s1, ws) => match fn.results.toList with
   | []=>some (gcS s (.t []) s1 ws)
   | _=>none
 | some (.r, e, s1, ws) => match Z96 P e s1 fn.results.toList with
   | some v=>some (gcS s v s1 ws)
   | none=>none
 | _=>none
noncomputable def fnS (P:Program) [KD P] (od:Od) (hk:Hk):Nat->Cf
 | 0,_,_,_=>none
 | k + 1, f, args, s => match hk (fnS P od hk k) f args s with
   | some r=>r
   | none => match P.funcs[f]? with
     | some fn => match fn.body with
       | some c=>bif Nat.ble args.length fn.ntmps then ZfS P fn s (JZ P (fnS P od hk k) (odS f od) fn.ntmps c (Z5x 0 args) s) else none
       | none=>none
     | none=>none
def Zj7 (P:Program) (hk:Hk):Prop:=∀ call,Z2L P call->∀ f args s v s' ws,hk call f args s=some (some (v,s',ws))->bl s.n args=true->∀ L w,Rel L s w->Enters P f/\Calls P f (gl L args).toArray w (Ret λu w'=>∃ L',Nx s s' L L' w w' ws/\Rel L' s' w'/\u=ga L' v)
def Z7K (tmps:Array Value):ResultVar->Sem Value
 | .tmp t=>pure (tmps.getD t undef)
 | .cell a t=>do loadVar t (<- asAddr (tmps.getD a undef))
theorem Z5y (fn:Func) (tmps:Array Value):results fn tmps=(do
 let vs <- fn.results.mapM (Z7K tmps)
 pure (if h:vs.size=1 then vs[0] else .tuple vs)):=rfl
section
variable {P:Program} [KD P] {n:Nat}
theorem Z6D (L:Lc):∀ (l:List V) (k:Nat),ge L (Z5x k l)=Z1N (gl L l) k
 | [],k=>rfl
 | v :: r, k => by
   show (k,ga L v) :: ge L (Z5x (k+1) r)=_;rw [Z6D L r (k+1)];rfl
theorem Z6E:∀ (l:List V) (k t:Nat) (v:V),lk (Z5x k l) t=some v->v∈l
 | [],k,t,v,h=>by cases h
 | u :: r, k, t, v, h => by
   simp only [Z5x] at h;rw [Z39] at h;by_cases hb:k=t;rw [if_pos hb] at h;simp only [Xh] at h;subst h;exact .head _;rw [if_neg hb] at h;exact .tail _ (Z6E r (k+1) t v h)
theorem Z0c {P:Program} {L:Lc} {e:AE} {s:S} {w} (hR:Rel L s w) {x:ResultVar} {v:V} (h:Z3L P e s x=some v) {a:Act} (ha:Has n (ge L e) a):(Z7K a.tmps x).run P w=.ok (ga L v) w:=by
 cases x with
 | tmp t=>
   have:=ha.vals t (ga L v) (by rw [JY];simp only [Z3L] at h;rw [h];rfl);simp only [Z7K,this];rfl
 | cell t T=>
   simp only [Z3L] at h;split at h;rename_i b D h1 h2;have hu:Und P T D:=⟨h2⟩
   have hp:=ha.vals t (.pointer (some ⟨(L b).1,0,none⟩)) (by rw [JY,h1];rfl);have oa:(asAddr (a.tmps[t]?.getD undef)).run P w=.ok ⟨(L b).1,0,none⟩ w:=by rw [<- Xz,hp];rfl
   split at h;rename_i cs h3;split at h;rename_i k hA h4;have hs:Siz P T k:=⟨h4⟩
   obtain ⟨hk,h⟩:=Jr h;simp only [Xh] at h;subst h;have cm:=Xk hk;have h5:=run_loadCells_list (P:=P) w ⟨(L b).1,0,none⟩ (gl L cs) (λj v hv=>by
    rw [Addr.add_lit,XO];rw [Z4a,XB] at hv;obtain ⟨u,eW,rfl⟩:=hv;exact Z1c hR h3 eW)
   rw [ZQ,cm] at h5;simp [Z7K,oa,loadVar,Und.isAgg,hA,Siz.run,h5,ga];rename_i _ hA;have h5:=Z1c hR h3 h;simp [Z7K,oa,loadVar,Und.isAgg,hA,h5];cases h;cases h;cases h
theorem Zaf {P:Program} {fn:Func} {L:Lc} {e:AE} {s:S} {w} (hR:Rel L s w) {v:V} (h:Z96 P e s fn.results.toList=some v) {a:Act} (ha:Has n (ge L e) a):(results fn a.tmps).run P w=.ok (ga L v) w:=by
 rw [Z5y];obtain ⟨rs,fy⟩:∃ rs,fn.results=List.toArray rs:=⟨fn.results.toList,by rw [XW]⟩
 rw [fy] at h ⊢;simp only at h
 match rs,h with
 | [],h=>simp only [Z96,Xh] at h;subst h;simp;rfl
 | [x], h=>
   have h1:=Z0c hR (x:=x) h ha;simp [h1]
 | [x, y], h=>
   simp only [Z96] at h;split at h;rename_i p q e1 e2;simp only [Xh] at h;subst h;have h1:=Z0c hR e1 ha;have h2:=Z0c hR e2 ha;simp [h1,h2,ga,gl];cases h
 | [x, y, z], h=>
   simp only [Z96] at h;split at h;rename_i p q r e1 e2 e3;simp only [Xh] at h;subst h;have h1:=Z0c hR e1 ha;have h2:=Z0c hR e2 ha;have h3:=Z0c hR e3 ha;simp [h1,h2,h3,ga,gl];cases h
 | [x, y, z, u], h=>
   simp only [Z96] at h;split at h;rename_i p q r o e1 e2 e3 e4;simp only [Xh] at h;subst h;have h1:=Z0c hR e1 ha;have h2:=Z0c hR e2 ha;have h3:=Z0c hR e3 ha;have h4:=Z0c hR e4 ha;simp [h1,h2,h3,h4,ga,gl];cases h
 | _ :: _ :: _ :: _ :: _ :: _,h=>cases h
theorem ZcG {L L':Lc} {s s1 s2:S} {w w':World} {v v2:V} {w1 ws:List Nat} (hR:Rel L s w) (a1:Nx s s1 L L' w w' w1) (a2:Rel L' s1 w') (h:gcS s v s1 w1=(v2,s2,ws)):∃ L2,Nx s s2 L L2 w w' ws/\Rel L2 s2 w'/\ga L' v=ga L2 v2:=by
 have shr:Nx s s1 L L' w w' (w1.filter (λk=>Nat.blt k s.n)):=a1.sub (λk hk iN=>X2.2 ⟨hk,XV iN⟩);unfold gcS at h;split at h
 . rename_i hf
   rw [hf] at shr;cases hb:bd s.n v with
   | true=>
     rw [hb] at h;cases h;have hT:Stp [] w w':=by simpa [ids] using shr.st
     exact ⟨L,⟨Xm _,λ_ _=>rfl,λk h1 h2=>absurd h2 (Ya0.2 h1),by simpa [ids] using hT⟩,hR.up hT,Z48 a1.ag v hb⟩
   | false=>rw [hb] at h;cases h;exact ⟨L',shr,a2,rfl⟩
 cases h;exact ⟨L',shr,a2,rfl⟩
theorem ZfT {call:Cf} {od:Nat->Option (List Nat×List (Nat×Nat))} (hC:Z2L P call) (hm:P.follows .mixedOrders=true) {fn:Func} {c:Code} (hK:chkC od c=true) {f:Nat} (hf:P.funcs[f]?=some fn) (hb:fn.body=some c) {args:List V} {s:S} {v:V} {s':S} {ws:List Nat}
 (hl:Nat.ble args.length fn.ntmps=true) (h:ZfS P fn s (JZ P call od fn.ntmps c (Z5x 0 args) s)=some (v,s',ws)) (hB:bl s.n args=true) {L:Lc} {w} (hR:Rel L s w) :
 Calls P f (gl L args).toArray w (Ret λu w'=>∃ L',Nx s s' L L' w w' ws/\Rel L' s' w'/\u=ga L' v):=by
 refine JR (n:=fn.ntmps) hf hb rfl (by simpa [ZQ] using hl) ?_;have hz:=Z6D L args 0;have hE:EB s.n (Z5x 0 args):=λt v hv=>(Z17 s.n args).1 hB v (Z6E args 0 t v hv);rw [show ((gl L args).toArray).toList=gl L args from rfl,<- hz];cases hc:JZ P call od fn.ntmps c (Z5x 0 args) s with
 | none=>rw [hc] at h;cases h
 | some q=>
   obtain ⟨x,e1,s1,w1⟩:=q;rw [hc] at h;refine Z7J hC hm hK hc hR hE (λL' w' a1 a2 a3=>?_);cases x with
   | n=>
     simp only [ZfS] at h;split at h;rename_i hr;simp only [Xh] at h;obtain ⟨L2,g1,g2,g3⟩:=ZcG hR a1 a2 h;exact Z6m (Array.toList_eq_nil_iff.1 hr) ⟨_,rfl,L2,g1,g2,g3⟩;cases h
   | r=>
     simp only [ZfS] at h;split at h;rename_i v' hr;simp only [Xh] at h;obtain ⟨L2,g1,g2,g3⟩:=ZcG hR a1 a2 h;exact ⟨λa ha=>⟨ha.defers,_,Zaf a2 hr ha,_,rfl,L2,g1,g2,g3⟩⟩;cases h
   | x i=>cases h
def ZfU (P:Program) (od:Od):Prop:=∀ (f:Nat) (fn:Func) (c:Code),P.funcs[f]?=some fn->fn.body=some c->chkC (odS f od) c=true
theorem Z6F {od:Od} {hk:Hk} (hO:ZfU P od) (hm:P.follows .mixedOrders=true) (hN:∀ (f:Nat) (fn:Func),P.funcs[f]?=some fn->(fn.name == "runtime.NumGoroutine")=false) (hH:Zj7 P hk):∀ k,Z2L P (fnS P od hk k)
 | 0=>λf args s v s' ws h=>by cases h
 | k + 1 => λf args s v s' ws h hB L w hR => by
   have ih:=Z6F (od:=od) hO hm hN hH k;simp only [fnS] at h;split at h;rename_i r hr;subst h;exact hH _ ih f args s v s' ws hr hB L w hR;split at h;rename_i fn hf;split at h;rename_i c hb;obtain ⟨hl,h⟩:=Jr h;exact ⟨enters_of hf (hN f fn hf) hb,ZfT ih hm (hO f fn c hf hb) hf hb hl h hB hR⟩;cases h;cases h
end
def dfS:Code->Option (Array Oper×List Oper×Operand×Array TypeId×TypeId×String×Array Edge)
 | .region id ops false => match ops.toList.reverse with
   | ⟨none,.defer ⟨.value t,⟨[]⟩,ts⟩,ty,pos,af,none⟩ :: r=>some (ops,r.reverse,t,ts,ty,pos,af)
   | _=>none
 | _=>none
noncomputable def ZcH (P:Program) [KD P] (call:Cf) (od:Nat->Option (List Nat×List (Nat×Nat))) (n:Nat) (nop:Nat->Nat->Bool) (fn:Func):Code->AE->S->Option (V×S×List Nat)
 | .seq a b, e, s => match dfS a with
   | some (ops, l, t, _) => match Z7C P call n ops l e s with
     | some (e1, s1, w1) => match evv e1 t with
       | some (.f g [] cap) => match nop g cap.length with
         | true => match JZ P call od n b e1 s1 with
           | some (.r, e2, s2, w2) => match Z96 P e2 s2 fn.results.toList with
             | some v=>some (v,s2,w1++w2)
             | none=>none
           | _=>none
         | false=>none
       | _=>none
     | none=>none
   | none => match JZ P call od n a e s with
     | some (.n, e1, s1, w1) => match ZcH P call od n nop fn b e1 s1 with
       | some (v,s2,w2)=>some (v,s2,w1++w2)
       | none=>none
     | _=>none
 | _,_,_=>none
section
variable {P:Program} [KD P] {n:Nat} {call:Cf} {od:Nat->Option (List Nat×List (Nat×Nat))} {ds:List Deferred}
theorem Zj8 {c:Code} {ops:Array Oper} {l:List Oper} {t:Operand} {ts:Array TypeId} {ty:TypeId} {pos:String} {af:Array Edge} (h:dfS c=some (ops,l,t,ts,ty,pos,af)) :
 (∃ id,c=.region id ops false)/\ops.toList=l++[⟨none,.defer ⟨.value t,#[],ts⟩,ty,pos,af,none⟩]:=by
 unfold dfS at h;split at h;rename_i id ops';split at h;rename_i r hr;simp only [Xh,XG] at h;obtain ⟨rfl,rfl,rfl,rfl,rfl,rfl,rfl⟩:=h;refine ⟨⟨id,rfl⟩,?_⟩;have:=congrArg List.reverse hr;simpa using this;cases h;cases h
def ZcI (P:Program) (nop:Nat->Nat->Bool):Prop:=∀ g k,nop g k=true->(∃ fn',Fun P g fn')/\∀ (cap:List Value) (w:World),cap.length=k->CallsD P g cap.toArray .returning w (λe u' w'=>∃ v,e=.returned v/\(u'=.returning/\Stp [] w w'))
theorem ZfV {nop:Nat->Nat->Bool} {fn:Func} (hC:Z2L P call) (hm:P.follows .mixedOrders=true) (hN:ZcI P nop):∀ (c:Code),chkC od c=true->∀ (e:AE) (s:S) (v:V) (s':S) (ws:List Nat) (L:Lc) (w) (R:Ending->World->Prop),ZcH P call od n nop fn c e s=some (v,s',ws)->Rel L s w->EB s.n e->
 (∀ L' w',Nx s s' L L' w w' ws->Rel L' s' w'->R (.returned (ga L' v)) w')->WC P n c (bodyPostD P fn R) (ge L e) w:=by
 intro c
 induction c with
 | seq a b iha ihb=>
   intro hK e s v s' ws L w R h hR hE k;simp only [chkC,Xa] at hK;replace ihb:=ihb hK.2;simp only [ZcH] at h;split at h;rename_i ops l t q hd;obtain ⟨ts,ty,pos,af⟩:=q;obtain ⟨⟨id,rfl⟩,lK⟩:=Zj8 hd;split at h;rename_i e1 s1 w1 h1;split at h;rename_i g cap bJ;split at h;rename_i hn;split at h;rename_i e2 s2 w2 h2;split at h;rename_i v2 hv;simp only [Xh,XG] at h;obtain ⟨rfl,rfl,rfl⟩:=h;obtain ⟨⟨fn',hF⟩,lL⟩:=hN g _ hn;refine Z2J ?_;have:=Z0D (P:=P) (n:=n) (id:=id) (Q:=Exit.then (λa w=>b.wp P (bodyPostD P fn R) a w) (bodyPostD P fn R)) (e:=ge L e) (w:=w) (l:=ops.toList) (by
    rw [XW,lK];refine Z1W hC l e s e1 s1 w1 L w h1 hR hE (λL1 y1 a1 a2 a3=>?_);refine ZcF (fv:=.func g) (cap:=(gl L1 cap).toArray) (Zi a2.g bJ) ?_;refine ⟨Z7H hC hm b hK.2 _ e1 s1 .r e2 s2 w2 L1 y1 _ h2 a2 a3 (λL2 y2 b1 b2 b3=>⟨λact ha=>?_⟩)⟩;show Leaves _ _ act.tmps _ (act.defers++_) .returning _;rw [ha.defers];refine Z95 (f:=g) (by simp) (lL (gl L1 cap) y2 (by rw [ZQ])) ?_;rintro _ u' y3 ⟨rfl,hT⟩;have oe:=b2.up hT;have qa:Nx s2 s2 L2 L2 y2 y3 []:=⟨Xm _,λ_ _=>rfl,λj h1 h2=>absurd h2 (Ya0.2 h1),hT⟩
    exact ⟨rfl,_,Zaf oe hv ha,k L2 y3 (by simpa using (a1.trans b1).trans qa) oe⟩)
   rwa [XW] at this
   cases h;cases h;cases h;cases h;cases h;split at h;rename_i e1 s1 w1 h1;split at h;rename_i v2 s2 w2 h2;simp only [Xh,XG] at h;obtain ⟨rfl,rfl,rfl⟩:=h;exact Z2J (Z7J hC hm hK.1 h1 hR hE (λL1 y1 a1 a2 a3=>Z2g (ihb e1 s1 v2 s2 w2 L1 y1 R h2 a2 a3 (λL2 y2 b1 b2=>k L2 y2 (a1.trans b1) b2))));cases h;cases h
 | _=>
   intro hK e s v s' ws L w R h hR hE k;simp only [ZcH] at h;cases h
end
noncomputable def Zj9 (P:Program) [KD P] (od:Od) (nop:Nat->Nat->Bool) (call:Cf) (f:Nat) (args:List V) (s:S):Option (V×S×List Nat):=match P.funcs[f]? with
 | some fn => match fn.body with
   | some c => bif Nat.ble args.length fn.ntmps then (match ZcH P call (odS f od) fn.ntmps nop fn c (Z5x 0 args) s with
     | some (v,s1,ws)=>some (v,s1,ws.filter (λk=>Nat.blt k s.n))
     | none=>none) else none
   | none=>none
 | none=>none
theorem ZfW {P:Program} [KD P] {od:Od} (hO:ZfU P od) {nop:Nat->Nat->Bool} {call:Cf} (hC:Z2L P call) (hm:P.follows .mixedOrders=true) (hN:ZcI P nop) {f:Nat} {args:List V} {s:S} {v:V} {s':S} {ws:List Nat} (h:Zj9 P od nop call f args s=some (v,s',ws)) (hB:bl s.n args=true) {L:Lc} {w} (hR:Rel L s w) :
 Calls P f (gl L args).toArray w (Ret λu w'=>∃ L',Nx s s' L L' w w' ws/\Rel L' s' w'/\u=ga L' v):=by
 unfold Zj9 at h;split at h;rename_i fn hf;split at h;rename_i c hb;obtain ⟨hl,h⟩:=Jr h;split at h;rename_i v1 s1 w1 h1;simp only [Xh,XG] at h;obtain ⟨rfl,rfl,rfl⟩:=h;refine Z6C (n:=fn.ntmps) hf hb rfl (by simpa [ZQ] using hl) ?_;rw [show ((gl L args).toArray).toList=gl L args from rfl,<- Z6D L args 0];exact ZfV hC hm hN c (hO f fn c hf hb) _ _ _ _ _ L w _ h1 hR (λt v hv=>(Z17 s.n args).1 hB v (Z6E args 0 t v hv)) (λL' w' a1 a2=>⟨_,rfl,L',a1.sub (λk hk iN=>X2.2 ⟨hk,XV iN⟩),a2,rfl⟩);cases h;cases h;cases h
end Go.Sim
namespace Go.Eng
open Go Go.RowKit Go.Proofs
inductive Nd where
 | mk (kind n:Int) (s:Str) (kids:List Nd)
namespace Nd
def kind:Nd->Int|mk k _ _ _=>k
def num:Nd->Int|mk _ n _ _=>n
def word:Nd->Str|mk _ _ s _=>s
def kids:Nd->List Nd|mk _ _ _ l=>l
theorem ind {P:Nd->Prop} (h:∀ k n s l,(∀ x∈l,P x)->P (mk k n s l)):∀ x,P x
 | mk k n s l=>h k n s l (λx hx=>ind h x)
 decreasing_by
  have:=List.sizeOf_lt_of_mem hx;simp only [mk.sizeOf_spec];omega
end Nd
inductive Z7L (X:List Nat) (w:World):Nd->List Value->Prop
 | mk (k n : Int) (s : Str) (l : List Nd) (p : Option Addr) (c : Nat) (b o : Nat) (css : Nat -> List Value) (hl : l.length <= c) (hm : c <= maxLen) (hn : p = none -> c = 0)
    (hp:0<l.length->p=some ⟨b,o,none⟩/\b<w.heap.size/\b∉X) (hr:∀ i (h:i<l.length),Z7L X w l[i] (css i))
    (hc:∀ i,i<l.length->∀ j u,(css i)[j]?=some u->w.cell? ⟨b,o+i * 4+j,none⟩=some u) :
    Z7L X w (.mk k n s l) [.I k,.I n,str s,.slice p l.length c]
theorem Z7L.ext {X S X':List Nat} {w w':World} {x:Nd} {cs:List Value} (h:Z7L X w x cs) (hS:Stp S w w') (h1:∀ b∈S,b∈X) (h2:∀ b∈X',b∈X\/w.heap.size<=b):Z7L X' w' x cs:=by
 induction h with
 | mk k n s l p c b o css hl hm hn hp hr hc ih=>
   refine .mk k n s l p c b o css hl hm hn (λh0=>?_) ih (λi hi j u hu=>?_);obtain ⟨e1,e2,e3⟩:=hp h0;refine ⟨e1,Xj e2 hS.size,λhb=>?_⟩;rcases h2 b hb with h|h
   exact e3 h;omega;obtain ⟨_,_,e3⟩:=hp (by omega);exact hS.cell (λhb=>e3 (h1 b hb)) (hc i hi j u hu)
instance:Z1 Nd where
 k:=4
 rep:=Z7L
 len:=by intro X w x cs h;cases h;rfl
 one:=by
  intro X w x cs h u hu;cases h;simp at hu;rcases hu with rfl|rfl|rfl|rfl<;>rfl
 ext:=Z7L.ext
def NdV (X:List Nat) (w:World) (v:Value) (x:Nd):Prop:=∃ kv,v=.agg #[.I x.kind,.I x.num,str x.word,kv]/\SlV X w kv x.kids
theorem ZcJ {X:List Nat} {w} {x:Nd} {cs:List Value} (h:Z7L X w x cs):∃ kv,cs=[.I x.kind,.I x.num,str x.word,kv]/\SlV X w kv x.kids:=by
 cases h with
 | mk k n s l p c b o css hl hm hn hp hr hc=>
   refine ⟨_,rfl,p,c,rfl,hl,hm,hn,λi hi=>?_⟩;obtain ⟨e1,e2,e3⟩:=hp (by show 0<l.length;have:i<l.length:=hi;omega);exact ⟨b,o,css i,e1,e2,e3,hr i hi,hc i hi⟩
theorem SlV.nd {X:List Nat} {w} {v:Value} {l:List Nd} {i:Nat} (h:SlV X w v l) (hi:i<l.length):∃ kv,SlV X w kv l[i].kids/\∀ j u,[Value.int .i64 l[i].kind,.I l[i].num,str l[i].word,kv][j]?=some u->w.cell? (Zq v i 4 j)=some u:=by
 obtain ⟨cs,hr,hc⟩:=h.cell hi;obtain ⟨kv,rfl,hs⟩:=ZcJ hr;exact ⟨kv,hs,hc⟩
section
variable {P:Program} {n:Nat} {e:Env} {w:World} {d:Option Nat} {ty:TypeId} {pos:String} {af:Array Edge} {g:Option (Nat×Bool)}
theorem Z5T {X:List Nat} {v:Value} {l:List Nd} {i:Nat} {kv:Value} {x:Operand} {t:TypeId} {D:TypeDesc} [hu:Und P t D] (hA:JO D=true) [bw:Siz P t 4] (hx:ev e x=some (.pointer (some (Zq v i 4 0)))) (hs:SlV X w v l) (hi:i<l.length)
 (hc:∀ j u,[Value.int .i64 l[i].kind,.I l[i].num,str l[i].word,kv][j]?=some u->w.cell? (Zq v i 4 j)=some u) :
 PR P n ⟨d,.load t x,ty,pos,af,g⟩ e w (.agg #[.I l[i].kind,.I l[i].num,str l[i].word,kv]):=by
 obtain ⟨p,l',c,rfl⟩:=hs.isSome hi;refine Z1P (cs:=[.I l[i].kind,.I l[i].num,str l[i].word,kv]) hA hx rfl (λj u hu=>?_);have:=hc j u hu;simpa [Zq] using this
end
open Go Go.RowKit Go.Proofs
def JT (y:Int):Bool:=decide (y % 4=0) && (decide (¬ y % 100=0) || decide (y % 400=0))
def Zv (y m:Int):Int:=
 if m<1\/12<m then 0 else if m=2 then (if JT y then 29 else 28) else if m=4\/m=6\/m=9\/m=11 then 30 else 31
def JF (y m d:Int):Int:=
 let (y,m):=if m - 3<0 then (y - 1,m+9) else (y,m - 3)
 365 * y+y / 4 - y / 100+y / 400+(153 * m+2) / 5+d - 307
theorem Z2O (y m:Int):Zv y m<=31:=by
 unfold Zv;repeat' split
 all_goals omega
end Go.Eng
namespace Go.Proofs.YtkojegdemoahlaaGreatDoor
open Go Go.Eng
theorem sMz (t k:Nat) (h:(Tryz.prog.info? t).map (·.size)=some k:=by kernel_rfl):Siz Tryz.prog t k:=⟨h⟩
theorem bMz (t k:Nat) (h:(Tryz.prog.info? t).map (·.bytes)=some k:=by kernel_rfl):Byt Tryz.prog t k:=⟨h⟩
theorem zMz (t:Nat) (z:Value) (h:(Tryz.prog.info? t).bind (·.zero)=some z:=by kernel_rfl):Zer Tryz.prog t z:=⟨h⟩
theorem fMz {t:Nat} (i off k:Nat) {fs:Array Field} {f:Field} (hu:Tryz.prog.underlying t=some (.struct fs)) (h1:fs[i]?=some f:=by exact rfl) (h2:f.offset=off:=by exact rfl) (h3:(Tryz.prog.info? f.type).map (·.size)=some (k+1):=by kernel_rfl):Fld Tryz.prog t i off:=⟨fs,f,k,hu,h1,h2,h3⟩
theorem mixed:Tryz.prog.follows .mixedOrders=true:=by kernel_rfl
abbrev ZpQ:=uM Tryz.underlying3
abbrev ZpR:=sMz 3 1
abbrev ZpS:=bMz 3 8
abbrev ZpT:=zMz 3 (.int .i64 0)
abbrev ZpU:=uM Tryz.underlying4
abbrev ZpV:=sMz 4 1
abbrev ZpW:=bMz 4 1
abbrev ZpX:=zMz 4 (.bool false)
abbrev ZpY:=uM Tryz.underlying5
abbrev ZpZ:=sMz 5 1
abbrev Zq0:=uM Tryz.underlying9
abbrev Zq1:=sMz 9 1
abbrev Zmw:=uM Tryz.underlying20
abbrev Zmx:=uM Tryz.underlying22
abbrev Zmy:=sMz 22 1
abbrev Zmz:=bMz 22 24
abbrev ZmA:=zMz 22 (.slice none 0 0)
abbrev ZmB:=uM Tryz.underlying23
abbrev ZmC:=uM Tryz.underlying26
abbrev ZmD:=uM Tryz.underlying28
abbrev ZmE:=uM Tryz.underlying32
abbrev ZmF:=sMz 32 2
abbrev ZmG:=zMz 32 (.agg #[.int .i64 0,.int .i64 0])
abbrev ZfX:=fMz 0 0 0 Tryz.underlying32
abbrev ZfY:=fMz 1 1 0 Tryz.underlying32
abbrev ZmH:=uM Tryz.underlying33
abbrev ZmI:=uM Tryz.underlying34
abbrev ZmJ:=uM Tryz.underlying35
abbrev ZmK:=uM Tryz.underlying38
abbrev ZmL:=sMz 38 1
abbrev ZmM:=uM Tryz.underlying39
abbrev ZmN:=sMz 39 1
abbrev ZmO:=uM Tryz.underlying40
abbrev ZmP:=sMz 40 1
abbrev ZmQ:=zMz 40 (.slice none 0 0)
abbrev ZmR:=uM Tryz.underlying41
abbrev ZmS:=uM Tryz.underlying42
abbrev ZmT:=uM Tryz.underlying43
abbrev ZmU:=uM Tryz.underlying44
abbrev ZmV:=uM Tryz.underlying46
abbrev ZmW:=sMz 46 2
abbrev ZfZ:=fMz 0 0 0 Tryz.underlying46
abbrev Zg0:=fMz 1 1 0 Tryz.underlying46
abbrev ZmX:=uM Tryz.underlying48
abbrev ZmY:=sMz 48 12
abbrev Zg1:=fMz 0 0 6 Tryz.underlying48
abbrev Zg2:=fMz 1 7 0 Tryz.underlying48
abbrev Zg3:=fMz 2 8 0 Tryz.underlying48
abbrev Zg4:=fMz 3 9 1 Tryz.underlying48
abbrev Zg5:=fMz 4 11 0 Tryz.underlying48
abbrev ZmZ:=uM Tryz.underlying50
abbrev Zn0:=sMz 50 19
abbrev Zn1:=zMz 50 (.agg #[.slice none 0 0,.slice none 0 0,.slice none 0 0,.slice none 0 0,.slice none 0 0,.bool false,.bool false,.bool false,.bool false,.bool false,.bool false,.bool false,.slice none 0 0,.slice none 0 0,.int .i64 0,.slice none 0 0,.int .i64 0,.int .i64 0,.int .i64 0])
abbrev Zg6:=fMz 0 0 0 Tryz.underlying50
abbrev Zg7:=fMz 1 1 0 Tryz.underlying50
abbrev Zg8:=fMz 2 2 0 Tryz.underlying50
abbrev Zg9:=fMz 3 3 0 Tryz.underlying50
abbrev Zga:=fMz 4 4 0 Tryz.underlying50
abbrev Zgb:=fMz 5 5 11 Tryz.underlying50
abbrev Zgc:=fMz 6 17 0 Tryz.underlying50
abbrev Zgd:=fMz 7 18 0 Tryz.underlying50
abbrev Zn2:=uM Tryz.underlying52
abbrev Zn3:=sMz 52 4
abbrev Zn4:=bMz 52 32
abbrev Zn5:=zMz 52 (.agg #[.int .i64 0,.int .i64 0,.int .i64 0,.int .i64 0])
abbrev Zge:=fMz 0 0 0 Tryz.underlying52
abbrev Zgf:=fMz 1 1 0 Tryz.underlying52
abbrev Zgg:=fMz 2 2 0 Tryz.underlying52
abbrev Zgh:=fMz 3 3 0 Tryz.underlying52
abbrev Zn6:=uM Tryz.underlying54
abbrev Zn7:=sMz 54 6
abbrev Zn8:=bMz 54 56
abbrev Zn9:=zMz 54 (.agg #[.int .i64 0,.string ByteArray.empty,.int .i64 0,.int .i64 0,.int .i64 0,.int .i64 0])
abbrev Zgi:=fMz 0 0 0 Tryz.underlying54
abbrev Zgj:=fMz 1 1 0 Tryz.underlying54
abbrev Zgk:=fMz 2 2 0 Tryz.underlying54
abbrev Zgl:=fMz 3 3 0 Tryz.underlying54
abbrev Zgm:=fMz 4 4 0 Tryz.underlying54
abbrev Zgn:=fMz 5 5 0 Tryz.underlying54
abbrev Zna:=uM Tryz.underlying55
abbrev Znb:=sMz 55 1
abbrev Znc:=uM Tryz.underlying58
abbrev Znd:=sMz 58 1
abbrev Zne:=uM Tryz.underlying60
abbrev Znf:=sMz 60 5
abbrev Zng:=bMz 60 56
abbrev Znh:=zMz 60 (.agg #[.int .i64 0,.int .i64 0,.int .i64 0,.int .i64 0,.slice none 0 0])
abbrev Zgo:=fMz 0 0 0 Tryz.underlying60
abbrev Zgp:=fMz 1 1 0 Tryz.underlying60
abbrev Zgq:=fMz 2 2 0 Tryz.underlying60
abbrev Zgr:=fMz 3 3 0 Tryz.underlying60
abbrev Zgs:=fMz 4 4 0 Tryz.underlying60
abbrev Zni:=uM Tryz.underlying62
abbrev Znj:=sMz 62 4
abbrev Znk:=bMz 62 32
abbrev Znl:=zMz 62 (.agg #[.int .i64 0,.int .i64 0,.int .i64 0,.int .i64 0])
abbrev Zgt:=fMz 0 0 0 Tryz.underlying62
abbrev Zgu:=fMz 1 1 0 Tryz.underlying62
abbrev Zgv:=fMz 2 2 0 Tryz.underlying62
abbrev Zgw:=fMz 3 3 0 Tryz.underlying62
abbrev Znm:=uM Tryz.underlying64
abbrev Znn:=sMz 64 6
abbrev Zno:=bMz 64 48
abbrev Znp:=zMz 64 (.agg #[.int .i64 0,.int .i64 0,.int .i64 0,.int .i64 0,.int .i64 0,.int .i64 0])
abbrev Zgx:=fMz 0 0 0 Tryz.underlying64
abbrev Zgy:=fMz 1 1 0 Tryz.underlying64
abbrev Zgz:=fMz 2 2 3 Tryz.underlying64
abbrev Znq:=uM Tryz.underlying67
abbrev Znr:=sMz 67 1
abbrev Zns:=uM Tryz.underlying69
abbrev Znt:=sMz 69 11
abbrev Znu:=zMz 69 (.agg #[.string ByteArray.empty,.int .i64 0,.string ByteArray.empty,.int .i64 0,.int .i64 0,.int .i64 0,.int .i64 0,.int .i64 0,.int .i64 0,.int .i64 0,.slice none 0 0])
abbrev ZgA:=fMz 3 8 0 Tryz.underlying69
abbrev ZgB:=fMz 4 9 0 Tryz.underlying69
abbrev ZgC:=fMz 5 10 0 Tryz.underlying69
abbrev Znv:=uM Tryz.underlying73
abbrev Znw:=sMz 73 3
abbrev Znx:=bMz 73 24
abbrev Zny:=zMz 73 (.agg #[.int .i64 0,.int .i64 0,.int .i64 0])
abbrev Znz:=uM Tryz.underlying79
abbrev ZnA:=uM Tryz.underlying81
abbrev ZnB:=sMz 81 7
abbrev ZnC:=zMz 81 (.agg #[.string ByteArray.empty,.int .i64 0,.string ByteArray.empty,.slice none 0 0,.slice none 0 0,.string ByteArray.empty,.string ByteArray.empty])
abbrev ZgD:=fMz 0 0 0 Tryz.underlying81
abbrev ZgE:=fMz 1 1 0 Tryz.underlying81
abbrev ZgF:=fMz 2 2 0 Tryz.underlying81
abbrev ZgG:=fMz 3 3 0 Tryz.underlying81
abbrev ZgH:=fMz 4 4 0 Tryz.underlying81
abbrev ZgI:=fMz 5 5 0 Tryz.underlying81
abbrev ZgJ:=fMz 6 6 0 Tryz.underlying81
abbrev ZnD:=uM Tryz.underlying84
abbrev ZnE:=uM Tryz.underlying86
abbrev ZnF:=sMz 86 4
abbrev ZnG:=zMz 86 (.agg #[.int .i64 0,.int .i64 0,.string ByteArray.empty,.slice none 0 0])
abbrev ZgK:=fMz 0 0 0 Tryz.underlying86
abbrev ZgL:=fMz 1 1 0 Tryz.underlying86
abbrev ZgM:=fMz 2 2 0 Tryz.underlying86
abbrev ZgN:=fMz 3 3 0 Tryz.underlying86
abbrev ZnH:=uM Tryz.underlying88
abbrev ZnI:=sMz 88 13
abbrev ZnJ:=zMz 88 (.agg #[.string ByteArray.empty,.int .i64 0,.string ByteArray.empty,.int .i64 0,.int .i64 0,.string ByteArray.empty,.slice none 0 0,.int .i64 0,.int .i64 0,.string ByteArray.empty,.slice none 0 0,.string ByteArray.empty,.string ByteArray.empty])
abbrev ZgO:=fMz 0 0 0 Tryz.underlying88
abbrev ZgP:=fMz 1 1 0 Tryz.underlying88
abbrev ZgQ:=fMz 2 2 0 Tryz.underlying88
abbrev ZgR:=fMz 3 3 3 Tryz.underlying88
abbrev ZgS:=fMz 4 7 3 Tryz.underlying88
abbrev ZgT:=fMz 5 11 0 Tryz.underlying88
abbrev ZgU:=fMz 6 12 0 Tryz.underlying88
abbrev ZnK:=uM Tryz.underlying90
abbrev ZnL:=sMz 90 4
abbrev ZnM:=bMz 90 32
abbrev ZnN:=zMz 90 (.agg #[.int .i64 0,.int .i64 0,.int .i64 0,.int .i64 0])
abbrev ZgV:=fMz 0 0 0 Tryz.underlying90
abbrev ZgW:=fMz 1 1 0 Tryz.underlying90
abbrev ZgX:=fMz 2 2 0 Tryz.underlying90
abbrev ZgY:=fMz 3 3 0 Tryz.underlying90
abbrev ZnO:=uM Tryz.underlying94
abbrev ZnP:=sMz 94 3
abbrev ZnQ:=bMz 94 24
abbrev ZnR:=zMz 94 (.agg #[.int .i64 0,.int .i64 0,.int .i64 0])
abbrev ZgZ:=fMz 0 0 0 Tryz.underlying94
abbrev Zh0:=fMz 2 2 0 Tryz.underlying94
abbrev ZnS:=uM Tryz.underlying96
abbrev ZnT:=uM Tryz.underlying98
abbrev Zja:=uM Tryz.underlying112
abbrev Zjb:=sMz 112 7
abbrev Zjc:=zMz 112 (.agg #[.int .i64 0,.int .i64 0,.int .i64 0,.int .i64 0,.int .i64 0,.int .i64 0,.int .i64 0])
abbrev ZcK:=fMz 0 0 0 Tryz.underlying112
abbrev ZcL:=fMz 1 1 0 Tryz.underlying112
abbrev ZcM:=fMz 2 2 0 Tryz.underlying112
abbrev ZcN:=fMz 3 3 0 Tryz.underlying112
abbrev ZcO:=fMz 4 4 0 Tryz.underlying112
abbrev ZcP:=fMz 5 5 0 Tryz.underlying112
abbrev ZcQ:=fMz 6 6 0 Tryz.underlying112
abbrev Zjd:=uM Tryz.underlying114
abbrev Zje:=sMz 114 3
abbrev Zjf:=bMz 114 24
abbrev Zjg:=zMz 114 (.agg #[.int .i64 0,.int .i64 0,.int .i64 0])
abbrev ZcR:=fMz 0 0 0 Tryz.underlying114
abbrev ZcS:=fMz 1 1 0 Tryz.underlying114
abbrev ZcT:=fMz 2 2 0 Tryz.underlying114
abbrev Zjh:=uM Tryz.underlying123
abbrev Zji:=sMz 123 2
abbrev Zjj:=bMz 123 16
abbrev Zjk:=zMz 123 (.agg #[.int .i64 0,.int .i64 0])
abbrev ZcU:=fMz 0 0 0 Tryz.underlying123
abbrev ZcV:=fMz 1 1 0 Tryz.underlying123
abbrev Zjl:=uM Tryz.underlying153
abbrev Zjm:=uM Tryz.underlying156
abbrev Zjn:=sMz 156 8
abbrev Zjo:=zMz 156 (.agg #[.int .i64 0,.bool false,.int .i64 0,.string ByteArray.empty,.int .i64 0,.int .i64 0,.int .i64 0,.int .i64 0])
abbrev ZcW:=fMz 0 0 0 Tryz.underlying156
abbrev ZcX:=fMz 1 1 0 Tryz.underlying156
abbrev ZcY:=fMz 2 2 5 Tryz.underlying156
abbrev Zjp:=uM Tryz.underlying157
abbrev Zjq:=uM Tryz.underlying160
abbrev Zjr:=uM Tryz.underlying162
abbrev Zjs:=uM Tryz.underlying165
abbrev Zjt:=sMz 165 3
abbrev Zju:=zMz 165 (.agg #[.int .i64 0,.int .i64 0,.int .i64 0])
abbrev ZcZ:=fMz 0 0 0 Tryz.underlying165
abbrev Zd0:=fMz 1 1 0 Tryz.underlying165
abbrev Zd1:=fMz 2 2 0 Tryz.underlying165
abbrev Zjv:=uM Tryz.underlying167
abbrev Zjw:=uM Tryz.underlying172
abbrev Zd2:=fMz 0 0 6 Tryz.underlying175
abbrev Zd3:=fMz 1 7 11 Tryz.underlying175
abbrev Zd4:=fMz 2 19 0 Tryz.underlying175
abbrev Zd5:=fMz 3 20 0 Tryz.underlying175
abbrev Zd6:=fMz 4 21 0 Tryz.underlying175
abbrev Zd7:=fMz 5 22 0 Tryz.underlying175
abbrev Zd8:=fMz 6 23 0 Tryz.underlying175
abbrev Zd9:=fMz 7 24 0 Tryz.underlying175
abbrev Zjx:=uM Tryz.underlying176
abbrev Zjy:=uM Tryz.underlying179
abbrev Zjz:=sMz 179 2
abbrev ZjA:=zMz 179 (.agg #[.int .i64 0,.int .i64 0])
abbrev Zda:=fMz 0 0 0 Tryz.underlying179
abbrev Zdb:=fMz 1 1 0 Tryz.underlying179
abbrev ZjB:=zMz 180 (.nilFunc)
abbrev ZjC:=sMz 195 2
abbrev ZjD:=zMz 195 (.agg #[.int .i64 0,.int .i64 0])
abbrev ZjE:=uM Tryz.underlying213
abbrev ZjF:=uM Tryz.underlying217
abbrev Zdc:=fMz 0 0 0 Tryz.underlying219
abbrev Zdd:=fMz 1 1 0 Tryz.underlying219
abbrev Zde:=fMz 2 2 0 Tryz.underlying219
abbrev ZjG:=uM Tryz.underlying222
abbrev ZjH:=sMz 224 2
abbrev Zdf:=fMz 1 1 0 Tryz.underlying224
abbrev ZjI:=uM Tryz.underlying225
abbrev ZjJ:=sMz 225 8
abbrev ZjK:=zMz 225 (.agg #[.nilFunc,.nilFunc,.nilFunc,.nilFunc,.nilFunc,.nilFunc,.nilFunc,.nilFunc])
abbrev ZjL:=uM Tryz.underlying228
abbrev ZjM:=sMz 228 9
abbrev ZjN:=zMz 228 (.agg #[.int .i64 0,.int .i64 0,.int .i64 0,.int .i64 0,.int .i64 0,.int .i64 0,.int .i64 0,.int .i64 0,.int .i64 0])
abbrev Zdg:=fMz 0 0 0 Tryz.underlying228
abbrev Zdh:=fMz 1 1 0 Tryz.underlying228
abbrev Zdi:=fMz 2 2 0 Tryz.underlying228
abbrev Zdj:=fMz 3 3 0 Tryz.underlying228
abbrev Zdk:=fMz 4 4 0 Tryz.underlying228
abbrev Zdl:=fMz 5 5 0 Tryz.underlying228
abbrev Zdm:=fMz 6 6 0 Tryz.underlying228
abbrev Zdn:=fMz 7 7 0 Tryz.underlying228
abbrev Zdo:=fMz 8 8 0 Tryz.underlying228
abbrev ZjO:=uM Tryz.underlying255
abbrev ZjP:=uM Tryz.underlying257
abbrev ZjQ:=uM Tryz.underlying258
abbrev ZjR:=uM Tryz.underlying277
abbrev ZjS:=sMz 277 3
abbrev ZjT:=zMz 277 (.agg #[.int .i64 0,.int .i64 0,.int .i64 0])
abbrev Zdp:=fMz 0 0 0 Tryz.underlying277
abbrev Zdq:=fMz 1 1 0 Tryz.underlying277
abbrev Zdr:=fMz 2 2 0 Tryz.underlying277
abbrev ZjU:=uM Tryz.underlying285
abbrev ZjV:=sMz 285 7
abbrev ZjW:=zMz 285 (.agg #[.int .i64 0,.int .i64 0,.int .i64 0,.int .i64 0,.int .i64 0,.int .i64 0,.int .i64 0])
abbrev ZjX:=uM Tryz.underlying306
abbrev ZjY:=sMz 306 3
abbrev ZjZ:=zMz 306 (.agg #[.int .i64 0,.int .i64 0,.int .i64 0])
abbrev Zk0:=uM Tryz.underlying308
abbrev Zk1:=uM Tryz.underlying320
abbrev Zk2:=uM Tryz.underlying321
abbrev Zk3:=zMz 321 (.agg #[.int .i64 0,.int .i64 0,.int .i64 0,.int .i64 0,.int .i64 0,.int .i64 0,.int .i64 0,.int .i64 0,.int .i64 0,.int .i64 0,.int .i64 0,.int .i64 0,.int .i64 0,.int .i64 0,.int .i64 0,.int .i64 0,.int .i64 0,.int .i64 0,.int .i64 0,.int .i64 0,.int .i64 0,.int .i64 0,.int .i64 0,.int .i64 0,.int .i64 0,.int .i64 0,.int .i64 0,.int .i64 0,.int .i64 0,.int .i64 0,.int .i64 0,.int .i64 0])
abbrev Zk4:=uM Tryz.underlying348
abbrev Zk5:=uM Tryz.underlying356
abbrev Zk6:=uM Tryz.underlying359
abbrev Zk7:=sMz 359 2
abbrev Zk8:=bMz 359 16
abbrev Zk9:=zMz 359 (.agg #[.int .i64 0,.int .i64 0])
abbrev Zds:=fMz 0 0 0 Tryz.underlying359
abbrev Zka:=uM Tryz.underlying375
abbrev Zq2:=mkF Tryz.func4
abbrev Zq3:=mkF Tryz.func5
abbrev Zq4:=mkF Tryz.func6
abbrev Zq5:=mkF Tryz.func7
abbrev Zq6:=mkF Tryz.func8
abbrev Zq7:=mkF Tryz.func9
abbrev ZnU:=mkF Tryz.func10
abbrev ZnV:=mkF Tryz.func11
abbrev ZnW:=mkF Tryz.func12
abbrev ZnX:=mkF Tryz.func13
abbrev ZnY:=mkF Tryz.func16
abbrev ZnZ:=mkF Tryz.func17
abbrev Zo0:=mkF Tryz.func18
abbrev Zo1:=mkF Tryz.func19
abbrev Zo2:=mkF Tryz.func20
abbrev Zo3:=mkF Tryz.func21
abbrev Zo4:=mkF Tryz.func22
abbrev Zo5:=mkF Tryz.func23
abbrev Zo6:=mkF Tryz.func24
abbrev Zo7:=mkF Tryz.func25
abbrev Zo8:=mkF Tryz.func26
abbrev Zo9:=mkF Tryz.func27
abbrev Zoa:=mkF Tryz.func28
abbrev Zob:=mkF Tryz.func29
abbrev Zoc:=mkF Tryz.func30
abbrev Zod:=mkF Tryz.func31
abbrev Zoe:=mkF Tryz.func32
abbrev Zof:=mkF Tryz.func33
abbrev Zog:=mkF Tryz.func34
abbrev Zoh:=mkF Tryz.func35
abbrev Zoi:=mkF Tryz.func36
abbrev Zoj:=mkF Tryz.func37
abbrev Zok:=mkF Tryz.func38
abbrev Zol:=mkF Tryz.func39
abbrev Zom:=mkF Tryz.func40
abbrev Zon:=mkF Tryz.func41
abbrev Zoo:=mkF Tryz.func43
abbrev Zop:=mkF Tryz.func46
abbrev Zoq:=mkF Tryz.func48
abbrev Zor:=mkF Tryz.func49
abbrev Zos:=mkF Tryz.func50
abbrev Zot:=mkF Tryz.func51
abbrev Zou:=mkF Tryz.func52
abbrev Zov:=mkF Tryz.func53
abbrev Zow:=mkF Tryz.func54
abbrev Zox:=mkF Tryz.func55
abbrev Zoy:=mkF Tryz.func56
abbrev Zoz:=mkF Tryz.func57
abbrev ZoA:=mkF Tryz.func58
abbrev ZoB:=mkF Tryz.func59
abbrev ZoC:=mkF Tryz.func60
abbrev ZoD:=mkF Tryz.func61
abbrev ZoE:=mkF Tryz.func62
abbrev ZoF:=mkF Tryz.func63
abbrev ZoG:=mkF Tryz.func64
abbrev ZoH:=mkF Tryz.func65
abbrev ZoI:=mkF Tryz.func66
abbrev ZoJ:=mkF Tryz.func67
abbrev ZoK:=mkF Tryz.func68
abbrev ZoL:=mkF Tryz.func69
abbrev ZoM:=mkF Tryz.func70
abbrev ZoN:=mkF Tryz.func71
abbrev ZoO:=mkF Tryz.func72
abbrev ZoP:=mkF Tryz.func73
abbrev ZoQ:=mkF Tryz.func74
abbrev ZoR:=mkF Tryz.func75
abbrev ZoS:=mkF Tryz.func76
abbrev ZoT:=mkF Tryz.func77
abbrev ZoU:=mkF Tryz.func78
abbrev ZoV:=mkF Tryz.func84
abbrev ZoW:=mkF Tryz.func93
abbrev ZoX:=mkF Tryz.func94
abbrev ZoY:=mkF Tryz.func95
abbrev ZoZ:=mkF Tryz.func98
abbrev Zp0:=mkF Tryz.func99
abbrev Zkb:=mkF Tryz.func100
abbrev Zkc:=mkF Tryz.func101
abbrev Zkd:=mkF Tryz.func102
abbrev Zke:=mkF Tryz.func103
abbrev Zkf:=mkF Tryz.func104
abbrev Zkg:=mkF Tryz.func105
abbrev Zkh:=mkF Tryz.func106
abbrev Zki:=mkF Tryz.func107
abbrev Zkj:=mkF Tryz.func108
abbrev Zkk:=mkF Tryz.func109
abbrev Zkl:=mkF Tryz.func110
abbrev Zkm:=mkF Tryz.func111
abbrev Zkn:=mkF Tryz.func112
abbrev Zko:=mkF Tryz.func113
abbrev Zkp:=mkF Tryz.func114
abbrev Zkq:=mkF Tryz.func115
abbrev Zkr:=mkF Tryz.func116
abbrev Zks:=mkF Tryz.func117
abbrev Zkt:=mkF Tryz.func118
abbrev Zku:=mkF Tryz.func119
abbrev Zkv:=mkF Tryz.func120
abbrev Zkw:=mkF Tryz.func121
abbrev Zkx:=mkF Tryz.func122
abbrev Zky:=mkF Tryz.func123
abbrev Zkz:=mkF Tryz.func124
abbrev ZkA:=mkF Tryz.func125
abbrev ZkB:=mkF Tryz.func126
abbrev ZkC:=mkF Tryz.func127
abbrev ZkD:=mkF Tryz.func128
abbrev ZkE:=mkF Tryz.func129
abbrev ZkF:=mkF Tryz.func130
abbrev ZkG:=mkF Tryz.func131
abbrev ZkH:=mkF Tryz.func132
abbrev ZkI:=mkF Tryz.func133
abbrev ZkJ:=mkF Tryz.func136
abbrev ZkK:=mkF Tryz.func137
abbrev ZkL:=mkF Tryz.func145
abbrev ZkM:=mkF Tryz.func156
abbrev ZkN:=mkF Tryz.func157
abbrev ZkO:=mkF Tryz.func158
abbrev ZkP:=mkF Tryz.func159
abbrev ZkQ:=mkF Tryz.func160
abbrev ZkR:=mkF Tryz.func164
abbrev ZkS:=mkF Tryz.func166
abbrev ZkT:=mkF Tryz.func168
abbrev ZkU:=mkF Tryz.func169
abbrev ZkV:=mkF Tryz.func170
abbrev ZkW:=mkF Tryz.func171
abbrev ZkX:=mkF Tryz.func172
abbrev ZkY:=mkF Tryz.func174
abbrev ZkZ:=mkF Tryz.func175
abbrev Zl0:=mkF Tryz.func177
abbrev Zl1:=mkF Tryz.func178
abbrev Zl2:=mkF Tryz.func179
abbrev Zl3:=mkF Tryz.func181
abbrev Zl4:=mkF Tryz.func183
abbrev Zl5:=mkF Tryz.func184
abbrev Zl6:=mkF Tryz.func185
abbrev Zl7:=mkF Tryz.func186
abbrev Zl8:=mkF Tryz.func187
abbrev Zl9:=mkF Tryz.func188
abbrev Zla:=mkF Tryz.func189
abbrev Zlb:=mkF Tryz.func190
abbrev Zlc:=mkF Tryz.func191
abbrev Zld:=mkF Tryz.func192
abbrev Zle:=mkF Tryz.func193
abbrev Zlf:=mkF Tryz.func194
abbrev Zlg:=mkF Tryz.func198
abbrev Zlh:=mkF Tryz.func199
abbrev Zli:=mkF Tryz.func201
abbrev Zlj:=mkF Tryz.func205
abbrev Zlk:=mkF Tryz.func208
abbrev Zll:=mkF Tryz.func214
abbrev Zlm:=mkF Tryz.func215
abbrev Zln:=mkF Tryz.func216
abbrev Zlo:=mkF Tryz.func217
abbrev Zlp:=mkF Tryz.func225
abbrev Zlq:=mkF Tryz.func226
abbrev Zlr:=mkF Tryz.func227
abbrev Zls:=mkF Tryz.func228
abbrev Zlt:=mkF Tryz.func229
abbrev Zlu:=mkF Tryz.func230
abbrev Zlv:=mkF Tryz.func231
abbrev Zlw:=mkF Tryz.func232
abbrev Zlx:=mkF Tryz.func233
abbrev Zly:=mkF Tryz.func234
abbrev Zlz:=mkF Tryz.func235
abbrev ZlA:=mkF Tryz.func236
abbrev ZlB:=mkF Tryz.func237
abbrev ZlC:=mkF Tryz.func248
abbrev ZlD:=mkF Tryz.func271
abbrev ZlE:=mkF Tryz.func278
abbrev ZlF:=mkF Tryz.func300
abbrev ZlG:=mkF Tryz.func301
abbrev ZlH:=mkF Tryz.func311
abbrev ZlI:=mkF Tryz.func316
abbrev CC (f:Nat) (a:Array Value) (w:World) (G:Value->World->Prop):=Calls Tryz.prog f a w (Ret G)
attribute [instance] ZpQ ZpU ZpY Zq0 Zmw Zmx ZmB ZmC ZmD ZmE ZmH ZmI ZmJ ZmK ZmM ZmO ZmR ZmS ZmT ZmU ZmV ZmX ZmZ Zn2 Zn6 Zna Znc Zne Zni Znm Znq Zns Znv Znz ZnA ZnD ZnE ZnH ZnK ZnO ZnS ZnT Zja Zjd Zjh Zjl Zjm Zjp Zjq Zjr Zjs Zjv Zjw Zjx Zjy ZjE ZjF ZjG ZjI ZjL ZjO ZjP ZjQ ZjR ZjU ZjX Zk0 Zk1 Zk2 Zk4 Zk5 Zk6 Zka Zq2 Zq3 Zq4 Zq5 Zq6 Zq7 ZnU ZnV ZnW ZnX ZnY ZnZ Zo0 Zo1 Zo2 Zo3 Zo4 Zo5 Zo6 Zo7 Zo8 Zo9 Zoa Zob Zoc Zod Zoe Zof Zog Zoh Zoi Zoj Zok Zol Zom Zon Zoo Zop Zoq Zor Zos Zot Zou Zov Zow Zox Zoy Zoz ZoA ZoB ZoC ZoD ZoE ZoF ZoG ZoH ZoI ZoJ ZoK ZoL ZoM ZoN ZoO ZoP ZoQ ZoR ZoS ZoT ZoU ZoV ZoW ZoX ZoY ZoZ Zp0 Zkb Zkc Zkd Zke Zkf Zkg Zkh Zki Zkj Zkk Zkl Zkm Zkn Zko Zkp Zkq Zkr Zks Zkt Zku Zkv Zkw Zkx Zky Zkz ZkA ZkB ZkC ZkD ZkE ZkF ZkG ZkH ZkI ZkJ ZkK ZkL ZkM ZkN ZkO ZkP ZkQ ZkR ZkS ZkT ZkU ZkV ZkW ZkX ZkY ZkZ Zl0 Zl1 Zl2 Zl3 Zl4 Zl5 Zl6 Zl7 Zl8 Zl9 Zla Zlb Zlc Zld Zle Zlf Zlg Zlh Zli Zlj Zlk Zll Zlm Zln Zlo Zlp Zlq Zlr Zls Zlt Zlu Zlv Zlw Zlx Zly Zlz ZlA ZlB ZlC ZlD ZlE ZlF ZlG ZlH ZlI ZpR ZpS ZpT ZpV ZpW ZpX ZpZ Zq1 Zmy Zmz ZmA ZmF ZmG ZfX ZfY ZmL ZmN ZmP ZmQ ZmW ZfZ Zg0 ZmY Zg1 Zg2 Zg3 Zg4 Zg5 Zn0 Zn1 Zg6 Zg7 Zg8 Zg9 Zga Zgb Zgc Zgd Zn3 Zn4 Zn5 Zge Zgf Zgg Zgh Zn7 Zn8 Zn9 Zgi Zgj Zgk Zgl Zgm Zgn Znb Znd Znf Zng Znh Zgo Zgp Zgq Zgr Zgs Znj Znk Znl Zgt Zgu Zgv Zgw Znn Zno Znp Zgx Zgy Zgz Znr Znt Znu ZgA ZgB ZgC Znw Znx Zny ZnB ZnC ZgD ZgE ZgF ZgG ZgH ZgI ZgJ ZnF ZnG ZgK ZgL ZgM ZgN ZnI ZnJ ZgO ZgP ZgQ ZgR ZgS ZgT ZgU ZnL ZnM ZnN ZgV ZgW ZgX ZgY ZnP ZnQ ZnR ZgZ Zh0 Zjb Zjc ZcK ZcL ZcM ZcN ZcO ZcP ZcQ Zje Zjf Zjg ZcR ZcS ZcT Zji Zjj Zjk ZcU ZcV Zjn Zjo ZcW ZcX ZcY Zjt Zju ZcZ Zd0 Zd1 Zd2 Zd3 Zd4 Zd5 Zd6 Zd7 Zd8 Zd9 Zjz ZjA Zda Zdb ZjB ZjC ZjD Zdc Zdd Zde ZjH Zdf ZjJ ZjK ZjM ZjN Zdg Zdh Zdi Zdj Zdk Zdl Zdm Zdn Zdo ZjS ZjT Zdp Zdq Zdr ZjV ZjW ZjY ZjZ Zk3 Zk7 Zk8 Zk9 Zds
end Go.Proofs.YtkojegdemoahlaaGreatDoor
namespace Go.Eng
open Go Go.RowKit Go.Proofs
def Z3d (d:Nat):Nat:=(d - d / 1460+d / 36524 - d / 146096) / 365
def Z3M (y:Nat):Nat:=365 * y+y / 4 - y / 100
def Zdt (y:Nat):Bool:=Nat.beq (y % 4) 0 && (!(Nat.beq (y % 100) 0) || Nat.beq (y % 400) 0)
def ZlJ (d:Nat):Bool:=Nat.ble 146097 d || (Nat.ble (Z3M (Z3d d)) d && (Nat.blt d (Z3M (Z3d d)+365) || (Nat.beq d (Z3M (Z3d d)+365) && Zdt (Z3d d+1))))
def Zdu:Nat->Nat->Bool
 | 0,lo=>ZlJ lo
 | k+1,lo=>Zdu k lo && Zdu k (lo+2 ^ k)
theorem Z3N:∀ (k lo d:Nat),Zdu k lo=true->lo<=d->d<lo+2 ^ k->ZlJ d=true
 | 0, lo, d, h, h1, h2 => by
   have:d=lo:=by simp at h2;omega
   subst this;exact h
 | k + 1, lo, d, h, h1, h2 => by
   simp only [Zdu,Xa] at h;rw [Nat.pow_succ] at h2;rcases YbC d (lo+2 ^ k) with h3|h3
   exact Z3N k lo d h.1 h1 h3;exact Z3N k (lo+2 ^ k) d h.2 h3 (by omega)
theorem Zdv:Zdu 18 0=true:=by kernel_rfl
theorem Zdw (y:Nat):Zdt y=JT (y:Int):=by
 unfold Zdt JT;have h:∀ a b:Nat,Nat.beq (a % b) 0=decide ((a:Int) % (b:Int)=0):=λa b=>by
  rw [Ybi];simp only [decide_eq_true_eq];rw [Nat.beq_eq];omega
 rw [show Nat.beq (y % 4) 0=decide ((y:Int) % 4=0) from h y 4,show Nat.beq (y % 100) 0=decide ((y:Int) % 100=0) from h y 100,show Nat.beq (y % 400) 0=decide ((y:Int) % 400=0) from h y 400];simp
structure Dat where
 y:Int
 m:Int
 d:Int
def ofM (day:Int):Dat:=
 let z:=day+306
 let era:=z / 146097
 let doe:=z % 146097
 let yoe:=(doe - doe / 1460+doe / 36524 - doe / 146096) / 365
 let doy:=doe - (365 * yoe+yoe / 4 - yoe / 100)
 let m:=(5 * doy+2) / 153
 if m>=10 then ⟨yoe+400 * era+1,m - 9,doy - (153 * m+2) / 5+1⟩ else ⟨yoe+400 * era,m+3,doy - (153 * m+2) / 5+1⟩
theorem Zdx:∀ q:Nat,q<366->(5 * q+2) / 153<=11/\(153 * ((5 * q+2) / 153)+2) / 5<=q/\
 q - (153 * ((5 * q+2) / 153)+2) / 5+1<=(if (5 * q+2) / 153=11 then (if q=365 then 29 else 28) else if (5 * q+2) / 153=1\/(5 * q+2) / 153=3\/(5 * q+2) / 153=6\/(5 * q+2) / 153=8 then 30 else 31):=by decide +kernel
theorem Zdy (doe:Int) (h0:0<=doe) (h1:doe<146097):∃ yoe doy:Nat,(doe - doe / 1460+doe / 36524 - doe / 146096) / 365=(yoe:Int)/\doe - (365 * (yoe:Int)+(yoe:Int) / 4 - (yoe:Int) / 100)=(doy:Int)/\yoe<=399/\doy<=365/\(doy=365->JT ((yoe:Int)+1)=true):=by
 obtain ⟨d,rfl⟩:∃ d:Nat,doe=(d:Int):=⟨doe.toNat,by omega⟩
 have hd:d<146097:=by omega
 have h:=Z3N 18 0 d Zdv (by omega) (by omega);unfold ZlJ at h;rw [show Nat.ble 146097 d=false by rw [YbI];simp;omega] at h;simp only [YbL,Xa,YbA,Nat.ble_eq,Nat.beq_eq] at h;obtain ⟨h2,h3⟩:=h;have hy:((d:Int) - (d:Int) / 1460+(d:Int) / 36524 - (d:Int) / 146096) / 365=((Z3d d:Nat):Int):=by unfold Z3d;omega
 have lM:Z3d d<=399:=by unfold Z3d;omega
 have ax:(Z3M (Z3d d):Int)=365 * (Z3d d:Int)+(Z3d d:Int) / 4 - (Z3d d:Int) / 100:=by unfold Z3M;omega
 refine ⟨Z3d d,d - Z3M (Z3d d),hy,by omega,lM,?_,λh4=>?_⟩;rcases h3 with h3|h3
 have:=Xb h3;omega;have:=h3.1;omega;rcases h3 with h3|h3
 have:=Xb h3;omega;have:=h3.2;rw [Zdw] at this;exact this
theorem Zb2 (y e:Int):JT (y+400 * e)=JT y:=by
 unfold JT;have h4:(y+400 * e) % 4=y % 4:=by omega
 have lN:(y+400 * e) % 100=y % 100:=by omega
 have lO:(y+400 * e) % 400=y % 400:=by omega
 rw [h4,lN,lO]
theorem Z6G {n:Int} (h0:0<=n) (h1:n<=3652058):1<=(ofM n).y/\(ofM n).y<=9999/\1<=(ofM n).m/\(ofM n).m<=12/\1<=(ofM n).d/\(ofM n).d<=Zv (ofM n).y (ofM n).m/\JF (ofM n).y (ofM n).m (ofM n).d=n:=by
 obtain ⟨yoe,doy,e1,e2,hy,hd,hl⟩:=Zdy ((n+306) % 146097) (by omega) (by omega);obtain ⟨m1,m2,m3⟩:=Zdx doy (by omega);have qb:(n+306) / 146097 * 146097+(n+306) % 146097=n+306:=by omega
 unfold ofM;simp only;rw [e1,e2];have em:(5 * (doy:Int)+2) / 153=(((5 * doy+2) / 153:Nat):Int):=by omega
 rw [em];have ek:(153 * (((5 * doy+2) / 153:Nat):Int)+2) / 5=(((153 * ((5 * doy+2) / 153)+2) / 5:Nat):Int):=by omega
 rw [ek];generalize (n+306) / 146097=era at *;generalize (n+306) % 146097=doe at *;have og:∀ m:Nat,m<=11->(153 * (m:Int)+2) / 5=(((153 * m+2) / 5:Nat):Int):=λm _=>by omega
 generalize hm:(5 * doy+2) / 153=m at *;have q4:((yoe:Int)+400 * era) / 4=(yoe:Int) / 4+100 * era:=by omega
 have q100:((yoe:Int)+400 * era) / 100=(yoe:Int) / 100+4 * era:=by omega
 have q400:((yoe:Int)+400 * era) / 400=era:=by omega
 by_cases iP:((m:Nat):Int)>=10;rw [if_pos iP];simp only;have ei:JF ((yoe:Int)+400 * era+1) ((m:Int) - 9) ((doy:Int) - (((153 * m+2) / 5:Nat):Int)+1)=n:=by
  unfold JF;rw [if_pos (by omega)];simp only;rw [show (yoe:Int)+400 * era+1 - 1=(yoe:Int)+400 * era by omega,show (m:Int) - 9+9=(m:Int) by omega,og m m1,q4,q100,q400];omega
 refine ⟨?_,?_,by omega,by omega,by omega,?_,ei⟩;omega;omega;have jh:m=10\/m=11:=by omega
 rcases jh with rfl|rfl
 unfold Zv;rw [if_neg (by omega),if_neg (by omega),if_neg (by omega)];rw [if_neg (by omega),if_neg (by omega)] at m3;omega;unfold Zv;rw [if_neg (by omega),if_pos (by omega)];rw [if_pos rfl] at m3;by_cases gY:doy=365;rw [if_pos gY] at m3;have eG:JT ((yoe:Int)+400 * era+1)=true:=by
  rw [show (yoe:Int)+400 * era+1=((yoe:Int)+1)+400 * era by omega,Zb2];exact hl gY
 rw [eG];simp only [if_true];omega;rw [if_neg gY] at m3;split<;>omega
 rw [if_neg iP];simp only;have ei:JF ((yoe:Int)+400 * era) ((m:Int)+3) ((doy:Int) - (((153 * m+2) / 5:Nat):Int)+1)=n:=by
  unfold JF;rw [if_neg (by omega)];simp only;rw [show (m:Int)+3 - 3=(m:Int) by omega,og m m1,q4,q100,q400];omega
 refine ⟨?_,?_,by omega,by omega,by omega,?_,ei⟩;omega;omega;unfold Zv;rw [if_neg (by omega),if_neg (by omega)];rw [if_neg (by omega)] at m3;split at m3;rw [if_pos (by omega)];omega;rw [if_neg (by omega)];omega
end Go.Eng
namespace Go.Proofs.YtkojegdemoahlaaGreatDoor
open Go Go.Eng Go.RowKit
abbrev ndC (x:Nd) (kv:Value):List Value:=[.I x.kind,.I x.num,str x.word,kv]
theorem Zag {X:List Nat} {w} {x:Nd} {kv:Value} {l:List Nd} (h:SlV X w kv l):∀ c∈ndC x kv,c.oneCell'=true:=by
 intro c hc;simp only [ndC,Xd,Xp,or_false] at hc;rcases hc with rfl|rfl|rfl|rfl
 rfl;rfl;rfl;exact h.one
def Z00:Nat->Nd->Bool
 | 0,_=>false
 | m+1,x=>x.kids.all (Z00 m)
theorem Z5z {α:Type} (p:α->Bool) (l:List α) (k:Nat) (hk:k<l.length):(l.take (k+1)).all p=((l.take k).all p && p l[k]):=by
 rw [Xf hk,List.all_append];simp
theorem Z97 (m:Nat):∀ (X:List Nat) (v:Value) (x:Nd) (z:Int) (w),z=(m:Int)->m<=1000->NdV X w v x->
 CC 158 #[v,.I z] w λr w'=>r=.B (Z00 m x)/\Stp [] w w':=by
 induction m with
 | zero=>
   intro X v x z w hz hm hx;obtain ⟨kv,rfl,hs⟩:=hx;refine cW2 22 Tryz.func158 ?_;refine W ?_;refine Z0 (Zl rfl) rfl ?_;rintro _ w1 ⟨b,rfl,hb,ab,hS⟩;refine RT ?_;exact ⟨rfl,hS⟩
 | succ m ih=>
   intro X v x z w hz hm hx;obtain ⟨kv,rfl,hs⟩:=hx;have bg:=hs.max;refine cW2 22 Tryz.func158 ?_;refine W ?_;refine Z0 (Zl rfl) rfl ?_;rintro _ w1 ⟨b,rfl,hb,ab,hS⟩;replace ab:Blk w1 b _ (ndC x kv):=ab;replace hs:=hs.up hS;refine QO ?_;have cd:=hs;refine LP (σ:=Nat) (λk=>[(1,.I z),(10,kv),(11,.I (x.kids.length:Int)),(12,.I k)]) (λk w'=>k<=x.kids.length/\Stp [] w1 w'/\(x.kids.take k).all (Z00 m)=true) (λk=>x.kids.length - k) 0 ⟨Xu _,Stp.refl _ _,rfl⟩ ?_;clear hs;rintro k w2 ⟨hk,ai,aM⟩;have hs:=cd.up ai;by_cases ah:k<x.kids.length
   . have cB:=Z5z (Z00 m) x.kids k ah
     rw [aM,YbM] at cB;obtain ⟨kv2,bu,dt⟩:=hs.nd ah;refine QO ?_;apply Z7 (Z5T rfl rfl hs ah dt) rfl;refine Z0 Z4 rfl ?_;rintro _ w3 ⟨b3,rfl,kI,aL,aw⟩;refine SB (us:=ndC x.kids[k] kv2) (Zag bu) aL ?_;rintro _ w4 ⟨ay,gB⟩;have jp:=aw.ow ay;replace ai:=ai.trans jp;replace bu:=bu.up jp;refine W ?_;refine Z0 (Zd rfl (ZK rfl rfl) (ih X _ x.kids[k] _ _ (by omega) (by omega) ⟨kv2,rfl,bu⟩)) rfl ?_;rintro _ w5 ⟨rfl,aB⟩;replace ai:=ai.trans aB;cases hq:Z00 m x.kids[k] with
     | true=>
       refine W ?_;exact QL (k+1) ⟨ah,ai,by rw [cB,hq]⟩ (by omega)
     | false=>
       refine W ?_;refine WR ?_;refine .mk ⟨?_,hS.trans ai⟩;have:Z00 (m+1) x=false:=by
        show x.kids.all (Z00 m)=false;rw [List.all_eq_false];exact ⟨_,Xc ah,by simp [hq]⟩
       rw [this]
   have ej:k=x.kids.length:=by omega
   subst ej;rw [Xs] at aM;refine QO ?_;refine WR ?_;refine .mk ⟨?_,hS.trans ai⟩;show _=Value.bool (x.kids.all (Z00 m));rw [aM]
def idx {α:Type} (p:α->Bool) (xs:List α):Int:=match xs.findIdx? p with|some i=>(i:Int)|none=>-1
theorem Z2n {α:Type} {p:α->Bool} {xs:List α} {k:Nat} (hk:k<xs.length) (hp:p xs[k]=true) (hb:∀ j (h:j<xs.length),j<k->p xs[j]=false):idx p xs=k:=by
 have:xs.findIdx? p=some k:=X8.2 ⟨hk,hp,λj hj=>by simp [hb j (by omega) hj]⟩;simp [idx,this]
theorem Z0W {α:Type} {p:α->Bool} {xs:List α} (hb:∀ j (h:j<xs.length),p xs[j]=false):idx p xs=-1:=by
 have:xs.findIdx? p=none:=by
  rw [Yam];intro x hx;obtain ⟨j,hj,rfl⟩:=Xq hx;simp [hb j hj]
 simp [idx,this]
abbrev isS (a:Str):Str->Bool:=λx=>decide (x=a)
theorem Z5U (X:List Nat) (v:Value) (l:List Str) (a:Str) (w) (hs:SlV X w v l):CC 214 #[v,str a] w λr w'=>r=.I (idx (isS a) l)/\Stp [] w w':=by
 have bg:=hs.max;refine cW2 19 Tryz.func214 ?_;refine W ?_;refine LP (σ:=Nat) (λk=>[(0,v),(1,str a),(8,.I k),(7,.I (l.length:Int))]) (λk w'=>k<=l.length/\Stp [] w w'/\∀ j (h:j<l.length),j<k->isS a l[j]=false) (λk=>l.length - k) 0 ⟨Xu _,Stp.refl _ _,λj _ h=>absurd h (XC _)⟩ ?_;have cd:=hs;clear hs;rintro k w1 ⟨hk,hS,bO⟩;have hs:=cd.up hS;by_cases ah:k<l.length;focus repeat'(first|refine W1 ?_|omega|refine VG ?_ ?_<;>intro hg|refine VC ?_ ?_<;>intro hc)
 refine WR ?_;have lm:isS a l[k]=true:=by simpa [isS,eq_comm] using hc
 exact .mk ⟨by rw [Z2n ah lm bO],hS⟩;refine QL (k+1) ⟨ah,hS,λj h hj=>?_⟩ (by omega);by_cases e:j=k;subst e;simpa [isS,eq_comm] using hc;exact bO j h (by omega);have ej:k=l.length:=by omega
 subst ej;focus repeat'(first|refine W1 ?_|omega|refine VG ?_ ?_<;>intro hg|refine VC ?_ ?_<;>intro hc)
 refine RU ?_;exact ⟨by rw [Z0W (λj h=>bO j h h)],hS⟩
def Za:List Str:=[[100,97,121],[115,101,114,118,101,100],[101,120,116,114,97],[98,121],[116,111],[99,111,117,114,116],[97,109,111,117,110,116]]
abbrev Z1w:Value:=.slice (some ⟨0,0,none⟩) 7 7
def Z98 (a:Str):Int×Int×Bool:=
 let i:=idx (isS a) Za
 if i<0 then (0,0,false) else if i<=1 then (i,3,true) else (i,1,true)
abbrev Zq8 (x:Int×Int×Bool):Value:=.tuple #[.I x.1,.I x.2.1,.B x.2.2]
theorem Zb3 (a:Str) (w) (hF:SlV [] w Z1w Za):CC 160 #[str a] w λr w'=>r=Zq8 (Z98 a)/\Stp [] w w':=by
 refine cW1 17 Tryz.func160 ?_;refine W ?_;apply Z7 (Z3G rfl) rfl;refine W ?_;refine CL (Z5U [] _ _ a _ hF) ?_;rintro _ w1 ⟨rfl,hS⟩;unfold Z98;generalize idx (isS a) Za=i;repeat'(first|refine W1 ?_|refine VG ?_ ?_<;>intro hg|refine VC ?_ ?_<;>intro hc)
 all_goals (refine WR ?_)
 exact .mk ⟨by simp only [if_pos hc],hS⟩;rename_i h1;exact .mk ⟨by simp only [if_neg h1,if_pos hc],hS⟩;rename_i h1;exact .mk ⟨by simp only [if_neg h1,if_neg hc],hS⟩
theorem _root_.Go.Eng.Row.slv0 {α:Type} [Z1 α] {w} {base T:Nat} {v:Value} {xs:List α} (h:Row [] w base T v xs):SlV [] w v xs:=h.slv (by simp)
def Z7M (k n:Int) (s:Str):Int:=
 if k=4 then (if n=0 then (Z98 s).2.1 else 0) else if ¬ s=[] then 0
 else if k=1 then (if 0<=n/\n<=2147483647 then 1 else 0) else if k=2 then (if 0<=n/\n<=1 then 2 else 0) else if k=3 then (if 0<=n/\n<=3652058 then 3 else 0) else 0
theorem Zdz (X:List Nat) (v:Value) (x:Nd) (w) (hx:NdV X w v x) (hF:SlV [] w Z1w Za) :
 CC 215 #[v] w λr w'=>r=.I (Z7M x.kind x.num x.word)/\Stp [] w w':=by
 obtain ⟨kv,rfl,hs⟩:=hx;refine cW1 50 Tryz.func215 ?_;refine W ?_;refine Z0 (Zl rfl) rfl ?_;rintro _ w1 ⟨b,rfl,hb,ab,hS⟩;replace ab:Blk w1 b _ (ndC x kv):=ab;replace hF:=hF.up hS;repeat'(first|refine W1 ?_|omega|refine VG ?_ ?_<;>intro hg|refine VC ?_ ?_<;>intro hc)
 refine CL (Zb3 x.word _ hF) ?_;rintro _ w2 ⟨rfl,ai⟩;replace hS:=hS.trans ai;focus repeat'(first|refine W1 ?_|omega|refine VG ?_ ?_<;>intro hg|refine VC ?_ ?_<;>intro hc)
 refine WR ?_;refine .mk ⟨?_,hS⟩;simp only [Z7M];rw [if_pos (by assumption),if_pos (by assumption)];rfl
 all_goals first
  | (refine Z0 (Z0K (λz : Int => Value.int .i64 z)) rfl ?_
     rintro _ w2 ⟨r,rfl,hr,hm,ai⟩;have oh:=ab.lt;have bw:=hS.size;replace ab:=ab.up ai;replace hS:=hS.trans ai;refine Z5 (Zf (a:=(1:Int)) (v:=.I 1) rfl rfl rfl hm (by simp)) ?_;rintro _ w3 ⟨hm,aw⟩;replace ab:=ab.ext aw (by simp;omega);replace hS:=hS.ow aw;refine Z5 (Zf (a:=(2:Int)) (v:=.I 2) rfl rfl rfl hm (by simp)) ?_;rintro _ w4 ⟨hm,ay⟩;replace ab:=ab.ext ay (by simp;omega);replace hS:=hS.ow ay;refine Z5 (Zf (a:=(3:Int)) (v:=.I 3) rfl rfl rfl hm (by simp)) ?_;rintro _ w5 ⟨hm,aB⟩;replace ab:=ab.ext aB (by simp;omega);replace hS:=hS.ow aB;refine W ?_;apply Z7 (Z1b (a:=x.kind) rfl rfl hm) rfl;refine W ?_;refine WR ?_;refine .mk ⟨?_,hS⟩;have hw:x.word=[]:=by first|assumption|exact Decidable.not_not.1 (by assumption)
     simp only [Z7M,hw,not_true_eq_false,if_false]
     first
      | (have hk : x.kind = 1 := by assumption
         rw [hk,if_neg (by decide),if_pos rfl,if_pos (by omega)];rfl)
      | (have hk : x.kind = 2 := by assumption
         rw [hk,if_neg (by decide),if_neg (by decide),if_pos rfl,if_pos (by omega)];rfl)
      | (have hk : x.kind = 3 := by assumption
         rw [hk,if_neg (by decide),if_neg (by decide),if_neg (by decide),if_pos rfl,if_pos (by omega)];rfl))
  | skip
 all_goals (refine WR ?_)
 all_goals
  refine .mk ⟨?_,hS⟩;simp only [Z7M];repeat' split
  all_goals first|rfl|omega|(exfalso;simp_all;done)|(exfalso;simp_all;omega)
theorem ZH (a:Int) (w):(Instr.buildSlice 22 1 #[(0,.I a)]).run Tryz.prog w=.ok (.slice (some ⟨w.heap.size,0,none⟩) 1 1) (w.alloc (.cells #[.I a] 3)):=by kernel_rfl
theorem Z1d (a b:Int) (w):(Instr.buildSlice 22 2 #[(0,.I a),(1,.I b)]).run Tryz.prog w=.ok (.slice (some ⟨w.heap.size,0,none⟩) 2 2) (w.alloc (.cells #[.I a,.I b] 3)):=by kernel_rfl
theorem Zh.stp {w w':World} {T len:Nat} {cs:List Value} {v:Value} (h:Zh w T len cs v w'):Stp [] w w':=h.choose_spec.2.2.2
def Zh1:List Str:=[[43],[45],[42]]
def Zh2:List Str:=[[60],[60,61],[61],[33,61],[62],[62,61]]
def Zh3:List Str:=[[97,110,100],[111,114]]
structure Sig where
 kind:Int
 s:Str
 a:Int
 b:Int
 c:Int
 deriving DecidableEq
abbrev Z2P (x:Sig):Value:=.agg #[.I x.kind,str x.s,.I x.a,.I x.b,.I x.c]
theorem ZlK (x y:Sig) (w):(Op.equal 311 (Z2P x) (Z2P y)).run Tryz.prog w=.ok (decide (x=y)) w:=by
 have h1:Program.stoodInHeld Tryz.prog 311=false:=by kernel_rfl
 obtain ⟨i,hi⟩:∃ i,Tryz.prog.info? 3=some i:=by
  have:=(inferInstance:Siz Tryz.prog 3 1).h;cases h:Tryz.prog.info? 3 with
  | none=>rw [h] at this;cases this
  | some i=>exact ⟨i,rfl⟩
 have hc:Tryz.prog.cellsOf 3=1:=by kernel_rfl
 obtain ⟨k,s,a,b,c⟩:=x;obtain ⟨k',s',a',b',c'⟩:=y;simp [Z2P,Op.equal,Op.maxDepth,run_equalIn_struct,h1,Program.fieldsOf,Tryz.underlying311,Op.eqFields,part,Und.isAgg,Siz.run,JO,run_equalIn_int w _ _ .i64 .i64 _ _ Tryz.underlying3,run_equalIn_string w _ _ _ _ Tryz.underlying9,run_equalIn_array w _ _ _ Tryz.underlying306 hi,hc,Op.eqItems,List.range_succ_eq_map];repeat' split
 all_goals simp_all
theorem Zh4 (em:Bool) (x:Sig) (w):(Instr.checkKey em 10000 311 (Z2P x)).run Tryz.prog w=.ok () w:=by kernel_rfl
instance:Z6A Tryz.prog 311 Sig where
 enc:=Z2P
 chk:=Zh4
 find:=λa es l w hk=>by
  have h2:=run_findKey_eq (P:=Tryz.prog) (k:=311) w (by kernel_rfl) (Z2P a) es;have h3:=Z18 Z2P ZlK a w es l 0 hk;simp only [XO] at h3;exact h2.trans h3
abbrev Z7N (a b c:Int):Value:=.agg #[.I a,.I b,.I c]
theorem Zh5 (a:Int) (w):(Instr.build 306 #[(0,.I a)]).run Tryz.prog w=.ok (Z7N a 0 0) w:=by kernel_rfl
theorem Z6H (a b:Int) (w):(Instr.build 306 #[(0,.I a),(1,.I b)]).run Tryz.prog w=.ok (Z7N a b 0) w:=by kernel_rfl
theorem Z4z (k a b c:Int) (s:Str) (w):(Instr.build 311 #[(0,.I k),(1,str s),(2,Z7N a b c)]).run Tryz.prog w=.ok (Z2P ⟨k,s,a,b,c⟩) w:=by kernel_rfl
theorem ZdA (a b c d:Str) (w):(Instr.buildSlice 257 4 #[(0,str a),(1,str b),(2,str c),(3,str d)]).run Tryz.prog w=.ok (.slice (some ⟨w.heap.size,0,none⟩) 4 4) (w.alloc (.cells #[str a,str b,str c,str d] 9)):=by kernel_rfl
abbrev Zb4:=Sig×Value
def ent:Nat->Zb4
 | 5=>(⟨5,[45],1,0,0⟩,.I 1)
 | 10=>(⟨5,[110,111,116],2,0,0⟩,.I 2)
 | 15=>(⟨10,[110,101,120,116],3,0,0⟩,.I 3)
 | 20=>(⟨10,[112,114,101,118],3,0,0⟩,.I 3)
 | 26=>(⟨10,[108,97,116,101,114],3,3,0⟩,.I 3)
 | 32=>(⟨10,[101,97,114,108,105,101,114],3,3,0⟩,.I 3)
 | _=>(⟨10,[98,101,116,119,101,101,110],3,3,0⟩,.I 1)
def Z99:List Nat:=[5,10,15,20,26,32,38]
def Jh:List Str:=[[100,97,121,115],[119,101,101,107,115],[109,111,110,116,104,115],[99,111,117,114,116,100,97,121,115]]
def Z1e (u:Str):List Zb4:=[(⟨7,u,3,1,0⟩,.I 3),(⟨8,u,3,1,0⟩,.I 3)]
def Z6I:List Zb4:=Z99.map ent++Jh.flatMap Z1e
theorem Z9a:(Z6I.map (·.1)).Nodup:=by decide
theorem Zb5 {κ:Type} [DecidableEq κ] {l m:List (κ×Value)} (hp:l.Perm m) (hn:(m.map (·.1)).Nodup) (a:κ) (z:Value):Z1V l a z=Z1V m a z:=by
 have lP:(l.map (·.1)).Nodup:=(hp.map _).nodup_iff.2 hn;have key:∀ (l m:List (κ×Value)),(∀ p,p∈l->p∈m)->(m.map (·.1)).Nodup->∀ p,l.find? (λp=>decide (p.1=a))=some p->m.find? (λp=>decide (p.1=a))=some p:=by
  intro l m hs hm p hf;have iQ:=hs p (Yan hf);have kJ:p.1=a:=by simpa using YbP hf
  cases hq:m.find? (λp=>decide (p.1=a)) with
  | none=>exact absurd (Yar.1 hq p iQ) (by simp [kJ])
  | some q=>
    have qc:=Yan hq;have qd:q.1=a:=by simpa using YbP hq
    obtain ⟨i,hi,rfl⟩:=Xq iQ;obtain ⟨j,hj,rfl⟩:=Xq qc;have:i=j:=by
     have h1:=(List.getElem_inj (xs:=m.map (·.1)) (i:=i) (j:=j) (h₀:=by simpa using hi) (h₁:=by simpa using hj) hm).1 (by simp [kJ,qd]);exact h1
    subst this;rfl
 unfold Z1V;cases h1:l.find? (λp=>decide (p.1=a)) with
 | some p=>rw [key l m (λp h=>hp.mem_iff.1 h) hn p h1]
 | none=>
   cases h2:m.find? (λp=>decide (p.1=a)) with
   | none=>rfl
   | some p=>rw [key m l (λp h=>hp.mem_iff.2 h) lP p h2] at h1;cases h1
theorem Z1H (w):CC 217 #[] w λr w'=>∃ (m:Nat) (l:List Zb4),r=.map (some m)/\Ja Z2P w' m l/\l.Perm Z6I/\Stp [] w w'/\w.heap.size<=m:=by
 refine cW0 62 Tryz.func217 ?_;refine W ?_;refine ZDr 41 [] [5,10,15,20,26,32,38] [(1,0),(2,0),(3,0),(4,0),(6,0),(7,0),(8,0),(9,0),(11,0),(12,0),(13,0),(14,0),(16,0),(17,0),(18,0),(19,0),(21,0),(22,0),(23,0),(24,0),(25,0),(27,0),(28,0),(29,0),(30,0),(31,0),(33,0),(34,0),(35,0),(36,0),(37,0),(0,2),(5,279241165504),(39,0),(40,0)] (λw1 ae=>?_);repeat'(first|refine D1 ?_|(apply Z2B;exact rfl;first|(apply Z36 (vs:=[(0,.I _)]);exact trivial;exact rfl;exact Zh5 _;exact rfl)|(apply Z36 (vs:=[(0,.I _),(1,.I _)]);exact trivial;exact rfl;exact Z6H _ _;exact rfl)|(apply Z36 (vs:=[(0,.I _),(1,str _),(2,Z7N _ _ _)]);exact trivial;exact rfl;exact Z4z _ _ _ _ _;exact rfl)))
 refine Zp rfl trivial (Z0K Z2P) (λ_ _ h=>h.choose_spec.2.2.2) rfl ?_;rintro _ w2 ⟨m,rfl,hm,aq,ai⟩;have gA:=ae.size;refine ZiO Z99 (λrem w'=>∃ l,Ja Z2P w' m l/\(l++rem.map ent).Perm (Z99.map ent)/\Stp [m] w2 w') rfl (by decide) (by decide) ⟨[],aq,by simp,Stp.refl _ _⟩ ?_ ?_
 . rintro rem j w' lQ hj ⟨l,hl,hp,hS⟩
   have gC:((l++rem.map ent).map (·.1)).Nodup:=(hp.map (·.1)).nodup_iff.2 (by decide);have hfresh:∀ p∈l,¬ p.1=(ent j).1:=by
    intro p hp e;rw [XL,List.nodup_append] at gC;exact gC.2.2 p.1 (List.mem_map_of_mem hp) (ent j).1 (by rw [Yad];exact XE.2 ⟨j,hj,rfl⟩) e
   have gen:∀ w'',Ja Z2P w'' m (l++[ent j])->Stp [m] w' w''->∃ l,Ja Z2P w'' m l/\(l++(rem.erase j).map ent).Perm (Z99.map ent)/\Stp [m] w2 w'':=by
    intro w'' h1 h2;refine ⟨_,h1,?_,hS.trans h2⟩;refine List.Perm.trans ?_ hp;rw [XA];exact List.Perm.append_left l (((List.perm_cons_erase hj).map ent).symm)
   have jq:=lQ.subset hj;simp only [Z99,Xd,Xp,or_false] at jq;rcases jq with rfl|rfl|rfl|rfl|rfl|rfl|rfl
   all_goals exact ⟨_,rfl,rfl,trivial,(Zf (v:=.I _) rfl rfl rfl hl hfresh).mono (λ_ w'' ⟨h1,h2⟩=>⟨.inr rfl,gen w'' h1 h2⟩)⟩
 rintro w3 ⟨l,hl,hp,aw⟩;rw [Yaj,XJ] at hp;have hS:Stp [] w w3:=(ae.trans ai).ow aw;have qe:w.heap.size<=m:=by omega
 clear aq ai aw;repeat'(first|refine D1 ?_|refine Z8 rfl rfl rfl rfl (λhg=>?_) (λhg=>?_)|(refine Z6 rfl rfl rfl rfl (λhg=>?_) (λhg=>?_)<;>refine D1 ?_)|fail)
 refine W ?_;refine Z0 (Z3 (vs:=[(0,str [100,97,121,115]),(1,str [119,101,101,107,115]),(2,str [109,111,110,116,104,115]),(3,str [99,111,117,114,116,100,97,121,115])]) rfl (ZdA _ _ _ _)) rfl ?_;rintro uv w4 hN;have hu:SlV [m] w4 uv Jh:=hN.slv (λb hb=>by simp at hb;subst hb;exact hl.lt) rfl rfl (by simp [Jh,maxLen]);have ay:=Zh.stp hN;clear hN;replace hl:=hl.up ay;replace hS:=hS.trans ay;have jr:∀ p∈l,p.1.kind=5\/p.1.kind=10:=λp dL=>by
  have ol:=hp.mem_iff.1 dL;simp only [Z99,XQ,Yaj,Xd,Xp,or_false] at ol;rcases ol with rfl|rfl|rfl|rfl|rfl|rfl|rfl<;>decide
 have eY:∀ k (h:k<Jh.length),∀ p∈(Jh.take k).flatMap Z1e,¬ p.1.s=Jh[k]:=by
  intro k h
  match k,h with
  | 0,_=>(show ∀ p∈(Jh.take 0).flatMap Z1e,¬ p.1.s=Jh[0]'(by decide));decide
  | 1,_=>(show ∀ p∈(Jh.take 1).flatMap Z1e,¬ p.1.s=Jh[1]'(by decide));decide
  | 2,_=>(show ∀ p∈(Jh.take 2).flatMap Z1e,¬ p.1.s=Jh[2]'(by decide));decide
  | 3,_=>(show ∀ p∈(Jh.take 3).flatMap Z1e,¬ p.1.s=Jh[3]'(by decide));decide
 refine W ?_;refine LP (σ:=Nat) (λk=>[(1,.I 1),(3,.I 3),(4,.map (some m)),(40,uv),(41,.I 4),(42,.I k)]) (λk w'=>k<=4/\Ja Z2P w' m (l++(Jh.take k).flatMap Z1e)/\Stp [m] w4 w') (λk=>4 - k) 0 ⟨by omega,by simpa using hl,Stp.refl _ _⟩ ?_;rintro k w5 ⟨hk,gZ,aB⟩;have sU:SlV [m] w5 uv Jh:=hu.ext aB (by simp) (λb hb=>.inl hb);by_cases ah:k<4;have js:k<Jh.length:=ah;have om:∀ (t:Int),¬ t=5->¬ t=10->∀ p∈l++(Jh.take k).flatMap Z1e,¬ p.1=⟨t,Jh[k],3,1,0⟩:=by
  intro t h5 iP p iQ e;rcases Xg.1 iQ with h|h
  have:=jr p h;rw [e] at this;rcases this with h|h
  exact h5 h;exact iP h;exact eY k js p h (by rw [e])
 refine QO ?_;apply Z9 (vs:=[(0,.I 3),(1,.I 1)]) rfl (Z6H _ _) rfl;apply Z9 (vs:=[(0,.I 7),(1,str _),(2,Z7N _ _ _)]) rfl (Z4z _ _ _ _ _) rfl;refine W ?_;refine Z5 (Z1a (a:=(⟨7,Jh[k],3,1,0⟩:Sig)) (v:=.I 3) rfl rfl rfl gZ (om 7 (by decide) (by decide))) ?_;rintro _ w6 ⟨qf,bR⟩;refine W ?_;apply Z9 (vs:=[(0,.I 3),(1,.I 1)]) rfl (Z6H _ _) rfl;apply Z9 (vs:=[(0,.I 8),(1,str _),(2,Z7N _ _ _)]) rfl (Z4z _ _ _ _ _) rfl;refine W ?_;refine Z5 (Z1a (a:=(⟨8,Jh[k],3,1,0⟩:Sig)) (v:=.I 3) rfl rfl rfl qf (λp iQ e=>by
  rcases Xg.1 iQ with h|h
  exact om 8 (by decide) (by decide) p h e;simp only [Xw] at h;subst h;simp at e)) ?_
 rintro _ w7 ⟨lS,aR⟩;refine W ?_;refine QL (k+1) ⟨by omega,?_,(aB.trans bR).trans aR⟩ (by omega);rw [Xf js,Yaw];have e:l++((Jh.take k).flatMap Z1e++[Jh[k]].flatMap Z1e)=(l++(Jh.take k).flatMap Z1e++[((⟨7,Jh[k],3,1,0⟩:Sig),Value.int .i64 3)])++[((⟨8,Jh[k],3,1,0⟩:Sig),Value.int .i64 3)]:=by simp [Z1e]
 rw [e];exact lS;have ej:k=4:=by omega
 subst ej;refine RT ?_;exact ⟨m,_,rfl,gZ,hp.append_right _,hS.ow aB,qe⟩
theorem Z4V (w):CC 217 #[] w λr w'=>∃ (m:Nat) (l:List Zb4),r=.map (some m)/\Ja Z2P w' m l/\l.Perm Z6I/\Stp [] w w':=
 (Z1H w).mono (by
   rintro _ w' ⟨u,rfl,m,l,h1,h2,h3,h4,-⟩;exact ⟨u,rfl,m,l,h1,h2,h3,h4⟩)
def Zh6 (x:Sig):Value:=Z1V Z6I x (.I 0)
def Z6J (s:Str) (a b:Int):Int:=
 if s∈Zh1 then (if a=b/\a=1 then 1 else 0) else if s∈Zh2 then (if a=b/\¬ a=2 then 2 else 0) else if s∈Zh3 then (if a=b/\a=2 then 2 else 0) else 0
theorem Z9b (s:Str) (a b c:Int) (w):CC 216 #[str s,Z7N a b c] w λr w'=>r=.I (Z6J s a b)/\Stp [] w w':=by
 refine cW2 46 Tryz.func216 ?_;refine W ?_;refine Z0 (Zl rfl) rfl ?_;rintro _ w1 ⟨q,rfl,hq,ab,hS⟩;replace ab:Blk w1 q _ [.I a,.I b,.I c]:=ab;refine W ?_;by_cases hA:s∈Zh1
 . unfold Z6J
   rw [if_pos hA];simp only [Zh1,Xd,Xp,or_false] at hA;rcases hA with rfl|rfl|rfl
   all_goals (repeat'(first|refine W1 ?_|omega|refine VG ?_ ?_<;>intro hg|refine VC ?_ ?_<;>intro hc))
   all_goals (refine WR ?_)
   all_goals refine .mk ⟨?_,hS⟩
   all_goals first
    | rw [if_pos ⟨by assumption,by assumption⟩]
    | rw [if_neg (λh=>by omega)]
 by_cases hC:s∈Zh2
 . unfold Z6J
   rw [if_neg hA,if_pos hC];simp only [Zh2,Xd,Xp,or_false] at hC;rcases hC with rfl|rfl|rfl|rfl|rfl|rfl
   all_goals (repeat'(first|refine W1 ?_|omega|refine VG ?_ ?_<;>intro hg|refine VC ?_ ?_<;>intro hc))
   all_goals (refine WR ?_)
   all_goals refine .mk ⟨?_,hS⟩
   all_goals first
    | rw [show (if a=b/\¬ a=2 then (2:Int) else 0)=2 from if_pos (by omega)]
    | rw [show (if a=b/\¬ a=2 then (2:Int) else 0)=0 from if_neg (by omega)]
 by_cases hL:s∈Zh3
 . unfold Z6J
   rw [if_neg hA,if_neg hC,if_pos hL];simp only [Zh3,Xd,Xp,or_false] at hL;rcases hL with rfl|rfl
   all_goals (repeat'(first|refine W1 ?_|omega|refine VG ?_ ?_<;>intro hg|refine VC ?_ ?_<;>intro hc))
   all_goals (refine WR ?_)
   all_goals refine .mk ⟨?_,hS⟩
   all_goals first
    | rw [if_pos ⟨by assumption,by assumption⟩]
    | rw [if_neg (λh=>by omega)]
 unfold Z6J;rw [if_neg hA,if_neg hC,if_neg hL];simp only [Zh1,Zh2,Zh3,Xd,Xp,or_false,not_or] at hA hC hL;obtain ⟨a1,a2,a3⟩:=hA;obtain ⟨b1,b2,b3,b4,b5,b6⟩:=hC;obtain ⟨c1,c2⟩:=hL;repeat'(first|refine W1 ?_|refine Z6l rfl (λhc=>absurd hc (by assumption)) (λhc=>?_))
 refine RU ?_;exact ⟨rfl,hS⟩
theorem _root_.Go.Eng.SlV.any {α:Type} [Z1 α] {X:List Nat} {w} {v:Value} {xs:List α} (h:SlV X w v xs):SlV [] w v xs:=h.ext (Stp.refl [] w) (by simp) (by simp)
theorem _root_.Go.Eng.SlV.new {α:Type} [Z1 α] {X:List Nat} {w w':World} {v:Value} {xs:List α} (h:SlV X w v xs) (hS:Stp [] w w') (b:Nat) (hb:w.heap.size<=b):SlV [b] w' v xs:=
 h.ext hS (by simp) (λc hc=>.inr (by simp at hc;omega))
theorem _root_.Go.Eng.SlV.on {α:Type} [Z1 α] {X S:List Nat} {w w':World} {v:Value} {xs:List α} (h:SlV X w v xs) (hS:Stp S w w') (hs:∀ b∈S,b∈X):SlV X w' v xs:=h.ext hS hs (λ_ h=>.inl h)
def Z9c (x:Sig):Int:=match Zh6 x with|.int _ z=>z|_=>0
theorem ZdB (x:Sig):Zh6 x=.I (Z9c x):=by
 have:∀ p∈Z6I,∃ z,p.2=Value.int .i64 z:=by
  intro p hp;simp only [Z6I,Z99,Jh,XQ,Yaj,Ybp,List.flatMap_nil,Z1e,X9,XM,XJ,Xd,Xp,or_false,ent] at hp;rcases hp with rfl|rfl|rfl|rfl|rfl|rfl|rfl|rfl|rfl|rfl|rfl|rfl|rfl|rfl|rfl<;>exact ⟨_,rfl⟩
 unfold Z9c Zh6 Z1V;cases h:Z6I.find? (λp=>decide (p.1=x)) with
 | none=>rfl
 | some p=>
   obtain ⟨z,hz⟩:=this p (Yan h);simp only [hz]
def Z7O (k n:Int) (s:Str) (ts:List Int):Int:=
 if ts.length > 3 then 0 else if (0:Int)∈ts then 0 else if ts=[] then Z7M k n s else if ¬ n=0 then 0
 else if k=9/\s=[]/\ts.getD 0 0=2/\ts.getD 1 0=ts.getD 2 0 then ts.getD 1 0
 else if k=6/\ts.getD 2 0=0 then Z6J s (ts.getD 0 0) (ts.getD 1 0) else Z9c ⟨k,s,ts.getD 0 0,ts.getD 1 0,ts.getD 2 0⟩
def JG:Nd->Int
 | .mk k n s l=>Z7O k n s (l.map JG)
theorem Z4W (x:Nd):JG x=Z7O x.kind x.num x.word (x.kids.map JG):=by
 cases x;rw [JG];rfl
def Z9d (ts:List Int) (k:Nat):List Value:=[.I (if 0<k then ts.getD 0 0 else 0),.I (if 1<k then ts.getD 1 0 else 0),.I (if 2<k then ts.getD 2 0 else 0)]
theorem ZdC (ts:List Int) (k:Nat) (hk:k<3):(Z9d ts k).set (0+k * 1) (.I (ts.getD k 0))=Z9d ts (k+1):=by
 match k,hk with
 | 0,_=>rfl
 | 1,_=>rfl
 | 2,_=>rfl
theorem ZdD (ts:List Int) (k:Nat) (hk:k<3):(Z9d ts (k+1))[0+k * 1]?=some (.I (ts.getD k 0)):=by
 match k,hk with
 | 0,_=>rfl
 | 1,_=>rfl
 | 2,_=>rfl
theorem ZdE (ts:List Int) (h:ts.length<=3):Z9d ts ts.length=[.I (ts.getD 0 0),.I (ts.getD 1 0),.I (ts.getD 2 0)]:=by
 match ts,h with
 | [],_=>rfl
 | [a],_=>rfl
 | [a,b],_=>rfl
 | [a,b,c],_=>rfl
theorem ZlL (x:Nd):∀ (X XF:List Nat) (v:Value) (w),NdV X w v x->SlV XF w Z1w Za->
 CC 159 #[v] w λr w'=>r=.I (JG x)/\Stp [] w w':=by
 induction x using Nd.ind with
 | h k n s l ih=>
 intro X XF v w hx hF;generalize jt:Nd.mk k n s l=x at *;have ih':∀ y∈x.kids,∀ (X XF:List Nat) (v:Value) (w:World),NdV X w v y->SlV XF w Z1w Za->CC 159 #[v] w λr w'=>r=.I (JG y)/\Stp [] w w':=by
  subst jt;exact ih
 clear ih jt k n s l;have lT:=hx;obtain ⟨kv,rfl,hs⟩:=hx;have bg:=hs.max;rw [Z4W];have am:(x.kids.map JG).length=x.kids.length:=by simp
 have cb:∀ k (h:k<x.kids.length),(x.kids.map JG).getD k 0=JG x.kids[k]:=λk h=>by simp [List.getD,h]
 generalize fI:x.kids.map JG=ts at *;refine cW1 80 Tryz.func159 ?_;refine W ?_;refine Z0 (Zl rfl) rfl ?_;rintro _ w1 ⟨b,rfl,hb,ab,hS⟩;replace ab:Blk w1 b _ (ndC x kv):=ab;replace hs:=hs.up hS;replace hF:=hF.up hS;have ah:=ab.lt;refine W ?_;refine Z0 Z4 rfl ?_;rintro _ w2 ⟨q,rfl,hq,bh,ai⟩;replace bh:Blk w2 q _ (Z9d ts 0):=bh;replace ab:=ab.up ai;replace hs:=hs.new ai q hq;replace hF:=hF.new ai q hq;replace hS:=hS.trans ai;have sV:w.heap.size<=q:=Xl (Xl hb (Nat.le_of_lt ah)) hq;have lJ:¬ b=q:=by omega
 (refine QP ?_ ?_<;>intro hc)
 refine WR ?_;refine .mk ⟨?_,hS⟩;unfold Z7O;rw [if_pos (by omega)];have iR:x.kids.length<=3:=by omega
 refine Z2h (σ:=Unit) (λ_=>[(1,pQ b),(3,pQ q)]) (λ_ w'=>Stp [q] w2 w'/\Blk w' q 306 [.I (ts.getD 0 0),.I (ts.getD 1 0),.I (ts.getD 2 0)]/\¬ (0:Int)∈ts) ?_ ?_;have cd:=hs;have kK:=hF;refine LP (σ:=Nat) (λk=>[(1,pQ b),(3,pQ q),(11,kv),(12,.I (x.kids.length:Int)),(13,.I k)]) (λk w'=>k<=x.kids.length/\Stp [q] w2 w'/\Blk w' q 306 (Z9d ts k)/\¬ (0:Int)∈ts.take k) (λk=>x.kids.length - k) 0 ⟨Xu _,Stp.refl _ _,bh,by simp⟩ ?_;clear hs hF bh;rintro k w3 ⟨hk,aw,bh,bO⟩;have hs:=cd.on aw (by simp);have hF:=kK.on aw (by simp);by_cases ah:k<x.kids.length;have gD:k<3:=by omega
 have hg:=cb k ah;have eZ:=ZdC ts k gD;have fJ:=ZdD ts k gD;rw [hg] at eZ fJ;obtain ⟨kv2,bu,dt⟩:=hs.nd ah;refine QO ?_;apply Z7 (Z5T rfl rfl hs ah dt) rfl;refine Z0 Z4 rfl ?_;rintro _ w4 ⟨b4,rfl,ju,gB,ay⟩;have qg:=bh.lt;replace bh:=bh.up ay;refine W ?_;refine SB (us:=ndC x.kids[k] kv2) (Zag bu) gB ?_;rintro _ w5 ⟨aB,ot⟩;have sW:¬ b4=q:=by omega
 replace bh:=bh.ext aB (by simp;omega);have g7:=ay.ow aB;replace bu:=bu.up g7;replace hF:=hF.up g7;refine W ?_;refine CL (ih' x.kids[k] (Xc ah) _ _ _ _ ⟨kv2,rfl,bu⟩ hF) ?_;rintro _ w6 ⟨rfl,bR⟩;replace bh:=bh.up bR;refine W ?_;refine Z5 (Zj (u:=.I (JG x.kids[k])) rfl rfl rfl rfl bh (by simp [Z9d];omega)) ?_;rintro _ w7 ⟨aR,bh⟩;rw [eZ] at bh;have jv:=((aw.trans g7.mn).trans bR.mn).trans aR;have cB:ts.take (k+1)=ts.take k++[JG x.kids[k]]:=by
  rw [Xf (by omega)];congr 2;subst fI;simp
 refine QO ?_;apply Zci rfl rfl (bh.cell fJ) rfl
 (refine QP ?_ ?_<;>intro hc)
 refine WR ?_;have qh:JG x.kids[k]=0:=hc;refine .mk ⟨?_,hS.ow jv⟩;unfold Z7O;rw [if_neg (by omega),if_pos];have:JG x.kids[k]∈ts:=by
  subst fI;exact List.mem_map_of_mem (Xc ah)
 rwa [qh] at this
 refine QL (k+1) ⟨ah,jv,bh,?_⟩ (by omega);rw [cB,Xg];rintro (h|h);exact bO h;simp only [Xw] at h;exact hc h.symm;have ej:k=x.kids.length:=by omega
 subst ej;refine QO ?_;rw [<- am,ZdE ts (by omega)] at bh;rw [<- am,Xs] at bO;exact QT () ⟨aw,bh,bO⟩;rintro _ w3 ⟨aw,bh,bO⟩;replace ab:=ab.ext aw (by simpa using lJ);replace hF:=hF.on aw (by simp);replace hs:=hs.on aw (by simp);replace hS:=hS.ow aw;unfold Z7O;rw [if_neg (by omega),if_neg bO];by_cases h0:x.kids.length=0;rw [if_pos (X3.1 (by omega))];refine QO ?_;refine CL (Zdz [q] _ x _ ⟨kv,rfl,hs⟩ hF.any) ?_;rintro _ w4 ⟨rfl,ay⟩;refine RT ?_;exact ⟨rfl,hS.trans ay⟩;rw [if_neg (λh=>h0 (by rw [<- am,h];rfl))];clear cb fI;generalize ts.getD 0 0=a at *;generalize ts.getD 1 0=bb at *;generalize ts.getD 2 0=c at *;repeat'(first|refine W1 ?_|omega|refine VG ?_ ?_<;>intro hg|refine VC ?_ ?_<;>intro hc)
 refine RU ?_;exact ⟨by rw [if_pos (by assumption)],hS⟩;all_goals rw [if_neg (by assumption)]
 all_goals first
  | (have h9 : x.kind = 9 /\ x.word = [] /\ a = 2 /\ bb = c := ⟨by assumption, by assumption, by assumption, by assumption⟩
     rw [if_pos h9];refine RU ?_;exact ⟨rfl,hS⟩)
  | rw [show (if x.kind = 9 /\ x.word = [] /\ a = 2 /\ bb = c then bb else if x.kind = 6 /\ c = 0 then Z6J x.word a bb else Z9c ⟨x.kind, x.word, a, bb, c⟩) = if x.kind = 6 /\ c = 0 then Z6J x.word a bb else Z9c ⟨x.kind, x.word, a, bb, c⟩ from if_neg (λh => by
     obtain ⟨h1,h2,h3,h4⟩:=h;first|omega|contradiction)]
 all_goals first
  | (have h6 : x.kind = 6 /\ c = 0 := ⟨by assumption, by assumption⟩
     rw [if_pos h6];refine CL (Z9b x.word a bb c _) ?_;rintro _ w4 ⟨rfl,ay⟩;refine RT ?_;exact ⟨rfl,hS.trans ay⟩)
  | rw [show (if x.kind=6/\c=0 then Z6J x.word a bb else Z9c ⟨x.kind,x.word,a,bb,c⟩)=Z9c ⟨x.kind,x.word,a,bb,c⟩ from if_neg (λh=>by omega)]
 all_goals
  refine ZDr 9 [] [] [(1,0),(2,1),(3,0),(4,1),(5,1),(6,0),(0,2),(7,2),(8,0)] (λw1 ae=>?_);replace ab:=ab.up ae;replace bh:=bh.up ae;replace hS:=hS.trans ae;refine D ?_;apply Z2B;exact rfl;apply Z36 (vs:=[(0,.I _),(1,str _),(2,Z7N _ _ _)]);exact trivial;exact rfl;exact Z4z _ _ _ _ _;exact rfl;refine DC (Z4V _) (λ_ _ h=>h.choose_spec.choose_spec.2.2.2) ?_;rintro _ w5 ⟨m,ll,rfl,hm,hp,aB⟩;have lU:=ZdB ⟨x.kind,x.word,a,bb,c⟩;unfold Zh6 at lU;rw [<- Zb5 hp Z9a] at lU;refine Zp rfl trivial (Zch (Z1b (a:=(⟨x.kind,x.word,a,bb,c⟩:Sig)) rfl rfl hm)) (λ_ _ h=>h.2 ▸ Stp.refl _ _) rfl ?_;rintro _ _ ⟨rfl,rfl⟩;rw [lU];refine D ?_;refine RT ?_;exact ⟨rfl,hS.trans aB⟩
def Z0t:Nd->Nat
 | .mk k n s l=>1+(l.map Z0t).foldl max 0
theorem Z3e (x:Nd):Z0t x=1+(x.kids.map Z0t).foldl max 0:=by
 cases x;rw [Z0t];rfl
theorem Z6K (l:List Nat):∀ (m b:Nat),l.foldl max m<=b↔m<=b/\∀ x∈l,x<=b:=by
 induction l with
 | nil=>intro m b;simp
 | cons y r ih=>
   intro m b;rw [XP,ih];simp only [Xd,forall_eq_or_imp];constructor;rintro ⟨h1,h2⟩;exact ⟨by omega,by omega,h2⟩;rintro ⟨h1,h2,h3⟩;exact ⟨by omega,h3⟩
theorem Z9e (m:Nat):∀ x:Nd,Z00 m x=decide (Z0t x<=m):=by
 induction m with
 | zero=>
   intro x;rw [Z3e];simp [Z00]
 | succ m ih=>
   intro x;rw [Z3e];have e:(1+(x.kids.map Z0t).foldl max 0<=m+1)↔∀ y∈x.kids,Z0t y<=m:=by
    rw [show (1+(x.kids.map Z0t).foldl max 0<=m+1)↔(x.kids.map Z0t).foldl max 0<=m by omega,Z6K];simp
   rw [Ybi,decide_eq_true_iff,e];simp only [Z00,XS];exact ⟨λh y hy=>by have:=h y hy;rw [ih] at this;simpa using this,λh y hy=>by rw [ih];simpa using h y hy⟩
theorem ZlM (X XF:List Nat) (v:Value) (x:Nd) (w) (hx:NdV X w v x) (hF:SlV XF w Z1w Za) :
 CC 95 #[v] w λr w'=>r=.tuple #[.I (if Z0t x<=12 then JG x else 0),.I (if Z0t x<=12 then (if JG x=0 then 21 else 0) else 2)]/\Stp [] w w':=by
 obtain ⟨kv,rfl,hs⟩:=hx;refine cW1 13 Tryz.func95 ?_;refine W ?_;refine Z0 (Zl rfl) rfl ?_;rintro _ w1 ⟨b,rfl,jw,ab,hS⟩;replace ab:Blk w1 b _ (ndC x kv):=ab;replace hs:=hs.up hS;replace hF:=hF.up hS;refine W ?_;refine CM (ZK rfl rfl) (Z97 12 X _ x 12 _ rfl (by omega) ⟨kv,rfl,hs⟩) ?_;rintro _ w2 ⟨rfl,ai⟩;replace hs:=hs.up ai;replace hF:=hF.up ai;replace ab:=ab.up ai;replace hS:=hS.trans ai;rw [Z9e];by_cases hn:Z0t x<=12;rw [decide_eq_true hn,if_pos hn,if_pos hn];refine W ?_;refine CL (ZlL x X XF _ _ ⟨kv,rfl,hs⟩ hF) ?_;rintro _ w3 ⟨rfl,aw⟩;replace hS:=hS.trans aw;focus repeat'(first|refine W1 ?_|omega|refine VG ?_ ?_<;>intro hg|refine VC ?_ ?_<;>intro hc)
 refine RU ?_;exact ⟨by rw [if_neg hc],hS⟩;refine WR ?_;have h0:JG x=0:=by omega
 exact .mk ⟨by rw [if_pos h0,h0],hS⟩;rw [decide_eq_false hn,if_neg hn,if_neg hn];refine RT ?_;exact ⟨rfl,hS⟩
end Go.Proofs.YtkojegdemoahlaaGreatDoor
namespace Go.Eng
open Go
structure Ins where
 op:Int
 n:Int
 deriving DecidableEq,Inhabited
instance:Z2 Ins where
 k:=2
 enc:=λx=>[.I x.op,.I x.n]
 len:=λ_=>rfl
 one:=by intro x u hu;simp at hu;rcases hu with rfl|rfl<;>rfl
def agg {α:Type} [Z2 α] (x:α):Value:=aG x
theorem Row.keep {β:Type} [Z2 β] {X S:List Nat} {w w':World} {base T:Nat} {v:Value} {xs:List β} (h:Row X w base T v xs) (hS:Stp S w w') (hd:∀ b∈S,b∉ob v):Row X w' base T v xs:=by
 have h':Row S w base T v xs:=h;have:=h'.ext (X':=X) hS (λb hb=>⟨hb,hd b hb⟩);obtain ⟨css,h1,h2,h3⟩:=h;refine ⟨css,h1,h2,?_⟩;have h4:Row S w base T v xs:=⟨css,h1,h2,h3⟩
 obtain ⟨ho,hr⟩:=h3;refine ⟨ho,?_⟩;rcases hr with hn|⟨q,cap,cur,rfl,hb,hg,rest⟩
 exact .inl hn;refine .inr ⟨q,cap,cur,rfl,hb,?_,rest⟩;rw [hS.block q (Xi.1 hg).1 (λhq=>hd q hq (by simp [ob]))];exact hg
end Go.Eng
namespace Go.Proofs.YtkojegdemoahlaaGreatDoor
open Go Go.Eng Go.RowKit
theorem Zz {α:Type} [Z1 α] (X:List Nat) (w:World):SlV (α:=α) X w (.N) []:=⟨none,0,rfl,Xm _,by simp [maxLen],λ_=>rfl,λi h=>absurd h (XC _)⟩
theorem Z4A {α:Type} [Z1 α] {X:List Nat} {w w':World} {v u:Value} {l:List α} {i k j:Nat} (hs:SlV X w v l) (hi:i<l.length) (hS:Stp X w w') (h:w.cell? (Zq v i k j)=some u):w'.cell? (Zq v i k j)=some u:=by
 obtain ⟨p,c,rfl,_,_,_,hc⟩:=hs;obtain ⟨b,o,cs,rfl,_,hx,_⟩:=hc i hi;exact hS.cell hx h
theorem ZlN (op:BinOp) (x y:Operand) (a b:Ins) (w):(eqGuard op 179 x y (agg a) (agg b)).run Tryz.prog w=.ok () w:=by
 cases op<;>kernel_rfl
end Go.Proofs.YtkojegdemoahlaaGreatDoor
namespace Go.Eng
open Go Go.RowKit Go.Proofs
theorem SlV.wk {α:Type} [Z1 α] {X X':List Nat} {w} {v:Value} {l:List α} (h:SlV X w v l) (hs:∀ b∈X',b∈X):SlV X' w v l:=h.ext (Stp.refl [] w) (by simp) (λb hb=>.inl (hs b hb))
end Go.Eng
namespace Go.Proofs.YtkojegdemoahlaaGreatDoor
open Go Go.Eng Go.RowKit
theorem Z6L (z:Int) (m:Int) (w) (hm:0<m) (hz:I64 z):CC 7 #[.I z,.I m] w λr w'=>r=.I ((if z<0 then -(z+1) else z) % m)/\Stp [] w w':=by
 unfold I64 at hz;refine cW2 13 Tryz.func7 ?_;by_cases h:z<0;focus repeat'(first|refine W1 ?_|omega|refine VG ?_ ?_<;>intro hg|refine VC ?_ ?_<;>intro hc)
 refine RU ?_;exact ⟨by rw [if_pos h],Stp.refl _ _⟩;focus repeat'(first|refine W1 ?_|omega|refine VG ?_ ?_<;>intro hg|refine VC ?_ ?_<;>intro hc)
 refine RU ?_;exact ⟨by rw [if_neg h],Stp.refl _ _⟩
theorem Z6M (z m:Int) (hm:0<m):0<=z % m/\z % m<m:=⟨Ybh _ (by omega),YaX _ hm⟩
open Go Go.Eng Go.RowKit Go.Proofs
def Z1f:List Int:=[0,31,28,31,30,31,30,31,31,30,31,30,31]
def Z05 (w:World):Prop:=∀ i u,Z1f[i]?=some u->w.cell? ⟨1,i,none⟩=some (.I u)
theorem Z05.ext {S:List Nat} {w w':World} (h:Z05 w) (hS:Stp S w w') (hb:1∉S):Z05 w':=λi u hu=>hS.cell hb (h i u hu)
theorem Z05.up {w w':World} (h:Z05 w) (hS:Stp [] w w'):Z05 w':=h.ext hS (by simp)
theorem ZdF (y:Int) (w) (h0:0<=y) (h1:y<=100000):CC 230 #[.I y] w λr w'=>r=.B (JT y)/\w'=w:=by
 unfold JT;refine cW1 16 Tryz.func230 ?_;repeat'(first|refine W1 ?_|omega|refine VG ?_ ?_<;>intro hg|refine VC ?_ ?_<;>intro hc)
 all_goals refine WR ?_
 all_goals refine .mk ⟨?_,rfl⟩
 all_goals congr 1
 all_goals (first|done|(rw [Ybi];simp;omega)|(simp [*]))
theorem Z1x (y m:Int) (w) (hL:Z05 w) (h0:0<=y) (h1:y<=100000):CC 179 #[.I y,.I m] w λr w'=>r=.I (Zv y m)/\w'=w:=by
 unfold Zv;refine cW2 22 Tryz.func179 ?_;by_cases hm:m<1\/12<m
 . rw [if_pos hm]
   repeat'(first|refine W1 ?_|omega|refine VG ?_ ?_<;>intro hg|refine VC ?_ ?_<;>intro hc)
   all_goals refine WR ?_
   all_goals exact .mk ⟨rfl,rfl⟩
 rw [if_neg hm];obtain ⟨k,rfl⟩:∃ k:Nat,m=(k:Int):=⟨m.toNat,by omega⟩
 have hk:k<13:=by omega
 have ak:w.cell? ⟨1,0+k * 1,none⟩=some (.I (Z1f.getD k 0)):=hL _ _ (by
  have:k<Z1f.length:=hk;simp [List.getD,this])
 by_cases h2:(k:Int)=2;rw [if_pos h2];refine QO ?_;refine CL (ZdF y _ h0 h1) ?_;rintro _ _ ⟨rfl,rfl⟩;cases hl:JT y;refine W ?_;refine Z7 (ZP rfl rfl ak) rfl ?_;refine W ?_;refine WR ?_;obtain rfl:k=2:=by omega
 exact .mk ⟨rfl,rfl⟩;refine RT ?_;exact ⟨rfl,rfl⟩;rw [if_neg h2];refine QO ?_;refine Z7 (ZP rfl rfl ak) rfl ?_;refine W ?_;refine WR ?_;refine .mk ⟨?_,rfl⟩;congr 1;have:k=1\/k=3\/k=4\/k=5\/k=6\/k=7\/k=8\/k=9\/k=10\/k=11\/k=12:=by omega
 rcases this with rfl|rfl|rfl|rfl|rfl|rfl|rfl|rfl|rfl|rfl|rfl<;>rfl
abbrev ZdG (y m d:Int):Value:=.agg #[.I y,.I m,.I d]
def Z0Q (y m d:Int):Prop:=y<1\/9999<y\/m<1\/12<m\/d<1\/Zv y m<d
instance (y m d:Int):Decidable (Z0Q y m d):=by unfold Z0Q;infer_instance
theorem Z9f (y m d:Int) (w) (hL:Z05 w):CC 228 #[ZdG y m d] w λr w'=>r=.I (if Z0Q y m d then 5 else 0)/\Stp [] w w':=by
 refine cW1 36 Tryz.func228 ?_;refine W ?_;refine Z0 (Zl rfl) rfl ?_;rintro _ w1 ⟨b,rfl,hb,ab,hS⟩;replace ab:Blk w1 b 277 [.I y,.I m,.I d]:=ab;replace hL:=hL.up hS;refine W ?_;refine ZDr 33 [] [] [(0,0),(1,1),(2,0),(3,0),(4,0),(5,1),(6,0),(7,0),(8,0),(9,0),(10,1),(11,0),(12,0),(13,0),(14,0),(15,1),(16,0),(17,0),(18,0),(19,0),(20,1),(21,0),(22,0),(23,0),(24,0),(25,1),(26,0),(27,1),(28,0),(29,1),(30,2),(31,0),(32,0)] (λw1 ae=>?_);replace ab:=ab.up ae;replace hL:=hL.up ae;replace hS:=hS.trans ae;clear ae;by_cases hg:y<1\/9999<y\/m<1\/12<m\/d<1
 . have dM:Z0Q y m d:=by unfold Z0Q;omega
   rw [if_pos dM];repeat'(first|refine D1 ?_|omega|refine Z8 rfl rfl rfl rfl (λhg=>?_) (λhg=>?_)|(refine Z6 rfl rfl rfl rfl (λhg=>?_) (λhg=>?_)<;>refine D1 ?_)|fail)
   all_goals refine QO ?_
   all_goals refine WR ?_
   all_goals exact .mk ⟨rfl,hS⟩
 . refine QD ?_
   refine Zp rfl rfl (Zd rfl (ZK rfl rfl) (Z1x y m _ hL (by omega) (by omega))) (λ_ _ h=>by rw [h.2];exact Stp.refl _ _) rfl ?_;rintro _ w3 ⟨rfl,rfl⟩;refine QD ?_;all_goals (refine QP ?_ ?_<;>intro hc)
   refine RU ?_;exact ⟨by rw [if_pos (by unfold Z0Q;omega)],hS⟩;refine RU ?_;exact ⟨by rw [if_neg (by unfold Z0Q;omega)],hS⟩
theorem Z2Q (y m d:Int) (w) (hy:0<=y) (cR:y<=100000) (hm:1<=m) (dN:m<=12) (hd:0<=d) (lV:d<=100000) (h1:m - 3<0->1<=y):CC 229 #[ZdG y m d] w λr w'=>r=.I (JF y m d)/\Stp [] w w':=by
 refine cW1 36 Tryz.func229 ?_;refine W ?_;refine Z0 (Zl rfl) rfl ?_;rintro _ w1 ⟨b,rfl,hb,ab,hS⟩;replace ab:Blk w1 b 277 [.I y,.I m,.I d]:=ab;refine W ?_;refine ZDr 7 [] [] [(0,0),(1,1),(2,0),(3,1),(4,0),(5,0),(6,0)] (λw1 ae=>?_);replace ab:=ab.up ae;replace hS:=hS.trans ae;clear ae;refine D ?_
 (refine QP ?_ ?_<;>intro hc)
 all_goals refine WR ?_
 all_goals refine .mk ⟨?_,hS⟩
 all_goals unfold JF
 rw [if_pos (by assumption)];congr 1;dsimp only;omega;rw [if_neg (by assumption)]
theorem Z7P (y m d:Int) (w) (hL:Z05 w):CC 175 #[ZdG y m d] w λr w'=>r=.tuple #[.I (if Z0Q y m d then 0 else JF y m d),.I (if Z0Q y m d then 5 else 0)]/\Stp [] w w':=by
 refine cW1 12 Tryz.func175 ?_;refine W ?_;refine Z0 (Zl rfl) rfl ?_;rintro _ w1 ⟨b,rfl,hb,ab,hS⟩;replace ab:Blk w1 b 277 [.I y,.I m,.I d]:=ab;replace hL:=hL.up hS;refine W ?_;refine CL (Z9f y m d _ hL) ?_;rintro _ w2 ⟨rfl,hT⟩;replace ab:=ab.up hT;replace hS:=hS.trans hT;clear hT;by_cases dM:Z0Q y m d;rw [if_pos dM,if_pos dM];refine RT ?_;exact ⟨rfl,hS⟩;rw [if_neg dM,if_neg dM];refine W ?_;have ou:=Z2O y m;unfold Z0Q at dM;refine CM (ZO rfl) (Z2Q y m d _ (by omega) (by omega) (by omega) (by omega) (by omega) (by omega) (by omega)) ?_;rintro _ w3 ⟨rfl,hT⟩;refine RT ?_;exact ⟨rfl,hS.trans hT⟩
end Go.Proofs.YtkojegdemoahlaaGreatDoor
namespace Go.Eng
open Go Go.RowKit Go.Proofs
end Go.Eng
namespace Go.Proofs.YtkojegdemoahlaaGreatDoor
open Go Go.Eng Go.RowKit Go.Proofs
theorem Z4B (y m d:Int) (w):(Instr.build 277 #[(0,.I y),(1,.I m),(2,.I d)]).run Tryz.prog w=.ok (ZdG y m d) w:=by kernel_rfl
end Go.Proofs.YtkojegdemoahlaaGreatDoor
namespace Go.Proofs
theorem fxT {P:Go.Program} {f:Nat} {a b:Go.Func} (h:P.funcs[f]?=some a) (e:a=b:=by kernel_rfl):P.funcs[f]?=some b:=h.trans (congrArg some e)
open Go.Shelf
def Tryz.lays137_ren:Go.Shelf.Ren:=⟨fun|137=>205|217=>258|266=>282|n=>n,fun|9=>9|5=>5|3=>3|n=>n,fun|n=>n⟩
theorem Tryz.lays137:Go.Proofs.Lays.n137 Tryz.prog Tryz.lays137_ren:={
 mixed:=by kernel_rfl
 f137:=fxT Tryz.func205
 f217:=fxT Tryz.func258
 f266:=fxT Tryz.func282
 t3:=Tryz.underlying3
 a3:=Tryz.isAgg3
 z3:=Tryz.sizeOf3
 v3:=Tryz.zeroValue3
 t5:=Tryz.underlying5
 a5:=Tryz.isAgg5
 z5:=Tryz.sizeOf5
 v5:=Tryz.zeroValue5
 t9:=Tryz.underlying9
 a9:=Tryz.isAgg9
 z9:=Tryz.sizeOf9
 v9:=Tryz.zeroValue9 }
open Go.RowKit in
theorem Tryz.strings_IndexByte (s:ByteArray) (c:Int) (w:World) :
 Calls Tryz.prog 205 #[.string s,.int .u8 c] w λe w'=>e=.returned (.int .i64 (Lib.indexByte s.data.toList c.toNat.toUInt8))/\w'=w:=Any.strings_IndexByte Tryz.lays137 s c w
def Tryz.lays215_ren:Go.Shelf.Ren:=⟨fun|215=>100|n=>n,fun|3=>3|4=>4|n=>n,fun|n=>n⟩
def Tryz.lays122_ren:Go.Shelf.Ren:=⟨fun|122=>54|215=>100|n=>n,fun|3=>3|4=>4|n=>n,fun|n=>n⟩
theorem Tryz.lays122:Go.Proofs.Lays.n122 Tryz.prog Tryz.lays122_ren:={
 mixed:=by kernel_rfl
 f122:=fxT Tryz.func54
 f215:=fxT Tryz.func100
 t3:=Tryz.underlying3
 a3:=Tryz.isAgg3
 z3:=Tryz.sizeOf3
 v3:=Tryz.zeroValue3
 t4:=Tryz.underlying4
 a4:=Tryz.isAgg4
 z4:=Tryz.sizeOf4
 v4:=Tryz.zeroValue4 }
open Go.RowKit in
theorem Tryz.cmp_Compare_int (x y:Int) (w:World) :
 Calls Tryz.prog 54 #[.int .i64 x,.int .i64 y] w λe w'=>e=.returned (.int .i64 (Lib.compareInt x y))/\w'=w:=Any.cmp_Compare_int Tryz.lays122 x y w
def Tryz.lays172_ren:Go.Shelf.Ren:=⟨fun|172=>208|244=>262|245=>263|247=>283|279=>284|280=>285|281=>286|282=>287|287=>303|316=>304|171=>306|205=>305|321=>312|322=>313|243=>314|246=>318|283=>320|284=>321|285=>322|286=>323|129=>247|317=>325|318=>326|319=>327|320=>328|337=>329|338=>330|n=>n,fun|9=>9|3=>3|75=>300|76=>301|4=>4|5=>5|167=>362|37=>255|0=>0|85=>363|2=>2|168=>365|53=>340|175=>379|46=>291|210=>383|127=>392|145=>395|143=>393|21=>21|171=>400|173=>402|212=>405|51=>338|20=>20|213=>406|232=>407|233=>408|80=>199|n=>n,fun|15=>4|16=>5|17=>6|18=>7|19=>8|n=>n⟩
def Tryz.laysC172_ren:Go.Shelf.Ren:=⟨fun|172=>208|244=>262|245=>263|247=>283|279=>284|280=>285|281=>286|282=>287|287=>303|316=>304|171=>306|205=>305|321=>312|322=>313|243=>314|246=>318|283=>320|284=>321|285=>322|286=>323|129=>247|317=>325|318=>326|319=>327|320=>328|337=>329|338=>330|n=>n,fun|9=>9|3=>3|75=>300|76=>301|4=>4|5=>5|167=>362|37=>255|0=>0|85=>363|2=>2|168=>365|53=>340|175=>379|46=>291|210=>383|127=>392|145=>395|143=>393|21=>21|171=>400|173=>402|212=>405|51=>338|20=>20|213=>406|232=>407|233=>408|80=>199|n=>n,fun|15=>4|16=>5|17=>6|18=>7|19=>8|n=>n⟩
theorem Tryz.laysC172:Go.Proofs.LaysC.n172 Tryz.prog Tryz.laysC172_ren:={
 mixed:=by kernel_rfl
 f129:=fxT Tryz.func247
 f171:=fxT Tryz.func306
 f172:=fxT Tryz.func208
 f205:=fxT Tryz.func305
 f243:=fxT Tryz.func314
 f244:=fxT Tryz.func262
 f245:=fxT Tryz.func263
 f246:=fxT Tryz.func318
 f247:=fxT Tryz.func283
 f279:=fxT Tryz.func284
 f280:=fxT Tryz.func285
 f281:=fxT Tryz.func286
 f282:=fxT Tryz.func287
 f283:=fxT Tryz.func320
 f284:=fxT Tryz.func321
 f285:=fxT Tryz.func322
 f286:=fxT Tryz.func323
 f287:=fxT Tryz.func303
 f316:=fxT Tryz.func304
 f317:=fxT Tryz.func325
 f318:=fxT Tryz.func326
 f319:=fxT Tryz.func327
 f320:=fxT Tryz.func328
 f321:=fxT Tryz.func312
 f322:=fxT Tryz.func313
 f337:=fxT Tryz.func329
 f338:=fxT Tryz.func330
 t0:=Tryz.underlying0
 a0:=Tryz.isAgg0
 z0:=Tryz.sizeOf0
 v0:=Tryz.zeroValue0
 t2:=Tryz.underlying2
 a2:=Tryz.isAgg2
 z2:=Tryz.sizeOf2
 v2:=Tryz.zeroValue2
 t3:=Tryz.underlying3
 a3:=Tryz.isAgg3
 z3:=Tryz.sizeOf3
 v3:=Tryz.zeroValue3
 t4:=Tryz.underlying4
 a4:=Tryz.isAgg4
 z4:=Tryz.sizeOf4
 v4:=Tryz.zeroValue4
 t5:=Tryz.underlying5
 a5:=Tryz.isAgg5
 z5:=Tryz.sizeOf5
 v5:=Tryz.zeroValue5
 t9:=Tryz.underlying9
 a9:=Tryz.isAgg9
 z9:=Tryz.sizeOf9
 v9:=Tryz.zeroValue9
 t20:=Tryz.underlying20
 a20:=Tryz.isAgg20
 z20:=Tryz.sizeOf20
 v20:=Tryz.zeroValue20
 t21:=Tryz.underlying21
 a21:=Tryz.isAgg21
 z21:=Tryz.sizeOf21
 v21:=Tryz.zeroValue21
 t37:=Tryz.underlying255
 a37:=Tryz.isAgg255
 z37:=Tryz.sizeOf255
 v37:=Tryz.zeroValue255
 t46:=Tryz.underlying291
 a46:=Tryz.isAgg291
 z46:=Tryz.sizeOf291
 v46:=Tryz.zeroValue291
 t51:=Tryz.underlying338
 a51:=Tryz.isAgg338
 z51:=Tryz.sizeOf338
 v51:=Tryz.zeroValue338
 t53:=Tryz.underlying340
 a53:=Tryz.isAgg340
 z53:=Tryz.sizeOf340
 v53:=Tryz.zeroValue340
 t75:=Tryz.underlying300
 a75:=Tryz.isAgg300
 z75:=Tryz.sizeOf300
 v75:=Tryz.zeroValue300
 t76:=Tryz.underlying301
 a76:=Tryz.isAgg301
 z76:=Tryz.sizeOf301
 v76:=Tryz.zeroValue301
 t85:=Tryz.underlying363
 a85:=Tryz.isAgg363
 z85:=Tryz.sizeOf363
 v85:=Tryz.zeroValue363
 t127:=Tryz.underlying392
 a127:=Tryz.isAgg392
 z127:=Tryz.sizeOf392
 v127:=Tryz.zeroValue392
 t143:=Tryz.underlying393
 a143:=Tryz.isAgg393
 z143:=Tryz.sizeOf393
 v143:=Tryz.zeroValue393
 t145:=Tryz.underlying395
 a145:=Tryz.isAgg395
 z145:=Tryz.sizeOf395
 v145:=Tryz.zeroValue395
 t167:=Tryz.underlying362
 a167:=Tryz.isAgg362
 z167:=Tryz.sizeOf362
 v167:=Tryz.zeroValue362
 t168:=Tryz.underlying365
 a168:=Tryz.isAgg365
 z168:=Tryz.sizeOf365
 v168:=Tryz.zeroValue365
 t171:=Tryz.underlying400
 a171:=Tryz.isAgg400
 z171:=Tryz.sizeOf400
 v171:=Tryz.zeroValue400
 t173:=Tryz.underlying402
 a173:=Tryz.isAgg402
 z173:=Tryz.sizeOf402
 v173:=Tryz.zeroValue402
 t175:=Tryz.underlying379
 a175:=Tryz.isAgg379
 z175:=Tryz.sizeOf379
 v175:=Tryz.zeroValue379
 t210:=Tryz.underlying383
 a210:=Tryz.isAgg383
 z210:=Tryz.sizeOf383
 v210:=Tryz.zeroValue383
 t212:=Tryz.underlying405
 a212:=Tryz.isAgg405
 z212:=Tryz.sizeOf405
 v212:=Tryz.zeroValue405
 t213:=Tryz.underlying406
 a213:=Tryz.isAgg406
 z213:=Tryz.sizeOf406
 t232:=Tryz.underlying407
 a232:=Tryz.isAgg407
 z232:=Tryz.sizeOf407
 v232:=Tryz.zeroValue407
 t233:=Tryz.underlying408
 a233:=Tryz.isAgg408
 z233:=Tryz.sizeOf408
 v233:=Tryz.zeroValue408
 g15:=by kernel_rfl
 g16:=by kernel_rfl
 g17:=by kernel_rfl
 g18:=by kernel_rfl
 g19:=by kernel_rfl
 t80:=Tryz.underlying199
 a80:=Tryz.isAgg199
 z80:=Tryz.sizeOf199
 v80:=Tryz.zeroValue199
 i0:=by kernel_rfl
 i2:=by kernel_rfl
 i3:=by kernel_rfl
 i4:=by kernel_rfl
 i5:=by kernel_rfl
 i9:=by kernel_rfl
 i20:=by kernel_rfl
 i21:=by kernel_rfl
 i37:=by kernel_rfl
 i46:=by kernel_rfl
 i51:=by kernel_rfl
 i53:=by kernel_rfl
 i75:=by kernel_rfl
 i76:=by kernel_rfl
 i80:=by kernel_rfl
 i85:=by kernel_rfl
 i127:=by kernel_rfl
 i143:=by kernel_rfl
 i145:=by kernel_rfl
 i167:=by kernel_rfl
 i168:=by kernel_rfl
 i171:=by kernel_rfl
 i173:=by kernel_rfl
 i175:=by kernel_rfl
 i210:=by kernel_rfl
 i212:=by kernel_rfl
 i232:=by kernel_rfl
 i233:=by kernel_rfl
 m15:=by kernel_rfl
 m16:=by kernel_rfl
 m17:=by kernel_rfl
 m18:=by kernel_rfl
 m19:=by kernel_rfl
 c0:=by kernel_rfl
 c2:=by kernel_rfl
 c3:=by kernel_rfl
 c4:=by kernel_rfl
 c5:=by kernel_rfl
 c9:=by kernel_rfl
 c20:=by kernel_rfl
 c21:=by kernel_rfl
 c37:=by kernel_rfl
 c46:=by kernel_rfl
 c51:=by kernel_rfl
 c53:=by kernel_rfl
 c75:=by kernel_rfl
 c76:=by kernel_rfl
 c80:=by kernel_rfl
 c85:=by kernel_rfl
 c127:=by kernel_rfl
 c143:=by kernel_rfl
 c145:=by kernel_rfl
 c167:=by kernel_rfl
 c168:=by kernel_rfl
 c171:=by kernel_rfl
 c173:=by kernel_rfl
 c175:=by kernel_rfl
 c210:=by kernel_rfl
 c212:=by kernel_rfl
 c213:=by kernel_rfl
 c232:=by kernel_rfl
 c233:=by kernel_rfl }
open Go.RowKit in
theorem Tryz.strconv_Atoi_ok (s:ByteArray) (bg:s.size<=9223372036854775806) (v:Int) (h:Lib.atoiAll s.data.toList=.ok v) (w:World) :
 Calls Tryz.prog 208 #[.string s] w λe w'=>e=.returned (.tuple #[.int .i64 v,.nilIface])/\(w'=w\/∃ t,w'=Lib.bytesWorld w 5 t):=Any.strconv_Atoi_ok Tryz.laysC172 s bg v h w
def Tryz.lays219_ren:Go.Shelf.Ren:=⟨fun|219=>268|217=>258|225=>261|224=>260|267=>289|266=>282|314=>307|n=>n,fun|9=>9|3=>3|4=>4|5=>5|46=>291|146=>386|51=>338|n=>n,fun|1=>2|n=>n⟩
def Tryz.lays144_ren:Go.Shelf.Ren:=⟨fun|144=>156|143=>213|219=>268|217=>258|225=>261|224=>260|267=>289|266=>282|314=>307|n=>n,fun|9=>9|4=>4|3=>3|5=>5|46=>291|146=>386|51=>338|n=>n,fun|1=>2|n=>n⟩
theorem Tryz.lays144:Go.Proofs.Lays.n144 Tryz.prog Tryz.lays144_ren:={
 mixed:=by kernel_rfl
 f143:=fxT Tryz.func213
 f144:=fxT Tryz.func156
 f217:=fxT Tryz.func258
 f219:=fxT Tryz.func268
 f224:=fxT Tryz.func260
 f225:=fxT Tryz.func261
 f266:=fxT Tryz.func282
 f267:=fxT Tryz.func289
 f314:=fxT Tryz.func307
 t3:=Tryz.underlying3
 a3:=Tryz.isAgg3
 z3:=Tryz.sizeOf3
 v3:=Tryz.zeroValue3
 t4:=Tryz.underlying4
 a4:=Tryz.isAgg4
 z4:=Tryz.sizeOf4
 v4:=Tryz.zeroValue4
 t5:=Tryz.underlying5
 a5:=Tryz.isAgg5
 z5:=Tryz.sizeOf5
 v5:=Tryz.zeroValue5
 t9:=Tryz.underlying9
 a9:=Tryz.isAgg9
 z9:=Tryz.sizeOf9
 v9:=Tryz.zeroValue9
 t46:=Tryz.underlying291
 a46:=Tryz.isAgg291
 z46:=Tryz.sizeOf291
 v46:=Tryz.zeroValue291
 t51:=Tryz.underlying338
 a51:=Tryz.isAgg338
 z51:=Tryz.sizeOf338
 v51:=Tryz.zeroValue338
 t146:=Tryz.underlying386
 a146:=Tryz.isAgg386
 z146:=Tryz.sizeOf386
 v146:=Tryz.zeroValue386
 g1:=by kernel_rfl }
open Go.RowKit Go.Lib in
theorem Tryz.strings_Contains (s sub:ByteArray) (m:Int) (w:World) (hs:s.size<4294967281) (hm:w.cell? ⟨2,0,none⟩=some (.int .i64 m)) :
 Calls Tryz.prog 156 #[.string s,.string sub] w λe w'=>e=.returned (.bool (Lib.contains s.data.toList sub.data.toList))/\w'=w:=Any.strings_Contains Tryz.lays144 s sub m w hs hm
def Tryz.laysM144_ren:Go.Shelf.Ren:=⟨fun|144=>156|143=>213|219=>268|217=>258|225=>261|224=>260|267=>289|266=>282|314=>307|n=>n,fun|9=>9|4=>4|3=>3|5=>5|46=>291|146=>386|51=>338|n=>n,fun|1=>2|n=>n⟩
theorem Tryz.laysM144:Go.Proofs.LaysM.n144 Tryz.prog Tryz.laysM144_ren:={
 mixed:=by kernel_rfl
 f143:=fxT Tryz.func213
 f144:=fxT Tryz.func156
 f217:=fxT Tryz.func258
 f219:=fxT Tryz.func268
 f224:=fxT Tryz.func260
 f225:=fxT Tryz.func261
 f266:=fxT Tryz.func282
 f267:=fxT Tryz.func289
 f314:=fxT Tryz.func307
 t3:=Tryz.underlying3
 a3:=Tryz.isAgg3
 z3:=Tryz.sizeOf3
 v3:=Tryz.zeroValue3
 t4:=Tryz.underlying4
 a4:=Tryz.isAgg4
 z4:=Tryz.sizeOf4
 v4:=Tryz.zeroValue4
 t5:=Tryz.underlying5
 a5:=Tryz.isAgg5
 z5:=Tryz.sizeOf5
 v5:=Tryz.zeroValue5
 t9:=Tryz.underlying9
 a9:=Tryz.isAgg9
 z9:=Tryz.sizeOf9
 v9:=Tryz.zeroValue9
 t46:=Tryz.underlying291
 a46:=Tryz.isAgg291
 z46:=Tryz.sizeOf291
 v46:=Tryz.zeroValue291
 t51:=Tryz.underlying338
 a51:=Tryz.isAgg338
 z51:=Tryz.sizeOf338
 v51:=Tryz.zeroValue338
 t146:=Tryz.underlying386
 a146:=Tryz.isAgg386
 z146:=Tryz.sizeOf386
 v146:=Tryz.zeroValue386
 g1:=by kernel_rfl
 i3:=by kernel_rfl
 i4:=by kernel_rfl
 i5:=by kernel_rfl
 i9:=by kernel_rfl
 i46:=by kernel_rfl
 i51:=by kernel_rfl
 i146:=by kernel_rfl
 m1:=by kernel_rfl
 s1_3:=λw h=>Go.Proofs.cell_of_shapedOpen_int (zero:=#[.int .i64 0]) (t:=3) h (of_decide_eq_true (by kernel_rfl)) (by kernel_rfl) rfl (by kernel_rfl) (by kernel_rfl) Tryz.underlying3 }
def Tryz.lays189_ren:Go.Shelf.Ren:=⟨fun|189=>234|125=>196|257=>272|128=>246|129=>247|294=>290|295=>291|296=>292|297=>293|298=>294|299=>295|216=>296|300=>297|301=>298|328=>308|329=>274|330=>275|331=>309|332=>310|215=>100|343=>315|n=>n,fun|28=>22|3=>3|46=>291|0=>0|51=>338|53=>340|4=>4|183=>332|182=>331|131=>168|5=>5|9=>9|218=>350|222=>354|228=>373|229=>143|n=>n,fun|n=>n⟩
theorem Tryz.lays189:Go.Proofs.Lays.n189 Tryz.prog Tryz.lays189_ren:={
 mixed:=by kernel_rfl
 f125:=fxT Tryz.func196
 f128:=fxT Tryz.func246
 f129:=fxT Tryz.func247
 f189:=fxT Tryz.func234
 f215:=fxT Tryz.func100
 f216:=fxT Tryz.func296
 f257:=fxT Tryz.func272
 f294:=fxT Tryz.func290
 f295:=fxT Tryz.func291
 f296:=fxT Tryz.func292
 f297:=fxT Tryz.func293
 f298:=fxT Tryz.func294
 f299:=fxT Tryz.func295
 f300:=fxT Tryz.func297
 f301:=fxT Tryz.func298
 f328:=fxT Tryz.func308
 f329:=fxT Tryz.func274
 f330:=fxT Tryz.func275
 f331:=fxT Tryz.func309
 f332:=fxT Tryz.func310
 f343:=fxT Tryz.func315
 t0:=Tryz.underlying0
 a0:=Tryz.isAgg0
 z0:=Tryz.sizeOf0
 v0:=Tryz.zeroValue0
 t3:=Tryz.underlying3
 a3:=Tryz.isAgg3
 z3:=Tryz.sizeOf3
 v3:=Tryz.zeroValue3
 t4:=Tryz.underlying4
 a4:=Tryz.isAgg4
 z4:=Tryz.sizeOf4
 v4:=Tryz.zeroValue4
 t5:=Tryz.underlying5
 a5:=Tryz.isAgg5
 z5:=Tryz.sizeOf5
 v5:=Tryz.zeroValue5
 t9:=Tryz.underlying9
 a9:=Tryz.isAgg9
 z9:=Tryz.sizeOf9
 v9:=Tryz.zeroValue9
 t28:=Tryz.underlying22
 a28:=Tryz.isAgg22
 z28:=Tryz.sizeOf22
 v28:=Tryz.zeroValue22
 t46:=Tryz.underlying291
 a46:=Tryz.isAgg291
 z46:=Tryz.sizeOf291
 v46:=Tryz.zeroValue291
 t51:=Tryz.underlying338
 a51:=Tryz.isAgg338
 z51:=Tryz.sizeOf338
 v51:=Tryz.zeroValue338
 t53:=Tryz.underlying340
 a53:=Tryz.isAgg340
 z53:=Tryz.sizeOf340
 v53:=Tryz.zeroValue340
 t131:=Tryz.underlying168
 a131:=Tryz.isAgg168
 z131:=Tryz.sizeOf168
 v131:=Tryz.zeroValue168
 t182:=Tryz.underlying331
 a182:=Tryz.isAgg331
 z182:=Tryz.sizeOf331
 v182:=Tryz.zeroValue331
 t183:=Tryz.underlying332
 a183:=Tryz.isAgg332
 z183:=Tryz.sizeOf332
 v183:=Tryz.zeroValue332
 t218:=Tryz.underlying350
 a218:=Tryz.isAgg350
 z218:=Tryz.sizeOf350
 v218:=Tryz.zeroValue350
 t222:=Tryz.underlying354
 a222:=Tryz.isAgg354
 z222:=Tryz.sizeOf354
 v222:=Tryz.zeroValue354
 t228:=Tryz.underlying373
 a228:=Tryz.isAgg373
 z228:=Tryz.sizeOf373
 v228:=Tryz.zeroValue373
 t229:=Tryz.underlying143
 a229:=Tryz.isAgg143
 z229:=Tryz.sizeOf143
 v229:=Tryz.zeroValue143 }
open Go.Sort Go.RowKit in
theorem Tryz.slices_Sort_int (blk off cap:Nat) (zs:List Int) (w:World) (hH:Holds (Value.int .i64) w blk off zs.toArray) (ab:blk<w.heap.size) (bw:zs.length<4611686018427387904) :
 Calls Tryz.prog 234 #[.slice (some ⟨blk,off,none⟩) zs.length cap] w λe w'=>
  e=.returned (.tuple #[])/\∃ n os,w'=grow (putRow (Value.int .i64) (Sort.ahead w n) blk off (zs.mergeSort λx y=>decide (x<=y)).toArray) os:=Any.slices_Sort_int Tryz.lays189 blk off cap zs w hH ab bw
def Tryz.lays151_ren:Go.Shelf.Ren:=⟨fun|151=>145|152=>206|137=>205|119=>259|224=>260|225=>261|217=>258|266=>282|n=>n,fun|9=>9|21=>21|4=>4|3=>3|5=>5|0=>0|46=>291|n=>n,fun|n=>n⟩
theorem Tryz.lays151:Go.Proofs.Lays.n151 Tryz.prog Tryz.lays151_ren:={
 mixed:=by kernel_rfl
 f119:=fxT Tryz.func259
 f137:=fxT Tryz.func205
 f151:=fxT Tryz.func145
 f152:=fxT Tryz.func206
 f217:=fxT Tryz.func258
 f224:=fxT Tryz.func260
 f225:=fxT Tryz.func261
 f266:=fxT Tryz.func282
 t0:=Tryz.underlying0
 a0:=Tryz.isAgg0
 z0:=Tryz.sizeOf0
 v0:=Tryz.zeroValue0
 t3:=Tryz.underlying3
 a3:=Tryz.isAgg3
 z3:=Tryz.sizeOf3
 v3:=Tryz.zeroValue3
 t4:=Tryz.underlying4
 a4:=Tryz.isAgg4
 z4:=Tryz.sizeOf4
 v4:=Tryz.zeroValue4
 t5:=Tryz.underlying5
 a5:=Tryz.isAgg5
 z5:=Tryz.sizeOf5
 v5:=Tryz.zeroValue5
 t9:=Tryz.underlying9
 a9:=Tryz.isAgg9
 z9:=Tryz.sizeOf9
 v9:=Tryz.zeroValue9
 t21:=Tryz.underlying21
 a21:=Tryz.isAgg21
 z21:=Tryz.sizeOf21
 v21:=Tryz.zeroValue21
 t46:=Tryz.underlying291
 a46:=Tryz.isAgg291
 z46:=Tryz.sizeOf291
 v46:=Tryz.zeroValue291 }
open Go.RowKit Go.Lib in
theorem Tryz.strings_ContainsRune_ascii (s:ByteArray) (r:Int) (w:World) (h0:0<=r) (h1:r<128) :
 Calls Tryz.prog 145 #[.string s,.int .i32 r] w λe w'=>e=.returned (.bool (decide (0<=Lib.indexByte s.data.toList r.toNat.toUInt8)))/\w'=w:=Any.strings_ContainsRune_ascii Tryz.lays151 s r w h0 h1
def Tryz.laysNm220_ren:Go.Shelf.Ren:=⟨fun|20=>235|n=>n,fun|22=>22|3=>3|4=>4|0=>0|n=>n,fun|n=>n⟩
theorem Tryz.laysNm220:Go.Proofs.Lays2.n20 Tryz.prog Tryz.laysNm220_ren:={
 mixed:=by kernel_rfl
 f20:=fxT Tryz.func235
 t0:=Tryz.underlying0
 a0:=Tryz.isAgg0
 z0:=Tryz.sizeOf0
 v0:=Tryz.zeroValue0
 t3:=Tryz.underlying3
 a3:=Tryz.isAgg3
 z3:=Tryz.sizeOf3
 v3:=Tryz.zeroValue3
 t4:=Tryz.underlying4
 a4:=Tryz.isAgg4
 z4:=Tryz.sizeOf4
 v4:=Tryz.zeroValue4
 t22:=Tryz.underlying22
 a22:=Tryz.isAgg22
 z22:=Tryz.sizeOf22
 v22:=Tryz.zeroValue22
 i3:=by kernel_rfl }
open Go.RowKit Go.Lib Go.Sort in
theorem Tryz.slices_Compact_int (blk off cap:Nat) (zs:List Int) (w:World) (hH:Holds (Value.int .i64) w blk off zs.toArray) (bw:zs.length<=9223372036854775807) (jl:zs.length<=cap) :
 Calls Tryz.prog 235 #[.slice (some ⟨blk,off,none⟩) zs.length cap] w λe w'=>e=.returned (.slice (some ⟨blk,off,none⟩) (Lib.compact zs).length cap)/\∃ q,w'=putRow (Value.int .i64) (Sort.ahead w q) blk off (Lib.compact zs++List.replicate (zs.length - (Lib.compact zs).length) 0).toArray:=Any.slices_Compact_int Tryz.laysNm220 blk off cap zs w hH bw jl
open Go.RowKit Go.Lib Go.Sort in
theorem Tryz.slices_Compact_int_empty (a:Option Addr) (cap:Nat) (w:World) :
 Calls Tryz.prog 235 #[.slice a 0 cap] w λe w'=>e=.returned (.slice a 0 cap)/\w'=w:=Any.slices_Compact_int_empty Tryz.laysNm220 a cap w
open Go.RowKit Go.Sort in
theorem Tryz.slices_Sort_int_none (p:Option Addr) (cap:Nat) (w:World) :
 Calls Tryz.prog 234 #[.slice p 0 cap] w λe w'=>e=.returned (.tuple #[])/\w'=w:=Any.slices_Sort_int_none Tryz.lays189 p cap w
end Go.Proofs
namespace Go.Proofs.YtkojegdemoahlaaGreatDoor
open Go Go.Eng Go.RowKit Go.Proofs
theorem Zp1 {P:Program} {n:Nat} {Q:Exit->Act->World->Prop} {e:Env} {w} {ops:Array Oper} {rest:List Oper} {an:Nat} {ty:TypeId} {pos:String} {af:Array Edge} {t u:Nat} {x:Operand} {ds:TypeDesc} [hu:Und P t ds] (lW:∃ l,ds=.interface l) (hx:ev e x=some .nilIface) (aD:Nat.blt an n=true) (kk:WL P n ops Q rest ((an,.B false) :: e) w) :
 WL P n ops Q (⟨some an,.binOp .neq t x (.const .nilIface) u,ty,pos,af,none⟩ :: rest) e w:=by
 refine Z7 (v:=.B false) ⟨λa ha=>?_⟩ aD kk;obtain ⟨l,rfl⟩:=lW;have hy:a.eval (.const .nilIface)=.nilIface:=rfl;simp only [execOp,ha.ev hx,hy];have:=run_equal_nil_nil (P:=P) (w:=w) t (by rw [hu.h,Program.methodsAt,hu.h]);simp [go_sem,binOp,eqGuard,this]
theorem Zb6 (w) (el:TypeId) (t:ByteArray):Stp [] w (Lib.bytesWorld w el t):=by
 refine ⟨rfl,rfl,rfl,?_,λb hb _=>Lib.bytesWorld_at_old w el _ b hb⟩;rw [Lib.bytesWorld_size];omega
end Go.Proofs.YtkojegdemoahlaaGreatDoor
