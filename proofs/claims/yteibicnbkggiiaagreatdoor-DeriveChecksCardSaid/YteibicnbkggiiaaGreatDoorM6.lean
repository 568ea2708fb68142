/-
Contracts and plain laws, merged out of own texts.
-/
import Derived.Test.YteibicnbkggiiaaGreatDoorM5
import Derived.Laws.OwnMore
import Derived.Laws.CopyRow
import Derived.LoopN
import Derived.WideLaws
import Derived.Lib.IndexMore
import Derived.JoinedOf
set_option linter.unusedVariables false
set_option linter.unusedSimpArgs false
set_option maxHeartbeats 4000000
set_option maxRecDepth 20000
namespace Go.Sim
open Go Go.Eng Go.RowKit Go.Proofs
section
variable {P:Program} {n:Nat} {e:Env} {w:World} {d:Option Nat} {ty:TypeId} {pos:String} {af:Array Edge} {g:Option (Nat×Bool)}
theorem Zhe {t el k:Nat} {x y:Operand} {b o i l c:Nat} {z:Int} [hu:Und P t (.slice el)] [hk:Siz P el k] (hx:ev e x=some (.slice (some ⟨b,o,none⟩) l c)) (hy:ev e y=some (.I z)) (hz:z=(i:Int)) (hi:i<l) :
 PR P n ⟨d,.indexAddr t x y,ty,pos,af,g⟩ e w (.pointer (some ⟨b,o+i * k,none⟩)):=
 ⟨λa ha => by
   subst hz;have h0:(0:Int)<=(i:Int)/\(i:Int)<(l:Int):=by omega
   have hr:(Instr.indexAt t (.slice (some ⟨b,o,none⟩) l c) (.I (i:Int))).run P w=.ok (.pointer (some ⟨b,o+i * k,none⟩)) w:=by
    simp only [Instr.indexAt,asIntOf];simp [run_underlying hu.h,Siz.run,Addr.add_lit,hi]
   simp [execOp,ha.ev hx,ha.ev hy,hr]⟩
theorem Z71 {L:Lc} (hG:Gl L) {e:AE} {xs:Array Operand} {vs:List V} (h:evs e xs.toList=some vs):∀ a,Has n (ge L e) a->xs.map a.eval=(gl L vs).toArray:=λa ha=>by
 rw [<- Zev hG h a ha,<- Ybj,XK]
theorem ZbM {t:TypeId} {x y:Operand} {a:Str} {z:Int} {i:Nat} {kk:IntKind} [hu:Und P t .string] (hx:ev e x=some (str a)) (hy:ev e y=some (.int kk z)) (hz:z=(i:Int)) (hi:i<a.length):PR P n ⟨d,.index t x y,ty,pos,af,g⟩ e w (.int .u8 (ZU a i)):=
 ⟨λc ha => by
   subst hz;have h1:(0:Int)<=(i:Int)/\((i:Int)<((⟨a.toArray⟩:ByteArray).size:Int)):=by rw [Jb];omega
   have:=run_index_string (P:=P) w t ⟨a.toArray⟩ kk (i:Int) hu.h;rw [dif_pos h1] at this;simp only [execOp,ha.ev hx,ha.ev hy];simp [this,ZU,List.getD,hi];rfl⟩
theorem ZkL {L:Lc} (hG:Gl L) {e:AE} {t:Nat} {x y:Operand} {a b v:V} (hx:evv e x=some a) (hy:evv e y=some b) (h:idx P t a b=some v):PR P n ⟨d,.indexAddr t x y,ty,pos,af,g⟩ (ge L e) w (ga L v):=by
 have ex:=Zm hG hx;have ey:=Zm hG hy;unfold idx at h;split at h;split at h;rename_i m el h1;split at h;rename_i k h2;obtain ⟨h3,rfl⟩:=JH h;have h4:=of_decide_eq_true h3;have u1:Und P t (.array m el):=⟨h1⟩
 have u2:Siz P el k:=⟨h2⟩
 exact Z1x (el:=el) (k:=k) ex ey (i:=_root_.Int.toNat _) (by rw [XS h4.1]) (by omega);cases h;cases h;split at h;rename_i b o m el h1 h2;split at h;rename_i k h5;obtain ⟨h3,rfl⟩:=JH h;have h4:=of_decide_eq_true h3;have u1:Und P t (.slice el):=⟨h2⟩
 have u2:Siz P el k:=⟨h5⟩
 obtain ⟨c,hv⟩:=ZkH (L:=L) h1 (by omega);rw [hv] at ex;exact Zhe (el:=el) (k:=k) ex ey (i:=_root_.Int.toNat _) (by rw [XS h4.1]) (by omega);cases h;cases h;cases h
theorem ZbN {L:Lc} (hG:Gl L) {e:AE} {t:Nat} {x:Operand} {s:Str} {lo hi:Option Operand} {v:V} (ht:isT P t=true) (hx:evv e x=some (.s s)) (h:Z9P P e t s lo hi=some v):PR P n ⟨d,.slice t x lo hi none,ty,pos,af,g⟩ (ge L e) w (ga L v):=by
 have ex:=Zm hG hx;have u1:=Z1J ht;unfold Z9P at h;split at h;split at h;rename_i l h' h1 h2;obtain ⟨h3,rfl⟩:=JH h;have h4:=of_decide_eq_true h3;exact Z1w ex (Zm hG h1) (Zm hG h2) (by rw [XS h4.1]) (by rw [XS (by omega)]) (by omega) (by omega);cases h;split at h;rename_i l h1;obtain ⟨h3,rfl⟩:=JH h;have h4:=of_decide_eq_true h3;exact Z3X ex (Zm hG h1) (by rw [XS h4.1]) (by omega);cases h;split at h;rename_i l h1;obtain ⟨h3,rfl⟩:=JH h;have h4:=of_decide_eq_true h3;exact Z3Y ex (Zm hG h1) (by rw [XS h4.1]) (by omega);cases h;cases h
theorem Zhf {α:Type} {a:Array α} {x:α} (h:a.toList=[x]):a=#[x]:=by rw [<- XK (xs:=a),h]
theorem ZnW {α:Type} {a:Array α} {x y:α} (h:a.toList=[x,y]):a=#[x,y]:=by rw [<- XK (xs:=a),h]
theorem Zhg {L:Lc} (hG:Gl L) {e:AE} {c:Call} {v:V} (h:ZkJ P e c=some v):PR P n ⟨d,.call c,ty,pos,af,g⟩ (ge L e) w (ga L v):=by
 obtain ⟨cl,xs,ts⟩:=c;unfold ZkJ at h;split at h;rename_i x t h1 h2 h3
 try dsimp only at h1 h2 h3
 obtain rfl:=Zhf h2;obtain rfl:=Zhf h3;subst h1;split at h;rename_i h1;obtain ⟨h2,rfl⟩:=JH h;have:=Z1J h2;exact Zai (Zm hG h1);rename_i v' fb h1;split at h;rename_i m el h2 h3;cases h;have:Und P t (.slice el):=⟨h3⟩
 obtain ⟨p,c,hv⟩:=Zhd (L:=L) h2;have:=Zm hG h1;rw [hv] at this;exact Z8z this;cases h;cases h;rename_i x t h1 h2 h3
 try dsimp only at h1 h2 h3
 obtain rfl:=Zhf h2;obtain rfl:=Zhf h3;subst h1;split at h;rename_i el h1 h2;cases h;have:Und P t (.slice el):=⟨h2⟩
 exact Z97 (Zm hG h1);cases h;rename_i x y h1 h2
 try dsimp only at h1 h2
 obtain rfl:=ZnW h2;subst h1;split at h;rename_i h1 h2;cases h;exact ZcY (Zm hG h1) (Zm hG h2);cases h;rename_i x y h1 h2
 try dsimp only at h1 h2
 obtain rfl:=ZnW h2;subst h1;split at h;rename_i h1 h2;cases h;exact ZcZ (Zm hG h1) (Zm hG h2);cases h;cases h
theorem Zhh {L:Lc} (hG:Gl L) {e:AE} {t:Nat} {x:Operand} {u v:V} {lo hi:Option Operand} (hx:evv e x=some u) (h:ZkK P e t lo hi u=some v):PR P n ⟨d,.slice t x lo hi none,ty,pos,af,g⟩ (ge L e) w (ga L v):=by
 have ex:=Zm hG hx;unfold ZkK at h;split at h;obtain ⟨ht,h⟩:=Jv h;exact ZbN hG ht hx h;split at h;rename_i ho el h1;split at h;rename_i k h2 h3;cases h;have u1:Und P t (.slice el):=⟨h1⟩
 have u2:Siz P el _:=⟨h3⟩
 exact ⟨λa ha=>by simp [execOp,ha.ev ex,ha.ev (Zm hG h2),ga,Instr.sliceAt,run_underlying u1.h,Instr.slice,Instr.sliceBounds,Instr.sliceBound,asIntOf,u2.run]⟩;cases h;rename_i ho el h1;split at h;rename_i k h2 h3;cases h;have u1:Und P t (.slice el):=⟨h1⟩
 have u2:Siz P el _:=⟨h3⟩
 exact ⟨λa ha=>by simp [execOp,ha.ev ex,ha.ev (Zm hG h2),ga,Instr.sliceAt,run_underlying u1.h,Instr.slice,Instr.sliceBounds,Instr.sliceBound,asIntOf,u2.run]⟩;cases h;cases h;split at h;rename_i m el h1;split at h;rename_i k h3;cases h;have u1:Und P t (.array m el):=⟨h1⟩
 have u2:Siz P el _:=⟨h3⟩
 exact ⟨λa ha=>by simp [execOp,ha.ev ex,ga,Instr.sliceAt,Instr.sureAddr,run_underlying u1.h,Instr.sliceBounds,u2.run,Addr.add]⟩;cases h;cases h;cases h
theorem Zez {L:Lc} (hG:Gl L) {e:AE} {op:Op} {v:V} (h:pur P e op=some v):PR P n ⟨d,op,ty,pos,af,g⟩ (ge L e) w (ga L v):=by
 unfold pur at h;split at h;exact Jk (Zm hG h);exact Z3x (Zm hG h);split at h;rename_i h1;exact Z5P (Zm hG h1) (Zm hG h);rename_i h1;exact Z5Q (Zm hG h1) (Zm hG h);cases h;split at h;rename_i h1;cases h;exact Z3Z (Zm hG h1);cases h;split at h;rename_i h1 h2;exact ZkE hG h1 h2 h w d _ ty pos af g;cases h;split at h;rename_i h1;cases h;exact Zca (Zm hG h1);cases h;split at h;rename_i h1 h2 h3;cases h;have u1:Und P _ _:=⟨h2⟩
 have u2:Und P _ _:=⟨h3⟩
 exact Zgg (Zm hG h1);cases h;split at h;rename_i fs cs x y h1 h2;cases h;exact ⟨λa ha=>by simp [execOp,Instr.makeFunc,Z71 hG h1 a ha,Z71 hG h2 a ha,ga]⟩;cases h;split at h;rename_i h1;exact Zhh hG h1 h;cases h;split at h;rename_i h1 h2;cases h;have:=ZkG h2;exact Zn (Zm hG h1);cases h;split at h;rename_i h1;exact Zdu (Zm hG h1) (ZbL L h);cases h;split at h;rename_i h1 h2;exact ZkL hG h1 h2 h;cases h;split at h;rename_i h1 h2;obtain ⟨h3,rfl⟩:=JH h;simp only [Xa] at h3;have h4:=of_decide_eq_true h3.2;have:=Z1J h3.1;exact ZbM (Zm hG h1) (Zm hG h2) (by rw [XS h4.1]) (by omega);cases h;split at h;rename_i l h1;exact Z4B (Zm hG h1) (by rw [List.getElem?_toArray,Z5r,h];rfl);cases h;split at h;rename_i ps h1;rw [XB] at h;obtain ⟨cs,h2,rfl⟩:=h;rename_i arr _ _;have:=JT (P:=P) (n:=n) (w:=w) (d:=d) (ty:=ty) (pos:=pos) (af:=af) (g:=g) (Z5t hG h1) (λw=>run_build w _ _ _ (Zey L h2));simpa [ga] using this;cases h;exact Zhg hG h;cases h
end
abbrev Tr (α:Type):=List (Nat×Option α)
noncomputable def Tr.get {α:Type} (t:Tr α) (k:Nat):Option α:=Option.rec (motive:=λ_=>Option α) none (λv=>v) (lk t k)
def Tr.put {α:Type} (v:Option α) (t:Tr α) (k:Nat):Tr α:=(k,v) :: t
theorem Tr.get_put {α:Type} (v:Option α) (t:Tr α) (k j:Nat):(Tr.put v t k).get j=if j=k then v else t.get j:=by
 unfold Tr.get Tr.put;rw [Z3p];by_cases e:k=j;rw [if_pos e,if_pos e.symm];rw [if_neg e,if_neg (Ne.symm e)]
structure KI (P:Program) where
 kt:Nat
 κ:Type
 de:DecidableEq κ
 ek:Z6s P kt κ
 dec:V->Option κ
 ok:∀ L v a,dec v=some a->ga L v=ek.enc a
class KD (P:Program) where
 l:List (KI P)
def kf {P:Program}:List (KI P)->Nat->Option (KI P)
 | [],_=>none
 | K :: r,t=>bif Nat.beq K.kt t then some K else kf r t
theorem ZeA {P:Program}:∀ {l:List (KI P)} {t:Nat} {K:KI P},kf l t=some K->K.kt=t
 | [],_,_,h=>by cases h
 | K :: r, t, K', h => by
   simp only [kf] at h;cases hb:Nat.beq K.kt t with
   | true=>rw [hb] at h;cases h;exact Xk hb
   | false=>rw [hb] at h;exact ZeA (l:=r) h
inductive O where
 | c (T z:Nat) (cs:List V)
 | it (s:Str) (p:Nat)
 | mp (l:List (V×V))
 | ro (cs:List V)
 | ig
def O.bd (n:Nat):O->Bool
 | .c _ _ cs=>bl n cs
 | .it _ _=>true
 | .mp l=>l.all λp=>bl n [p.1,p.2]
 | .ro cs=>bl n cs
 | .ig=>true
structure S where
 m:Tr O
 n:Nat
def Z9Q (L:Lc) (w:World) (r:Nat) (l:List (V×V)):Prop:=∃ l':List (V×V),l'.Perm l/\∃ (es:Array MapEntry) (clock:Nat),w.heap[r]?=some (.map es clock)/\es.toList.map (·.key)=l'.map (λp=>ga L p.1)/\es.toList.map (·.val)=l'.map (λp=>ga L p.2)
def Ob (L:Lc) (w:World) (k:Nat):O->Prop
 | .c T z cs=>∃ rest,Blk w (L k).1 T (gl L cs++rest)/\(z≠0->cs.length+rest.length=(L k).2 * z/\(L k).2<=maxLen)/\(z=0->rest=[])
 | .it s p=>Itr w (L k).1 s p
 | .mp l=>Z9Q L w (L k).1 l
 | .ro cs=>(L k).1<w.heap.size/\∀ i u,cs[i]?=some u->w.cell? ⟨(L k).1,i,none⟩=some (ga L u)
 | .ig=>(L k).1<w.heap.size/\∃ m,w.cell? ⟨(L k).1,0,none⟩=some (.I m)
structure Rel (L:Lc) (s:S) (w:World):Prop where
 g:Gl L
 ob:∀ k o,s.m.get k=some o->Ob L w k o
 bn:∀ k o,s.m.get k=some o->k<s.n/\O.bd s.n o=true
 inj:∀ j k,(s.m.get j).isSome=true->(s.m.get k).isSome=true->(L j).1=(L k).1->j=k
 n64:64<=s.n
theorem Itr.ext {S:List Nat} {w w':World} {b p:Nat} {s:Str} (h:Itr w b s p) (hS:Stp S w w') (hb:b∉S):Itr w' b s p:=by
 have hl:=h.lt;unfold Itr at *;rw [hS.block b hl hb];exact h
theorem Ob.ext {L:Lc} {S:List Nat} {w w':World} {k:Nat} {o:O} (h:Ob L w k o) (hS:Stp S w w') (hb:(L k).1∉S):Ob L w' k o:=by
 cases o with
 | c T z cs=>obtain ⟨r,h1,h2⟩:=h;exact ⟨r,h1.ext hS hb,h2⟩
 | it s p=>exact Itr.ext h hS hb
 | mp l=>
   obtain ⟨l',h1,es,c,h2,h3⟩:=h;exact ⟨l',h1,es,c,by rw [hS.block _ (Xx.1 h2).1 hb];exact h2,h3⟩
 | ro cs=>exact ⟨Xc h.1 hS.size,λi u hu=>hS.cell hb (h.2 i u hu)⟩
 | ig=>exact ⟨Xc h.1 hS.size,h.2.imp λ_ hm=>hS.cell hb hm⟩
theorem Ob.lt {L:Lc} {w} {k:Nat} {o:O} (h:Ob L w k o):(L k).1<w.heap.size:=by
 cases o with
 | c T z cs=>obtain ⟨r,h1,h2⟩:=h;exact h1.lt
 | it s p=>exact Itr.lt h
 | mp l=>
   obtain ⟨l',h1,es,c,h2,h3⟩:=h;exact (Xx.1 h2).1
 | ro cs=>exact h.1
 | ig=>exact h.1
theorem Ob.eq {L L':Lc} {n:Nat} {w} {k:Nat} {o:O} (h:Ob L w k o) (hk:L' k=L k) (ho:o.bd n=true) (hL:∀ k,k<n->L' k=L k):Ob L' w k o:=by
 cases o with
 | c T z cs=>obtain ⟨r,h1,h2⟩:=h;exact ⟨r,by rw [hk,Z3o hL cs ho];exact h1,by rw [hk];exact h2⟩
 | it s p=>show Itr _ _ _ _;rw [hk];exact h
 | mp l=>
   obtain ⟨l',h1,es,c,h2,h3,h4⟩:=h;have hb:∀ p∈l',bd n p.1=true/\bd n p.2=true:=λp hp=>by
    have:=Xy.1 (show (l.all λp=>bl n [p.1,p.2])=true from ho) p (h1.mem_iff.1 hp);simpa [bl] using this
   refine ⟨l',h1,es,c,by rw [hk];exact h2,?_,?_⟩;rw [h3];exact YaU λp hp=>(Z4e hL _ (hb p hp).1).symm;rw [h4];exact YaU λp hp=>(Z4e hL _ (hb p hp).2).symm
 | ro cs=>
   refine ⟨by rw [hk];exact h.1,λi u hu=>?_⟩;rw [hk,Z4e hL u ((Z1d n cs).1 ho u (List.mem_of_getElem? hu))];exact h.2 i u hu
 | ig=>show _/\_;rw [hk];exact h
theorem O.bd_le {n m:Nat} (h:n<=m) {o:O} (ho:o.bd n=true):o.bd m=true:=by
 cases o with
 | c T z cs=>exact Z4f h cs ho
 | it s p=>rfl
 | mp l=>
   refine Xy.2 λp hp=>Z4f h _ (Xy.1 (show (l.all λp=>bl n [p.1,p.2])=true from ho) p hp)
 | ro cs=>exact Z4f h cs ho
 | ig=>rfl
def ids (n:Nat) (L:Lc) (ws:List Nat):List Nat:=(ws.filter (λk=>Nat.blt k n)).map (λk=>(L k).1)
theorem Jn {n:Nat} {L:Lc} {ws:List Nat} {b:Nat}:b∈ids n L ws↔∃ k∈ws,k<n/\(L k).1=b:=by
 unfold ids;simp only [XO,YaY];constructor;rintro ⟨k,⟨h1,h2⟩,h3⟩;exact ⟨k,h1,Xe h2,h3⟩;rintro ⟨k,h1,h2,h3⟩;exact ⟨k,⟨h1,XN h2⟩,h3⟩
structure Nx (s s':S) (L L':Lc) (w w':World) (ws:List Nat):Prop where
 le:s.n<=s'.n
 ag:∀ k,k<s.n->L' k=L k
 nw:∀ k,s.n<=k->k<s'.n->w.heap.size<=(L' k).1\/(L' k).1∈ids s.n L ws
 st:Stp (ids s.n L ws) w w'
theorem Nx.refl (s:S) (L:Lc) (w):Nx s s L L w w []:=⟨Xq _,λ_ _=>rfl,λk h1 h2=>absurd h2 (YaK.2 h1),Stp.refl _ _⟩
theorem Nx.trans {s s1 s2:S} {L L1 L2:Lc} {w w1 w2:World} {ws vs:List Nat} (h:Nx s s1 L L1 w w1 ws) (k:Nx s1 s2 L1 L2 w1 w2 vs):Nx s s2 L L2 w w2 (ws++vs):=by
 have hz:=h.st.size;have eH:∀ b,b∈ids s1.n L1 vs->b∈ids s.n L (ws++vs)\/w.heap.size<=b:=λb hb=>by
  obtain ⟨j,hj,n5,rfl⟩:=Jn.1 hb;by_cases mE:j<s.n;rw [h.ag j mE];exact .inl (Jn.2 ⟨j,Xd.2 (.inr hj),mE,rfl⟩);rcases h.nw j (YaQ mE) n5 with g|g
  exact .inr g;obtain ⟨i,hi,bB,he⟩:=Jn.1 g;exact .inl (Jn.2 ⟨i,Xd.2 (.inl hi),bB,he⟩)
 have bB:∀ b,b∈ids s.n L ws->b∈ids s.n L (ws++vs):=λb hb=>by
  obtain ⟨i,hi,bB,he⟩:=Jn.1 hb;exact Jn.2 ⟨i,Xd.2 (.inl hi),bB,he⟩
 refine ⟨Xl h.le k.le,λj hj=>(k.ag j (Xc hj h.le)).trans (h.ag j hj),λj h1 h2=>?_,(h.st.mono bB).own k.st eH⟩;by_cases hj:j<s1.n;rw [k.ag j hj];exact (h.nw j h1 hj).imp id (bB _);rcases k.nw j (YaQ hj) h2 with g|g
 exact .inl (Xl hz g);exact (eH _ g).symm
noncomputable def ldc (s:S) (b:Nat):Option (List V):=match s.m.get b with
 | some (.c _ _ cs)=>some cs
 | some (.ro cs)=>some cs
 | _=>none
theorem Z2k {L:Lc} {s:S} {w} (h:Rel L s w) {b:Nat} {cs:List V} (hl:ldc s b=some cs) {i:Nat} {u:V} (hu:cs[i]?=some u):w.cell? ⟨(L b).1,i,none⟩=some (ga L u):=by
 unfold ldc at hl;split at hl;rename_i T z cs' hg;cases hl;obtain ⟨r,h1,-⟩:=h.ob b _ hg;refine h1.cell ?_;rw [Yao (by rw [ZV];exact (Xu.1 hu).1),Z5r,hu];rfl;rename_i cs' hg;cases hl;exact (h.ob b _ hg).2 i u hu;cases hl
def Z9R {P:Program} (K:KI P) (a:K.κ):List (V×V)->Option (List V)
 | []=>some []
 | (q, v) :: r => match K.dec q, Z9R K a r with
   | some b, some l => match K.de b a with
     | .isTrue _=>some (v :: l)
     | .isFalse _=>some l
   | _,_=>none
def vz:Value->V
 | .agg cs=>.a (cs.toList.map ofC)
 | v=>ofC v
theorem ZnX (L:Lc) (v:Value):ga L (vz v)=v:=by
 cases v with
 | agg cs=>simp only [vz,ga,Z70,XK]
 | _=>simp only [vz,Z5q]
noncomputable def ZhC (P:Program) [KD P] (s:S) (t b:Nat) (kv:V):Option V:=match P.underlying t with
 | some (.map kt et) => match s.m.get b, kf (KD.l (P := P)) kt, (P.info? et).bind (·.zero) with
   | some (.mp l), some K, some z => match K.dec kv with
     | some a => match Z9R K a l with
       | some []=>some (vz z)
       | some [v]=>some v
       | _=>none
     | none=>none
   | _,_,_=>none
 | _=>none
noncomputable def ZnY (P:Program) (e:AE) (s:S) (t b n:Nat):Option Operand->Option Operand->Option V:=λlo hi=>match s.m.get b,P.underlying t with
 | some (.c T z cs), some (.slice el) => match (P.info? el).map (·.size) with
   | some k => bif Nat.blt 0 z && Nat.ble (n * z) cs.length then (match lo, hi with
     | none, some h => match evv e h with
       | some (.i .i64 h)=>cut (decide (0<=h/\h<=n)) (.l b h.toNat)
       | _=>none
     | some h, none => match evv e h with
       | some (.i .i64 h)=>cut (decide (0<=h/\h<=n)) (.q b h.toNat k (n - h.toNat))
       | _=>none
     | _,_=>none) else none
   | none=>none
 | _,_=>none
noncomputable def rd (P:Program) [KD P] (e:AE) (s:S):Op->Option (V×Nat)
 | .load t x => match evv e x, P.underlying t with
   | some (.p b o), some D => match ldc s b with
     | some cs => match Z03 D, (P.info? t).map (·.size) with
       | true,some k=>bif Nat.ble (o+k) cs.length then some (.a ((cs.drop o).take k),b) else none
       | false, _ => match cs[o]? with
         | some v=>some (v,b)
         | none=>none
       | _,_=>none
     | none=>none
   | _,_=>none
 | .lookup t x k false => match evv e x, evv e k with
   | some (.m b),some kv=>(ZhC P s t b kv).map λv=>(v,b)
   | _,_=>none
 | .slice t x lo hi none => match evv e x with
   | some (.l b n)=>(ZnY P e s t b n lo hi).map λv=>(v,b)
   | _=>none
 | _=>none
def mfl {P:Program} (K:KI P) (p:V×V):Option (K.κ×V):=(K.dec p.1).map λb=>(b,p.2)
theorem Z3r {P:Program} {K:KI P} {a:K.κ}:∀ {l:List (V×V)} {r:List V},Z9R K a l=some r->(∀ p∈l,∃ b,K.dec p.1=some b)/\r=((l.filterMap (mfl K)).filter λq=>@decide (q.1=a) (K.de q.1 a)).map (·.2)
 | [],r,h=>by simp only [Z9R,Xi] at h;subst h;exact ⟨by simp,rfl⟩
 | (q, v) :: t, r, h => by
   simp only [Z9R] at h;split at h;rename_i b l' h1 h2;obtain ⟨h3,h4⟩:=Z3r h2;have hf:mfl K (q,v)=some (b,v):=by simp [mfl,h1]
   refine ⟨λp hp=>(Xg.1 hp).elim (λe=>⟨b,by rw [e];exact h1⟩) (h3 p),?_⟩;rw [List.filterMap_cons_some hf];split at h;rename_i e e';cases h;rw [List.filter_cons_of_pos (by simpa using e),Xz,h4];rename_i e e';cases h;rw [List.filter_cons_of_neg (by simpa using e),h4];cases h
theorem Z5u {P:Program} {K:KI P} (L:Lc):∀ {l:List (V×V)},(∀ p∈l,∃ b,K.dec p.1=some b)->l.map (λp=>ga L p.1)=(l.filterMap (mfl K)).map (λq=>K.ek.enc q.1)/\l.map (λp=>ga L p.2)=(l.filterMap (mfl K)).map (λq=>ga L q.2)
 | [],_=>⟨rfl,rfl⟩
 | p :: l, h => by
   obtain ⟨b,hb⟩:=h p (.head _);obtain ⟨h1,h2⟩:=Z5u L (l:=l) (λq hq=>h q (.tail _ hq));have hf:mfl K p=some (b,p.2):=by simp [mfl,hb]
   rw [List.filterMap_cons_some hf,Xz,Xz,Xz,Xz,h1,h2,K.ok L p.1 b hb];exact ⟨rfl,rfl⟩
theorem ZkM {P:Program} {K:KI P} {L:Lc} {w} {r:Nat} {l:List (V×V)} (h:Z9Q L w r l) (hd:∀ p∈l,∃ b,K.dec p.1=some b):∃ N:List (K.κ×V),N.Perm (l.filterMap (mfl K))/\Jq K.ek.enc w r (N.map λq=>(q.1,ga L q.2)):=by
 obtain ⟨l',h1,es,c,h2,h3,h4⟩:=h;obtain ⟨k1,k2⟩:=Z5u (K:=K) L (l:=l') (λp hp=>hd p (h1.mem_iff.1 hp));refine ⟨l'.filterMap (mfl K),h1.filterMap _,es,c,h2,?_,?_⟩;rw [h3,k1,X8];rfl;rw [h4,k2,X8];rfl
theorem Z8k {κ:Type} [DecidableEq κ] (N N':List (κ×V)) (hp:N'.Perm N) (L:Lc) (a:κ) (z:Value):(∀ v,(N.filter λq=>decide (q.1=a)).map (·.2)=[v]->Z1Q (N'.map λq=>(q.1,ga L q.2)) a z=ga L v)/\
 ((N.filter λq=>decide (q.1=a)).map (·.2)=[]->Z1Q (N'.map λq=>(q.1,ga L q.2)) a z=z):=by
 have hf:(N'.map λq=>(q.1,ga L q.2)).find? (λp=>decide (p.1=a))=((N'.filter λq=>decide (q.1=a)).head?).map λq=>(q.1,ga L q.2):=by
  rw [List.head?_filter,List.find?_map];rfl
 have hq:=hp.filter (λq=>decide (q.1=a));constructor;intro v hv;obtain ⟨q,hq1,rfl⟩:=List.map_eq_singleton_iff.1 hv;rw [hq1] at hq;unfold Z1Q;rw [hf,List.perm_singleton.1 hq];rfl;intro hv;rw [List.map_eq_nil_iff.1 hv] at hq;unfold Z1Q;rw [hf,hq.eq_nil];rfl
theorem Z9Q.same {L:Lc} {w w':World} {r:Nat} {l:List (V×V)} (h:Z9Q L w r l) (hS:w'.heap[r]?=w.heap[r]?):Z9Q L w' r l:=by
 obtain ⟨l',h1,es,c,h2,h3⟩:=h;exact ⟨l',h1,es,c,by rw [hS];exact h2,h3⟩
theorem ZhD {P:Program} [KD P] {n:Nat} {e:AE} {w w':World} {d:Option Nat} {ty:TypeId} {pos:String} {af:Array Edge} {g:Option (Nat×Bool)} {L:Lc} {s:S} {op:Op} {v:V} {b:Nat}
 (h:Rel L s w) (hr:rd P e s op=some (v,b)) (hS:w'.heap[(L b).1]?=w.heap[(L b).1]?):PR P n ⟨d,op,ty,pos,af,g⟩ (ge L e) w' (ga L v):=by
 unfold rd at hr;split at hr;split at hr;rename_i b' o D h1 h2;have u1:Und P _ D:=⟨h2⟩
 split at hr;rename_i cs h3;split at hr;rename_i k hA h4;obtain ⟨hk,hr⟩:=Jv hr;simp only [Xi,XC] at hr;obtain ⟨rfl,rfl⟩:=hr;have ij:=Xe hk;have u2:Siz P _ k:=⟨h4⟩
 refine Z1e (cs:=gl L ((cs.drop o).take k)) hA (Zm h.g h1) (by rw [ZV,XA,X4];omega) (λj u hu=>?_);rw [Z5r] at hu;rw [XB] at hu;obtain ⟨u',ii,rfl⟩:=hu;have hj:=(Xu.1 ii).1;rw [XA] at hj;rw [List.getElem?_take_of_lt (by omega),Ybb] at ii;rw [World.cell?_of_block (w:=w) hS];exact Z2k h h3 ii;rename_i _ hA;split at hr;rename_i u h4;cases hr;exact Jo hA (Zm h.g h1) (by rw [World.cell?_of_block (w:=w) hS];exact Z2k h h3 h4);cases hr;cases hr;cases hr;cases hr;split at hr;rename_i b' kv h1 h2;rw [XB] at hr;obtain ⟨v',hr,hp⟩:=hr;simp only [XC] at hp;obtain ⟨rfl,rfl⟩:=hp;unfold ZhC at hr;split at hr;rename_i kt et h3;split at hr;rename_i l K z h4 h5 h6;obtain rfl:=ZeA h5;split at hr;rename_i a h7;have hm:Z9Q L w (L b').1 l:=h.ob b' _ h4;have u1:Und P _ (.map K.kt et):=⟨h3⟩
 have u2:Zer P et z:=⟨h6⟩
 have hk:=Zm h.g h2;rw [K.ok L kv a h7] at hk;have fin:∀ r,Z9R K a l=some r->∃ N:List (K.κ×V),N.Perm (l.filterMap (mfl K))/\PR P n ⟨d,.lookup _ _ _ false,ty,pos,af,g⟩ (ge L e) w' (@Z1Q K.κ K.de (N.map λq=>(q.1,ga L q.2)) a z):=λr hr=>by
  obtain ⟨N,q1,q2⟩:=ZkM (K:=K) (hm.same hS) (Z3r hr).1;exact ⟨N,q1,@Z2q P n (ge L e) w' d ty pos af g _ K.kt et _ K.κ K.de _ _ z u1 K.ek u2 _ a (Zm h.g h1) hk q2⟩
 split at hr;rename_i h8;cases hr;obtain ⟨N,q1,q2⟩:=fin _ h8;rw [(@Z8k K.κ K.de _ N q1 L a z).2 (Z3r h8).2.symm] at q2;rw [ZnX];exact q2;rename_i h8;cases hr;obtain ⟨N,q1,q2⟩:=fin _ h8;rw [(@Z8k K.κ K.de _ N q1 L a z).1 _ (Z3r h8).2.symm] at q2;exact q2;cases hr;cases hr;cases hr;cases hr;cases hr;split at hr;rename_i b' m h1;rw [XB] at hr;obtain ⟨v',hr,hp⟩:=hr;simp only [XC] at hp;obtain ⟨rfl,rfl⟩:=hp;unfold ZnY at hr;split at hr;rename_i T z cs el h2 h3;split at hr;rename_i k h4;obtain ⟨hc,hr⟩:=Jv hr;simp only [Xa] at hc;have c1:0<z:=Xe hc.1;have c2:=Xe hc.2;obtain ⟨rest,-,ac,-⟩:=h.ob b' _ h2;obtain ⟨r1,r2⟩:=ac (by omega);have jn:m<=(L b').2:=Nat.le_of_mul_le_mul_right (by omega) c1;have u1:Und P _ (.slice el):=⟨h3⟩
 have u2:Siz P el k:=⟨h4⟩
 have ex:=Zm h.g h1;split at hr;rename_i ho;split at hr;rename_i hh h5;obtain ⟨h6,rfl⟩:=JH hr;have h6:=of_decide_eq_true h6;obtain ⟨j,rfl⟩:∃ j:Nat,hh=(j:Int):=⟨hh.toNat,by omega⟩
 exact ⟨λa ha=>by simp [execOp,ha.ev ex,ha.ev (Zm h.g h5),ga,Instr.sliceAt,run_underlying u1.h,Instr.slice,Instr.sliceBounds,Instr.sliceBound,asIntOf,u2.run,Addr.add_lit,show j<=(L b').2 by omega]⟩;cases hr;rename_i ho;split at hr;rename_i hh h5;obtain ⟨h6,rfl⟩:=JH hr;have h6:=of_decide_eq_true h6;obtain ⟨j,rfl⟩:∃ j:Nat,hh=(j:Int):=⟨hh.toNat,by omega⟩
 refine ⟨λa ha=>?_⟩;by_cases e1:(L b').2=j;have e2:m=j:=by omega
 simp [execOp,ha.ev ex,ha.ev (Zm h.g h5),ga,Instr.sliceAt,run_underlying u1.h,Instr.slice,Instr.sliceBounds,Instr.sliceBound,asIntOf,u2.run,Addr.add_lit,e1,e2];have e3:(Nat.beq (m - j) 0 && Nat.beq (L b').2 j)=false:=by rw [Z9M e1,Ybr]
 have e4:ga L (.q b' j k (m - j))=.slice (some ⟨(L b').1,j * k,none⟩) (m - j) ((L b').2 - j):=by simp only [ga];rw [e3];rfl
 rw [Yaz,e4];simp [execOp,ha.ev ex,ha.ev (Zm h.g h5),ga,Instr.sliceAt,run_underlying u1.h,Instr.slice,Instr.sliceBounds,Instr.sliceBound,asIntOf,u2.run,Addr.add_lit,e1,show j<=m by omega];cases hr;cases hr;cases hr;cases hr;cases hr;cases hr
def upd (L:Lc) (n:Nat) (p:Nat×Nat):Lc:=λk=>if k=n then p else L k
theorem Z3O {L:Lc} {n k:Nat} {p:Nat×Nat} (h:k≠n):upd L n p k=L k:=if_neg h
theorem ZG (L:Lc) (n:Nat) (p:Nat×Nat):upd L n p n=p:=if_pos rfl
theorem Z0q {L:Lc} {n:Nat} {p:Nat×Nat}:∀ k,k<n->upd L n p k=L k:=λ_ hk=>Z3O (Nat.ne_of_lt hk)
def Z3s (s:S) (o:O):Option S:=bif o.bd s.n then some ⟨s.m.put (some o) s.n,s.n+1⟩ else none
theorem Rel.new' {L:Lc} {s s':S} {w} {o:O} {p:Nat×Nat} (h:Rel L s w) (hn:Z3s s o=some s') (hf:∀ k o',s.m.get k=some o'->(L k).1≠p.1) (ho:Ob (upd L s.n p) w s.n o):Rel (upd L s.n p) s' w/\s'.n=s.n+1:=by
 unfold Z3s at hn;obtain ⟨h2,hn⟩:=Jv hn;simp only [Xi] at hn;subst hn;have aX:∀ k,(Tr.put (some o) s.m s.n).get k=if k=s.n then some o else s.m.get k:=λk=>Tr.get_put _ _ _ _
 have n64:=h.n64;refine ⟨⟨λg hg=>?_,λk o' hk=>?_,λk o' hk=>?_,λj k hj hk he=>?_,by show 64<=s.n+1;omega⟩,rfl⟩;rw [Z0q g (by omega)];exact h.g g hg;dsimp only at hk;rw [aX] at hk;by_cases e:k=s.n;rw [if_pos e] at hk;cases hk;subst e;exact ho;rw [if_neg e] at hk;obtain ⟨a,b⟩:=h.bn k o' hk;exact (h.ob k o' hk).eq (Z0q k a) b Z0q;dsimp only at hk;rw [aX] at hk;by_cases e:k=s.n;rw [if_pos e] at hk;cases hk;exact ⟨by show k<s.n+1;omega,O.bd_le (Ybs _) h2⟩;rw [if_neg e] at hk;obtain ⟨a,b⟩:=h.bn k o' hk;exact ⟨Nat.lt_succ_of_lt a,O.bd_le (Ybs _) b⟩;dsimp only at hj hk;rw [aX] at hj hk;by_cases e1:j=s.n;by_cases e2:k=s.n;rw [e1,e2];rw [if_neg e2] at hk;obtain ⟨o',fj⟩:=XX.1 hk;rw [e1,ZG,Z0q k (h.bn k o' fj).1] at he;exact absurd he.symm (hf k o' fj);rw [if_neg e1] at hj;obtain ⟨o',fj⟩:=XX.1 hj;by_cases e2:k=s.n;rw [e2,ZG,Z0q j (h.bn j o' fj).1] at he;exact absurd he (hf j o' fj);rw [if_neg e2] at hk;obtain ⟨o2,mG⟩:=XX.1 hk;rw [Z0q j (h.bn j o' fj).1,Z0q k (h.bn k o2 mG).1] at he;exact h.inj j k (by rw [fj];rfl) hk he
theorem Rel.up {L:Lc} {s:S} {w w':World} (h:Rel L s w) (hS:Stp [] w w'):Rel L s w':=⟨h.g,λk o hk=>(h.ob k o hk).ext hS (by simp),h.bn,h.inj,h.n64⟩
theorem Rel.new {L:Lc} {s s':S} {w w':World} {o:O} {p:Nat×Nat} (h:Rel L s w) (hn:Z3s s o=some s') (hT:Stp [] w w') (hb:w.heap.size<=p.1) (ho:Ob (upd L s.n p) w' s.n o) :
 Rel (upd L s.n p) s' w'/\Nx s s' L (upd L s.n p) w w' []/\s'.n=s.n+1:=by
 obtain ⟨a1,a2⟩:=(h.up hT).new' hn (λk o' hk he=>by have:=(h.ob k o' hk).lt;omega) ho;refine ⟨a1,⟨by omega,Z0q,λk h3 h4=>?_,by simpa [ids] using hT⟩,a2⟩;obtain rfl:k=s.n:=by omega
 rw [ZG];exact .inl hb
def Z5v (s:S) (k:Nat) (o:Option O):S:=⟨s.m.put o k,s.n⟩
theorem Rel.set {L:Lc} {s:S} {w w':World} {k:Nat} {o o':O} (h:Rel L s w) (hk:s.m.get k=some o) (hS:Stp [(L k).1] w w') (ho:Ob L w' k o') (hb:o'.bd s.n=true) :
 Rel L (Z5v s k (some o')) w'/\Nx s (Z5v s k (some o')) L L w w' [k]:=by
 have eh:=(h.bn k o hk).1;have aX:∀ j,(Tr.put (some o') s.m k).get j=if j=k then some o' else s.m.get j:=λj=>Tr.get_put _ _ _ _
 have eX:∀ j,((Tr.put (some o') s.m k).get j).isSome=true->(s.m.get j).isSome=true:=λj hj=>by
  rw [aX] at hj;by_cases e:j=k;rw [e,hk];rfl
  rwa [if_neg e] at hj
 refine ⟨⟨h.g,λj o1 hj=>?_,λj o1 hj=>?_,λi j hi hj he=>h.inj i j (eX i hi) (eX j hj) he,h.n64⟩,⟨Xq _,λ_ _=>rfl,λj h1 h2=>absurd h2 (YaK.2 h1),?_⟩⟩;dsimp only [Z5v] at hj;rw [aX] at hj;by_cases e:j=k;rw [if_pos e] at hj;cases hj;exact e ▸ ho;rw [if_neg e] at hj;exact (h.ob j o1 hj).ext hS (by
  simp only [Xn];exact λhe=>e (h.inj j k (by rw [hj];rfl) (by rw [hk];rfl) he))
 dsimp only [Z5v] at hj;rw [aX] at hj;by_cases e:j=k;rw [if_pos e] at hj;cases hj;exact ⟨e ▸ eh,hb⟩;rw [if_neg e] at hj;exact h.bn j o1 hj;refine hS.mono (λb hb=>?_);simp only [Xn] at hb;exact Jn.2 ⟨k,by simp,eh,hb.symm⟩
theorem Rel.kill {L:Lc} {s:S} {w} {k:Nat} (h:Rel L s w) (hk:k<s.n):Rel L (Z5v s k none) w:=by
 have aX:∀ j,(Tr.put (none:Option O) s.m k).get j=if j=k then none else s.m.get j:=λj=>Tr.get_put _ _ _ _
 have eX:∀ j o,(Tr.put (none:Option O) s.m k).get j=some o->s.m.get j=some o:=λj o hj=>by
  rw [aX] at hj;by_cases e:j=k;rw [if_pos e] at hj;cases hj
  rwa [if_neg e] at hj
 refine ⟨h.g,λj o hj=>h.ob j o (eX j o hj),λj o hj=>h.bn j o (eX j o hj),λi j hi hj he=>?_,h.n64⟩;obtain ⟨a,ha⟩:=XX.1 hi;obtain ⟨b,hb⟩:=XX.1 hj;exact h.inj i j (by rw [eX i a ha];rfl) (by rw [eX j b hb];rfl) he
def oc:V->Bool
 | .a _=>false
 | .t _=>false
 | .c v=>v.oneCell'
 | _=>true
theorem Z9S {L:Lc} {v:V} (h:oc v=true):(ga L v).oneCell'=true:=by
 cases v<;>first|rfl|exact h|cases h
abbrev Rs:=Option V×S×List Nat
noncomputable def stA (P:Program) (e:AE) (s:S) (t:Nat) (x y:Operand):Option Rs:=match evv e x,evv e y with
 | some (.p b o), some v => match s.m.get b, (P.info? t).map (·.size) with
   | some (.c T z cs),some m=>bif decide ((vc v).length=m) && (vc v).all oc && Nat.ble (o+(vc v).length) cs.length && bl s.n (vc v) then some (none,Z5v s b (some (.c T z (cs.take o++vc v++cs.drop (o+(vc v).length)))),[b]) else none
   | _,_=>none
 | _,_=>none
def Po (L:Lc) (s:S) (w:World) (r:Rs) (u:Value) (w':World):Prop:=∃ L',Nx s r.2.1 L L' w w' r.2.2/\Rel L' r.2.1 w'/\∀ v,r.1=some v->u=ga L' v
section
variable {P:Program} {n:Nat} {e:AE} {w:World} {d:Option Nat} {ty:TypeId} {pos:String} {af:Array Edge} {g:Option (Nat×Bool)} {L:Lc} {s:S}
theorem ZkN {t:Nat} {x y:Operand} {r:Rs} (h:Rel L s w) (hr:stA P e s t x y=some r):OE P n ⟨d,.store t x y,ty,pos,af,g⟩ (ge L e) w (Po L s w r):=by
 unfold stA at hr;split at hr;rename_i b o v h1 h2;split at hr;rename_i T z cs m h3 h4;obtain ⟨hc,hr⟩:=Jv hr;simp only [Xi] at hr;subst hr;simp only [Xa] at hc;obtain ⟨⟨⟨c1,c2⟩,c3⟩,c4⟩:=hc;have c1:=of_decide_eq_true c1;have c3:=Xe c3;have u1:Siz P t m:=⟨h4⟩
 obtain ⟨rest,hB,ac,iA⟩:=h.ob b _ h3;have ai:=ZV L cs;refine (Z0B (us:=gl L (vc v)) (Zm h.g h1) (Zm h.g h2) (Zex L v) (by rw [ZV];exact c1) (λc hc=>?_) hB (by rw [ZV,Xf,ai];omega)).mono (λu w' hw=>?_);rw [J8] at hc;obtain ⟨q,hq,rfl⟩:=XO.1 hc;exact Z9S (Xy.1 c2 q hq);obtain ⟨hS,iy⟩:=hw;have dZ:=(h.bn b _ h3).2;have key:((gl L cs++rest).take o++gl L (vc v)++(gl L cs++rest).drop (o+(gl L (vc v)).length))=gl L (cs.take o++vc v++cs.drop (o+(vc v).length))++rest:=by
  rw [ZV,List.take_append_of_le_length (by rw [ai];omega),List.drop_append_of_le_length (by rw [ai];omega)];simp only [J8,XR,Ybg,Ybf,XM]
 rw [key] at iy;obtain ⟨a1,a2⟩:=h.set (o':=.c T z (cs.take o++vc v++cs.drop (o+(vc v).length))) h3 hS ⟨rest,iy,λhz=>by
  have:=ac hz;refine ⟨?_,this.2⟩;rw [<- this.1];simp only [Xf,XA,X4];omega,iA⟩ ((Z1d _ _).2 λq hq=>by
   have j5:=(Z1d _ _).1 (show bl s.n cs=true from dZ);rcases Xd.1 hq with hq|hq
   rcases Xd.1 hq with hq|hq
   exact j5 q (Yay hq);exact (Z1d _ _).1 c4 q hq;exact j5 q (Yae hq))
 exact ⟨L,a2,a1,λv hv=>by cases hv⟩;cases hr;cases hr
end
def zro (z:Value) (N:Nat):List V:=(List.range N).map λi=>ofC (z.cells[i % z.cells.size]!)
theorem Z9T (L:Lc) (z:Value) (N:Nat):gl L (zro z N)=((Array.range N).map (z.cells[· % z.cells.size]!)).toList:=by
 rw [J8];simp [zro,X8,Function.comp_def,Z5q]
def byV (c:UInt8):V:=.i .u8 (c.toNat:Int)
inductive Kv where
 | p
 | l (n:Nat)
 | m
def Kv.v:Kv->Nat->V
 | .p,k=>.p k 0
 | .l n,k=>.l k n
 | .m,k=>.m k
theorem Kv.eq {L L':Lc} {k:Nat} (h:L' k=L k) (f:Kv):ga L' (f.v k)=ga L (f.v k):=by cases f<;>simp only [Kv.v,ga,h]
noncomputable def mkO (P:Program) (e:AE):Op->Option (Kv×O)
 | .alloc t => match (P.info? t).bind (·.zero) with
   | some z=>some (.p,.c t 0 (z.cells.toList.map ofC))
   | none=>none
 | .box t x => match evv e x with
   | some v=>some (.p,.c t 0 (vc v))
   | none=>none
 | .buildSlice t len ps => match parts e ps.toList, P.underlying t with
   | some ps, some (.slice el) => match P.info? el with
     | some ie => match ie.zero with
       | some z => bif Nat.blt 0 (len * ie.size) && Nat.ble (len * ie.size) 100000 && Nat.ble len maxLen then
          (match Z5s (λi=>some (i * ie.size,ie.size)) (zro z (len * ie.size)) ps with
          | some cs=>bif Nat.beq cs.length (len * ie.size) then some (.l len,.c el ie.size cs) else none
          | none=>none) else none
       | none=>none
     | none=>none
   | _,_=>none
 | .range t x => match evv e x with
   | some (.s z)=>bif isT P t then some (.p,.it z 0) else none
   | _=>none
 | .convert sr ds x => match evv e x, P.underlying ds with
   | some (.s z), some (.slice el) => match P.underlying el with
     | some (.int .u8)=>bif isT P sr && Nat.ble z.length 100000 then some (.l z.length,.ro (z.map byV)) else none
     | _=>none
   | _,_=>none
 | .makeMap t none=>some (.m,.mp [])
 | .makeSlice t x y => match P.underlying t, evv e x, evv e y with
   | some (.slice el), some (.i .i64 n), some (.i .i64 m) => match P.info? el with
     | some ie => match ie.zero with
       | some z=>bif decide (n=m/\0<=n/\n<=1000000) && Nat.blt 0 ie.size && Nat.ble ie.bytes 1000000 then some (.l n.toNat,.c el ie.size (zro z (n.toNat * ie.size))) else none
       | none=>none
     | none=>none
   | _,_,_=>none
 | .call ⟨.builtin .append, ⟨[x, y]⟩, ⟨[t, t']⟩⟩ => match P.underlying t, P.underlying t', evv e x, evv e y with
   | some (.slice el), some (.int kn), some (.c (.N)), some (.i .i64 n) => match P.info? el with
     | some ie => match ie.zero with
       | some z=>bif decide (0<n/\n<=1000000) && Nat.beq z.cells.size ie.size && Nat.blt 0 ie.size && Nat.ble ie.bytes 1000000 then some (.l n.toNat,.c el ie.size (zro z (n.toNat * z.cells.size))) else none
       | none=>none
     | none=>none
   | _,_,_,_=>none
 | _=>none
def ZbO (L:Lc) (w:World) (k:Nat) (f:Kv) (o:O) (u:Value) (w':World):Prop:=∃ p:Nat×Nat,w.heap.size<=p.1/\Stp [] w w'/\Ob (upd L k p) w' k o/\u=ga (upd L k p) (f.v k)
noncomputable def nxA (e:AE) (s:S) (x:Operand):Option Rs:=match evv e x with
 | some (.p b 0) => match s.m.get b with
   | some (.it z p) => match z[p]? with
     | some c=>bif Nat.blt c.toNat 128 then some (some (.t [.b true,.i .i64 p,.i .i32 c.toNat]),Z5v s b (some (.it z (p+1))),[b]) else none
     | none=>some (some (.t [.b false]),s,[])
   | _=>none
 | _=>none
section
variable {P:Program} {n:Nat} {e:AE} {w:World} {d:Option Nat} {ty:TypeId} {pos:String} {af:Array Edge} {g:Option (Nat×Bool)} {L:Lc} {s:S}
theorem ZeB {k T z c b:Nat} {cs:List V} {f:Kv} {u:Value} {w':World} (rest:List Value) (hb:w.heap.size<=b) (hB:Blk w' b T (gl L cs++rest)) (hT:Stp [] w w') (ej:bl k cs=true) (hz:z≠0->cs.length+rest.length=c * z/\c<=maxLen) (h0:z=0->rest=[])
 (hu:u=ga (upd L k (b,c)) (f.v k)):ZbO L w k f (.c T z cs) u w':=
 ⟨(b,c),hb,hT,⟨rest,by rw [ZG,Z3o (L:=L) Z0q cs ej];exact hB,λh=>by rw [ZG];exact hz h,h0⟩,hu⟩
theorem ZeC {src dst el:TypeId} {x:Operand} {z:Str} {E:Env} [hs:Und P src .string] [hd:Und P dst (.slice el)] [he:Und P el (.int .u8)] (hx:ev E x=some (str z)) (hl:z.length<=1000000) :
 OE P n ⟨d,.convert src dst x,ty,pos,af,g⟩ E w (λv w'=>(∃ c,v=.slice (some ⟨w.heap.size,0,none⟩) z.length c)/\w.heap.size<w'.heap.size/\(∀ i u,(z.map byV)[i]?=some u->w'.cell? ⟨w.heap.size,i,none⟩=some (ga L u))/\Stp [] w w'):=by
 refine ZF (v:=.slice (some ⟨w.heap.size,0,none⟩) z.length (grownCap w z.length 0 el)) (w':=Go.Lib.bytesWorld w el ⟨z.toArray⟩) (λa ha=>?_) ⟨⟨_,rfl⟩,by rw [Go.Lib.bytesWorld_size];omega,λi u hu=>?_,?_⟩;have h:=Go.Lib.run_convert_string_bytes (P:=P) w src dst el ⟨z.toArray⟩ hs.h hd.h he.h;simp only [Jb] at h;simp [execOp,ha.ev hx,h];rw [Yac,XB] at hu;obtain ⟨c,hc,rfl⟩:=hu;have hi:=(Xu.1 hc).1;have hz:=(Xu.1 hc).2;have h:=Go.Lib.bytesWorld_cell w el ⟨z.toArray⟩ i (by rw [Jb];exact hi);rw [h];simp [byV,ga,hi,hz];refine ⟨rfl,rfl,rfl,?_,λb hb _=>Go.Lib.bytesWorld_at_old w el _ b hb⟩;rw [Go.Lib.bytesWorld_size];omega
theorem Z9U {op:Op} {f:Kv} {o:O} (k:Nat) (hG:Gl L) (hr:mkO P e op=some (f,o)) (hk:o.bd k=true):OE P n ⟨d,op,ty,pos,af,g⟩ (ge L e) w (ZbO L w k f o):=by
 unfold mkO at hr;split at hr;split at hr;rename_i z h1;cases hr;have u1:Zer P _ z:=⟨h1⟩
 refine Z9.mono (λu w' hw=>?_);obtain ⟨b,rfl,hb,hB,hT⟩:=hw;exact ZeB (c:=0) [] hb (by rw [Z70,XE];exact hB) hT hk (λh=>absurd rfl h) (λ_=>rfl) (by simp only [Kv.v,ga,ZG]);cases hr;split at hr;rename_i v h1;cases hr;refine (Zp (Zm hG h1)).mono (λu w' hw=>?_);obtain ⟨b,rfl,hb,hB,hT⟩:=hw;exact ZeB (c:=0) [] hb (by rw [<- Zex,XE];exact hB) hT hk (λh=>absurd rfl h) (λ_=>rfl) (by simp only [Kv.v,ga,ZG]);cases hr;split at hr;rename_i vs el h1 h2;split at hr;rename_i ie h3;split at hr;rename_i z h4;obtain ⟨hc,hr⟩:=Jv hr;simp only [Xa] at hc;obtain ⟨⟨c1,c2⟩,c3⟩:=hc;have c1:=Xe c1;have c2:=Xe c2;have c3:=Xe c3;split at hr;rename_i cs h5;obtain ⟨hl,hr⟩:=Jv hr;have hl:=Xk hl;cases hr;have hf:=Z3q L _ _ _ _ h5;rw [Z9T,XK] at hf;have hb:∀ w:World,(Instr.buildSlice _ _ (gp L vs).toArray).run P w=.ok (.slice (some ⟨w.heap.size,0,none⟩) _ _) (w.alloc (.cells (gl L cs).toArray el)):=λw=>
  run_buildSlice w _ el _ _ _ ie z h2 h3 h4 (by omega) (by omega) hf
 have:=Z0 (P:=P) (n:=n) (w:=w) (d:=d) (ty:=ty) (pos:=pos) (af:=af) (g:=g) (Z5t hG h1) hb;rw [XK] at this;refine this.mono (λu w' hw=>?_);obtain ⟨b,rfl,cJ,hB,hT⟩:=hw;exact ZeB (c:=_) [] cJ (by rw [XE];exact hB) hT hk (λ_=>⟨by rw [Xj];exact hl,c3⟩) (λ_=>rfl) (by simp only [Kv.v,ga,ZG]);cases hr;cases hr;cases hr;cases hr;split at hr;rename_i z h1;obtain ⟨ht,hr⟩:=Jv hr;have:=Z1J ht;cases hr;refine (Zdt (Zm hG h1)).mono (λu w' hw=>?_);obtain ⟨b,rfl,hb,hI,hT⟩:=hw;exact ⟨(b,0),hb,hT,by show Itr _ _ _ _;rw [ZG];exact hI,by simp only [Kv.v,ga,ZG]⟩;cases hr;split at hr;rename_i z el h1 h2;split at hr;rename_i h3;obtain ⟨hc,hr⟩:=Jv hr;simp only [Xa] at hc;have u1:=Z1J hc.1;have u2:Und P _ (.slice el):=⟨h2⟩
 have u3:Und P el (.int .u8):=⟨h3⟩
 cases hr;have hz:=Xe hc.2;refine (ZeC (L:=L) (Zm hG h1) (by omega)).mono (λu w' hw=>?_);obtain ⟨⟨c,rfl⟩,hlt,an,hT⟩:=hw;refine ⟨(w.heap.size,c),Xq _,hT,?_,by simp only [Kv.v,ga,ZG]⟩;show (upd L k (w.heap.size,c) k).1 < _/\_;rw [ZG];refine ⟨hlt,λi u hu=>?_⟩;have:=an i u hu;rw [Yac,XB] at hu;obtain ⟨q,-,rfl⟩:=hu;exact this;cases hr;cases hr;cases hr;exact ZF (v:=.map (some w.heap.size)) (w':=w.alloc (.map #[] 0)) (λa ha=>by simp [execOp,run_makeMap]) ⟨(w.heap.size,0),Xq _,Stp.alloc _ _ _,⟨[],List.Perm.refl _,#[],0,by rw [ZG];exact heap_alloc_new w _,rfl,rfl⟩,by simp only [Kv.v,ga,ZG]⟩;split at hr;rename_i el nn m h1 h2 h3;split at hr;rename_i ie h4;split at hr;rename_i z h5;obtain ⟨hc,bW⟩:=Jv hr;simp only [Xa] at hc;obtain ⟨⟨c1,c2⟩,c3⟩:=hc;obtain ⟨rfl,c4,c5⟩:=of_decide_eq_true c1;have c2:0<ie.size:=Xe c2;have c3:=Xe c3;cases bW;obtain ⟨j,rfl⟩:∃ j:Nat,nn=(j:Int):=⟨nn.toNat,by omega⟩
 have hj:j<=1000000:=by omega
 rw [Yaz] at hk ⊢;have mH:ie.bytes * j<=281474976710656:=Xl (Ybt c3 hj) (by decide);obtain ⟨w',aO,bM,ln⟩:=run_make_full (P:=P) w w.heap.size _ el ie z ie.size h1 h4 h5 rfl .i64 .i64 j mH (by simp only [maxLen];omega) (Xq _);refine ZF (v:=.slice (some ⟨w.heap.size,0,none⟩) j j) (w':=w') (λa ha=>by simp [execOp,ha.ev (Zm hG h2),ha.ev (Zm hG h3),ga,aO]) ?_;rcases bM.2 with ⟨h,_⟩|⟨gb,cap,cur,h,dx,hg,hn,hm,bu,ik⟩
 cases h;cases h;have hl:(gl L (zro z (j * ie.size))).length=j * ie.size:=by rw [ZV];simp [zro]
 refine ZeB (c:=j) [] (Xq _) (by
  rw [XE,Z9T];show _=some _;rw [hg,<- XK (xs:=cur),<- XV (l:=cur.toList) (i:=j * ie.size) (by rw [X5,bu];exact Xq _),ik];rfl) (Stp.of_grown ln) hk (λ_=>⟨by rw [Xj,<- ZV L];exact hl,by simp only [maxLen];omega⟩) (λ_=>rfl) (by simp only [Kv.v,ga,ZG])
 cases hr;cases hr;cases hr;split at hr;rename_i el kn nn h1 h2 h3 h4;split at hr;rename_i ie h5;split at hr;rename_i z h6;obtain ⟨hc,hr⟩:=Jv hr;simp only [Xa] at hc;obtain ⟨⟨⟨c1,c2⟩,c3⟩,c4⟩:=hc;obtain ⟨c5,c6⟩:=of_decide_eq_true c1;have c2:=Xk c2;have c3:0<ie.size:=Xe c3;have c4:=Xe c4;cases hr;obtain ⟨j,rfl⟩:∃ j:Nat,nn=(j:Int):=⟨nn.toNat,by omega⟩
 have hj:j<=1000000:=by omega
 rw [Yaz] at hk ⊢;have mH:j * ie.bytes<=281474976710656:=Xl (Ybt hj c4) (by decide);have aO:=Go.Lib.run_append_nil_zeros (P:=P) w _ _ ty el ie z .i64 kn h1 h2 h5 h6 j (by omega) c3 (by omega) mH;have ng:=grownCap_ge w j 0 el;refine ZF (v:=.slice (some ⟨w.heap.size,0,none⟩) j (grownCap w j 0 el)) (w':=w.drew.alloc (.cells (Builtin.zeroCells z.cells j++Builtin.zeroCells z.cells (grownCap w j 0 el - j)) el)) (λa ha=>by
  have e1:=ha.ev (Zm hG h3);have e2:=ha.ev (Zm hG h4);simp only [ga] at e1 e2;simp [execOp,resolve,invoke,builtin,e1,e2,aO]) ?_
 refine ZeB (c:=grownCap w j 0 el) (Builtin.zeroCells z.cells (grownCap w j 0 el - j)).toList (Xq _) (by
  rw [Z9T];have:=heap_alloc_new w.drew (.cells (Builtin.zeroCells z.cells j++Builtin.zeroCells z.cells (grownCap w j 0 el - j)) el);show _=some _;rw [show w.heap.size=w.drew.heap.size from rfl,this];congr 2;apply Array.ext';simp [Builtin.zeroCells]) ((Stp.drew [] w).trans (Stp.alloc [] _ _)) hk (λ_=>⟨by
   have q1:(zro z (j * z.cells.size)).length=j * z.cells.size:=by simp [zro]
   have q2:(Builtin.zeroCells z.cells (grownCap w j 0 el - j)).toList.length=(grownCap w j 0 el - j) * z.cells.size:=by rw [X5,size_zeroCells]
   rw [q1,q2,c2,<- Nat.add_mul];congr 1;omega,grownCap_le_maxLen w j 0 el (by simp only [maxLen];omega)⟩) (λh0=>by omega) (by simp only [Kv.v,ga,ZG])
 cases hr;cases hr;cases hr;cases hr
theorem ZnZ {x:Operand} {r:Rs} (h:Rel L s w) (hr:nxA e s x=some r):OE P n ⟨d,.next x true,ty,pos,af,g⟩ (ge L e) w (Po L s w r):=by
 unfold nxA at hr;split at hr;rename_i b h1;split at hr;rename_i z p h2;have hI:Itr w (L b).1 z p:=h.ob b _ h2;split at hr;rename_i c h3;obtain ⟨ha,hr⟩:=Jv hr;cases hr;have hp:=(Xu.1 h3).1;have hc:z[p]=c:=(Xu.1 h3).2;have hd:=Zb4 hp (by rw [hc];exact Xe ha);refine (Zga (Zm h.g h1) hI hp).mono (λu w' hw=>?_);obtain ⟨rfl,hI',hS⟩:=hw;rw [hd] at hI';obtain ⟨a1,a2⟩:=h.set (o':=.it z (p+1)) h2 hS hI' rfl;exact ⟨L,a2,a1,λv' hv=>by cases hv;simp only [ga,gl,hd,hc]⟩;rename_i h3;cases hr;refine (Z96 (Zm h.g h1) hI (by simpa using h3)).mono (λu w' hw=>?_);obtain ⟨rfl,rfl⟩:=hw;exact ⟨L,Nx.refl _ _ _,h,λv' hv=>by cases hv;rfl⟩;cases hr;cases hr
end
noncomputable def Zhi (e:AE) (s:S) (y:Operand) (k:Nat):Option (Nat×List V):=match evv e y with
 | some (.l b m) => match ldc s b with
   | some cs=>bif Nat.ble (m * k) cs.length then some (m,cs.take (m * k)) else none
   | none=>none
 | some (.c (.N))=>some (0,[])
 | _=>none
def Z8l (s:S) (b:Nat):S:=Z5v s b none
noncomputable def Zo0 (s:S) (el k:Nat) (xv:V) (m:Nat) (news:List V):Option Rs:=match xv with
 | .c (.N) => match m with
   | 0=>some (some xv,s,[])
   | _ => match Z3s s (.c el k news) with
     | some s'=>some (some (.l s.n m),s',[])
     | none=>none
 | .l b n => match s.m.get b with
   | some (.c T z cs) => bif Nat.beq T el && Nat.beq z k && Nat.ble (n * k) cs.length && Nat.ble (n + m) 1000000 then (match m with
     | 0=>some (some xv,s,[])
     | _ => match Z3s (Z8l s b) (.c el k (cs.take (n * k) ++ news)) with
       | some s'=>some (some (.l s.n (n+m)),s',[b])
       | none=>none) else none
   | _=>none
 | _=>none
noncomputable def apA (P:Program) (e:AE) (s:S):Op->Option Rs
 | .call ⟨.builtin .append, ⟨[x, y]⟩, ⟨[t, t']⟩⟩ => match P.underlying t with
   | some (.slice el) => match P.info? el with
     | some ie => match ie.zero with
       | some z => bif Nat.beq t t' && Nat.beq z.cells.size ie.size && Nat.blt 0 ie.size && Nat.ble ie.bytes 1000000 then (match evv e x, Zhi e s y ie.size with
         | some xv,some (m,news)=>bif news.all oc && Nat.ble m 1000000 then Zo0 s el ie.size xv m news else none
         | _,_=>none) else none
       | none=>none
     | none=>none
   | _=>none
 | .call ⟨.builtin .copy, ⟨[x, y]⟩, ⟨[t, _]⟩⟩ => match P.underlying t, evv e x with
   | some (.slice el), some (.l b n) => match (P.info? el).map (·.size) with
     | some k => match s.m.get b, Zhi e s y k with
       | some (.c T z cs),some (m,news)=>bif Nat.ble m n && news.all oc && bl s.n news && Nat.ble news.length cs.length then some (some (.i .i64 m),Z5v s b (some (.c T z (news++cs.drop news.length))),[b]) else none
       | _,_=>none
     | none=>none
   | _,_=>none
 | _=>none
section
variable {P:Program} {n:Nat} {e:AE} {w:World} {d:Option Nat} {ty:TypeId} {pos:String} {af:Array Edge} {g:Option (Nat×Bool)} {L:Lc} {s:S}
theorem ZaL {E:Env} {x y:Operand} {t el m c j:Nat} {ie:TypeInfo} {z v:Value} {a:Addr} {xs news:List Value} (ht:P.underlying t=some (.slice el)) (hi:P.info? el=some ie) (hz:ie.zero=some z) (cn:z.cells.size=ie.size) (ba:0<ie.size) (kO:ie.bytes<=1000000)
 (hx:ev E x=some v) (hy:ev E y=some (.slice (some a) m c)) (bM:w.ownsRow 0 el ie.size v j xs) (hl:news.length=m * ie.size) (bT:∀ j u,news[j]?=some u->w.cell? (a.add j)=some u) (h1:∀ u∈news,u.oneCell'=true) (hm:0<m) (qU:j+m<=2000000) :
 OE P n ⟨d,.call { callee:=.builtin .append,args:=#[x,y],argTypes:=#[t,t] },ty,pos,af,g⟩ E w (λv' w'=>∃ q cap rest,v'=.slice (some ⟨q,0,none⟩) (j+m) cap/\Blk w' q el (xs++news++rest)/\(xs++news).length+rest.length=cap * ie.size/\cap<=maxLen/\Stp (ob v) w w'/\(q∈ob v\/w.heap.size<=q)):=by
 have cC:(j+m) * ie.bytes<=140737488355328:=Xl (Ybt qU kO) (by omega);have eZ:j+m<=maxLen:=by simp only [maxLen];omega
 obtain ⟨v',w',aO,h2,h3,h4⟩:=run_append_own (P:=P) w 0 t ty el ie z ie.size ie.bytes ht hi hz rfl rfl cn ba v j xs bM a m c news hl bT h1 eZ cC (Xo _);have ab:=Z31 (P:=P) ht hi hz rfl rfl bM hl bT h1 eZ cC aO;have hS:Stp (ob v) w w':=by rw [<- Z8D];exact Stp.of_grown h3
 refine ZF (v:=v') (w':=w') (λa ha=>by simp [execOp,resolve,invoke,builtin,ha.ev hx,ha.ev hy,aO]) ?_;rcases h2.2 with ⟨rfl,h0⟩|⟨q,cap,cur,rfl,hb,hg,ca,bL,bu,fa⟩
 omega;refine ⟨q,cap,cur.toList.drop ((j+m) * ie.size),rfl,?_,?_,bL,hS,ab q (by simp [ob])⟩;rw [<- fa,XY];exact hg;rw [<- bu,<- fa,XA,X4,X5];omega
theorem ZaM {E:Env} {x y:Operand} {t el j c c':Nat} {p q:Option Addr} [ht:Und P t (.slice el)] {k:Nat} [hk:Siz P el k] (hx:ev E x=some (.slice p j c)) (hy:ev E y=some (.slice q 0 c')) (hj:j<=c) :
 OE P n ⟨d,.call { callee:=.builtin .append,args:=#[x,y],argTypes:=#[t,t] },ty,pos,af,g⟩ E w (λv w'=>v=.slice p j c/\w'=w):=by
 refine ZF (v:=.slice p j c) (w':=w) (λa ha=>?_) ⟨rfl,rfl⟩;have h1:(Builtin.firstCells k 0 (.slice q 0 c')).run P w=.ok #[] w:=by
  cases q with
  | none=>simp [Builtin.firstCells]
  | some a=>have:=run_loadCells_list (P:=P) (w:=w) a [] (by simp);simpa [Builtin.firstCells] using this
 have h2:(Builtin.append_ #[t,t] ty #[.slice p j c,.slice q 0 c']).run P w=.ok (.slice p j c) w:=by
  cases p<;>simp [Builtin.append_,run_underlying ht.h,Siz.run,Builtin.lenOf,h1,hj,storeCells]
 simp [execOp,resolve,invoke,builtin,ha.ev hx,ha.ev hy,h2]
theorem ZeD {E:Env} {x y:Operand} {t t' T el k b m N c c':Nat} {p:Option Addr} {news cs:List Value} [ht:Und P t (.slice el)] [hk:Siz P el k] (hx:ev E x=some (.slice (some ⟨b,0,none⟩) N c)) (hy:ev E y=some (.slice p m c')) (hm:m<=N)
 (mI:(Builtin.firstCells k m (.slice p m c')).run P w=.ok news.toArray w) (hB:Blk w b T cs) (hl:news.length<=cs.length) (bP:∀ u∈news,u.oneCell'=true) :
 OE P n ⟨d,.call { callee:=.builtin .copy,args:=#[x,y],argTypes:=#[t,t'] },ty,pos,af,g⟩ E w (λv w'=>v=.I m/\Blk w' b T (news++cs.drop news.length)/\Stp [b] w w'):=by
 have aB:=run_storeCells_at (P:=P) b 0 T news 0 cs.toArray w hB (by simpa using hl) bP;simp only [Yba,XL,List.take_zero,XH] at aB;refine ZF (v:=goInt m) (w':=w.setRow b (news++cs.drop news.length).toArray) (λa ha=>?_) ⟨rfl,setRow_heap w b cs.toArray _ T (0,0) hB,Z0A _ _ _⟩;have hr:(Builtin.copy_ #[t,t'] ty #[.slice (some ⟨b,0,none⟩) N c,.slice p m c']).run P w=.ok (goInt m) (w.setRow b (news++cs.drop news.length).toArray):=by
  simp [Builtin.copy_,run_underlying ht.h,Builtin.lenOf,Siz.run,mI,aB,Yan hm]
 generalize w.setRow b (news++cs.drop news.length).toArray=W' at hr ⊢;simp [execOp,resolve,invoke,builtin,ha.ev hx,ha.ev hy,hr]
theorem ZeE {y:Operand} {k m:Nat} {news:List V} (h:Rel L s w) (hr:Zhi e s y k=some (m,news)):∃ p c,ev (ge L e) y=some (.slice p m c)/\news.length=m * k/\(0<m->∃ b,p=some ⟨b,0,none⟩/\∀ j u,(gl L news)[j]?=some u->w.cell? ((⟨b,0,none⟩:Addr).add j)=some u):=by
 unfold Zhi at hr;split at hr;rename_i b' m' h1;split at hr;rename_i cs h2;have cZ:=Jv hr;clear hr;obtain ⟨hc,hr⟩:=cZ;cases hr;have c1:=Xe hc;refine ⟨_,_,Zm h.g h1,by rw [XA];omega,λ_=>⟨_,rfl,λj u hu=>?_⟩⟩;rw [Z5r,XB] at hu;obtain ⟨q,hq,rfl⟩:=hu;have hj:=(Xu.1 hq).1;rw [XA] at hj;rw [List.getElem?_take_of_lt (by omega)] at hq;rw [Addr.add_lit,XL];exact Z2k h h2 hq;cases hr;rename_i h1;cases hr;exact ⟨_,_,Zm h.g h1,by simp,λh=>absurd h (Ybh 0)⟩;cases hr
theorem Z72 (L:Lc) (a b:List V):gl L (a++b)=gl L a++gl L b:=by rw [J8,J8,J8,XR]
theorem Z4x {o:O} {s':S} (hn:Z3s s o=some s'):o.bd s.n=true:=(Jv hn).1
theorem Rel.grow {s':S} {w':World} {b:Nat} {o o':O} {p:Nat×Nat} (h:Rel L s w) (hb:s.m.get b=some o) (hn:Z3s (Z8l s b) o'=some s') (hS:Stp [(L b).1] w w') (hp:p.1=(L b).1\/w.heap.size<=p.1) (ho:Ob (upd L s.n p) w' s.n o') :
 Rel (upd L s.n p) s' w'/\Nx s s' L (upd L s.n p) w w' [b]:=by
 have gk:=(h.bn b o hb).1;have hk:=h.kill gk;have fZ:∀ k,(Z8l s b).m.get k=if k=b then none else s.m.get k:=λk=>Tr.get_put _ _ _ _
 have aZ:∀ k o1,(Z8l s b).m.get k=some o1->(L k).1≠(L b).1/\(L k).1<w.heap.size:=λk o1 bj=>by
  have hlt:=(hk.ob k o1 bj).lt;rw [fZ] at bj;by_cases e:k=b;rw [if_pos e] at bj;cases bj;rw [if_neg e] at bj;exact ⟨λhe=>e (h.inj k b (by rw [bj];rfl) (by rw [hb];rfl) he),hlt⟩
 have ij:Rel L (Z8l s b) w':=⟨hk.g,λk o1 bj=>(hk.ob k o1 bj).ext hS (by simpa using (aZ k o1 bj).1),hk.bn,hk.inj,hk.n64⟩
 obtain ⟨a1,a2⟩:=ij.new' hn (λk o1 bj he=>by
  obtain ⟨q1,q2⟩:=aZ k o1 bj;rcases hp with hp|hp
  exact q1 (he.trans hp);omega) ho
 refine ⟨a1,⟨by show s.n<=_;rw [a2];exact Ybs _,Z0q,λk h3 h4=>?_,hS.mono (λx hx=>?_)⟩⟩;have:k=s.n:=by rw [a2] at h4;have:k<s.n+1:=h4;omega
 subst this;rw [ZG];rcases hp with hp|hp
 exact .inr (Jn.2 ⟨b,by simp,gk,hp.symm⟩);exact .inl hp;simp only [Xn] at hx;exact Jn.2 ⟨b,by simp,gk,hx.symm⟩
theorem Po.same {v:V} {u:Value} (h:Rel L s w) (hu:u=ga L v):Po L s w (some v,s,[]) u w:=⟨L,Nx.refl _ _ _,h,λv' hv=>by cases hv;exact hu⟩
theorem Zo1 {op:Op} {r:Rs} (h:Rel L s w) (hr:apA P e s op=some r):OE P n ⟨d,op,ty,pos,af,g⟩ (ge L e) w (Po L s w r):=by
 unfold apA at hr;split at hr;rename_i x y t t';split at hr;rename_i el h4;split at hr;rename_i ie h5;split at hr;rename_i z h6;have cZ:=Jv hr;clear hr;obtain ⟨hc,hr⟩:=cZ;simp only [Xa] at hc;obtain ⟨⟨⟨c1,c2⟩,c3⟩,c4⟩:=hc;obtain rfl:t=t':=Xk c1;have c2:=Xk c2;have c3:0<ie.size:=Xe c3;have c4:=Xe c4;have u1:Und P t (.slice el):=⟨h4⟩
 have u2:Siz P el ie.size:=⟨by rw [h5];rfl⟩
 split at hr;rename_i xv m news h7 h8;have cZ:=Jv hr;clear hr;obtain ⟨hd,hr⟩:=cZ;simp only [Xa] at hd;have d2:=Xe hd.2;obtain ⟨yp,yc,s1,s2,s4⟩:=ZeE h h8;have bP:∀ u∈gl L news,u.oneCell'=true:=λu hu=>by
  rw [J8] at hu;obtain ⟨q,hq,rfl⟩:=XO.1 hu;exact Z9S (Xy.1 hd.1 q hq)
 have hx:=Zm h.g h7;unfold Zo0 at hr;split at hr;split at hr;cases hr;refine (ZaM hx s1 (Xo _)).mono (λu w' hw=>?_);obtain ⟨rfl,rfl⟩:=hw;exact Po.same h rfl;rename_i hm;have s3:0<m:=Nat.pos_of_ne_zero hm;obtain ⟨yb,rfl,s5⟩:=s4 s3;split at hr;rename_i s' hn;cases hr;refine (ZaL (j:=0) (xs:=[]) h4 h5 h6 c2 c3 c4 hx s1 (World.ownsRow_nil w 0 el ie.size) (by rw [ZV];exact s2) s5 bP s3 (by omega)).mono (λu w' hw=>?_);obtain ⟨q,cap,rest,rfl,hB,hL,bL,hS,hq⟩:=hw;have ej:=Z4x hn;obtain ⟨a1,a2,a3⟩:=h.new (p:=(q,cap)) hn (by simpa [ob,ga] using hS) (hq.elim (λhq=>by simp [ob,ga] at hq) id) ⟨rest,by rw [ZG,Z3o Z0q news ej];simpa using hB,λ_=>by rw [ZG];refine ⟨?_,bL⟩;rw [<- ZV L news];simpa using hL,λh0=>by omega⟩;exact ⟨_,a2,a1,λv' hv=>by cases hv;simp only [ga,ZG,XL]⟩;cases hr;rename_i bx nn;split at hr;rename_i T z' cs h9;have cZ:=Jv hr;clear hr;obtain ⟨hf,hr⟩:=cZ;simp only [Xa] at hf;obtain ⟨⟨⟨f1,f2⟩,f3⟩,f4⟩:=hf;obtain rfl:T=el:=Xk f1;obtain rfl:z'=ie.size:=Xk f2;have f3:=Xe f3;have f4:=Xe f4;obtain ⟨rest,hB,ac,-⟩:=h.ob bx _ h9;obtain ⟨r1,r2⟩:=ac (by omega);have ca:nn<=(L bx).2:=Nat.le_of_mul_le_mul_right (by omega) c3;split at hr;cases hr;refine (ZaM hx s1 ca).mono (λu w' hw=>?_);obtain ⟨rfl,rfl⟩:=hw;exact Po.same h rfl;rename_i hm;have s3:0<m:=Nat.pos_of_ne_zero hm;obtain ⟨yb,rfl,s5⟩:=s4 s3;split at hr;rename_i s' hn;cases hr;have bM:w.ownsRow 0 T ie.size (.slice (some ⟨(L bx).1,0,none⟩) nn (L bx).2) nn (gl L (cs.take (nn * ie.size))):=⟨by rw [ZV,XA];omega,.inr ⟨(L bx).1,(L bx).2,(gl L cs++rest).toArray,rfl,Xo _,hB,ca,r2,by rw [Yaa,Xf,ZV];exact r1,by
  rw [List.toList_toArray,List.take_append_of_le_length (by rw [ZV];omega),J8,J8,Ybg]⟩⟩
 refine (ZaL h4 h5 h6 c2 c3 c4 hx s1 bM (by rw [ZV];exact s2) s5 bP s3 (by omega)).mono (λu w' hw=>?_);obtain ⟨q,cap,rest',rfl,iy,hL,bL,hS,hq⟩:=hw;have ej:=Z4x hn;obtain ⟨a1,a2⟩:=h.grow (p:=(q,cap)) h9 hn (by simpa [ob,ga] using hS) (by simpa [ob,ga] using hq) ⟨rest',by
  rw [ZG,Z3o (L:=L) (n:=s.n) Z0q _ ej,Z72];exact iy,λ_=>by rw [ZG];refine ⟨?_,bL⟩;rw [<- ZV L (_++news),Z72];exact hL,λh0=>by omega⟩
 exact ⟨_,a2,a1,λv' hv=>by cases hv;simp only [ga,ZG]⟩;cases hr;cases hr;cases hr;cases hr;cases hr;cases hr;cases hr;split at hr;rename_i el b N h1 h2;split at hr;rename_i k h3;split at hr;rename_i T z cs m news h4 h5;have cZ:=Jv hr;clear hr;obtain ⟨hc,hr⟩:=cZ;cases hr;simp only [Xa] at hc;obtain ⟨⟨⟨c1,c2⟩,c3⟩,c4⟩:=hc;have c1:=Xe c1;have c4:=Xe c4;have u1:Und P _ (.slice el):=⟨h1⟩
 have u2:Siz P el k:=⟨h3⟩
 obtain ⟨yp,yc,s1,s2,s4⟩:=ZeE h h5;obtain ⟨rest,hB,ac,iA⟩:=h.ob b _ h4;have mI:(Builtin.firstCells k m (.slice yp m yc)).run P w=.ok (gl L news).toArray w:=by
  rcases Nat.eq_zero_or_pos m with rfl|hm
  . have:news=[]:=X7.1 (by omega)
    subst this;cases yp with
    | none=>simp [Builtin.firstCells,gl]
    | some a=>have:=run_loadCells_list (P:=P) (w:=w) a [] (by simp);simpa [Builtin.firstCells,gl] using this
  obtain ⟨yb,rfl,s5⟩:=s4 hm;have:=run_loadCells_list (P:=P) (w:=w) ⟨yb,0,none⟩ (gl L news) s5;rw [ZV,s2] at this;simpa [Builtin.firstCells] using this
 refine (ZeD (Zm h.g h2) s1 c1 mI hB (by rw [ZV,Xf,ZV];omega) (λu hu=>by
  rw [J8] at hu;obtain ⟨q,hq,rfl⟩:=XO.1 hu;exact Z9S (Xy.1 c2 q hq))).mono (λu w' hw=>?_)
 obtain ⟨rfl,iy,hS⟩:=hw;have dZ:=(Z1d _ _).1 (show bl s.n cs=true from (h.bn b _ h4).2);have key:gl L news++(gl L cs++rest).drop (gl L news).length=gl L (news++cs.drop news.length)++rest:=by
  rw [ZV,List.drop_append_of_le_length (by rw [ZV];omega)];simp only [J8,XR,Ybf,XM]
 rw [key] at iy;obtain ⟨a1,a2⟩:=h.set (o':=.c T z (news++cs.drop news.length)) h4 hS ⟨rest,iy,λhz=>by
  have:=ac hz;refine ⟨?_,this.2⟩;rw [<- this.1];simp only [Xf,X4];omega,iA⟩ ((Z1d _ _).2 λq hq=>(Xd.1 hq).elim ((Z1d _ _).1 c3 q) (λhq=>dZ q (Yae hq)))
 exact ⟨L,a2,a1,λv hv=>by cases hv;rfl⟩;cases hr;cases hr;cases hr;cases hr
end
noncomputable def inA (P:Program) [KD P] (e:AE) (s:S) (t:Nat) (x k v:Operand):Option Rs:=match evv e x,evv e k,evv e v,P.underlying t with
 | some (.m b), some kv, some v, some (.map kt et) => match s.m.get b, kf (KD.l (P := P)) kt with
   | some (.mp l), some K => match K.dec kv with
     | some a => match Z9R K a l with
       | some []=>bif bl s.n [kv,v] then some (none,Z5v s b (some (.mp (l++[(kv,v)]))),[b]) else none
       | _=>none
     | none=>none
   | _,_=>none
 | _,_,_,_=>none
noncomputable def efA (P:Program) [KD P] (e:AE) (s:S):Op->Option Rs
 | .store t x y=>stA P e s t x y
 | .next x true=>nxA e s x
 | .insert t x k v=>inA P e s t x k v
 | .mapUpdate t x k v=>inA P e s t x k v
 | op => match mkO P e op with
   | some (f, o) => match Z3s s o with
     | some s'=>some (some (f.v s.n),s',[])
     | none=>none
   | none=>apA P e s op
section
variable {P:Program} [KD P] {n:Nat} {e:AE} {w:World} {d:Option Nat} {ty:TypeId} {pos:String} {af:Array Edge} {g:Option (Nat×Bool)} {L:Lc} {s:S}
theorem ZhE {t:Nat} {x k v:Operand} {r:Rs} (op:Op) (ho:op=.insert t x k v\/op=.mapUpdate t x k v) (h:Rel L s w) (hr:inA P e s t x k v=some r):OE P n ⟨d,op,ty,pos,af,g⟩ (ge L e) w (Po L s w r):=by
 unfold inA at hr;split at hr;rename_i b kv u kt et h1 h2 h3 h4;split at hr;rename_i l K h5 h6;obtain rfl:=ZeA h6;split at hr;rename_i a h7;split at hr;rename_i h8;have cZ:=Jv hr;clear hr;obtain ⟨hb,hr⟩:=cZ;cases hr;obtain ⟨l',q1,es,c,q2,q3,q4⟩:Z9Q L w (L b).1 l:=h.ob b _ h5;obtain ⟨m1,m2⟩:=Z3r h8;have m1':∀ p∈l',∃ b,K.dec p.1=some b:=λp hp=>m1 p (q1.mem_iff.1 hp);obtain ⟨k1,k2⟩:=Z5u (K:=K) L m1';have hM:Jq K.ek.enc w (L b).1 ((l'.filterMap (mfl K)).map λq=>(q.1,ga L q.2)):=⟨es,c,q2,by rw [q3,k1,X8];rfl,by rw [q4,k2,X8];rfl⟩
 have hn:∀ p∈(l'.filterMap (mfl K)).map (λq=>(q.1,ga L q.2)),¬ p.1=a:=λp hp he=>by
  obtain ⟨q,hq,rfl⟩:=XO.1 hp;have dE:=((q1.filterMap (mfl K)).mem_iff).1 hq;have:q.2∈(((l.filterMap (mfl K)).filter λq=>@decide (q.1=a) (K.de q.1 a)).map (·.2)):=XO.2 ⟨q,YaY.2 ⟨dE,by simpa using he⟩,rfl⟩;rw [<- m2] at this;cases this
 have u1:Und P t (.map K.kt et):=⟨h4⟩
 have hk:=Zm h.g h2;rw [K.ok L kv a h7] at hk;have fin:∀ (u':Value) (w':World),Jq K.ek.enc w' (L b).1 ((l'.filterMap (mfl K)).map (λq=>(q.1,ga L q.2))++[(a,ga L u)])/\Stp [(L b).1] w w'->Po L s w (none,Z5v s b (some (.mp (l++[(kv,u)]))),[b]) u' w':=by
  rintro u' w' ⟨⟨es',c',p2,p3,p4⟩,hS⟩;obtain ⟨a1,a2⟩:=h.set (o':=.mp (l++[(kv,u)])) h5 hS ⟨l'++[(kv,u)],q1.append_right _,es',c',p2,by
   rw [p3,XR,XR,X8,k1,Xz,Xz,K.ok L kv a h7];rfl,by
   rw [p4,XR,XR,X8,k2];rfl⟩ (by
    show ((l++[(kv,u)]).all λp=>bl s.n [p.1,p.2])=true;rw [List.all_append,show (l.all λp=>bl s.n [p.1,p.2])=true from (h.bn b _ h5).2];simpa using hb)
  exact ⟨L,a2,a1,λv hv=>by cases hv⟩
 rcases ho with rfl|rfl
 exact (@Z1i P n (ge L e) w d ty pos af g t K.kt et _ K.κ K.de _ _ _ u1 K.ek _ a _ (Zm h.g h1) hk (Zm h.g h3) hM hn).mono fin;exact (@Z1j P n (ge L e) w d ty pos af g t K.kt et _ K.κ K.de _ _ _ u1 K.ek _ a _ (Zm h.g h1) hk (Zm h.g h3) hM hn).mono fin;cases hr;cases hr;cases hr;cases hr
theorem Zo2 {op:Op} {r:Rs} (h:Rel L s w) (hr:efA P e s op=some r):OE P n ⟨d,op,ty,pos,af,g⟩ (ge L e) w (Po L s w r):=by
 unfold efA at hr;split at hr;exact ZkN h hr;exact ZnZ h hr;exact ZhE _ (.inl rfl) h hr;exact ZhE _ (.inr rfl) h hr;split at hr;rename_i f o h1;split at hr;rename_i s' hn;cases hr;refine (Z9U s.n h.g h1 (Z4x hn)).mono (λu w' hw=>?_);obtain ⟨p,hp,hT,ho,hu⟩:=hw;obtain ⟨a1,a2,a3⟩:=h.new hn hT hp ho;exact ⟨_,a2,a1,λv hv=>by cases hv;exact hu⟩;cases hr;exact Zo1 h hr
end
abbrev Cf:=Nat->List V->S->Option (V×S×List Nat)
noncomputable def cal (e:AE):Op->Option (Nat×List V)
 | .call c => match c.callee with
   | .value f => match evv e f, evs e c.args.toList with
     | some (.f g x y),some l=>some (g,x++l++y)
     | _,_=>none
   | _=>none
 | _=>none
def Z2Z (P:Program) (call:Cf):Prop:=∀ f args s v s' ws,call f args s=some (v,s',ws)->bl s.n args=true->∀ L w,Rel L s w->Enters P f/\Calls P f (gl L args).toArray w (Ret λu w'=>∃ L',Nx s s' L L' w w' ws/\Rel L' s' w'/\u=ga L' v)
noncomputable def opV (P:Program) [KD P] (call:Cf) (e:AE) (s:S) (op:Op):Option Rs:=match pur P e op with
 | some v=>some (some v,s,[])
 | none => match rd P e s op with
   | some (v,_)=>some (some v,s,[])
   | none => match efA P e s op with
     | some r=>some r
     | none => match cal e op with
       | some (f, args) => bif bl s.n args then (match call f args s with
         | some (v,s',ws)=>some (some v,s',ws)
         | none=>none) else none
       | none=>none
section
variable {P:Program} [KD P] {n:Nat} {e:AE} {w:World} {d:Option Nat} {ty:TypeId} {pos:String} {af:Array Edge} {g:Option (Nat×Bool)} {L:Lc} {s:S} {call:Cf}
theorem ZkO {P:Program} {op:Op} {f:Nat} {args:List V} {v:V} {s':S} {ws:List Nat} (hC:Z2Z P call) (h:Rel L s w) (hc:cal e op=some (f,args)) (hb:bl s.n args=true) (hr:call f args s=some (v,s',ws)) :
 OE P n ⟨d,op,ty,pos,af,g⟩ (ge L e) w (Po L s w (some v,s',ws)):=by
 unfold cal at hc;split at hc;rename_i c;obtain ⟨cl,xs,ts⟩:=c;split at hc;rename_i fo h1
 try dsimp only at h1
 subst h1;split at hc;rename_i g' x y l h2 h3;simp only [Xi,XC] at hc;obtain ⟨rfl,rfl⟩:=hc;obtain ⟨hE,hk⟩:=hC _ _ _ _ _ _ hr hb L w h;have hf:=Zm h.g h2;refine ⟨λa ha Q=>?_⟩;have hv:=Z71 h.g h3 a ha;have he:(execOp a.eval ⟨d,.call { callee:=.value fo,args:=xs,argTypes:=ts },ty,pos,af,g⟩).run P w=.ok (.enter g' (gl L (x++l++y)).toArray) w:=by
  simp only [execOp,resolve,ha.ev hf,ga,Deferred.ofValue,hv];simp only [invoke];rw [Z72,Z72];have:=hE ((gl L x).toArray++(gl L l).toArray++(gl L y).toArray) w;simpa using this
 unfold Oper.wp;rw [he];simp only [Oper.upon];refine hk.mono ?_;rintro r w' ⟨u,rfl,L',h4,h5,h6⟩;exact ⟨u,rfl,L',h4,h5,λv' fb=>by cases fb;exact h6⟩;cases hc;cases hc;cases hc
theorem ZeF {op:Op} {r:Rs} (hC:Z2Z P call) (h:Rel L s w) (hr:opV P call e s op=some r):OE P n ⟨d,op,ty,pos,af,g⟩ (ge L e) w (Po L s w r):=by
 unfold opV at hr;split at hr;rename_i v h1;cases hr;exact (ZcV (Zez h.g h1)).mono λu w' ⟨hu,hw⟩=>by subst hw;exact ⟨L,Nx.refl _ _ _,h,λv' hv=>by cases hv;exact hu⟩
 split at hr;rename_i v b h1;cases hr;exact (ZcV (ZhD h h1 rfl)).mono λu w' ⟨hu,hw⟩=>by subst hw;exact ⟨L,Nx.refl _ _ _,h,λv' hv=>by cases hv;exact hu⟩
 split at hr;rename_i r' h1;cases hr;exact Zo2 h h1;split at hr;rename_i f args h1;obtain ⟨hb,hr⟩:=Jv hr;split at hr;rename_i v s' ws h2;cases hr;exact ZkO hC h h1 hb h2;cases hr;cases hr
def EB (n:Nat) (e:AE):Prop:=∀ t v,lk e t=some v->bd n v=true
theorem EB.le {m k:Nat} {e:AE} (h:EB m e) (hk:m<=k):EB k e:=λt v hv=>bd_le hk v (h t v hv)
def Z3P (n:Nat) (d:Option Nat) (r:Rs) (e:AE):Option (AE×S×List Nat):=match d,r.1 with
 | some d,some v=>bif bd r.2.1.n v && Nat.blt d n then some (pt d v e,r.2.1,r.2.2) else none
 | none,_=>some (e,r.2.1,r.2.2)
 | some _,none=>none
def Aft (n:Nat) (L:Lc) (e:AE) (u:Value) (L1:Lc) (e1:AE):Option Nat->Prop
 | some d=>Nat.blt d n=true/\∀ t v,Eng.look (ge L1 e1) t=some v->Eng.look ((d,u) :: ge L e) t=some v
 | none=>∀ t v,Eng.look (ge L1 e1) t=some v->Eng.look (ge L e) t=some v
theorem Z15 {r:Rs} {e1:AE} {s1:S} {ws:List Nat} {u:Value} {w':World} (hE:EB s.n e) (hp:Z3P n d r e=some (e1,s1,ws)) (hP:Po L s w r u w') :
 ∃ L1,Nx s s1 L L1 w w' ws/\Rel L1 s1 w'/\EB s1.n e1/\Aft n L e u L1 e1 d:=by
 obtain ⟨rv,s',ws'⟩:=r;obtain ⟨L1,hN,hR,hu⟩:=hP;have old:∀ t x,lk e t=some x->ga L1 x=ga L x:=λt x hx=>Z4e hN.ag x (hE t x hx);unfold Z3P at hp;cases d with
 | none=>
   simp only [Xi,XC] at hp;obtain ⟨rfl,rfl,rfl⟩:=hp;refine ⟨L1,hN,hR,hE.le hN.le,λt v hv=>?_⟩;rw [JZ,XB] at hv ⊢;obtain ⟨x,hx,rfl⟩:=hv;exact ⟨x,hx,(old t x hx).symm⟩
 | some dd=>
   cases rv with
   | none=>cases hp
   | some v=>
     simp only at hp;obtain ⟨hc,hp⟩:=Jv hp;simp only [Xi,XC] at hp;obtain ⟨rfl,rfl,rfl⟩:=hp;simp only [Xa] at hc;refine ⟨L1,hN,hR,λt x hx=>?_,hc.2,λt x hx=>?_⟩;rw [Z3p] at hx;by_cases e1:dd=t;rw [if_pos e1] at hx;cases hx;exact hc.1;rw [if_neg e1] at hx;exact bd_le hN.le x (hE t x hx);rw [JZ,Z3p] at hx;rw [ZR];by_cases e1:dd=t;rw [if_pos e1] at hx ⊢;cases hx;rw [hu v rfl];rw [if_neg e1] at hx ⊢;rw [JZ];rw [XB] at hx ⊢;obtain ⟨y,hy,rfl⟩:=hx;exact ⟨y,hy,(old t y hy).symm⟩
theorem WL.weak {P:Program} {ops:Array Oper} {Q:Exit->Act->World->Prop} {l:List Oper} {e e':Env} (hs:∀ t v,Eng.look e' t=some v->Eng.look e t=some v) (h:WL P n ops Q l e' w):WL P n ops Q l e w:=⟨λa ha=>h.h a (ha.weak hs)⟩
noncomputable def yl (ops:Array Oper) (e:AE) (j:Nat):Option V:=((ops[j]?).bind (·.dst)).bind (lk e)
theorem ZhF (L:Lc) (ops:Array Oper) (e:AE) (j:Nat):yld ops (ge L e) j=(yl ops e j).map (ga L):=by
 unfold yld yl;cases (ops[j]?).bind (·.dst) with
 | none=>rfl
 | some d=>exact JZ L e d
def ZoQ:V->Bool->Bool
 | .b c,b=>c != b
 | .c v,b=>ZhI v b
 | _,_=>false
def okC:V->Bool->Bool
 | .b c,b=>c == b
 | _,_=>false
noncomputable def gdW (ops:Array Oper) (e:AE):Option (Nat×Bool)->Bool
 | none=>true
 | some (j, b) => match yl ops e j with
   | some v=>okC v b
   | none=>false
noncomputable def gdN (ops:Array Oper) (e:AE):Option (Nat×Bool)->Bool
 | none=>false
 | some (j, b) => match yl ops e j with
   | some v=>ZoQ v b
   | none=>false
theorem ZeG {ops:Array Oper} {L:Lc} {j:Nat} {b:Bool} (h:gdW ops e (some (j,b))=true):yld ops (ge L e) j=some (.B b):=by
 simp only [gdW] at h;rw [ZhF];cases hy:yl ops e j with
 | none=>rw [hy] at h;cases h
 | some v=>
   rw [hy] at h;cases v<;>first|cases h|(simp only [okC,beq_iff_eq] at h;subst h;rfl)
theorem Z9V {ops:Array Oper} {L:Lc} {g:Option (Nat×Bool)} (h:gdN ops e g=true):noB ops (ge L e) g=true:=by
 cases g with
 | none=>cases h
 | some p=>
   obtain ⟨j,b⟩:=p;simp only [gdN] at h;simp only [noB,ZhF];cases hy:yl ops e j with
   | none=>rw [hy] at h;cases h
   | some v=>
     rw [hy] at h;cases v<;>first|cases h|exact h
noncomputable def Z8m (P:Program) [KD P] (call:Cf) (n:Nat) (ops:Array Oper):List Oper->AE->S->Option (AE×S×List Nat)
 | [],e,s=>some (e,s,[])
 | o :: r, e, s => match gdW ops e o.guard with
   | true => match opV P call e s o.op with
     | some q => match Z3P n o.dst q e with
       | some (e1, s1, w1) => match Z8m P call n ops r e1 s1 with
         | some (e2,s2,w2)=>some (e2,s2,w1++w2)
         | none=>none
       | none=>none
     | none=>none
   | false => match gdN ops e o.guard, Z3P n o.dst (some (.c undef), s, []) e with
     | true,some (e1,s1,_)=>Z8m P call n ops r e1 s1
     | _,_=>none
theorem Z2l {ops:Array Oper} {Q:Exit->Act->World->Prop} {rest:List Oper} (hC:Z2Z P call):∀ (l:List Oper) (e:AE) (s:S) (e':AE) (s':S) (ws:List Nat) (L:Lc) (w),Z8m P call n ops l e s=some (e',s',ws)->Rel L s w->EB s.n e->
 (∀ L' w',Nx s s' L L' w w' ws->Rel L' s' w'->EB s'.n e'->WL P n ops Q rest (ge L' e') w')->WL P n ops Q (l++rest) (ge L e) w
 | [], e, s, e', s', ws, L, w, h, hR, hE, k => by
   simp only [Z8m,Xi,XC] at h;obtain ⟨rfl,rfl,rfl⟩:=h;exact k L w (Nx.refl _ _ _) hR hE
 | o :: r, e, s, e', s', ws, L, w, h, hR, hE, k => by
   obtain ⟨d,op,ty,pos,af,g⟩:=o;simp only [Z8m] at h;split at h;rename_i hg;split at h;rename_i q h1;split at h;rename_i e1 s1 w1 h2;split at h
   . rename_i e2 s2 w2 h3
     simp only [Xi,XC] at h;obtain ⟨rfl,rfl,rfl⟩:=h;have go:WL P n ops Q (⟨d,op,ty,pos,af,none⟩ :: (r++rest)) (ge L e) w:=by
      have hO:=ZeF (n:=n) (d:=d) (ty:=ty) (pos:=pos) (af:=af) (g:=none) hC hR h1;cases d with
      | none=>
        refine Zi hO (λu w1' hu=>?_);obtain ⟨L1,a1,a2,a3,a4⟩:=Z15 hE h2 hu;exact WL.weak a4 (Z2l hC r e1 s1 e2 s2 w2 L1 w1' h3 a2 a3 (λL' w' b1 b2 b3=>k L' w' (a1.trans b1) b2 b3))
      | some dd=>
        have aw:Nat.blt dd n=true:=by
         obtain ⟨rv,sx,wx⟩:=q;cases rv with
         | none=>cases h2
         | some v=>
           simp only [Z3P] at h2;cases hc:(bd sx.n v && Nat.blt dd n) with
           | false=>rw [hc] at h2;cases h2
           | true=>simp only [Xa] at hc;exact hc.2
        refine Z1 hO aw (λu w1' hu=>?_);obtain ⟨L1,a1,a2,a3,a4⟩:=Z15 hE h2 hu;exact WL.weak a4.2 (Z2l hC r e1 s1 e2 s2 w2 L1 w1' h3 a2 a3 (λL' w' b1 b2 b3=>k L' w' (a1.trans b1) b2 b3))
     cases g with
     | none=>exact go
     | some p=>
       obtain ⟨j,b⟩:=p;exact Zhv (ZeG hg) go
   cases h;cases h;cases h;split at h
   . rename_i e1 s1 _ hg h2
     have hu:Po L s w (some (.c undef),s,[]) undef w:=⟨L,Nx.refl _ _ _,hR,λv hv=>by cases hv;rfl⟩
     obtain ⟨L1,a1,a2,a3,a4⟩:=Z15 hE h2 hu;have hq:Nx s s1 L L1 w w []:=by
      cases d with
      | none=>simp only [Z3P,Xi,XC] at h2;obtain ⟨-,-,rfl⟩:=h2;exact a1
      | some dd=>
        simp only [Z3P] at h2;cases hc:(bd s.n (V.c undef) && Nat.blt dd n) with
        | false=>rw [hc] at h2;cases h2
        | true=>rw [hc] at h2;simp only [cond_true,Xi,XC] at h2;obtain ⟨-,-,rfl⟩:=h2;exact a1
     have ih:=Z2l hC r e1 s1 e' s' ws L1 w h a2 a3 (λL' w' b1 b2 b3=>k L' w' (by simpa using hq.trans b1) b2 b3);cases g with
     | none=>cases hg
     | some p=>
       obtain ⟨j,b⟩:=p;cases d with
       | none=>exact Zc9 (Z9V hg) (WL.weak a4 ih)
       | some dd=>exact Za7 (Z9V hg) a4.1 (WL.weak a4.2 ih)
   cases h
theorem Zhj {ops:Array Oper} {Q:Exit->Act->World->Prop} (hC:Z2Z P call) (l:List Oper) (e:AE) (s:S) (e':AE) (s':S) (ws:List Nat) (L:Lc) (w) (h:Z8m P call n ops l e s=some (e',s',ws)) (hR:Rel L s w) (hE:EB s.n e)
 (k:∀ L' w',Nx s s' L L' w w' ws->Rel L' s' w'->EB s'.n e'->WQ n Q .normal (ge L' e') w'):WL P n ops Q l (ge L e) w:=by
 have:=Z2l (rest:=[]) (Q:=Q) hC l e s e' s' ws L w h hR hE (λL' w' a b c=>Z3w (k L' w' a b c))
 rwa [XE] at this
end
abbrev Dr:=AE×S×List Nat×List Nat×List Nat
noncomputable def drS (P:Program) [KD P] (call:Cf) (n:Nat) (ops:Array Oper) (Lt:List Nat):List (Nat×Nat)->Bool->AE->S->Option Dr
 | [],_,e,s=>some (e,s,[],[],[])
 | (i, t) :: r, fl, e, s => match ops[i]? with
   | none=>none
   | some o => match gdW ops e o.guard with
     | false => match gdN ops e o.guard, o.dst, Z3P n o.dst (some (.c undef), s, []) e, Nat.ble t 2 with
       | true,some _,some (e1,_,_),true=>drS P call n ops Lt r fl e1 s
       | _,_,_,_=>none
     | true => match t with
       | 0 => match pur P e o.op, o.dst with
         | some v, some d => match Z3P n (some d) (some v, s, []) e with
           | some (e1,_,_)=>drS P call n ops Lt r fl e1 s
           | none=>none
         | _,_=>none
       | 1 => match fl, rd P e s o.op, o.dst with
         | false, some (v, b), some d => match Z3P n (some d) (some v, s, []) e with
           | some (e1, _, _) => match drS P call n ops Lt r fl e1 s with
             | some (e2,s2,wE,wL,rs)=>some (e2,s2,wE,wL,b :: rs)
             | none=>none
           | none=>none
         | _,_,_=>none
       | 2 => match opV P call e s o.op with
         | some q => match Z3P n o.dst q e with
           | some (e1, s1, w1) => match Lt.contains i with
             | true => match drS P call n ops Lt r true e1 s1 with
               | some (e2,s2,wE,wL,rs)=>some (e2,s2,wE,w1++wL,rs)
               | none=>none
             | false => match fl with
               | true=>none
               | false => match drS P call n ops Lt r false e1 s1 with
                 | some (e2,s2,wE,wL,rs)=>some (e2,s2,w1++wE,wL,rs)
                 | none=>none
           | none=>none
         | none=>none
       | t + 3 => match r with
         | (q, 2) :: r' => match ops[q]? with
           | some oq => match o.guard, oq.guard, o.dst, oq.dst, mkO P e o.op, mkO P e oq.op with
             | none, none, some di, some dq, some (fi, oi), some (fq, ox) => match Z3s s oi with
               | some s1 => match Z3s s1 ox with
                 | some s2=>bif Nat.beq q t && Nat.blt (q+3) 100000 && Nat.blt di n && Nat.blt dq n && !Nat.beq di dq && ox.bd s.n && (lk e di).isNone && (lk e dq).isNone then drS P call n ops Lt r' fl (pt dq (fq.v (s.n+1)) (pt di (fi.v s.n) e)) s2 else none
                 | none=>none
               | none=>none
             | _,_,_,_,_,_=>none
           | none=>none
         | _=>none
noncomputable def ZeH (P:Program) [KD P] (call:Cf) (n:Nat) (ops:Array Oper) (Lt:List Nat) (ord:List (Nat×Nat)) (e:AE) (s:S):Option (AE×S×List Nat):=
 match drS P call n ops Lt ord false e s with
 | some (e1,s1,wE,wL,rs)=>bif rs.all (λb=>Nat.blt b s.n && (s.m.get b).isSome && !wE.contains b) && wE.all (λk=>Nat.ble s.n k || (s.m.get k).isSome) then some (e1,s1,wE++wL) else none
 | none=>none
def ZkP (ops:Array Oper) (Lt:List Nat) (ord:List (Nat×Nat)):Bool:=Region.noSelect ops && Nat.beq (wt ord) ops.toList.length && Jp ops Lt ord (Array.replicate ops.toList.length false)
def chkC (od:Nat->Option (List Nat×List (Nat×Nat))):Code->Bool
 | .region id ops true => match od id with
   | some (Lt,ord)=>ZkP ops Lt ord
   | none=>true
 | .seq a b=>chkC od a && chkC od b
 | .cond _ a b=>chkC od a && chkC od b
 | .block _ b=>chkC od b
 | .loop b=>chkC od b
 | .scope b=>chkC od b
 | _=>true
section
variable {P:Program} [KD P] {n:Nat} {w:World} {call:Cf}
theorem WDB.weak {P:Program} {ops:Array Oper} {Lt:List Nat} {Q:Exit->Act->World->Prop} {S:Nat×List Nat} {e e':Env} {ord:List (Nat×Nat)} (hs:∀ t v,Eng.look e' t=some v->Eng.look e t=some v) (h:EngB.WD P n ops S Lt Q ord e' w):EngB.WD P n ops S Lt Q ord e w:=⟨λlisted a b c ha=>h.h listed a b c (ha.weak hs)⟩
theorem ZkQ {ops:Array Oper} {L:Lc} {e:AE} {g:Option (Nat×Bool)} (h:gdW ops e g=true):JS ops (ge L e) g:=by
 cases g with
 | none=>trivial
 | some p=>exact ZeG h
theorem Z2B {d:Option Nat} {r:Rs} {e e1:AE} {s1:S} {ws:List Nat} (h:Z3P n d r e=some (e1,s1,ws)):s1=r.2.1/\ws=r.2.2/\∀ dd,d=some dd->Nat.blt dd n=true:=by
 unfold Z3P at h;split at h;rename_i d' v _;obtain ⟨hc,h⟩:=Jv h;simp only [Xi,XC] at h;simp only [Xa] at hc;exact ⟨h.2.1.symm,h.2.2.symm,λdd hd=>by cases hd;exact hc.2⟩;simp only [Xi,XC] at h;exact ⟨h.2.1.symm,h.2.2.symm,λdd hd=>by cases hd⟩;cases h
theorem Kv.bd_lt {k m:Nat} (h:k<m) (f:Kv):bd m (f.v k)=true:=by cases f<;>exact XN h
theorem Z8n {s s':S} {o:O} (h:Z3s s o=some s'):s'.n=s.n+1/\∀ k,s'.m.get k=if k=s.n then some o else s.m.get k:=by
 have:=(Jv h).2;simp only [Xi] at this;subst this;exact ⟨rfl,λk=>Tr.get_put _ _ _ _⟩
theorem ZkR {e:AE} {L:Lc} {s s1 s2:S} {w':World} {oi ox:O} {fi fq:Kv} {di dq:Nat} {pi pq:Nat×Nat} (hR:Rel L s w) (hE:EB s.n e) (n1:Z3s s oi=some s1) (n2:Z3s s1 ox=some s2) (c6:ox.bd s.n=true) (h1:w.heap.size<=pi.1) (h2:w.heap.size<=pq.1) (h3:pi.1≠pq.1) (hS:Stp [] w w') (qV:Ob (upd L s.n pi) w' s.n oi) (mG:Ob (upd L (s.n+1) pq) w' (s.n+1) ox) :
 ∃ L2,Rel L2 s2 w'/\Nx s s2 L L2 w w' []/\EB s2.n (pt dq (fq.v (s.n+1)) (pt di (fi.v s.n) e))/\(∀ x,bd s.n x=true->ga L2 x=ga L x)/\ga L2 (fi.v s.n)=ga (upd L s.n pi) (fi.v s.n)/\ga L2 (fq.v (s.n+1))=ga (upd L (s.n+1) pq) (fq.v (s.n+1)):=by
 obtain ⟨a1,a2⟩:=Z8n n1;obtain ⟨b1,b2⟩:=Z8n n2;obtain ⟨r1,-⟩:=(hR.up hS).new' n1 (λk o' hk he=>by have:=(hR.ob k o' hk).lt;omega) qV;have q1:∀ k,k<s.n->upd (upd L s.n pi) (s.n+1) pq k=L k:=λk hk=>by rw [Z3O (by omega),Z3O (by omega)]
 have q2:upd (upd L s.n pi) (s.n+1) pq s.n=upd L s.n pi s.n:=Z3O (by omega);have q3:upd (upd L s.n pi) (s.n+1) pq (s.n+1)=upd L (s.n+1) pq (s.n+1):=by rw [ZG,ZG]
 obtain ⟨r2,-⟩:=r1.new' (p:=pq) n2 (λk o' hk he=>by
  rw [a2] at hk;by_cases e:k=s.n;subst e;rw [ZG] at he;exact h3 he;rw [if_neg e] at hk;rw [Z3O e] at he;have:=(hR.ob k o' hk).lt;omega) (by rw [a1];exact mG.eq q3 c6 (λk hk=>by rw [q1 k hk,Z3O (by omega)]))
 rw [a1] at r2;refine ⟨_,r2,⟨by omega,q1,λk g1 g2=>?_,by simpa [ids] using hS⟩,λt v hv=>?_,λx hx=>Z4e q1 x hx,Kv.eq q2 _,Kv.eq q3 _⟩;have:k=s.n\/k=s.n+1:=by omega
 rcases this with rfl|rfl
 rw [q2,ZG];exact .inl h1;rw [q3,ZG];exact .inl h2;rw [Z3p] at hv;by_cases e1:dq=t;rw [if_pos e1] at hv;cases hv;exact Kv.bd_lt (by omega) _;rw [if_neg e1,Z3p] at hv;by_cases e2:di=t;rw [if_pos e2] at hv;cases hv;exact Kv.bd_lt (by omega) _;rw [if_neg e2] at hv;exact bd_le (by omega) v (hE t v hv)
theorem Z30 {ops:Array Oper} {Lt:List Nat} {Q:Exit->Act->World->Prop} (hC:Z2Z P call) {s0:S} {L0:Lc} {w0:World} {WE:List Nat} (dV:Rel L0 s0 w0) (iz:∀ k∈WE,k<s0.n->(s0.m.get k).isSome=true) :
 ∀ (ord : List (Nat × Nat)) (fl : Bool) (e : AE) (s : S) (e' : AE) (s' : S) (wE wL rs so : List Nat) (L : Lc) (w), drS P call n ops Lt ord fl e s = some (e', s', wE, wL, rs) -> Rel L s w -> EB s.n e -> Nx s0 s L0 L w0 w so -> (fl = false -> ∀ k ∈ so, k ∈ WE) -> (∀ k ∈ wE, k ∈ WE)->
   (∀ b∈rs,b<s0.n/\(s0.m.get b).isSome=true/\b∉WE)->(∀ L' w' so',Nx s0 s' L0 L' w0 w' so'->(∀ k∈so',k∈so\/k∈wE\/k∈wL)->Rel L' s' w'->EB s'.n e'->WQ n Q .normal (ge L' e') w')->
   EngB.WD P n ops (w0.heap.size,ids s0.n L0 WE) Lt Q ord (ge L e) w
 | [], fl, e, s, e', s', wE, wL, rs, so, L, w, h, hR, hE, hN, hf, hw, hr, k => by
   simp only [drS,Xi,XC] at h;obtain ⟨rfl,rfl,rfl,rfl,rfl⟩:=h;exact Z2Q (k L w so hN (λk hk=>.inl hk) hR hE)
 | (i, t) :: r, fl, e, s, e', s', wE, wL, rs, so, L, w, h, hR, hE, hN, hf, hw, hr, k => by
   simp only [drS] at h;split at h;cases h;rename_i o hi;obtain ⟨d,op,ty,pos,af,g⟩:=o;dsimp only at h;split at h;rename_i gF;split at h;rename_i _ dd e1 s1 ws1 qW ht hp;obtain ⟨q1,q2,q3⟩:=Z2B hp;have hu:Po L s w (some (.c undef),s,[]) undef w:=⟨L,Nx.refl _ _ _,hR,λv hv=>by cases hv;rfl⟩
   obtain ⟨L1,a1,a2,a3,a4⟩:=Z15 hE hp hu
   try dsimp only at q1 q2
   subst q1;subst q2;have ih:=Z30 (Q:=Q) hC dV iz r fl e1 s1 e' s' wE wL rs so L1 w h a2 a3 (by simpa using hN.trans a1) hf hw hr k;have n6:=Xe ht;have mJ:=Z9V (L:=L) qW;rcases (by omega:t=0\/t=1\/t=2) with rfl|rfl|rfl
   exact Z7h hi mJ a4.1 (WDB.weak a4.2 ih);exact Z7i hi mJ a4.1 (WDB.weak a4.2 ih);exact Z7j hi mJ a4.1 (WDB.weak a4.2 ih);cases h;rename_i qX;have gG:=ZkQ (L:=L) qX;split at h;split at h;rename_i v dd hv;split at h;rename_i e1 s1 ws1 hp;obtain ⟨q1,q2,q3⟩:=Z2B hp
   try dsimp only at q1 q2
   subst q1;subst q2;have hu:Po L s1 w (some v,s1,[]) (ga L v) w:=⟨L,Nx.refl _ _ _,hR,λv' fb=>by cases fb;rfl⟩
   obtain ⟨L1,a1,a2,a3,a4⟩:=Z15 hE hp hu;have ih:=Z30 (Q:=Q) hC dV iz r fl e1 s1 e' s' wE wL rs so L1 w h a2 a3 (by simpa using hN.trans a1) hf hw hr k;exact Zy hi gG (λw'=>Zez hR.g hv) a4.1 (WDB.weak a4.2 ih);cases h;cases h;split at h;rename_i v b dd hv;split at h;rename_i e1 s1 ws1 hp;obtain ⟨q1,q2,q3⟩:=Z2B hp
   try dsimp only at q1 q2
   subst q1;subst q2;split at h;rename_i e2 s2 wE' wL' rs' h2;simp only [Xi,XC] at h;obtain ⟨rfl,rfl,rfl,rfl,rfl⟩:=h;have hu:Po L s1 w (some v,s1,[]) (ga L v) w:=⟨L,Nx.refl _ _ _,hR,λv' fb=>by cases fb;rfl⟩
   obtain ⟨L1,a1,a2,a3,a4⟩:=Z15 hE hp hu;have ih:=Z30 (Q:=Q) hC dV iz r false e1 s1 e2 s2 wE' wL' rs' so L1 w h2 a2 a3 (by simpa using hN.trans a1) hf hw (λb hb=>hr b (XW _ hb)) k;obtain ⟨b1,b2,b3⟩:=hr b (YaZ);refine EngB.WD_read hi gG (λw' hS=>ZhD hR hv (hS.block _ ?_ ?_)) a4.1 (WDB.weak a4.2 ih);rw [hN.ag b b1];obtain ⟨ob,bp⟩:=XX.1 b2;exact (dV.ob b ob bp).lt;rw [hN.ag b b1];intro hm;obtain ⟨j,j1,j2,j3⟩:=Jn.1 hm;exact b3 (dV.inj j b (iz j j1 j2) b2 j3 ▸ j1);cases h;cases h;cases h;split at h;rename_i q hq;split at h;rename_i e1 s1 w1 hp;obtain ⟨q1,q2,q3⟩:=Z2B hp;have hO:=ZeF (n:=n) (d:=d) (ty:=ty) (pos:=pos) (af:=af) (g:=g) hC hR hq;split at h;rename_i n7;split at h
   . rename_i e2 s2 wE' wL' rs' h2
     simp only [Xi,XC] at h;obtain ⟨rfl,rfl,rfl,rfl,rfl⟩:=h;have kk:∀ u w1',Po L s w q u w1'->∃ L1,Aft n L e u L1 e1 d/\EngB.WD P n ops (w0.heap.size,ids s0.n L0 WE) Lt Q r (ge L1 e1) w1':=λu w1' hu=>by
      obtain ⟨L1,a1,a2,a3,a4⟩:=Z15 hE hp hu;exact ⟨L1,a4,Z30 (Q:=Q) hC dV iz r true e1 s1 e2 s2 wE' wL' rs' (so++w1) L1 w1' h2 a2 a3 (hN.trans a1) (λh=>by cases h) hw hr (λL' w' so' c1 c2 c3 c4=>k L' w' so' c1 (λj hj=>by
       rcases c2 j hj with h|h|h
       rcases Xd.1 h with h|h
       exact .inl h;exact .inr (.inr (Xd.2 (.inl h)));exact .inr (.inl h);exact .inr (.inr (Xd.2 (.inr h)))) c3 c4)⟩
     cases d with
     | none=>exact J2 hi gG hO n7 (λu w1' hu=>by obtain ⟨L1,a4,ih⟩:=kk u w1' hu;exact WDB.weak a4 ih)
     | some dd=>exact Zaf hi gG hO n7 (q3 dd rfl) (λu w1' hu=>by obtain ⟨L1,a4,ih⟩:=kk u w1' hu;exact WDB.weak a4.2 ih)
   cases h;split at h;cases h;split at h
   . rename_i e2 s2 wE' wL' rs' h2
     simp only [Xi,XC] at h;obtain ⟨rfl,rfl,rfl,rfl,rfl⟩:=h;have dl:=hf rfl;have hB:∀ u w1',Po L s w q u w1'->EngB.StpB (w0.heap.size,ids s0.n L0 WE) w w1':=λu w1' hu=>by
      obtain ⟨L1,a1,a2,a3⟩:=hu;refine ⟨a1.st.os,a1.st.tape,a1.st.output,a1.st.size,λb hb oa=>a1.st.block b (Xc hb hN.st.size) (λhm=>?_)⟩;obtain ⟨j,j1,j2,rfl⟩:=Jn.1 hm;have jW:j∈WE:=hw j (Xd.2 (.inl (q2 ▸ j1)));by_cases hj:j<s0.n;exact oa (Jn.2 ⟨j,jW,hj,(congrArg Prod.fst (hN.ag j hj)).symm⟩);rcases hN.nw j (YaQ hj) j2 with g1|g1
      exact absurd hb (YaK.2 g1);obtain ⟨i',i1,i2,i3⟩:=Jn.1 g1;exact oa (Jn.2 ⟨i',dl i' i1,i2,i3⟩)
     have kk:∀ u w1',Po L s w q u w1'->∃ L1,Aft n L e u L1 e1 d/\EngB.WD P n ops (w0.heap.size,ids s0.n L0 WE) Lt Q r (ge L1 e1) w1':=λu w1' hu=>by
      obtain ⟨L1,a1,a2,a3,a4⟩:=Z15 hE hp hu;exact ⟨L1,a4,Z30 (Q:=Q) hC dV iz r false e1 s1 e2 s2 wE' wL' rs' (so++w1) L1 w1' h2 a2 a3 (hN.trans a1) (λ_ j hj=>(Xd.1 hj).elim (dl j) (λh=>hw j (Xd.2 (.inl h)))) (λj hj=>hw j (Xd.2 (.inr hj))) hr (λL' w' so' c1 c2 c3 c4=>k L' w' so' c1 (λj hj=>by
       rcases c2 j hj with h|h|h
       rcases Xd.1 h with h|h
       exact .inl h;exact .inr (.inl (Xd.2 (.inl h)));exact .inr (.inl (Xd.2 (.inr h)));exact .inr (.inr h)) c3 c4)⟩
     cases d with
     | none=>exact Z33 hi gG hO hB (λu w1' hu=>by obtain ⟨L1,a4,ih⟩:=kk u w1' hu;exact WDB.weak a4 ih)
     | some dd=>exact Z7 hi gG hO hB (q3 dd rfl) (λu w1' hu=>by obtain ⟨L1,a4,ih⟩:=kk u w1' hu;exact WDB.weak a4.2 ih)
   cases h;cases h;cases h;split at h;rename_i q r';split at h;rename_i oq hq;split at h;rename_i di dq fi oi fq ox g2 d2 m1 m2;split at h;rename_i s1 n1;split at h;rename_i s2 n2;have cZ:=Jv h;clear h;obtain ⟨hc,h⟩:=cZ;simp only [Xa,YaP] at hc;obtain ⟨⟨⟨⟨⟨⟨⟨c1,c2⟩,c3⟩,c4⟩,c5⟩,c6⟩,c7⟩,c8⟩:=hc;have c1:=Xk c1;subst c1;obtain ⟨dd',op',ty',pos',af',gq⟩:=oq;dsimp only at g2 d2 m2;subst g2 d2;have aZ:di≠dq:=λhe=>by rw [he,Z8h] at c5;cases c5
   have k1:∀ w1 w2,w0.heap.size<=w1.heap.size->Stp [] w1 w2->EngB.StpB (w0.heap.size,ids s0.n L0 WE) w1 w2:=λw1 w2 hz hT=>⟨hT.os,hT.tape,hT.output,hT.size,λb hb _=>hT.block b (Xc hb hz) (by simp)⟩
   have fin:∀ (pi pq:Nat×Nat) (w2:World) (env:Env),w.heap.size<=pi.1->w.heap.size<=pq.1->pi.1≠pq.1->Stp [] w w2->Ob (upd L s.n pi) w2 s.n oi->Ob (upd L (s.n+1) pq) w2 (s.n+1) ox->(Eng.look env dq=some (ga (upd L (s.n+1) pq) (fq.v (s.n+1))))->(Eng.look env di=some (ga (upd L s.n pi) (fi.v s.n)))->(∀ t,t≠dq->t≠di->Eng.look env t=Eng.look (ge L e) t)->EngB.WD P n ops (w0.heap.size,ids s0.n L0 WE) Lt Q r' env w2:=λpi pq w2 env h1 h2 h3 hT o1 o2 v1 v2 v3=>by
    obtain ⟨L2,x1,x2,x3,x4,x5,x6⟩:=ZkR (fi:=fi) (fq:=fq) (di:=di) (dq:=dq) hR hE n1 n2 c6 h1 h2 h3 hT o1 o2;refine WDB.weak (e':=ge L2 (pt dq (fq.v (s.n+1)) (pt di (fi.v s.n) e))) (λt v hv=>?_) (Z30 (Q:=Q) hC dV iz r' fl _ s2 e' s' wE wL rs so L2 w2 h x1 x3 (by simpa using hN.trans x2) hf hw hr k);rw [JZ,Z3p] at hv;by_cases y1:dq=t;rw [if_pos y1] at hv;subst y1;rw [v1];simpa [x6] using hv;rw [if_neg y1,Z3p] at hv;by_cases y2:di=t;rw [if_pos y2] at hv;subst y2;rw [v2];simpa [x5] using hv;rw [if_neg y2] at hv;rw [v3 t (Ne.symm y1) (Ne.symm y2),JZ];rw [XB] at hv ⊢;obtain ⟨x,hx,rfl⟩:=hv;exact ⟨x,hx,(x4 x (hE t x hx)).symm⟩
   have kz:=Z4x n1;have kW:ox.bd (s.n+1)=true:=O.bd_le (Ybs _) c6;have O1:∀ w1,OE P n ⟨some di,op,ty,pos,af,none⟩ (ge L e) w1 (ZbO L w1 s.n fi oi):=λw1=>Z9U s.n hR.g m1 kz;have O2:∀ w1,OE P n ⟨some dq,op',ty',pos',af',none⟩ (ge L e) w1 (ZbO L w1 (s.n+1) fq ox):=λw1=>Z9U (s.n+1) hR.g m2 kW;have fresh:∀ (d':Nat) (v':Value),(lk e d').isNone=true->∀ t v,Eng.look (ge L e) t=some v->Eng.look ((d',v') :: ge L e) t=some v:=λd' v' hd t v hv=>by
    rw [ZR];by_cases e1:d'=t;subst e1;rw [JZ,Option.isNone_iff_eq_none.1 hd] at hv;cases hv;rw [if_neg e1];exact hv
   have lo:∀ (a b:Nat) (x y:Value) (t:Nat),Eng.look ((a,x) :: (b,y) :: ge L e) t=if a=t then some x else if b=t then some y else Eng.look (ge L e) t:=λa b x y t=>by rw [ZR,ZR]
   refine Z4E c2 (JJ hi gG (O1 w) (λv w1 hv=>k1 _ _ hN.st.size hv.choose_spec.2.1) c3 (λvi w1 iB=>?_)) (JJ hq trivial (O2 w) (λv w1 hv=>k1 _ _ hN.st.size hv.choose_spec.2.1) c4 (λvq w1 iB=>?_));obtain ⟨pi,h1,bJ,o1,rfl⟩:=iB;refine Z7 hq trivial (G:=ZbO L w1 (s.n+1) fq ox) ⟨λa ha=>(O2 w1).h a (ha.weak (fresh di _ c7))⟩ (λv w2 hv=>k1 _ _ (Xl hN.st.size bJ.size) hv.choose_spec.2.1) c4 (λvq w2 gN=>?_);obtain ⟨pq,h2,aQ,o2,rfl⟩:=gN;have hlt:=o1.lt;rw [ZG] at hlt;exact fin pi pq w2 _ h1 (Xl bJ.size h2) (by omega) (bJ.trans aQ) (o1.ext aQ (by simp)) o2 (by rw [lo,if_pos rfl]) (by rw [lo,if_neg (Ne.symm aZ),if_pos rfl]) (λt y1 y2=>by rw [lo,if_neg (Ne.symm y1),if_neg (Ne.symm y2)]);obtain ⟨pq,h2,bJ,o2,rfl⟩:=iB;simp only [Z1P,if_pos];refine Z7 hi gG (G:=ZbO L w1 s.n fi oi) ⟨λa ha=>(O1 w1).h a (ha.weak (fresh dq _ c8))⟩ (λv w2 hv=>k1 _ _ (Xl hN.st.size bJ.size) hv.choose_spec.2.1) c3 (λvi w2 gN=>?_);obtain ⟨pi,h1,aQ,o1,rfl⟩:=gN;have hlt:=o2.lt;rw [ZG] at hlt;exact fin pi pq w2 _ (Xl bJ.size h1) h2 (by omega) (bJ.trans aQ) o1 (o2.ext aQ (by simp)) (by rw [lo,if_neg aZ,if_pos rfl]) (by rw [lo,if_pos rfl]) (λt y1 y2=>by rw [lo,if_neg (Ne.symm y2),if_neg (Ne.symm y1)]);cases h;cases h;cases h;cases h;cases h
end
inductive Ex where
 | n
 | r
 | x (i:Nat)
def Ex.to:Ex->Exit
 | .n=>.normal
 | .r=>.ret
 | .x i=>.exit i
abbrev Cs:=Ex×AE×S×List Nat
def ZaN (f:AE->S->Option Cs):Nat->AE->S->Option Cs
 | 0,_,_=>none
 | k + 1, e, s => match f e s with
   | some (.n, e1, s1, w1) => match ZaN f k e1 s1 with
     | some (x,e2,s2,w2)=>some (x,e2,s2,w1++w2)
     | none=>none
   | some (.r,e1,s1,w1)=>some (.r,e1,s1,w1)
   | some (.x i,e1,s1,w1)=>some (.x i,e1,s1,w1)
   | none=>none
noncomputable def Z00 (P:Program) [KD P] (call:Cf) (od:Nat->Option (List Nat×List (Nat×Nat))) (n:Nat):Code->AE->S->Option Cs
 | .skip,e,s=>some (.n,e,s,[])
 | .region id ops false, e, s => match Z8m P call n ops ops.toList e s with
   | some (e1,s1,w1)=>some (.n,e1,s1,w1)
   | none=>none
 | .region id ops true, e, s => match od id with
   | some (Lt, ord) => match ZeH P call n ops Lt ord e s with
     | some (e1,s1,w1)=>some (.n,e1,s1,w1)
     | none=>none
   | none=>none
 | .seq a b, e, s => match Z00 P call od n a e s with
   | some (.n, e1, s1, w1) => match Z00 P call od n b e1 s1 with
     | some (x,e2,s2,w2)=>some (x,e2,s2,w1++w2)
     | none=>none
   | some (.r,e1,s1,w1)=>some (.r,e1,s1,w1)
   | some (.x i,e1,s1,w1)=>some (.x i,e1,s1,w1)
   | none=>none
 | .cond c a b, e, s => match evv e c with
   | some (.b true)=>Z00 P call od n a e s
   | some (.b false)=>Z00 P call od n b e s
   | _=>none
 | .block i b, e, s => match Z00 P call od n b e s with
   | some (.n,e1,s1,w1)=>some (.n,e1,s1,w1)
   | some (.r,e1,s1,w1)=>some (.r,e1,s1,w1)
   | some (.x j,e1,s1,w1)=>bif Nat.beq j i then some (.n,e1,s1,w1) else some (.x j,e1,s1,w1)
   | none=>none
 | .loop b,e,s=>ZaN (Z00 P call od n b) 2000 e s
 | .exit i,e,s=>some (.x i,e,s,[])
 | .scope b,e,s=>Z00 P call od n b e s
 | .label _,e,s=>some (.n,e,s,[])
 | .ret,e,s=>some (.r,e,s,[])
 | _,_,_=>none
theorem Nx.sub {s s':S} {L L':Lc} {w w':World} {ws vs:List Nat} (h:Nx s s' L L' w w' ws) (hs:∀ k∈ws,k<s.n->k∈vs):Nx s s' L L' w w' vs:=by
 have hi:∀ b,b∈ids s.n L ws->b∈ids s.n L vs:=λb hb=>by
  obtain ⟨j,h1,h2,h3⟩:=Jn.1 hb;exact Jn.2 ⟨j,hs j h1 h2,h2,h3⟩
 exact ⟨h.le,h.ag,λj h1 h2=>(h.nw j h1 h2).imp id (hi _),h.st.mono hi⟩
theorem ZbP {P:Program} [KD P] {n:Nat} {Q:Exit->Act->World->Prop} {e:Env} {w} {ops:Array Oper} {S:Nat×List Nat} {Lt:List Nat} {ord:List (Nat×Nat)} (hs:Region.noSelect ops=true) (hl:Nat.beq (wt ord) ops.toList.length=true)
 (hB:Jp ops Lt ord (Array.replicate ops.toList.length false)=true) (h:EngB.WD P n ops S Lt Q ord e w) (a:Act) (ha:Has n e a):wpAny P .any ops Q ops.size (Array.replicate ops.size false) a w:=by
 have h2:=Z05 (Q:=Q) (λa w hz=>hz) _ _ _ _ (h.h _ hs hB a ha);rw [Xk hl] at h2;simpa using h2
section
variable {P:Program} [KD P] {n:Nat} {call:Cf} {od:Nat->Option (List Nat×List (Nat×Nat))}
theorem ZbQ {ops:Array Oper} {Lt:List Nat} {ord:List (Nat×Nat)} {Q:Exit->Act->World->Prop} (hC:Z2Z P call) (hc:ZkP ops Lt ord=true) {e:AE} {s:S} {e':AE} {s':S} {ws:List Nat} {L:Lc} {w} (h:ZeH P call n ops Lt ord e s=some (e',s',ws)) (hR:Rel L s w) (hE:EB s.n e)
 (k:∀ L' w',Nx s s' L L' w w' ws->Rel L' s' w'->EB s'.n e'->WQ n Q .normal (ge L' e') w'):∀ a,Has n (ge L e) a->wpAny P .any ops Q ops.size (Array.replicate ops.size false) a { w with drawn:=w.drawn+1 }:=by
 unfold ZeH at h;unfold ZkP at hc;simp only [Xa] at hc;obtain ⟨⟨c1,c2⟩,c3⟩:=hc;split at h;rename_i e1 s1 wE wL rs hd;obtain ⟨hx,h⟩:=Jv h;simp only [Xi,XC] at h;obtain ⟨rfl,rfl,rfl⟩:=h;simp only [Xa] at hx;obtain ⟨x1,x2⟩:=hx;intro a ha;have hS:Stp [] w { w with drawn:=w.drawn+1 }:=Stp.drew [] w;generalize { w with drawn:=w.drawn+1 }=w1 at hS ⊢;refine ZbP c1 c2 c3 (S:=(w.heap.size,ids s.n L wE)) ?_ a ha;have iK:=hR.up hS;exact Z30 (P:=P) (n:=n) (ops:=ops) (Lt:=Lt) (Q:=Q) hC hR (WE:=wE) (λj hj n5=>by
  have:=Xy.1 x2 j hj;simp only [Ya4] at this;rcases this with h|h
  have:=Xe h;omega;exact h) ord false e s e1 s1 wE wL rs [] L w1 hd iK hE ⟨Xq _,λ_ _=>rfl,λj h1 h2=>absurd h2 (YaK.2 h1),hS⟩ (λ_ j hj=>by cases hj) (λj hj=>hj) (λb hb=>by
  have:=Xy.1 x1 b hb;simp only [Xa,YaP,List.contains_eq_mem,decide_eq_false_iff_not] at this;exact ⟨Xe this.1.1,this.1.2,this.2⟩) (λL' w' so' a1 a2 a3 a4=>k L' w' (a1.sub (λj hj _=>by
   rcases a2 j hj with h|h|h
   cases h;exact Xd.2 (.inl h);exact Xd.2 (.inr h))) a3 a4)
 cases h
def Zo3 (P:Program) (n:Nat) (c:Code) (f:AE->S->Option Cs):Prop:=∀ (ds:List Deferred) (e:AE) (s:S) (x:Ex) (e':AE) (s':S) (ws:List Nat) (L:Lc) (w:World) (Q:Exit->Act->World->Prop),f e s=some (x,e',s',ws)->Rel L s w->EB s.n e->
 (∀ L' w',Nx s s' L L' w w' ws->Rel L' s' w'->EB s'.n e'->WQ n (Z7O ds Q) x.to (ge L' e') w')->∀ a,Has n (ge L e) a->c.wp P Q (Z0N ds a) w
theorem Z6h {P:Program} {c:Code} {f:AE->S->Option Cs} (hf:Zo3 P n c f) (ds:List Deferred) {Q:Exit->Act->World->Prop} {x:Ex} {e':AE} {s':S}:∀ (m:Nat) (e:AE) (s:S) (ws:List Nat) (L:Lc) (w),ZaN f m e s=some (x,e',s',ws)->Rel L s w->EB s.n e->
 (∀ L' w',Nx s s' L L' w w' ws->Rel L' s' w'->EB s'.n e'->WQ n (Z7O ds Q) x.to (ge L' e') w')->∀ a,Has n (ge L e) a->Code.rounds P c Q m (Z0N ds a) w
 | 0,_,_,_,_,_,h,_,_,_=>by cases h
 | m + 1, e, s, ws, L, w, h, hR, hE, k => by
   intro a ha;rw [rounds_succ];simp only [ZaN] at h;split at h;rename_i h2;split at h;rename_i h3;cases h;refine hf ds _ _ _ _ _ _ L w _ h2 hR hE ?_ a ha;exact λL' w' a1 a2 a3=>⟨λa ha=>Z6h hf ds m _ _ _ L' w' h3 a2 a3 (λL2 w2 b1 b2 b3=>k L2 w2 (a1.trans b1) b2 b3) a ha⟩
   cases h;rename_i h2;cases h;refine hf ds _ _ _ _ _ _ L w _ h2 hR hE ?_ a ha;exact λL' w' a1 a2 a3=>⟨(k L' w' a1 a2 a3).h⟩
   rename_i h2;cases h;refine hf ds _ _ _ _ _ _ L w _ h2 hR hE ?_ a ha;exact λL' w' a1 a2 a3=>⟨(k L' w' a1 a2 a3).h⟩
   cases h
theorem Z8o (hC:Z2Z P call) (hm:P.follows .mixedOrders=true):∀ c,chkC od c=true->Zo3 P n c (Z00 P call od n c):=by
 intro c
 induction c with
 | skip=>
   intro hK ds e s x e' s' ws L w Q h hR hE k a ha;cases h;exact wp_skip ((k L w (Nx.refl _ _ _) hR hE).h a ha)
 | region id ops dr=>
   intro hK ds e s x e' s' ws L w Q h hR hE k a ha;cases dr with
   | false=>
     simp only [Z00] at h;split at h;rename_i h1;cases h;have:=wp_region_lit (P:=P) (id:=id) (l:=ops.toList) (Z2X _ _ _ ((Zhj hC _ e s _ _ _ L w h1 hR hE k).h a ha))
     rwa [XK] at this
     cases h
   | true=>
     simp only [Z00] at h;simp only [chkC] at hK;split at h;rename_i h0;rw [h0] at hK;split at h;rename_i h1;cases h;exact wp_region_any hm (Z66 _ _ _ _ (ZbQ hC hK h1 hR hE k a ha));cases h;cases h
 | seq b c ihb ihc=>
   intro hK ds e s x e' s' ws L w Q h hR hE k a ha;simp only [chkC,Xa] at hK;replace ihb:=ihb hK.1;replace ihc:=ihc hK.2;simp only [Z00] at h;split at h;rename_i h2;split at h;rename_i h3;cases h;refine wp_seq (ihb ds _ _ _ _ _ _ L w _ h2 hR hE ?_ a ha);exact λL' w' a1 a2 a3=>⟨λa ha=>ihc ds _ _ _ _ _ _ L' w' Q h3 a2 a3 (λL2 w2 b1 b2 b3=>k L2 w2 (a1.trans b1) b2 b3) a ha⟩
   cases h;rename_i h2;cases h;refine wp_seq (ihb ds _ _ _ _ _ _ L w _ h2 hR hE ?_ a ha);exact λL' w' a1 a2 a3=>⟨(k L' w' a1 a2 a3).h⟩
   rename_i h2;cases h;refine wp_seq (ihb ds _ _ _ _ _ _ L w _ h2 hR hE ?_ a ha);exact λL' w' a1 a2 a3=>⟨(k L' w' a1 a2 a3).h⟩
   cases h
 | cond c b d ihb ihd=>
   intro hK ds e s x e' s' ws L w Q h hR hE k a ha;simp only [chkC,Xa] at hK;replace ihb:=ihb hK.1;replace ihd:=ihd hK.2;simp only [Z00] at h;split at h;rename_i hc;exact wp_cond_true (HasD.ev ha (Zm hR.g hc)) (ihb ds e s x e' s' ws L w Q h hR hE k a ha);rename_i hc;exact wp_cond_false (HasD.ev ha (Zm hR.g hc)) (ihd ds e s x e' s' ws L w Q h hR hE k a ha);cases h
 | block i b ih=>
   intro hK ds e s x e' s' ws L w Q h hR hE k a ha;replace ih:=ih hK;simp only [Z00] at h;split at h;rename_i h2;cases h;refine wp_block (ih ds _ _ _ _ _ _ L w _ h2 hR hE ?_ a ha);exact λL' w' a1 a2 a3=>⟨(k L' w' a1 a2 a3).h⟩
   rename_i h2;cases h;refine wp_block (ih ds _ _ _ _ _ _ L w _ h2 hR hE ?_ a ha);exact λL' w' a1 a2 a3=>⟨(k L' w' a1 a2 a3).h⟩
   . rename_i j e2 s2 w2 h2
     cases hj:Nat.beq j i with
     | true=>
       rw [hj] at h;cases h;cases Xk hj;refine wp_block (ih ds _ _ _ _ _ _ L w _ h2 hR hE ?_ a ha);exact λL' w' a1 a2 a3=>⟨(Z2H (k L' w' a1 a2 a3)).h⟩
     | false=>
       rw [hj] at h;cases h;refine wp_block (ih ds _ _ _ _ _ _ L w _ h2 hR hE ?_ a ha);exact λL' w' a1 a2 a3=>⟨(Z3S hj (k L' w' a1 a2 a3)).h⟩
   cases h
 | loop b ih=>
   intro hK ds e s x e' s' ws L w Q h hR hE k a ha;replace ih:=ih hK;exact wp_loop_rounds 2000 (Z6h ih ds 2000 e s ws L w h hR hE k a ha)
 | exit i=>
   intro hK ds e s x e' s' ws L w Q h hR hE k a ha;cases h;exact wp_exit ((k L w (Nx.refl _ _ _) hR hE).h a ha)
 | scope b ih=>
   intro hK ds e s x e' s' ws L w Q h hR hE k a ha;replace ih:=ih hK;refine wp_scope_straight (ih ds e s x e' s' ws L w _ h hR hE (λL' w' a1 a2 a3=>?_) a ha);have:=(k L' w' a1 a2 a3).h;cases x<;>exact ⟨this⟩
 | label l=>
   intro hK ds e s x e' s' ws L w Q h hR hE k a ha;cases h;exact wp_label ((k L w (Nx.refl _ _ _) hR hE).h a ha)
 | ret=>
   intro hK ds e s x e' s' ws L w Q h hR hE k a ha;cases h;exact wp_ret ((k L w (Nx.refl _ _ _) hR hE).h a ha)
 | _=>intro hK ds e s x e' s' ws L w Q h;cases h
theorem Z8p (a:Act):Z0N [] a=a:=by cases a;simp [Z0N]
theorem Z8q (hC:Z2Z P call) (hm:P.follows .mixedOrders=true) {c:Code} (hK:chkC od c=true) {e:AE} {s:S} {x:Ex} {e':AE} {s':S} {ws:List Nat} {L:Lc} {w} {Q:Exit->Act->World->Prop} (h:Z00 P call od n c e s=some (x,e',s',ws)) (hR:Rel L s w) (hE:EB s.n e)
 (k:∀ L' w',Nx s s' L L' w w' ws->Rel L' s' w'->EB s'.n e'->WQ n Q x.to (ge L' e') w'):WC P n c Q (ge L e) w:=
 ⟨λa ha => by
   have:=Z8o hC hm c hK [] e s x e' s' ws L w Q h hR hE (λL' w' a1 a2 a3=>⟨λa ha=>by unfold Z7O;rw [Z8p];exact (k L' w' a1 a2 a3).h a ha⟩) a ha
   rwa [Z8p] at this⟩
end
abbrev Od:=List (Nat×Nat×List Nat×List (Nat×Nat))
def odS (f:Nat):Od->Nat->Option (List Nat×List (Nat×Nat))
 | [],_=>none
 | (g,q,a,b) :: l,r=>bif Nat.beq g f && Nat.beq q r then some (a,b) else odS f l r
noncomputable def Z3Q (P:Program) (e:AE) (s:S):ResultVar->Option V
 | .tmp t=>lk e t
 | .cell t T => match lk e t, P.underlying T with
   | some (.p b 0), some D => match ldc s b with
     | some cs => match Z03 D, (P.info? T).map (·.size) with
       | true,some k=>bif Nat.beq cs.length k then some (.a cs) else none
       | false,_=>cs[0]?
       | _,_=>none
     | none=>none
   | _,_=>none
noncomputable def Z9W (P:Program) (e:AE) (s:S):List ResultVar->Option V
 | []=>some (.t [])
 | [x]=>Z3Q P e s x
 | [x, y] => match Z3Q P e s x, Z3Q P e s y with
   | some a,some b=>some (.t [a,b])
   | _,_=>none
 | [x, y, z] => match Z3Q P e s x, Z3Q P e s y, Z3Q P e s z with
   | some a,some b,some c=>some (.t [a,b,c])
   | _,_,_=>none
 | [x, y, z, u] => match Z3Q P e s x, Z3Q P e s y, Z3Q P e s z, Z3Q P e s u with
   | some a,some b,some c,some d=>some (.t [a,b,c,d])
   | _,_,_,_=>none
 | _=>none
def Z5N:Nat->List V->AE
 | _,[]=>[]
 | k,v :: r=>(k,v) :: Z5N (k+1) r
abbrev Hk:=Cf->Nat->List V->S->Option (Option (V×S×List Nat))
def gcS (s:S) (v:V) (s1:S) (ws:List Nat):V×S×List Nat:=match ws.filter (λk=>Nat.blt k s.n) with
 | []=>bif bd s.n v then (v,s,[]) else (v,s1,[])
 | ws=>(v,s1,ws)
noncomputable def Zhk (P:Program) (fn:Func) (s:S):Option Cs->Option (V×S×List Nat)
 | some (.n, e, s1, ws) => match fn.results.toList with
   | []=>some (gcS s (.t []) s1 ws)
   | _=>none
 | some (.r, e, s1, ws) => match Z9W P e s1 fn.results.toList with
   | some v=>some (gcS s v s1 ws)
   | none=>none
 | _=>none
noncomputable def fnS (P:Program) [KD P] (od:Od) (hk:Hk):Nat->Cf
 | 0,_,_,_=>none
 | k + 1, f, args, s => match hk (fnS P od hk k) f args s with
   | some r=>r
   | none => match P.funcs[f]? with
     | some fn => match fn.body with
       | some c=>bif Nat.ble args.length fn.ntmps then Zhk P fn s (Z00 P (fnS P od hk k) (odS f od) fn.ntmps c (Z5N 0 args) s) else none
       | none=>none
     | none=>none
def ZkS (P:Program) (hk:Hk):Prop:=∀ call,Z2Z P call->∀ f args s v s' ws,hk call f args s=some (some (v,s',ws))->bl s.n args=true->∀ L w,Rel L s w->Enters P f/\Calls P f (gl L args).toArray w (Ret λu w'=>∃ L',Nx s s' L L' w w' ws/\Rel L' s' w'/\u=ga L' v)
def Z8r (tmps:Array Value):ResultVar->Sem Value
 | .tmp t=>pure (tmps.getD t undef)
 | .cell a t=>do loadVar t (<- asAddr (tmps.getD a undef))
theorem Z5O (fn:Func) (tmps:Array Value):results fn tmps=(do
 let vs <- fn.results.mapM (Z8r tmps)
 pure (if h:vs.size=1 then vs[0] else .tuple vs)):=rfl
section
variable {P:Program} [KD P] {n:Nat}
theorem Z73 (L:Lc):∀ (l:List V) (k:Nat),ge L (Z5N k l)=Z2P (gl L l) k
 | [],k=>rfl
 | v :: r, k => by
   show (k,ga L v) :: ge L (Z5N (k+1) r)=_;rw [Z73 L r (k+1)];rfl
theorem Z74:∀ (l:List V) (k t:Nat) (v:V),lk (Z5N k l) t=some v->v∈l
 | [],k,t,v,h=>by cases h
 | u :: r, k, t, v, h => by
   simp only [Z5N] at h;rw [Z3p] at h;by_cases hb:k=t;rw [if_pos hb] at h;simp only [Xi] at h;subst h;exact .head _;rw [if_neg hb] at h;exact .tail _ (Z74 r (k+1) t v h)
theorem Z0g {P:Program} {L:Lc} {e:AE} {s:S} {w} (hR:Rel L s w) {x:ResultVar} {v:V} (h:Z3Q P e s x=some v) {a:Act} (ha:Has n (ge L e) a):(Z8r a.tmps x).run P w=.ok (ga L v) w:=by
 cases x with
 | tmp t=>
   have:=ha.vals t (ga L v) (by rw [JZ];simp only [Z3Q] at h;rw [h];rfl);simp only [Z8r,this];rfl
 | cell t T=>
   simp only [Z3Q] at h;split at h;rename_i b D h1 h2;have hu:Und P T D:=⟨h2⟩
   have hp:=ha.vals t (.pointer (some ⟨(L b).1,0,none⟩)) (by rw [JZ,h1];rfl);have oe:(asAddr (a.tmps[t]?.getD undef)).run P w=.ok ⟨(L b).1,0,none⟩ w:=by rw [<- XD,hp];rfl
   split at h;rename_i cs h3;split at h;rename_i k hA h4;have hs:Siz P T k:=⟨h4⟩
   obtain ⟨hk,h⟩:=Jv h;simp only [Xi] at h;subst h;have bC:=Xk hk;have h5:=run_loadCells_list (P:=P) w ⟨(L b).1,0,none⟩ (gl L cs) (λj v hv=>by
    rw [Addr.add_lit,XL];rw [Z5r,XB] at hv;obtain ⟨u,ii,rfl⟩:=hv;exact Z2k hR h3 ii)
   rw [ZV,bC] at h5;simp [Z8r,oe,loadVar,Und.isAgg,hA,Siz.run,h5,ga];rename_i _ hA;have h5:=Z2k hR h3 h;simp [Z8r,oe,loadVar,Und.isAgg,hA,h5];cases h;cases h;cases h
theorem ZaO {P:Program} {fn:Func} {L:Lc} {e:AE} {s:S} {w} (hR:Rel L s w) {v:V} (h:Z9W P e s fn.results.toList=some v) {a:Act} (ha:Has n (ge L e) a):(results fn a.tmps).run P w=.ok (ga L v) w:=by
 rw [Z5O];obtain ⟨rs,qY⟩:∃ rs,fn.results=List.toArray rs:=⟨fn.results.toList,by rw [XK]⟩
 rw [qY] at h ⊢;simp only at h
 match rs,h with
 | [],h=>simp only [Z9W,Xi] at h;subst h;simp;rfl
 | [x], h=>
   have h1:=Z0g hR (x:=x) h ha;simp [h1]
 | [x, y], h=>
   simp only [Z9W] at h;split at h;rename_i p q e1 e2;simp only [Xi] at h;subst h;have h1:=Z0g hR e1 ha;have h2:=Z0g hR e2 ha;simp [h1,h2,ga,gl];cases h
 | [x, y, z], h=>
   simp only [Z9W] at h;split at h;rename_i p q r e1 e2 e3;simp only [Xi] at h;subst h;have h1:=Z0g hR e1 ha;have h2:=Z0g hR e2 ha;have h3:=Z0g hR e3 ha;simp [h1,h2,h3,ga,gl];cases h
 | [x, y, z, u], h=>
   simp only [Z9W] at h;split at h;rename_i p q r o e1 e2 e3 e4;simp only [Xi] at h;subst h;have h1:=Z0g hR e1 ha;have h2:=Z0g hR e2 ha;have h3:=Z0g hR e3 ha;have h4:=Z0g hR e4 ha;simp [h1,h2,h3,h4,ga,gl];cases h
 | _ :: _ :: _ :: _ :: _ :: _,h=>cases h
theorem ZeI {L L':Lc} {s s1 s2:S} {w w':World} {v v2:V} {w1 ws:List Nat} (hR:Rel L s w) (a1:Nx s s1 L L' w w' w1) (a2:Rel L' s1 w') (h:gcS s v s1 w1=(v2,s2,ws)):∃ L2,Nx s s2 L L2 w w' ws/\Rel L2 s2 w'/\ga L' v=ga L2 v2:=by
 have shr:Nx s s1 L L' w w' (w1.filter (λk=>Nat.blt k s.n)):=a1.sub (λk hk eh=>YaY.2 ⟨hk,XN eh⟩);unfold gcS at h;split at h
 . rename_i hf
   rw [hf] at shr;cases hb:bd s.n v with
   | true=>
     rw [hb] at h;cases h;have hT:Stp [] w w':=by simpa [ids] using shr.st
     exact ⟨L,⟨Xq _,λ_ _=>rfl,λk h1 h2=>absurd h2 (YaK.2 h1),by simpa [ids] using hT⟩,hR.up hT,Z4e a1.ag v hb⟩
   | false=>rw [hb] at h;cases h;exact ⟨L',shr,a2,rfl⟩
 cases h;exact ⟨L',shr,a2,rfl⟩
theorem Zhl {call:Cf} {od:Nat->Option (List Nat×List (Nat×Nat))} (hC:Z2Z P call) (hm:P.follows .mixedOrders=true) {fn:Func} {c:Code} (hK:chkC od c=true) {f:Nat} (hf:P.funcs[f]?=some fn) (hb:fn.body=some c) {args:List V} {s:S} {v:V} {s':S} {ws:List Nat}
 (hl:Nat.ble args.length fn.ntmps=true) (h:Zhk P fn s (Z00 P call od fn.ntmps c (Z5N 0 args) s)=some (v,s',ws)) (hB:bl s.n args=true) {L:Lc} {w} (hR:Rel L s w) :
 Calls P f (gl L args).toArray w (Ret λu w'=>∃ L',Nx s s' L L' w w' ws/\Rel L' s' w'/\u=ga L' v):=by
 refine JM (n:=fn.ntmps) hf hb rfl (by simpa [ZV] using hl) ?_;have hz:=Z73 L args 0;have hE:EB s.n (Z5N 0 args):=λt v hv=>(Z1d s.n args).1 hB v (Z74 args 0 t v hv);rw [show ((gl L args).toArray).toList=gl L args from rfl,<- hz];cases hc:Z00 P call od fn.ntmps c (Z5N 0 args) s with
 | none=>rw [hc] at h;cases h
 | some q=>
   obtain ⟨x,e1,s1,w1⟩:=q;rw [hc] at h;refine Z8q hC hm hK hc hR hE (λL' w' a1 a2 a3=>?_);cases x with
   | n=>
     simp only [Zhk] at h;split at h;rename_i hr;simp only [Xi] at h;obtain ⟨L2,g1,g2,g3⟩:=ZeI hR a1 a2 h;exact Z6k (Array.toList_eq_nil_iff.1 hr) ⟨_,rfl,L2,g1,g2,g3⟩;cases h
   | r=>
     simp only [Zhk] at h;split at h;rename_i v' hr;simp only [Xi] at h;obtain ⟨L2,g1,g2,g3⟩:=ZeI hR a1 a2 h;exact ⟨λa ha=>⟨ha.defers,_,ZaO a2 hr ha,_,rfl,L2,g1,g2,g3⟩⟩;cases h
   | x i=>cases h
def Zhm (P:Program) (od:Od):Prop:=∀ (f:Nat) (fn:Func) (c:Code),P.funcs[f]?=some fn->fn.body=some c->chkC (odS f od) c=true
theorem Z9X {od:Od} {hk:Hk} (hO:Zhm P od) (hm:P.follows .mixedOrders=true) (hN:∀ (f:Nat) (fn:Func),P.funcs[f]?=some fn->(fn.name == "runtime.NumGoroutine")=false) (hH:ZkS P hk):∀ k,Z2Z P (fnS P od hk k)
 | 0=>λf args s v s' ws h=>by cases h
 | k + 1 => λf args s v s' ws h hB L w hR => by
   have ih:=Z9X (od:=od) hO hm hN hH k;simp only [fnS] at h;split at h;rename_i r hr;subst h;exact hH _ ih f args s v s' ws hr hB L w hR;split at h;rename_i fn hf;split at h;rename_i c hb;obtain ⟨hl,h⟩:=Jv h;exact ⟨enters_of hf (hN f fn hf) hb,Zhl ih hm (hO f fn c hf hb) hf hb hl h hB hR⟩;cases h;cases h
end
def dfS:Code->Option (Array Oper×List Oper×Operand×Array TypeId×TypeId×String×Array Edge)
 | .region id ops false => match ops.toList.reverse with
   | ⟨none,.defer ⟨.value t,⟨[]⟩,ts⟩,ty,pos,af,none⟩ :: r=>some (ops,r.reverse,t,ts,ty,pos,af)
   | _=>none
 | _=>none
noncomputable def ZeJ (P:Program) [KD P] (call:Cf) (od:Nat->Option (List Nat×List (Nat×Nat))) (n:Nat) (nop:Nat->Nat->Bool) (fn:Func):Code->AE->S->Option (V×S×List Nat)
 | .seq a b, e, s => match dfS a with
   | some (ops, l, t, _) => match Z8m P call n ops l e s with
     | some (e1, s1, w1) => match evv e1 t with
       | some (.f g [] cap) => match nop g cap.length with
         | true => match Z00 P call od n b e1 s1 with
           | some (.r, e2, s2, w2) => match Z9W P e2 s2 fn.results.toList with
             | some v=>some (v,s2,w1++w2)
             | none=>none
           | _=>none
         | false=>none
       | _=>none
     | none=>none
   | none => match Z00 P call od n a e s with
     | some (.n, e1, s1, w1) => match ZeJ P call od n nop fn b e1 s1 with
       | some (v,s2,w2)=>some (v,s2,w1++w2)
       | none=>none
     | _=>none
 | _,_,_=>none
section
variable {P:Program} [KD P] {n:Nat} {call:Cf} {od:Nat->Option (List Nat×List (Nat×Nat))} {ds:List Deferred}
theorem ZkT {c:Code} {ops:Array Oper} {l:List Oper} {t:Operand} {ts:Array TypeId} {ty:TypeId} {pos:String} {af:Array Edge} (h:dfS c=some (ops,l,t,ts,ty,pos,af)) :
 (∃ id,c=.region id ops false)/\ops.toList=l++[⟨none,.defer ⟨.value t,#[],ts⟩,ty,pos,af,none⟩]:=by
 unfold dfS at h;split at h;rename_i id ops';split at h;rename_i r hr;simp only [Xi,XC] at h;obtain ⟨rfl,rfl,rfl,rfl,rfl,rfl,rfl⟩:=h;refine ⟨⟨id,rfl⟩,?_⟩;have:=congrArg List.reverse hr;simpa using this;cases h;cases h
def ZeK (P:Program) (nop:Nat->Nat->Bool):Prop:=∀ g k,nop g k=true->(∃ fn',Fun P g fn')/\∀ (cap:List Value) (w:World),cap.length=k->CallsD P g cap.toArray .returning w (λe u' w'=>∃ v,e=.returned v/\(u'=.returning/\Stp [] w w'))
theorem Zhn {nop:Nat->Nat->Bool} {fn:Func} (hC:Z2Z P call) (hm:P.follows .mixedOrders=true) (hN:ZeK P nop):∀ (c:Code),chkC od c=true->∀ (e:AE) (s:S) (v:V) (s':S) (ws:List Nat) (L:Lc) (w) (R:Ending->World->Prop),ZeJ P call od n nop fn c e s=some (v,s',ws)->Rel L s w->EB s.n e->
 (∀ L' w',Nx s s' L L' w w' ws->Rel L' s' w'->R (.returned (ga L' v)) w')->WC P n c (bodyPostD P fn R) (ge L e) w:=by
 intro c
 induction c with
 | seq a b iha ihb=>
   intro hK e s v s' ws L w R h hR hE k;simp only [chkC,Xa] at hK;replace ihb:=ihb hK.2;simp only [ZeJ] at h;split at h;rename_i ops l t q hd;obtain ⟨ts,ty,pos,af⟩:=q;obtain ⟨⟨id,rfl⟩,mK⟩:=ZkT hd;split at h;rename_i e1 s1 w1 h1;split at h;rename_i g cap gw;split at h;rename_i hn;split at h;rename_i e2 s2 w2 h2;split at h;rename_i v2 hv;simp only [Xi,XC] at h;obtain ⟨rfl,rfl,rfl⟩:=h;obtain ⟨⟨fn',hF⟩,mL⟩:=hN g _ hn;refine Z2O ?_;have:=Z0y (P:=P) (n:=n) (id:=id) (Q:=Exit.then (λa w=>b.wp P (bodyPostD P fn R) a w) (bodyPostD P fn R)) (e:=ge L e) (w:=w) (l:=ops.toList) (by
    rw [XK,mK];refine Z2l hC l e s e1 s1 w1 L w h1 hR hE (λL1 y1 a1 a2 a3=>?_);refine Zed (fv:=.func g) (cap:=(gl L1 cap).toArray) (Zm a2.g gw) ?_;refine ⟨Z8o hC hm b hK.2 _ e1 s1 .r e2 s2 w2 L1 y1 _ h2 a2 a3 (λL2 y2 b1 b2 b3=>⟨λact ha=>?_⟩)⟩;show Leaves _ _ act.tmps _ (act.defers++_) .returning _;rw [ha.defers];refine Z9y (f:=g) (by simp) (mL (gl L1 cap) y2 (by rw [ZV])) ?_;rintro _ u' y3 ⟨rfl,hT⟩;have og:=b2.up hT;have ji:Nx s2 s2 L2 L2 y2 y3 []:=⟨Xq _,λ_ _=>rfl,λj h1 h2=>absurd h2 (YaK.2 h1),hT⟩
    exact ⟨rfl,_,ZaO og hv ha,k L2 y3 (by simpa using (a1.trans b1).trans ji) og⟩)
   rwa [XK] at this
   cases h;cases h;cases h;cases h;cases h;split at h;rename_i e1 s1 w1 h1;split at h;rename_i v2 s2 w2 h2;simp only [Xi,XC] at h;obtain ⟨rfl,rfl,rfl⟩:=h;exact Z2O (Z8q hC hm hK.1 h1 hR hE (λL1 y1 a1 a2 a3=>Z2n (ihb e1 s1 v2 s2 w2 L1 y1 R h2 a2 a3 (λL2 y2 b1 b2=>k L2 y2 (a1.trans b1) b2))));cases h;cases h
 | _=>
   intro hK e s v s' ws L w R h hR hE k;simp only [ZeJ] at h;cases h
end
noncomputable def ZkU (P:Program) [KD P] (od:Od) (nop:Nat->Nat->Bool) (call:Cf) (f:Nat) (args:List V) (s:S):Option (V×S×List Nat):=match P.funcs[f]? with
 | some fn => match fn.body with
   | some c => bif Nat.ble args.length fn.ntmps then (match ZeJ P call (odS f od) fn.ntmps nop fn c (Z5N 0 args) s with
     | some (v,s1,ws)=>some (v,s1,ws.filter (λk=>Nat.blt k s.n))
     | none=>none) else none
   | none=>none
 | none=>none
theorem Zho {P:Program} [KD P] {od:Od} (hO:Zhm P od) {nop:Nat->Nat->Bool} {call:Cf} (hC:Z2Z P call) (hm:P.follows .mixedOrders=true) (hN:ZeK P nop) {f:Nat} {args:List V} {s:S} {v:V} {s':S} {ws:List Nat} (h:ZkU P od nop call f args s=some (v,s',ws)) (hB:bl s.n args=true) {L:Lc} {w} (hR:Rel L s w) :
 Calls P f (gl L args).toArray w (Ret λu w'=>∃ L',Nx s s' L L' w w' ws/\Rel L' s' w'/\u=ga L' v):=by
 unfold ZkU at h;split at h;rename_i fn hf;split at h;rename_i c hb;obtain ⟨hl,h⟩:=Jv h;split at h;rename_i v1 s1 w1 h1;simp only [Xi,XC] at h;obtain ⟨rfl,rfl,rfl⟩:=h;refine Z6S (n:=fn.ntmps) hf hb rfl (by simpa [ZV] using hl) ?_;rw [show ((gl L args).toArray).toList=gl L args from rfl,<- Z73 L args 0];exact Zhn hC hm hN c (hO f fn c hf hb) _ _ _ _ _ L w _ h1 hR (λt v hv=>(Z1d s.n args).1 hB v (Z74 args 0 t v hv)) (λL' w' a1 a2=>⟨_,rfl,L',a1.sub (λk hk eh=>YaY.2 ⟨hk,XN eh⟩),a2,rfl⟩);cases h;cases h;cases h
end Go.Sim
namespace Go.Proofs.YteibicnbkggiiaaGreatDoor
open Go Go.Eng Go.RowKit Go.Proofs
theorem Zo4 {P:Program} {n:Nat} {Q:Exit->Act->World->Prop} {e:Env} {w} {ops:Array Oper} {rest:List Oper} {am:Nat} {ty:TypeId} {pos:String} {af:Array Edge} {t u:Nat} {x:Operand} {ds:TypeDesc} [hu:Und P t ds] (qZ:∃ l,ds=.interface l) (hx:ev e x=some .nilIface) (aw:Nat.blt am n=true) (kk:WL P n ops Q rest ((am,.B false) :: e) w) :
 WL P n ops Q (⟨some am,.binOp .neq t x (.const .nilIface) u,ty,pos,af,none⟩ :: rest) e w:=by
 refine Zf (v:=.B false) ⟨λa ha=>?_⟩ aw kk;obtain ⟨l,rfl⟩:=qZ;have hy:a.eval (.const .nilIface)=.nilIface:=rfl;simp only [execOp,ha.ev hx,hy];have:=run_equal_nil_nil (P:=P) (w:=w) t (by rw [hu.h,Program.methodsAt,hu.h]);simp [go_sem,binOp,eqGuard,this]
theorem ZbR (w) (el:TypeId) (t:ByteArray):Stp [] w (Lib.bytesWorld w el t):=by
 refine ⟨rfl,rfl,rfl,?_,λb hb _=>Lib.bytesWorld_at_old w el _ b hb⟩;rw [Lib.bytesWorld_size];omega
open Go Go.Eng Go.RowKit Go.Proofs Go.Sim
def ZkV (g k:Nat):Bool:=Nat.beq g 178 && Nat.beq k 4
def Z9Y (b:Bool) (v:V) (s:S):Option (Option (V×S×List Nat)):=some (bif b then some (v,s,[]) else none)
def kdI:V->Option Int
 | .i .i64 n=>some n
 | _=>none
def kdS:V->Option Str
 | .s t=>some t
 | _=>none
def kdF:V->Option Fct
 | .a [.i .i64 a,.s b,.i .i64 c,.i .i64 d,.i .i64 e,.i .i64 f]=>some ⟨a,b,c,d,e,f⟩
 | _=>none
def kdG:V->Option Sig
 | .a [.i .i64 a,.s b,.i .i64 c,.i .i64 d,.i .i64 e]=>some ⟨a,b,c,d,e⟩
 | _=>none
instance:KD Tryz.prog where
 l := [⟨3, Int, inferInstance, inferInstance, kdI, λL v a h => by unfold kdI at h; split at h <;> cases h; rfl⟩,
   ⟨9,Str,inferInstance,inferInstance,kdS,λL v a h=>by unfold kdS at h;split at h<;>cases h;rfl⟩,
   ⟨24,Fct,inferInstance,inferInstance,kdF,λL v a h=>by unfold kdF at h;split at h<;>cases h;rfl⟩,
   ⟨331,Sig,inferInstance,inferInstance,kdG,λL v a h=>by unfold kdG at h;split at h<;>cases h;rfl⟩]
theorem ZhG {α:Type} [Z3 α] (w):SlV [] w (.N) ([]:List α):=⟨none,0,rfl,Xq _,by decide,λ_=>rfl,λi hi=>absurd hi (Xs i)⟩
def ZkW (p:Z8Q):V×V:=(.a [.i .i64 p.1.kind,.s p.1.s,.i .i64 p.1.a,.i .i64 p.1.b,.i .i64 p.1.c],Sim.ofC p.2)
def eqN:List V->List Int->Bool
 | [],[]=>true
 | .i .i64 a :: r,b :: t=>decide (a=b) && eqN r t
 | _,_=>false
theorem ZeL:∀ {cs:List V} {l:List Int},eqN cs l=true->cs=l.map (.i .i64)
 | [],[],_=>rfl
 | .i .i64 a :: r, b :: t, h => by
   simp only [eqN,Xa,decide_eq_true_eq] at h;rw [h.1,ZeL h.2];rfl
 | [],_ :: _,h=>by cases h
 | .i .i64 a :: r,[],h=>by cases h
noncomputable def roN (s:S) (g:Nat) (l:List Int):Bool:=match s.m.get g with
 | some (.ro cs)=>eqN cs l
 | _=>false
theorem ZeM {L:Lc} {s:S} {w} (hR:Rel L s w) {g:Nat} {l:List Int} (hg:g<64) (h:roN s g l=true):∀ i u,l[i]?=some u->w.cell? ⟨g,i,none⟩=some (.I u):=by
 unfold roN at h;split at h;rename_i cs hc;have:=(hR.ob g _ hc).2;rw [hR.g g hg,ZeL h] at this;intro i u hu;exact this i _ (by rw [Yac,hu];rfl);cases h
noncomputable def gH (od:Od):Hk:=λcall f args s=>match args with
 | [.s t, .i k c] => match k with
   | .i32=>bif Nat.beq f 222 then Z9Y (decide (0<=c) && decide (c<128)) (.b (decide (0<=Lib.indexByte t c.toNat.toUInt8))) s else none
   | .u8=>bif Nat.beq f 272 then Z9Y true (.i .i64 (Lib.indexByte t c.toNat.toUInt8)) s else none
   | _=>none
 | [.s a, .s b] => bif Nat.beq f 213 then (match s.m.get 2 with
   | some .ig=>Z9Y (Nat.blt a.length 4294967281) (.b (Lib.contains a b)) s
   | _=>some none) else none
 | [.s t] => bif Nat.beq f 275 then (match Lib.atoiAll t with
   | .ok v=>Z9Y (Nat.ble t.length 1000000) (.t [.i .i64 v,.c .nilIface]) s
   | _=>some none) else none
 | [] => bif Nat.beq f 282 then (match Z3s s (.mp (Z1k.map ZkW)) with
   | some s'=>some (some (.m s.n,s',[]))
   | none=>some none) else none
 | [.a [.b b0, .b b1, .b b2, .b b3, .b b4, .b b5, .b b6, .c (.N), .c (.N), z1, z2, z3], .i .i64 d, .i .i64 kn] => bif Nat.beq f 134 then
    Z9Y (roN s 1 Z1n && roN s 5 Z2d) (.t [.i .i64 (Z12 (Z02 ⟨[b0,b1,b2,b3,b4,b5,b6],[],[]⟩ kn) 1 d).1,.i .i64 (Z12 (Z02 ⟨[b0,b1,b2,b3,b4,b5,b6],[],[]⟩ kn) 1 d).2]) s else none
 | [.s t,.f g x y]=>bif Nat.beq f 115 then some (ZkU Tryz.prog od ZkV call f args s) else none
 | _=>none
theorem ZeN (w):(Instr.typeAssert .nilIface 20 248 true).run Tryz.prog w=.ok (.tuple #[.agg #[.I 0,.I 0],.B false]) w:=by kernel_rfl
theorem ZbS (v7 v4 v5 v6:Value) (w) :
 CallsD Tryz.prog 178 #[v7,v4,v5,v6] .returning w (λe u' w'=>∃ v,e=.returned v/\(u'=.returning/\Stp [] w w')):=by
 refine callsD_of_wpS Tryz.func178 rfl λeP cs hu=>?_;have hc:eP={ eP with mode:=.returning }:=by rw [<- hu]
 apply wpS_seq;apply wpS_region;simp [wpOpsS,go_sem,recoverD,hu,Tryz.ntmps178,Exit.thenS];rw [hc];refine ZbE (n:=22) (e:=[(0,v7),(1,v4),(2,v5),(3,v6),(4,.nilIface)]) (Has.of rfl (by simp) (by
  intro p hp;simp only [Xg,Xm,or_false] at hp;rcases hp with rfl|rfl|rfl|rfl|rfl<;>kernel_rfl)) ?_
 refine W ?_;refine Zf (Z5F rfl ZeN) rfl ?_;refine W ?_;refine Z1 Z9 rfl ?_;rintro _ w1 ⟨bf,rfl,rW,ef,hT⟩;refine SB (us:=[.I 0,.I 0]) (by intro u hu;simp at hu;rcases hu with rfl|rfl<;>rfl) ef ?_;rintro _ w2 ⟨aQ,ef'⟩;have hS:=hT.ow aQ;refine W ?_;refine Zo4 ⟨_,rfl⟩ rfl rfl ?_;refine W ?_;first|refine Za9 rfl ?_|refine Z6k rfl ?_
 exact ⟨⟨_,rfl⟩,rfl,hS⟩
theorem Zhp:ZeK Tryz.prog ZkV:=by
 intro g k h;unfold ZkV at h;simp only [Xa] at h;have h1:=Xk h.1;have h2:=Xk h.2;subst h1 h2;refine ⟨⟨_,inferInstance⟩,λcap w hc=>?_⟩
 match cap,hc with
 | [a,b,c,d],_=>exact ZbS a b c d w
theorem Z3t {b:Bool} {v u:V} {s s':S} {ws:List Nat} (h:Z9Y b v s=some (some (u,s',ws))):b=true/\u=v/\s'=s/\ws=[]:=by
 unfold Z9Y at h;cases b with
 | false=>cases h
 | true=>cases h;exact ⟨rfl,rfl,rfl,rfl⟩
theorem ZeO (od:Od) (hO:Zhm Tryz.prog od):ZkS Tryz.prog (gH od):=by
 intro call hC f args s v s' ws h hB L w hR;have same:∀ {u:Value} {w':World},Stp [] w w'->u=ga L v->s'=s->ws=[]->∃ L',Nx s s' L L' w w' ws/\Rel L' s' w'/\u=ga L' v:=by
  rintro u w' hT rfl rfl rfl;exact ⟨L,⟨Xq _,λ_ _=>rfl,λj h1 h2=>absurd h2 (YaK.2 h1),hT⟩,hR.up hT,rfl⟩
 unfold gH at h;split at h;rename_i t k c;split at h;obtain ⟨h1,h2⟩:=Jv h;have:=Xk h1;subst this;obtain ⟨h3,rfl,rfl,rfl⟩:=Z3t h2;simp only [Xa,decide_eq_true_eq] at h3;refine ⟨Fun.enters,(Tryz.strings_ContainsRune_ascii ⟨t.toArray⟩ c w h3.1 h3.2).mono ?_⟩;rintro e w' ⟨rfl,rfl⟩;exact ⟨_,rfl,same (Stp.refl _ _) rfl rfl rfl⟩;obtain ⟨h1,h2⟩:=Jv h;have:=Xk h1;subst this;obtain ⟨h3,rfl,rfl,rfl⟩:=Z3t h2;refine ⟨Fun.enters,(Tryz.strings_IndexByte ⟨t.toArray⟩ c w).mono ?_⟩;rintro e w' ⟨rfl,rfl⟩;exact ⟨_,rfl,same (Stp.refl _ _) rfl rfl rfl⟩;cases h;rename_i a b;obtain ⟨h1,h2⟩:=Jv h;have:=Xk h1;subst this;split at h2;rename_i hg;obtain ⟨h3,rfl,rfl,rfl⟩:=Z3t h2;obtain ⟨_,m,cA⟩:=hR.ob _ _ hg;rw [hR.g _ (by decide)] at cA;refine ⟨Fun.enters,(Tryz.strings_Contains ⟨a.toArray⟩ ⟨b.toArray⟩ m w (by rw [Jb];exact Xe h3) cA).mono ?_⟩;rintro e w' ⟨rfl,rfl⟩;exact ⟨_,rfl,same (Stp.refl _ _) rfl rfl rfl⟩;cases h2;rename_i t;obtain ⟨h1,h2⟩:=Jv h;have:=Xk h1;subst this;split at h2;rename_i x hx;obtain ⟨h3,rfl,rfl,rfl⟩:=Z3t h2;have:=Xe h3;refine ⟨Fun.enters,(Tryz.strconv_Atoi_ok ⟨t.toArray⟩ (by rw [Jb];omega) x (by simpa using hx) w).mono ?_⟩;rintro e w' ⟨rfl,hw⟩;refine ⟨_,rfl,same ?_ rfl rfl rfl⟩;rcases hw with rfl|⟨x,rfl⟩
 exact Stp.refl _ _;exact ZbR _ _ _;cases h2;obtain ⟨h1,h2⟩:=Jv h;have:=Xk h1;subst this;split at h2;rename_i s1 hn;cases h2;refine ⟨Fun.enters,(Z1K w).mono ?_⟩;rintro _ w' ⟨u,rfl,m,l,rfl,⟨es,c,q1,q2,q3⟩,hp,hT,hm⟩;have bp:Ob (upd L s.n (m,0)) w' s.n (.mp (Z1k.map ZkW)):=⟨l.map ZkW,hp.map _,es,c,by rw [ZG];exact q1,by rw [q2,X8];rfl,by rw [q3,X8];exact YaU λp _=>by show p.2=ga _ (Sim.ofC p.2);rw [Z5q]⟩
 obtain ⟨a1,a2,a3⟩:=hR.new hn hT hm bp;exact ⟨_,rfl,_,a2,a1,by simp only [ga,ZG]⟩;cases h2;rename_i b0 b1 b2 b3 b4 b5 b6 z1 z2 z3 d kn;obtain ⟨h1,h2⟩:=Jv h;have:=Xk h1;subst this;obtain ⟨h3,rfl,rfl,rfl⟩:=Z3t h2;simp only [Xa] at h3;have hc:Z5D w ⟨[b0,b1,b2,b3,b4,b5,b6],[],[]⟩ (.N) (.N) (ga L z1) (ga L z2) (ga L z3):=⟨ZhG _,ZhG _,ZeM hR (by decide) h3.1,ZeM hR (by decide) h3.2,⟨rfl,by simp,by simp⟩⟩
 refine ⟨Fun.enters,(ZbA d kn _ _ _ _ _ _ w hc).mono ?_⟩;rintro _ w' ⟨u,rfl,rfl,hT⟩;exact ⟨_,rfl,same hT rfl rfl rfl⟩;rename_i t g x y;obtain ⟨h1,h2⟩:=Jv h;have:=Xk h1;subst this;exact ⟨Fun.enters,Zho hO hC mixed Zhp (XT h2) hB hR⟩;cases h
end Go.Proofs.YteibicnbkggiiaaGreatDoor
namespace Go.Sim
open Go Go.Eng Go.RowKit Go.Proofs
mutual
def eqV:V->V->Bool
 | .i k a,.i k' b=>decide (k=k') && decide (a=b)
 | .b x,.b y=>decide (x=y)
 | .s a,.s b=>decide (a=b)
 | .p b o,.p b' o'=>Nat.beq b b' && Nat.beq o o'
 | .l b o,.l b' o'=>Nat.beq b b' && Nat.beq o o'
 | .a l,.a l'=>eqL l l'
 | .t l,.t l'=>eqL l l'
 | .c (.N),.c (.N)=>true
 | _,_=>false
def eqL:List V->List V->Bool
 | [],[]=>true
 | a :: r,b :: t=>eqV a b && eqL r t
 | _,_=>false
end
mutual
theorem ZeP:∀ a b,eqV a b=true->a=b
 | .i k a,b,h=>by cases b<;>first|(cases h;done)|(simp only [eqV,Xa,decide_eq_true_eq] at h;rw [h.1,h.2])
 | .b x,b,h=>by cases b<;>first|(cases h;done)|(simp only [eqV,decide_eq_true_eq] at h;rw [h])
 | .s x,b,h=>by cases b<;>first|(cases h;done)|(simp only [eqV,decide_eq_true_eq] at h;rw [h])
 | .p x o,b,h=>by cases b<;>first|(cases h;done)|(simp only [eqV,Xa] at h;rw [Xk h.1,Xk h.2])
 | .l x o,b,h=>by cases b<;>first|(cases h;done)|(simp only [eqV,Xa] at h;rw [Xk h.1,Xk h.2])
 | .a l,b,h=>by cases b<;>first|(cases h;done)|(simp only [eqV] at h;rw [Z3R l _ h])
 | .t l,b,h=>by cases b<;>first|(cases h;done)|(simp only [eqV] at h;rw [Z3R l _ h])
 | .c v, b, h => by
   unfold eqV at h;split at h<;>first|(cases h;done)|simp_all
 | .f ..,b,h=>by cases b<;>cases h
 | .m ..,b,h=>by cases b<;>cases h
 | .q ..,b,h=>by cases b<;>cases h
 | .z ..,b,h=>by cases b<;>cases h
theorem Z3R:∀ l t,eqL l t=true->l=t
 | [],[],_=>rfl
 | a :: r, b :: t, h => by
   simp only [eqL,Xa] at h;rw [ZeP a b h.1,Z3R r t h.2]
 | [],_ :: _,h=>by cases h
 | _ :: _,[],h=>by cases h
end
def eqO:O->O->Bool
 | .c T z cs,.c T' z' cs'=>Nat.beq T T' && Nat.beq z z' && eqL cs cs'
 | .ro cs,.ro cs'=>eqL cs cs'
 | .ig,.ig=>true
 | _,_=>false
theorem ZkX {a b:O} (h:eqO a b=true):a=b:=by
 unfold eqO at h;split at h;simp only [Xa] at h;rw [Xk h.1.1,Xk h.1.2,Z3R _ _ h.2];rw [Z3R _ _ h];rfl;cases h
noncomputable def Z9Z (a s:S):Bool:=Nat.beq a.n s.n && a.m.all λp=>match p.2,s.m.get p.1 with
 | some o,some o'=>eqO o o'
 | none,_=>true
 | _,_=>false
theorem ZeQ {α:Type}:∀ {l:List (Nat×α)} {k:Nat} {v:α},lk l k=some v->(k,v)∈l
 | [],_,_,h=>by cases h
 | (j, u) :: r, k, v, h => by
   rw [Z3p] at h;by_cases e:j=k;rw [if_pos e] at h;cases h;subst e;exact .head _;rw [if_neg e] at h;exact .tail _ (ZeQ h)
theorem ZaP {α:Type} {t:Tr α} {k:Nat} {v:α} (h:t.get k=some v):(k,some v)∈t:=by
 unfold Tr.get at h;cases hl:lk t k with
 | none=>rw [hl] at h;cases h
 | some u=>rw [hl] at h;cases h;exact ZeQ hl
theorem Z75 {a s:S} (h:Z9Z a s=true):a.n=s.n/\∀ k o,a.m.get k=some o->s.m.get k=some o:=by
 simp only [Z9Z,Xa] at h;refine ⟨Xk h.1,λk o ho=>?_⟩;have:=Xy.1 h.2 _ (ZaP ho);dsimp only at this;split at this;rename_i o1 o2 h1 h2;cases h1;rw [h2,ZkX this];rename_i h1;cases h1;cases this
theorem Rel.sub {L:Lc} {a s:S} {w} (h:Rel L s w) (hs:Z9Z a s=true):Rel L a w:=by
 obtain ⟨h1,h2⟩:=Z75 hs;refine ⟨h.g,λk o ho=>h.ob k o (h2 k o ho),λk o ho=>by rw [h1];exact h.bn k o (h2 k o ho),λj k hj hk he=>?_,by rw [h1];exact h.n64⟩;obtain ⟨x,hx⟩:=XX.1 hj;obtain ⟨y,hy⟩:=XX.1 hk;exact h.inj j k (by rw [h2 j x hx];rfl) (by rw [h2 k y hy];rfl) he
structure En where
 f:Nat
 args:List V
 a:S
 v:V
 r:Option S
noncomputable def Zhq (f:Nat) (args:List V) (s:S):List En->Option (V×S×List Nat)
 | []=>none
 | E :: t => bif Nat.beq E.f f && eqL E.args args && Z9Z E.a s then (match E.r with
   | none=>some (E.v,s,[])
   | some s1=>some (E.v,s1,[])) else Zhq f args s t
noncomputable def Za0 (E:En):Option (V×S×List Nat)->Bool
 | some (v, s, []) => eqV E.v v && bl E.a.n E.args && (match E.r with
   | none=>bd E.a.n E.v
   | some s1=>Z9Z s1 s)
 | _=>false
def ZkY (P:Program) (E:En):Prop:=∀ L w s,Rel L s w->Z9Z E.a s=true->Enters P E.f/\Calls P E.f (gl L E.args).toArray w (Ret λu w'=>match E.r with
 | none=>u=ga L E.v/\Stp [] w w'
 | some s1=>∃ L',Nx s s1 L L' w w' []/\Rel L' s1 w'/\u=ga L' E.v)
theorem Z3u {P:Program} {call:Cf} (hC:Z2Z P call) {E:En} (h:Za0 E (call E.f E.args E.a)=true):ZkY P E:=by
 intro L w s hR hs;generalize hf:call E.f E.args E.a=r at h;unfold Za0 at h;split at h;rename_i v s1;simp only [Xa] at h;obtain ⟨⟨h1,h2⟩,h3⟩:=h;have h1:=ZeP _ _ h1;subst h1;have hn:=(Z75 hs).1;obtain ⟨q1,q2⟩:=hC _ _ _ _ _ _ hf h2 L w (hR.sub hs);refine ⟨q1,q2.mono ?_⟩;rintro _ w' ⟨u,rfl,L',hN,rb,rfl⟩;refine ⟨_,rfl,?_⟩;split at h3;exact ⟨Z4e hN.ag _ h3,by simpa [ids] using hN.st⟩;rename_i s2 hr;have hm:=(Z75 h3).1;exact ⟨L',⟨by have:=hN.le;omega,λk hk=>hN.ag k (by omega),λk h1 h2=>by have:=hN.nw k (by omega) (by omega);simpa [ids] using this,by simpa [ids] using hN.st⟩,rb.sub h3,rfl⟩;cases h
theorem ZaQ {P:Program} {f:Nat} {args:List V} {s:S}:∀ {t:List En},(∀ E∈t,ZkY P E)->∀ {v s' ws},Zhq f args s t=some (v,s',ws)->bl s.n args=true->∀ L w,Rel L s w->Enters P f/\Calls P f (gl L args).toArray w (Ret λu w'=>∃ L',Nx s s' L L' w w' ws/\Rel L' s' w'/\u=ga L' v)
 | [],_,_,_,_,h,_,_,_,_=>by cases h
 | E :: t, ht, v, s', ws, h, hb, L, w, hR => by
   simp only [Zhq] at h;cases hc:(Nat.beq E.f f && eqL E.args args && Z9Z E.a s) with
   | false=>rw [hc] at h;exact ZaQ (λE' rc=>ht E' (.tail _ rc)) h hb L w hR
   | true=>
     rw [hc] at h;simp only [Xa] at hc;obtain ⟨⟨c1,c2⟩,c3⟩:=hc;have c1:=Xk c1;have c2:=Z3R _ _ c2;subst c1 c2;obtain ⟨q1,q2⟩:=ht E (.head _) L w s hR c3;refine ⟨q1,q2.mono ?_⟩;rintro _ w' ⟨u,rfl,hu⟩;refine ⟨_,rfl,?_⟩;simp only [cond_true] at h;split at h;rename_i hr;rw [hr] at hu;cases h;obtain ⟨rfl,hT⟩:=hu;exact ⟨L,⟨Xq _,λ_ _=>rfl,λj h1 h2=>absurd h2 (YaK.2 h1),by simpa [ids] using hT⟩,hR.up hT,rfl⟩;rename_i s1 hr;rw [hr] at hu;cases h;exact hu
end Go.Sim
namespace Go.Proofs.YteibicnbkggiiaaGreatDoor
open Go Go.Eng Go.RowKit Go.Proofs Go.Sim
def odP:Od:=[(7,20,[],[(0,0),(1,1),(2,0),(3,1),(5,0),(6,1),(8,0),(9,1),(4,2),(7,2),(10,2),(11,2),(12,2),(13,0)]),
 (130,5,[],[(0,0),(1,1),(2,0),(3,0),(4,0),(5,0),(6,1),(7,0),(8,0),(9,0),(10,0),(11,0),(12,0),(13,0),(14,0),(15,1),(16,0),(17,0),(18,0),(19,0),(20,1),(21,0),(22,0),(23,0)]),
 (55,6,[],[(0,0),(1,1),(2,0),(3,0),(4,1),(5,0),(6,1),(7,0),(8,0),(9,1),(10,0)]),
 (14,1,[],[(0,0),(1,1),(2,1),(3,2),(4,2),(5,2),(6,0)]),
 (81,6,[],[(0,0),(1,0),(2,0),(3,1),(4,0),(5,0),(6,0),(7,1),(8,0)]),
 (42,6,[],[(0,0),(1,0),(2,1),(3,1),(4,2),(5,0)]),
 (132,11,[],[(0,0),(2,1),(1,2),(3,0),(4,0),(5,0)]),
 (52,1,[],[(0,0),(1,1),(2,0),(3,1),(5,0),(6,1),(7,0),(8,1),(10,0),(11,1),(12,0),(13,1),(15,0),(16,1),(17,0),(18,1),(20,0),(21,1),(22,0),(23,1),(25,0),(26,1),(27,0),(28,1),(4,2),(9,2),(14,2),(19,2),(24,2),(29,2),(30,2),(31,2),(32,0)]),
 (89,2,[22],[(0,0),(1,1),(2,0),(3,1),(4,0),(5,0),(6,0),(7,1),(8,0),(9,1),(10,0),(11,1),(12,0),(13,0),(14,0),(15,1),(16,0),(17,1),(18,0),(19,1),(20,0),(21,2),(22,2)]),
 (89,3,[],[(0,1),(1,0),(2,1),(3,0),(4,0),(5,0),(6,1),(7,0),(8,0),(9,0),(10,0),(11,1),(12,0),(13,1),(14,0),(15,0),(16,2),(17,0)]),
 (66,3,[],[(0,0),(1,0),(2,0),(4,0),(5,0),(3,9),(6,2),(7,0),(8,2),(9,0)]),
 (201,9,[],[(0,0),(1,0),(2,0),(3,0),(4,1),(5,0),(6,0),(7,0),(8,0),(9,0),(10,1),(11,0),(12,0),(13,0)]),
 (115,8,[],[(0,0),(1,0),(2,0),(3,1),(4,0),(5,0),(6,0),(7,1),(8,0),(9,0),(10,1),(11,0)]),
 (116,2,[],[(0,0),(1,0),(2,0),(3,1),(4,0),(5,0),(6,0),(7,1),(8,0),(9,0),(10,1),(11,0)]),
 (102,1,[],[(0,0),(1,0),(2,0),(3,1),(4,0),(5,0),(6,1),(7,0),(8,0),(9,0),(10,1),(11,0),(12,0),(13,1),(14,2),(15,2),(16,0)]),
 (242,0,[37],[(0,0),(1,0),(2,0),(3,0),(4,1),(5,0),(6,0),(7,0),(8,0),(9,1),(10,0),(11,0),(12,0),(13,0),(14,1),(15,0),(16,0),(17,0),(18,0),(19,1),(20,0),(21,0),(22,0),(23,0),(24,1),(25,0),(26,0),(27,0),(28,0),(29,1),(30,0),(31,0),(32,0),(33,0),(34,1),(35,0),(36,2),(37,2)]),
 (119,4,[],[(0,0),(1,0),(2,0),(3,0),(4,0),(5,0),(6,0),(7,0),(8,1),(9,0),(10,0),(11,0),(12,0),(13,1),(14,2),(15,0),(16,0)]),
 (139,4,[],[(0,0),(1,0),(2,0),(3,0),(4,0),(5,0),(6,0),(7,0),(8,0),(9,0),(10,0),(11,0),(12,0),(13,0),(14,0),(15,0),(16,0),(17,0),(18,0),(19,0),(20,0),(21,0)]),
 (182,1,[11],[(0,0),(1,0),(2,0),(3,1),(4,0),(5,0),(6,0),(7,1),(8,0),(9,1),(10,2),(11,2)]),
 (183,1,[],[(0,0),(1,0),(2,0),(3,1),(4,0),(5,0),(6,0),(7,1),(8,0),(9,0),(10,1),(11,0)]),
 (152,13,[],[(0,0),(2,0),(3,1),(4,0),(5,0),(6,0),(7,1),(8,0),(9,0),(10,0),(11,0),(1,2),(12,0),(13,0)]),
 (152,4,[],[(1,0),(2,1),(3,0),(4,0),(5,0),(6,1),(7,0),(8,0),(9,0),(10,0),(0,2),(11,0),(12,0)]),
 (152,44,[],[(0,0),(1,0),(2,0),(3,0),(4,1),(5,0),(6,0),(7,0),(8,0),(9,0)]),
 (152,6,[],[(1,0),(2,1),(3,0),(4,0),(5,0),(6,1),(7,0),(8,0),(9,0),(10,0),(0,2),(11,0),(12,0)]),
 (153,6,[],[(0,0),(1,0),(2,0),(3,1),(4,0),(5,0),(6,0),(7,1),(8,0)]),
 (155,5,[12,14],[(0,0),(1,0),(2,0),(3,1),(4,0),(5,0),(6,0),(7,0),(8,1),(9,0),(10,0),(11,0),(12,2),(13,0),(14,2)]),
 (232,14,[8],[(0,0),(1,1),(2,0),(3,0),(4,0),(5,2),(6,2),(7,0),(8,2)]),
 (234,19,[],[(1,0),(2,1),(3,0),(4,1),(5,1),(6,0),(0,2),(7,2),(8,0)]),
 (238,8,[],[(1,0),(2,1),(5,0),(0,2),(3,2),(4,0)]),
 (215,1,[],[(0,0),(1,1),(2,0),(3,0),(4,0),(5,1),(6,0),(7,0),(8,0),(9,0),(10,1),(11,0),(12,0),(13,0),(14,0),(15,1),(16,0),(17,0),(18,0),(19,0),(20,1),(21,0),(22,0),(23,0),(24,0),(25,1),(26,0),(27,1),(28,0),(29,1),(30,2),(31,0),(32,0)]),
 (216,1,[],[(0,0),(1,1),(2,0),(3,1),(4,0),(5,0),(6,0)]),
 (278,1,[11],[(0,0),(1,0),(2,0),(3,1),(4,0),(5,0),(6,0),(7,1),(8,0),(9,1),(10,2),(11,2)])]
theorem Zo5:(Tryz.prog.funcs.toList.all λfn=>!(fn.name == "runtime.NumGoroutine"))=true:=by kernel_rfl
theorem ZeR (f:Nat) (fn:Func) (h:Tryz.prog.funcs[f]?=some fn):(fn.name == "runtime.NumGoroutine")=false:=by
 simpa using Xy.1 Zo5 fn (Array.mem_toList_iff.2 (Array.mem_of_getElem? h))
def ZbT (lo hi:Nat):Nat->List Func->Bool
 | _,[]=>true
 | k, fn :: r => (match Nat.ble lo k && Nat.blt k hi, fn.body with
   | true,some c=>Sim.chkC (odS k odP) c
   | _,_=>true) && ZbT lo hi (k+1) r
theorem Z76 (lo hi:Nat):∀ (l:List Func) (k i:Nat) (fn:Func) (c:Code),ZbT lo hi k l=true->l[i]?=some fn->fn.body=some c->lo<=k+i->k+i<hi->Sim.chkC (odS (k+i) odP) c=true
 | [],_,_,_,_,_,h,_,_,_=>by cases h
 | x :: r, k, 0, fn, c, h, bh, hb, h1, h2 => by
   simp only [ZbT,Xa] at h;cases bh;have:=h.1;rw [hb,XN (show lo<=k from h1),show Nat.blt k hi=true from XN h2] at this;exact this
 | x :: r, k, i + 1, fn, c, h, bh, hb, h1, h2 => by
   simp only [ZbT,Xa] at h;have:=Z76 lo hi r (k+1) i fn c h.2 bh hb (by omega) (by omega)
   rwa [show k+1+i=k+(i+1) by omega] at this
theorem Zo6:ZbT 0 150 0 Tryz.prog.funcs.toList=true:=by kernel_rfl
theorem Zo7:ZbT 150 1000 0 Tryz.prog.funcs.toList=true:=by kernel_rfl
theorem Zhr:Nat.ble Tryz.prog.funcs.toList.length 1000=true:=by kernel_rfl
theorem Z77:Zhm Tryz.prog odP:=λf fn c hf hb=>by
 have kG:Tryz.prog.funcs.toList[f]?=some fn:=by rw [YaO];exact hf
 have hl:=(Xu.1 kG).1;have:=Xe Zhr;by_cases h:f<150;have:=Z76 0 150 _ 0 f fn c Zo6 kG hb (by omega) (by omega)
 rwa [XL] at this
 have:=Z76 150 1000 _ 0 f fn c Zo7 kG hb (by omega) (by omega)
 rwa [XL] at this
noncomputable abbrev ZbU (hk:Hk):Sim.Cf:=fnS Tryz.prog odP hk 30
def Zo8:Str:=[114,117,108,101,32,114,32,102,114,111,109,32,64,50,48,50,54,45,48,49,45,48,49,32,123,32,111,110,32,99,108,97,105,109,59,32,100,117,101,32,100,97,121,32,43,32,50,48,32,100,97,121,115,59,32,117,110,108,101,115,115,32,97,110,115,119,101,114,59,32,101,108,115,101,32,108,97,112,115,101,59,32,125]
abbrev nS:V:=.c (.N)
abbrev vI (n:Int):V:=.i .i64 n
abbrev Ms:=List (Nat×Option O)
def m0:Ms:=[(0,some (.ro (Zb.map V.s))),(1,some (.ro (Z1n.map vI))),(5,some (.ro (Z2d.map vI))),(2,some .ig)]
def mC:Ms:=(220,some (.c 174 2 [vI 4,vI 0,vI 1,vI 20,vI 15,vI 0,vI 24,vI 0])) :: (185,some (.c 174 2 [vI 2,vI 1,vI 24,vI 0])) :: (223,some (.c 27 7 [.s [114],vI 739616,.s [99,108,97,105,109],.l 185 2,.l 220 4,.s [97,110,115,119,101,114],.s [108,97,112,115,101]])) :: m0
def clV:List V:=[vI 4,.s [99,108,97,105,109],vI 739616,vI 1,vI 2,vI 50]
def mF:Ms:=(225,some (.c 24 6 clV)) :: mC
def csV (f s:V) (d:Int):V:=.a [f,.l 223 1,nS,nS,s,.b false,.b false,.b false,.b false,.b false,.b false,.b false,nS,nS,vI 0,nS,vI 0,vI 0,vI d]
def Zhs (a:List V) (m:Ms) (n:Nat):En:=⟨42,a,⟨m,n⟩,.b true,none⟩
def E0:En:=⟨41,[.s Zo8],⟨m0,64⟩,.t [.l 223 1,.b true],some ⟨mC,224⟩⟩
def E1:En:=Zhs [csV (.l 225 1) nS 739630,vI 739636,vI 0,nS,nS] mF 233
def E2:En:=Zhs [csV (.l 225 1) nS 739640,vI 739636,vI 2,nS,.l 233 1] ((233,some (.c 24 6 [vI 4,.s [108,97,112,115,101],vI 739637,vI 2,vI 1,vI 50])) :: mF) 234
def E3:En:=Zhs [csV (.l 229 2) nS 739640,vI 739636,vI 1,.l 234 1,nS] ((234,some (.c 104 3 [vI 6,vI 7,vI 739636])) :: (229,some (.c 24 6 (clV++[vI 7,.s [97,110,115,119,101,114],vI 739636,vI 2,vI 0,vI 0]))) :: mC) 235
def E4:En:=Zhs [csV (.l 225 1) (.l 231 1) 739630,vI 739638,vI 0,.l 235 2,nS] ((235,some (.c 104 3 [vI 4,vI 739638,vI 739638,vI 5,vI 739620,vI 739621])) :: (231,some (.c 29 2 [vI 739620,vI 739621])) :: mF) 236
theorem ZoR:Za0 E0 (ZbU (gH odP) E0.f E0.args E0.a)=true:=by kernel_rfl
theorem ZoS:Za0 E1 (ZbU (gH odP) E1.f E1.args E1.a)=true:=by kernel_rfl
theorem ZoT:Za0 E2 (ZbU (gH odP) E2.f E2.args E2.a)=true:=by kernel_rfl
theorem ZoU:Za0 E3 (ZbU (gH odP) E3.f E3.args E3.a)=true:=by kernel_rfl
theorem ZoV:Za0 E4 (ZbU (gH odP) E4.f E4.args E4.a)=true:=by kernel_rfl
def ZkZ:List En:=[E0,E1,E2,E3,E4]
theorem Zl0:∀ E∈ZkZ,ZkY Tryz.prog E:=by
 have hC:=Z9X Z77 mixed ZeR (ZeO odP Z77) 30;intro E hE;simp only [ZkZ,Xg,Xm,or_false] at hE;rcases hE with rfl|rfl|rfl|rfl|rfl
 exact Z3u hC ZoR;exact Z3u hC ZoS;exact Z3u hC ZoT;exact Z3u hC ZoU;exact Z3u hC ZoV
noncomputable def mM:Hk:=λcall f args s=>match Zhq f args s ZkZ with
 | some r=>some (some r)
 | none=>gH odP call f args s
theorem Zl1:ZkS Tryz.prog mM:=by
 intro call hC f args s v s' ws h hB L w hR;unfold mM at h;split at h;rename_i r hr;cases h;exact ZaQ Zl0 hr hB L w hR;exact ZeO odP Z77 call hC f args s v s' ws h hB L w hR
def ZeS:Option (V×S×List Nat)->Bool
 | some (.b true,_,[])=>true
 | _=>false
theorem ZoW:ZeS (ZbU mM 9 [] ⟨m0,64⟩)=true:=by kernel_rfl
theorem Zo9 (m:Int) (w) (hF:SlV [] w Z1R Zb) (fe:Z0o w) (fg:Z1T w) (cA:w.cell? ⟨2,0,none⟩=some (.I m)):Rel (λk=>(k,7)) ⟨m0,64⟩ w:=by
 have hN:∀ {g:Nat} {l:List Int},l≠[]->(∀ i u,l[i]?=some u->w.cell? ⟨g,i,none⟩=some (.I u))->Ob (λk=>(k,7)) w g (.ro (l.map vI)):=λ{g l} hl h=>by
  refine ⟨?_,λi u hu=>?_⟩
  . cases l with
    | nil=>exact absurd rfl hl
    | cons a t=>exact block_lt_of_cell (h 0 a rfl)
  rw [Yac,XB] at hu;obtain ⟨z,hz,rfl⟩:=hu;exact h i z hz
 have hS:Ob (λk=>(k,7)) w 0 (.ro (Zb.map V.s)):=by
  obtain ⟨p,c,he,hl,hm,hn,hc⟩:=hF;cases he;have hc':∀ i (hi:i<Zb.length),w.cell? ⟨0,i,none⟩=some (str Zb[i]):=λi hi=>by
   obtain ⟨b,o,cs,h1,h2,h3,h4,h5⟩:=hc i hi;cases h1;have h4:cs=[str Zb[i]]:=h4;have:=h5 0 (str Zb[i]) (by rw [h4];rfl);simpa [show Z3.k Str=1 from rfl] using this
  refine ⟨block_lt_of_cell (hc' 0 (by decide)),λi u hu=>?_⟩;rw [Yac,XB] at hu;obtain ⟨z,hz,rfl⟩:=hu;obtain ⟨hi,rfl⟩:=Xu.1 hz;exact hc' i hi
 have cs:∀ (k:Nat) (o:O),Tr.get m0 k=some o->k<64/\O.bd 64 o=true/\Ob (λk=>(k,7)) w k o:=λk o h=>by
  have:=ZaP h;simp only [m0,Xg,Xm,or_false,XC,Xi] at this;rcases this with ⟨rfl,rfl⟩|⟨rfl,rfl⟩|⟨rfl,rfl⟩|⟨rfl,rfl⟩
  exact ⟨by decide,by decide +kernel,hS⟩;exact ⟨by decide,by decide +kernel,hN (by decide) fe⟩;exact ⟨by decide,by decide +kernel,hN (by decide) fg⟩;exact ⟨by decide,rfl,block_lt_of_cell cA,m,cA⟩
 exact ⟨λ_ _=>rfl,λk o h=>(cs k o h).2.2,λk o h=>⟨(cs k o h).1,(cs k o h).2.1⟩,λj k _ _ h=>h,Xq _⟩
theorem Zl2 (call:Sim.Cf) (hC:Z2Z Tryz.prog call) (run:ZeS (call 9 [] ⟨m0,64⟩)=true) (m:Int) (w) (hF:SlV [] w Z1R Zb) (fe:Z0o w) (fg:Z1T w) (cA:w.cell? ⟨2,0,none⟩=some (.I m)) :
 CC 9 #[] w λr w'=>r=.B true/\Stp [] w w':=by
 generalize hf:call 9 [] ⟨m0,64⟩=r at run;unfold ZeS at run;split at run;refine (hC _ _ _ _ _ _ hf rfl _ w (Zo9 m w hF fe fg cA)).2.mono ?_;rintro _ w' ⟨u,rfl,L',hN,-,rfl⟩;exact ⟨_,rfl,rfl,by simpa [ids] using hN.st⟩;cases run
theorem Za1 (er:Value) (m:Int) (w) (hF:SlV [] w Z1R Zb) (fe:Z0o w) (fg:Z1T w) (cA:w.cell? ⟨2,0,none⟩=some (.I m)) (eb:w.cell? ⟨4,0,none⟩=some er) (gw:er=.nilIface\/∃ te pe,er=.iface te pe) :
 CC 9 #[] w λr w'=>r=.B true/\Stp [] w w':=Zl2 _ (Z9X Z77 mixed ZeR Zl1 30) ZoW m w hF fe fg cA
theorem Z8s (er:Value) (m:Int) (w) (hF:SlV [] w Z1R Zb) (fe:Z0o w) (fg:Z1T w) (cA:w.cell? ⟨2,0,none⟩=some (.I m)) (eb:w.cell? ⟨4,0,none⟩=some er) (gw:er=.nilIface\/∃ te pe,er=.iface te pe) :
 CC 9 #[] w λr w'=>r=.B true/\Stp [] w w':=Za1 er m w hF fe fg cA eb gw
theorem Zl5 (lv:Value) (l:List Int) (x:Spl) (kc kd rv:Value) (er:Value) (m:Int) (w) (hs:SlV [] w lv l) (hl:∀ a∈l,I64 a) (hx:ZkB w x kc kd rv) (hF:SlV [] w Z1R Zb) (fe:Z0o w) (fg:Z1T w) (cA:w.cell? ⟨2,0,none⟩=some (.I m)) (eb:w.cell? ⟨4,0,none⟩=some er) (gw:er=.nilIface\/∃ te pe,er=.iface te pe) :
 CC 3 #[lv,.agg (spC x kc kd rv).toArray] w λr w'=>r=.B true/\Stp [] w w':=by
 refine cW2 25 Tryz.func3 ?_;refine W ?_;refine BX (Stp.refl [] w) λb3 w1 h3 e3 _ hS=>?_;replace e3:Blk w1 b3 34 (spC x kc kd rv):=e3;refine W ?_;refine CL (Z84 lv l w1 (hs.up hS) hl (fe.up hS) (fg.up hS)) ?_;rintro _ w2 ⟨c,R,rfl,hv,ap,hT,z,sh,h,cU,eo,cn,fL,hh⟩;replace e3:=e3.up hT;replace hS:=hS.trans hT;clear hT;have aT:Z1V w2 c R z sh h:=⟨hv.ff,hv.rr,hv.aa,hv.cc,hv.ss,hv.cal.hols,hv.cal.clos,cU,cn,eo⟩
 have cW:=ap.drv fL hh;have eT:∀ f∈c.fcts,(f.kind.length:Int)<=maxLen:=λf hf=>(Z5p _ (ap.fo f hf).kind).2;have a1:=ap.fl;have a2:=ap.rl;have a3:=ap.al;have a4:=ap.cl;have a5:=ap.sl;clear hv ap cU eo cn;refine Z1 Z9 rfl ?_;rintro _ w3 ⟨b5,rfl,kM,e5,hT⟩;refine SB (us:=Jh c R) aT.cell e5 ?_;rintro _ w4 ⟨hU,e5⟩;replace hT:=hT.ow hU;replace e3:=e3.up hT;replace aT:=aT.up hT;replace hS:=hS.trans hT;clear hT hU;repeat'(first|refine W1 ?_|omega|refine VG ?_ ?_<;>intro hg|refine VC ?_ ?_<;>intro hc)
 refine CM (Zj rfl rfl) (Z9L c R z h sh x kc kd rv w4 aT ⟨hx.kc.up hS,hx.kd.up hS,hx.rv.up hS,hx.what,hx.km⟩ eT (by omega) (by omega) (by omega) (by omega) (by omega)) ?_;rintro _ w5 ⟨⟨d,D,h',rfl,eU,re,oh⟩,hT⟩;replace e5:=e5.up hT;replace aT:=aT.up hT;replace hS:=hS.trans hT;clear hT e3;refine Z1 Z9 rfl ?_;rintro _ w6 ⟨b6,rfl,iH,e6,hT⟩;refine SB (us:=Jh d D) eU.cell e6 ?_;rintro _ w7 ⟨hU,e6⟩;replace hT:=hT.ow hU;replace e5:=e5.up hT;replace aT:=aT.up hT;replace eU:=eU.up hT;replace hS:=hS.trans hT;clear hT hU;repeat'(first|refine W1 ?_|omega|refine VG ?_ ?_<;>intro hg|refine VC ?_ ?_<;>intro hc)
 refine ZDr 14 [] [] [(0,1),(1,2),(2,0),(3,0),(4,1),(6,1),(5,2),(7,2),(8,0),(9,0),(10,0),(11,2),(12,0),(13,0)] (λw1 ae=>?_);replace e5:=e5.up ae;replace e6:=e6.up ae;replace aT:=aT.up ae;replace eU:=eU.up ae;replace hS:=hS.trans ae;clear ae;repeat'(first|refine D1 ?_|omega|refine Z6 rfl rfl rfl rfl (λhg=>?_) (λhg=>?_)|(refine Z2 rfl rfl rfl rfl (λhg=>?_) (λhg=>?_)<;>refine D1 ?_)|fail)
 refine DP hS (Z2N c R z h sh _ m (hF.up hS) (hS.cell (by simp) cA) aT eT (by omega)) λw9 hT hS=>?_
 replace e5:=e5.up hT;replace e6:=e6.up hT;replace aT:=aT.up hT;replace eU:=eU.up hT;rw [cW];repeat'(first|refine D1 ?_|omega|refine Z6 rfl rfl rfl rfl (λhg=>?_) (λhg=>?_)|(refine Z2 rfl rfl rfl rfl (λhg=>?_) (λhg=>?_)<;>refine D1 ?_)|fail)
 refine DP hS (Z2N d D z h' sh _ m (hF.up hS) (hS.cell (by simp) cA) eU re oh) λw10 hT hS=>?_
 replace e5:=e5.up hT;replace e6:=e6.up hT;replace aT:=aT.up hT;replace eU:=eU.up hT;repeat'(first|refine D1 ?_|omega|refine Z6 rfl rfl rfl rfl (λhg=>?_) (λhg=>?_)|(refine Z2 rfl rfl rfl rfl (λhg=>?_) (λhg=>?_)<;>refine D1 ?_)|fail)
 refine DP hS (Z5o d D z h' sh _ eU oh) λw11 hT hS=>?_;clear hT;generalize Z9K d z sh h'=v;repeat'(first|refine D1 ?_|omega|refine Z6 rfl rfl rfl rfl (λhg=>?_) (λhg=>?_)|(refine Z2 rfl rfl rfl rfl (λhg=>?_) (λhg=>?_)<;>refine D1 ?_)|fail)
 refine DP hS (Z8s er m _ (hF.up hS) (fe.up hS) (fg.up hS) (hS.cell (by simp) cA) (hS.cell (by simp) eb) gw) λw12 _ hS=>?_
 repeat'(first|refine D1 ?_|omega|refine Z6 rfl rfl rfl rfl (λhg=>?_) (λhg=>?_)|(refine Z2 rfl rfl rfl rfl (λhg=>?_) (λhg=>?_)<;>refine D1 ?_)|fail)
 repeat'(first|refine W1 ?_|omega|refine VG ?_ ?_<;>intro hg|refine VC ?_ ?_<;>intro hc)
 refine RU ?_;exact ⟨rfl,hS⟩
end Go.Proofs.YteibicnbkggiiaaGreatDoor
namespace Go.Eng
open Go Go.RowKit Go.Proofs
def Z5w (P:Program) (w:World) (n:String) (d:DataW Unit):Prop:=∃ g t cs fuel p,P.globalNamed n=some g/\(P.globals[g]?).map (·.type)=some t/\w.var? P n=some cs/\DataW.trod (λ_=>()) P w 0 (λ_=>true) false fuel t cs.toList=some (d,p)
theorem Z2m {P:Program} {w}:∀ (l:List (String×DataW Unit)) (ps:List MemPlace),DataW.LaidVars P w l ps->∀ (n:String) (d:DataW Unit),(n,d)∈l->Z5w P w n d
 | [],_,_,n,d,h=>by simp at h
 | (n0, d0) :: r, ps, hl, n, d, h => by
   obtain ⟨g,t,cs,fuel,p,q,h1,h2,h3,h4,h5,_⟩:=hl;rcases Xg.1 h with h|h
   cases h;exact ⟨g,t,cs,fuel,p,h1,h2,h3,h4⟩;exact Z2m r q h5 n d h
theorem ZbV {P:Program} {w} {name:String} {g t e n:Nat} {k:IntKind} {zs:List Int} (h:Z5w P w name (Lib.tabData k zs)) (hg:P.globalNamed name=some g) (kp:(P.globals[g]?).map (·.type)=some t) (ht:P.underlying t=some (.array n e)) (he:P.underlying e=some (.int k)) (rf:P.cellsOf e=1) (nI:P.cellsOf t=n):Lib.TabIs P w name k zs:=by
 obtain ⟨g',t',cs,fuel,p,rg,n6,mN,hd⟩:=h;obtain rfl:=XT (hg.symm.trans rg);obtain rfl:=XT (kp.symm.trans n6);unfold Lib.TabIs;rw [mN,<- Lib.cells_of_tab ht he rf nI hd]
theorem Za2 {P:Program} {W:World} {name:String} {g t e n:Nat} {ss:List Str} (hg:P.globalNamed name=some g) (ht:(P.globals[g]?).map (·.type)=some t) (hu:P.underlying t=some (.array n e)) (he:P.underlying e=some .string) (hc:P.cellsOf e=1)
 (hn:ss.length=n) (h:Z5w P W name (.agg (ss.map (λs=>DataW.lit (.string s))))) :
 ∀ i (hi:i<ss.length),W.cell? ⟨g,i,none⟩=some (str ss[i]):=by
 obtain ⟨g0,t0,cs0,f0,p0,gF,ic,j6,cW⟩:=h;obtain rfl:=XT (hg.symm.trans gF);obtain rfl:=XT (ht.symm.trans ic);obtain ⟨xs,m1,rfl,mO,ai,fJ,dX⟩:=DataW.trod_array hu cW;intro i hi;have h1:=dX i (by omega);rw [hc,Nat.mul_one] at h1;have ol:xs[i]?=some (xs[i]'(by omega)):=XP (by omega);rw [ol] at h1;obtain ⟨s,e1,e2,_⟩:=DataW.trod_string he h1;have e3:DataW.agg (ss.map (λs=>DataW.lit (.string s)))=(DataW.agg (xs.map (·.1)):DataW Unit):=congrArg Prod.fst mO;simp only [DataW.agg.injEq] at e3;have e4:(DataW.lit (.string ss[i]):DataW Unit)=(xs[i]'(by omega)).1:=by
  have h2:=congrArg (λl=>l[i]?) e3;simp only [Yac,ol,XP hi,Option.map_some,Xi] at h2;exact h2
 rw [e2] at e4;simp only [DataW.lit.injEq,Lit.string.injEq] at e4;have hv:=World.var?_cell gF j6 i;rw [hv];have h5:cs0.toList[i]?=some (.string s):=by
  have h6:=congrArg (λl=>l[0]?) e1;simpa [Yap,Ybb] using h6
 rw [<- YaO,h5];congr 1;simp only [str,e4]
theorem Z8t {P:Program} {W:World} {name:String} {g t:Nat} {ms:Array (String×TypeId)} {d:DataW Unit} (hg:P.globalNamed name=some g) (ht:(P.globals[g]?).map (·.type)=some t) (hu:P.underlying t=some (.interface ms)) (h:Z5w P W name d) :
 ∃ er,W.cell? ⟨g,0,none⟩=some er/\(er=.nilIface\/∃ te pe,er=.iface te pe):=by
 obtain ⟨g0,t0,cs0,f0,p0,gF,ic,j6,cW⟩:=h;obtain rfl:=XT (hg.symm.trans gF);obtain rfl:=XT (ht.symm.trans ic);have hv:=World.var?_cell gF j6 0;rw [hv];rw [<- YaO];generalize cs0.toList=cs at *;cases f0 with
 | zero=>simp [DataW.trod] at cW
 | succ f=>
   unfold DataW.trod at cW;rw [hu] at cW
   match cs,cW with
   | [],cW=>simp at cW
   | a :: b :: r,cW=>simp at cW
   | [x], cW=>
     refine ⟨x,rfl,?_⟩;cases x with
     | nilIface=>exact .inl rfl
     | iface u v=>exact .inr ⟨u,v,rfl⟩
     | _=>simp at cW
end Go.Eng
namespace Go.Proofs.YteibicnbkggiiaaGreatDoor
open Go Go.Eng Go.RowKit Go.Proofs
open Go Go.Eng Go.RowKit Go.Proofs Go.ChangeShapes Go.WideShapes Go.Deep
theorem ZbW {W:World} (h:Z5w Tryz.prog W "rollbook/holiday.moves" Rows.laid_rollbook_holiday_moves):Z1T W:=by
 obtain ⟨g0,t0,cs0,f0,p0,gF,ic,j6,cW⟩:=h;have hg:Tryz.prog.globalNamed "rollbook/holiday.moves" = some 5:=by kernel_rfl
 have ht:(Tryz.prog.globals[5]?).map (·.type)=some 390:=by kernel_rfl
 obtain rfl:=XT (hg.symm.trans gF);obtain rfl:=XT (ht.symm.trans ic);obtain ⟨xs,m1,rfl,mO,ai,fJ,dX⟩:=DataW.trod_array Tryz.underlying390 cW;have om:Tryz.prog.cellsOf 340=7:=by kernel_rfl
 have e3:(Rows.laid_rollbook_holiday_moves:DataW Unit)=.agg (xs.map (·.1)):=congrArg Prod.fst mO;have e4:(.agg [Lib.tabData .i64 [0,0,0,0,0,0,0],Lib.tabData .i64 [0,0,0,0,0,2,1],Lib.tabData .i64 [0,0,0,0,0,-1,1]]:DataW Unit)=.agg (xs.map (·.1)):=e3;simp only [DataW.agg.injEq] at e4;have row:∀ (k:Nat) (zs:List Int),k<3->[Lib.tabData .i64 [0,0,0,0,0,0,0],Lib.tabData .i64 [0,0,0,0,0,2,1],(Lib.tabData .i64 [0,0,0,0,0,-1,1]:DataW Unit)][k]?=some (Lib.tabData .i64 zs)->(cs0.toList.drop (k * 7)).take 7=zs.map λz=>Value.int .i64 z:=by
  intro k zs hk hz;have h1:=dX k hk;rw [om] at h1;rw [e4,Yac] at hz;cases hx:xs[k]? with
  | none=>rw [hx] at hz;cases hz
  | some y=>
    rw [hx] at hz h1;have hy:y=(Lib.tabData .i64 zs,y.2):=Prod.ext (XT hz) rfl;rw [hy] at h1;exact Lib.cells_of_tab (t:=340) (e:=3) (n:=7) Tryz.underlying340 Tryz.underlying3 (by kernel_rfl) om h1
 have r0:=row 0 _ (by omega) rfl;have r1:=row 1 _ (by omega) rfl;have r2:=row 2 _ (by omega) rfl;have an:∀ (k:Nat) (zs:List Int) (j:Nat),(cs0.toList.drop (k * 7)).take 7=(zs.map λz=>Value.int .i64 z)->j<7->j<zs.length->cs0.toList[k * 7+j]?=some (.I (zs.getD j 0)):=by
  intro k zs j hr hj fk;have h6:=congrArg (λl=>l[j]?) hr;simp only [Yap,Ybb,Yac,if_pos hj] at h6;rw [h6];simp [List.getD,fk]
 intro i u hu;have hi:=(Xu.1 hu).1;have ri:i<21:=hi;have hv:=World.var?_cell hg j6 i;rw [hv,<- YaO];by_cases h7:i<7;have h2:=an 0 _ i r0 h7 (by simpa using h7);rw [show 0 * 7+i=i by omega] at h2;rw [h2];have hk:i=0\/i=1\/i=2\/i=3\/i=4\/i=5\/i=6:=by omega
 rcases hk with rfl|rfl|rfl|rfl|rfl|rfl|rfl<;>(simp [Z2d] at hu;subst hu;rfl)
 by_cases cQ:i<14;have h2:=an 1 _ (i - 7) r1 (by omega) (by simp;omega);rw [show 1 * 7+(i - 7)=i by omega] at h2;rw [h2];have hk:i=7\/i=8\/i=9\/i=10\/i=11\/i=12\/i=13:=by omega
 rcases hk with rfl|rfl|rfl|rfl|rfl|rfl|rfl<;>(simp [Z2d] at hu;subst hu;rfl)
 have h2:=an 2 _ (i - 14) r2 (by omega) (by simp;omega);rw [show 2 * 7+(i - 14)=i by omega] at h2;rw [h2];have hk:i=14\/i=15\/i=16\/i=17\/i=18\/i=19\/i=20:=by omega
 rcases hk with rfl|rfl|rfl|rfl|rfl|rfl|rfl<;>(simp [Z2d] at hu;subst hu;rfl)
abbrev Z5x:List (String×DataW Unit):=[("math/bits.deBruijn32tab",Rows.laid_math_bits_deBruijn32tab),("math/bits.deBruijn64tab",Rows.laid_math_bits_deBruijn64tab),("internal/strconv.uint64pow10",Rows.laid_internal_strconv_uint64pow10),("strconv.ErrRange",Rows.laid_strconv_ErrRange),("strconv.ErrSyntax",Rows.laid_strconv_ErrSyntax),("rollbook/date.lengths",Rows.laid_rollbook_date_lengths),("rollbook/holiday.moves",Rows.laid_rollbook_holiday_moves)]
abbrev Z8u:List (String×DataW Unit):=Z5x++[("rollbook/types.fields",Rows.laid_rollbook_types_fields)]
theorem Z8v {W:World} (h1:Z5w Tryz.prog W "rollbook/date.lengths" Rows.laid_rollbook_date_lengths):Z0o W:=by
 have h2:=ZbV (k:=.i64) (zs:=Z1n) (g:=1) (t:=293) (e:=3) (n:=13) h1 (by kernel_rfl) (by kernel_rfl) Tryz.underlying293 Tryz.underlying3 (by kernel_rfl) (by kernel_rfl);intro i u hu;have hi:=(Xu.1 hu).1;rw [Lib.TabIs.cell h2 (g:=1) (by kernel_rfl) i hi];simp [List.getD,hu]
theorem Za3 {W:World} (h1:Z5w Tryz.prog W "rollbook/types.fields" Rows.laid_rollbook_types_fields):SlV [] W Z1R Zb:=by
 have hc:=Za2 (g:=0) (t:=290) (e:=9) (n:=7) (ss:=Zb) (by kernel_rfl) (by kernel_rfl) Tryz.underlying290 Tryz.underlying9 (by kernel_rfl) rfl h1;have hlt:0<W.heap.size:=block_lt_of_cell (a:=⟨0,0,none⟩) (hc 0 (by decide));refine ⟨some ⟨0,0,none⟩,7,rfl,by decide,by decide,(λh=>by cases h),λi hi=>⟨0,0,[str Zb[i]],rfl,hlt,by simp,rfl,λj u hu=>?_⟩⟩;have hj:j=0:=by
  have:=(Xu.1 hu).1;simp at this;exact this
 subst hj;simp at hu;subst hu;have:=hc i hi;simpa [Z3.k,Z8.k] using this
structure ZhH (W:World):Prop where
 len:Z0o W
 mov:Z1T W
 err:∃ er,W.cell? ⟨4,0,none⟩=some er/\(er=.nilIface\/∃ te pe,er=.iface te pe)
theorem ZeT {W:World} {l:List (String×DataW Unit)} {ps:List MemPlace} (h:DataW.LaidVars Tryz.prog W l ps) (h1:("rollbook/date.lengths",Rows.laid_rollbook_date_lengths)∈l) (h2:("rollbook/holiday.moves",Rows.laid_rollbook_holiday_moves)∈l) (h3:("strconv.ErrRange",Rows.laid_strconv_ErrRange)∈l):ZhH W:=
 ⟨Z8v (Z2m _ _ h _ _ h1),ZbW (Z2m _ _ h _ _ h2),Z8t (g:=4) (t:=321) (by kernel_rfl) (by kernel_rfl) Tryz.underlying321 (Z2m _ _ h _ _ h3)⟩
theorem Zl3 {W:World} (h:laidMetH Tryz.prog Z8u W):ZhH W/\SlV [] W Z1R Zb:=by
 rw [MakeChecks.laidMetH_plain _ _ _ (by kernel_rfl)] at h;obtain ⟨ps,h,_⟩:=h;exact ⟨ZeT h (by simp [Z8u,Z5x]) (by simp [Z8u,Z5x]) (by simp [Z8u,Z5x]),Za3 (Z2m _ _ h _ _ (by simp [Z8u,Z5x]))⟩
end Go.Proofs.YteibicnbkggiiaaGreatDoor
namespace Go.Eng
open Go Go.RowKit Go.Proofs Go.ChangeShapes Go.WideShapes Go.Deep
def Z3v (P:Program) (lo n:Nat):Bool:=(List.range n).all λi=>!((P.funcs[lo+i]?).any Func.goes)
theorem JE {P:Program} {lo n g:Nat} (h:Z3v P lo n=true) (h1:lo<=g) (h2:g<lo+n):(P.funcs[g]?).any Func.goes=false:=by
 have:=Xy.1 h (g - lo) (List.mem_range.2 (by omega));rw [show lo+(g - lo)=g by omega] at this;simpa using this
theorem Zoh {P:Program} (h:∀ g:Nat,(P.funcs[g]?).any Func.goes=false) {c:OpenClaim} (hs:c.start=.entering):false=c.goesBy P:=by
 symm;have ar:P.funcs.any Func.goes=false:=by
  rw [Array.any_eq_false];intro i hi hg;have:=h i;rw [Array.getElem?_eq_getElem hi] at this;simp only [Option.any_some] at this;rw [this] at hg;cases hg
 have gT:∀ f,P.goes f=false:=by
  intro f;unfold Program.goes;rw [ar,Ybr,Bool.or_false];rw [Yab];intro hc;have bz:=hc;simp [h] at bz
 unfold OpenClaim.goesBy Program.goesAt Program.goesFrom;rw [hs];cases hf:P.funcNamed c.func with
 | none=>rfl
 | some f=>simp [gT]
theorem Zht {P:Program} {f:FuncId} {fn:Func} {s:ChangeSpec} {c:OpenClaim} (a1:c.wf (OpenSpec.ofChange s)=true) (a2:laidOutB P=true) (a3:mapsRowed P=true) (a4:fn.params.all (P.readableRec ·)=true) (a5:namedTie P c.named s.vars=true)
 (a6:((c.stops == []) && (P.stops == []) && (c.knobs == []) && (P.stopKnobs == []))=true)
 (h2:(c.inPlace == P.inPlace f)=true) (h3:(c.unfollowed == P.unfollowed f)=true) (h4:(c.recurses == P.recurses f)=true) (h5:(c.named == P.varsNamed f)=true)
 (h6 : ((c.maps == (fn.params.toList ++ s.plain.varTypes P).any (P.mapsRec ·)) && (c.ifaces == (fn.params.toList ++ s.plain.varTypes P).any (P.ifacesRec ·)) && (c.mapsOut == P.mapsAmong fn.resultTypes.toList) &&
   (c.loops == (fn.params.toList++s.plain.varTypes P).any (P.loopsFrom ·)) && (c.wideKeys == (fn.params.toList++s.plain.varTypes P++fn.resultTypes.toList).any (P.wideKeysFrom ·)) &&
   s.vars.all (P.varReadable ·) && fn.resultTypes.all (λt=>P.readableRec t && decide (t<P.types.size)) && (c.ifacesOut == fn.resultTypes.toList.any (P.ifacesRec ·)) && (c.loopsOut == fn.resultTypes.toList.any (P.loopsFrom ·)) && (c.plainKeys == P.plainKeys) && c.shortTexts.isNone && P.stopsHeard && P.mayEnter && (c.lifted == P.liftsFinal) && (P.make == some c.make) && (c.kinds == (if c.domain.isEmpty then [] else fn.params.toList.map λt=>match P.underlying t with|some (.int k)=>some k|_=>none)) && (c.pinned == c.pinnedBy) &&
   (c.veiled == (fn.params.toList++s.plain.varTypes P++fn.resultTypes.toList).any (P.veiledRec ·)) && c.veiledFits P fn.params.toList (fn.params.toList++s.plain.varTypes P++fn.resultTypes.toList))=true) :
 joinedFacts P f fn s c=true:=by
 simp only [Xa] at a6 h6;unfold joinedFacts;simp only [Xa];exact ⟨⟨⟨⟨⟨⟨⟨⟨⟨⟨⟨⟨⟨⟨⟨⟨⟨⟨⟨⟨⟨⟨⟨⟨⟨⟨⟨⟨⟨⟨⟨a1,a2⟩,a3⟩,a4⟩,a5⟩,a6.1.1.1⟩,a6.1.1.2⟩,a6.1.2⟩,a6.2⟩,h2⟩,h3⟩,h4⟩,h5⟩,h6.1.1.1.1.1.1.1.1.1.1.1.1.1.1.1.1.1.1⟩,h6.1.1.1.1.1.1.1.1.1.1.1.1.1.1.1.1.1.2⟩,h6.1.1.1.1.1.1.1.1.1.1.1.1.1.1.1.1.2⟩,h6.1.1.1.1.1.1.1.1.1.1.1.1.1.1.1.2⟩,h6.1.1.1.1.1.1.1.1.1.1.1.1.1.1.2⟩,h6.1.1.1.1.1.1.1.1.1.1.1.1.1.2⟩,h6.1.1.1.1.1.1.1.1.1.1.1.1.2⟩,h6.1.1.1.1.1.1.1.1.1.1.1.2⟩,h6.1.1.1.1.1.1.1.1.1.1.2⟩,h6.1.1.1.1.1.1.1.1.1.2⟩,h6.1.1.1.1.1.1.1.1.2⟩,h6.1.1.1.1.1.1.1.2⟩,h6.1.1.1.1.1.1.2⟩,h6.1.1.1.1.1.2⟩,h6.1.1.1.1.2⟩,h6.1.1.1.2⟩,h6.1.1.2⟩,h6.1.2⟩,h6.2⟩
end Go.Eng
namespace Go.Proofs.YteibicnbkggiiaaGreatDoor
open Go Go.Eng Go.RowKit Go.Proofs Go.ChangeShapes Go.WideShapes Go.Deep
theorem Zoa:mapsRowed Tryz.prog=true:=by kernel_rfl
theorem ZeU:Tryz.prog.funcs.size=415:=by kernel_rfl
theorem ZbX:Z3v Tryz.prog 0 34=true:=by kernel_rfl
theorem ZbY:Z3v Tryz.prog 34 34=true:=by kernel_rfl
theorem ZbZ:Z3v Tryz.prog 68 34=true:=by kernel_rfl
theorem Zc0:Z3v Tryz.prog 102 34=true:=by kernel_rfl
theorem Zc1:Z3v Tryz.prog 136 34=true:=by kernel_rfl
theorem Zc2:Z3v Tryz.prog 170 34=true:=by kernel_rfl
theorem Zc3:Z3v Tryz.prog 204 34=true:=by kernel_rfl
theorem Zc4:Z3v Tryz.prog 238 34=true:=by kernel_rfl
theorem Zc5:Z3v Tryz.prog 272 34=true:=by kernel_rfl
theorem Zc6:Z3v Tryz.prog 306 34=true:=by kernel_rfl
theorem Za4:Z3v Tryz.prog 340 34=true:=by kernel_rfl
theorem Za5:Z3v Tryz.prog 374 34=true:=by kernel_rfl
theorem Za6:Z3v Tryz.prog 408 7=true:=by kernel_rfl
theorem Zob:∀ g:Nat,(Tryz.prog.funcs[g]?).any Func.goes=false:=λg=>by
 by_cases h:g<415;by_cases h0:g<34;exact JE ZbX (by omega) (by omega);by_cases h1:g<68;exact JE ZbY (by omega) (by omega);by_cases h2:g<102;exact JE ZbZ (by omega) (by omega);by_cases h3:g<136;exact JE Zc0 (by omega) (by omega);by_cases h4:g<170;exact JE Zc1 (by omega) (by omega);by_cases h5:g<204;exact JE Zc2 (by omega) (by omega);by_cases h6:g<238;exact JE Zc3 (by omega) (by omega);by_cases h7:g<272;exact JE Zc4 (by omega) (by omega);by_cases h8:g<306;exact JE Zc5 (by omega) (by omega);by_cases h9:g<340;exact JE Zc6 (by omega) (by omega);by_cases ec:g<374;exact JE Za4 (by omega) (by omega);by_cases rX:g<408;exact JE Za5 (by omega) (by omega);exact JE Za6 (by omega) (by omega);rw [Array.getElem?_eq_none (by rw [ZeU];omega)];rfl
section
variable {H:Type} {enc:TypeId×Value->H} {w:World} {base:Nat} {spare:Nat->Bool} {aC:Bool}
theorem ZoX:Tryz.prog.cellsOf 25=1:=by kernel_rfl
theorem Zoc:Tryz.prog.cellsOf 27=7:=by kernel_rfl
theorem Zhu (fuel:Nat) (cs:List Value) (x:DataW H×List MemPlace) (h:DataW.trod enc Tryz.prog w base spare aC fuel 27 cs=some x):∃ q:Cr,Z3.rep [] w q cs:=by
 obtain ⟨xs,n,rfl,hx,ai,dI,hf⟩:=DataW.trod_struct Tryz.underlying27 h;rw [Zoc] at ai;have h0:DataW.trod enc Tryz.prog w base spare aC n 9 ((cs.drop 0).take (Tryz.prog.cellsOf 9))=xs[0]?:=hf 0 _ rfl;have h1:DataW.trod enc Tryz.prog w base spare aC n 3 ((cs.drop 1).take (Tryz.prog.cellsOf 3))=xs[1]?:=hf 1 _ rfl;have h2:DataW.trod enc Tryz.prog w base spare aC n 9 ((cs.drop 2).take (Tryz.prog.cellsOf 9))=xs[2]?:=hf 2 _ rfl;have h3:DataW.trod enc Tryz.prog w base spare aC n 25 ((cs.drop 3).take (Tryz.prog.cellsOf 25))=xs[3]?:=hf 3 _ rfl;have h4:DataW.trod enc Tryz.prog w base spare aC n 25 ((cs.drop 4).take (Tryz.prog.cellsOf 25))=xs[4]?:=hf 4 _ rfl;have h5:DataW.trod enc Tryz.prog w base spare aC n 9 ((cs.drop 5).take (Tryz.prog.cellsOf 9))=xs[5]?:=hf 5 _ rfl;have h6:DataW.trod enc Tryz.prog w base spare aC n 9 ((cs.drop 6).take (Tryz.prog.cellsOf 9))=xs[6]?:=hf 6 _ rfl;rw [k3] at h1;rw [k9] at h0 h2 h5 h6;rw [ZoX] at h3 h4
 match cs,ai,xs,dI with
 | [c0, c1, c2, c3, c4, c5, c6], _, [y0, y1, y2, y3, y4, y5, y6], _=>
   simp only [List.drop,List.take] at h0 h1 h2 h3 h4 h5 h6;obtain ⟨s0,e0,t0,-⟩:=DataW.trod_string Tryz.underlying9 h0;obtain ⟨z,e1,-,hz⟩:=DataW.trod_int Tryz.underlying3 h1;obtain ⟨s2,e2,t2,-⟩:=DataW.trod_string Tryz.underlying9 h2;obtain ⟨s5,e5,t5,-⟩:=DataW.trod_string Tryz.underlying9 h5;obtain ⟨s6,e6,t6,-⟩:=DataW.trod_string Tryz.underlying9 h6;have rd:∀ (n:Nat) (cs:List Value) (y:DataW H×List MemPlace),cs.length=Z8.k Ins->DataW.trod enc Tryz.prog w base spare aC n 174 cs=some y->∃ a:Ins,cs=Z8.enc a/\(I64 a.op/\I64 a.n):=λn cs y hl hy=>by
    obtain ⟨zs,h1,rfl,h2⟩:=Z0I (k:=2) (by kernel_rfl) hl hy
    match zs,h1 with
    | [a,b],_=>exact ⟨⟨a,b⟩,rfl,by simpa using h2⟩
   obtain ⟨u3,l3,e3,dQ,jF,-⟩:=Z0Z (α:=Ins) (ok:=λx=>I64 x.op/\I64 x.n) Tryz.underlying25 (by kernel_rfl) (by decide) rd h3;obtain ⟨u4,l4,e4,cP,rj,-⟩:=Z0Z (α:=Ins) (ok:=λx=>I64 x.op/\I64 x.n) Tryz.underlying25 (by kernel_rfl) (by decide) rd h4;obtain rfl:=(XQ e0).1;obtain rfl:=(XQ e1).1;obtain rfl:=(XQ e2).1;obtain rfl:=(XQ e3).1;obtain rfl:=(XQ e4).1;obtain rfl:=(XQ e5).1;obtain rfl:=(XQ e6).1;exact ⟨⟨s0.data.toList,z,s2.data.toList,l3,l4,s5.data.toList,s6.data.toList⟩,⟨_,_,rfl,dQ,cP⟩⟩
end
section
variable {H:Type} {enc:TypeId×Value->H} {w:World} {base:Nat} {spare:Nat->Bool} {aC:Bool}
theorem Zod:Tryz.prog.cellsOf 24=6:=by kernel_rfl
theorem Zoe:Tryz.prog.cellsOf 32=5:=by kernel_rfl
theorem ZoY:Tryz.prog.cellsOf 29=2:=by kernel_rfl
theorem ZoZ:Tryz.prog.cellsOf 30=1:=by kernel_rfl
theorem Zp0:Tryz.prog.cellsOf 34=22:=by kernel_rfl
theorem ZeV (fuel:Nat) (cs:List Value) (x:DataW H×List MemPlace) (h:DataW.trod enc Tryz.prog w base spare aC fuel 24 cs=some x):∃ f:Fct,cs=Z8.enc f/\(f.kind.length:Int)<=maxLen:=by
 obtain ⟨xs,n,rfl,hx,ai,dI,hf⟩:=DataW.trod_struct Tryz.underlying24 h;rw [Zod] at ai;have h0:DataW.trod enc Tryz.prog w base spare aC n 3 ((cs.drop 0).take (Tryz.prog.cellsOf 3))=xs[0]?:=hf 0 _ rfl;have h1:DataW.trod enc Tryz.prog w base spare aC n 9 ((cs.drop 1).take (Tryz.prog.cellsOf 9))=xs[1]?:=hf 1 _ rfl;have h2:DataW.trod enc Tryz.prog w base spare aC n 3 ((cs.drop 2).take (Tryz.prog.cellsOf 3))=xs[2]?:=hf 2 _ rfl;have h3:DataW.trod enc Tryz.prog w base spare aC n 3 ((cs.drop 3).take (Tryz.prog.cellsOf 3))=xs[3]?:=hf 3 _ rfl;have h4:DataW.trod enc Tryz.prog w base spare aC n 3 ((cs.drop 4).take (Tryz.prog.cellsOf 3))=xs[4]?:=hf 4 _ rfl;have h5:DataW.trod enc Tryz.prog w base spare aC n 3 ((cs.drop 5).take (Tryz.prog.cellsOf 3))=xs[5]?:=hf 5 _ rfl;rw [k3] at h0 h2 h3 h4 h5;rw [k9] at h1
 match cs,ai,xs,dI with
 | [c0, c1, c2, c3, c4, c5], _, [y0, y1, y2, y3, y4, y5], _=>
   simp only [List.drop,List.take] at h0 h1 h2 h3 h4 h5;obtain ⟨z0,e0,-,-⟩:=DataW.trod_int Tryz.underlying3 h0;obtain ⟨s1,e1,-,m1⟩:=DataW.trod_string Tryz.underlying9 h1;obtain ⟨z2,e2,-,-⟩:=DataW.trod_int Tryz.underlying3 h2;obtain ⟨z3,e3,-,-⟩:=DataW.trod_int Tryz.underlying3 h3;obtain ⟨z4,e4,-,-⟩:=DataW.trod_int Tryz.underlying3 h4;obtain ⟨z5,e5,-,-⟩:=DataW.trod_int Tryz.underlying3 h5;obtain rfl:=(XQ e0).1;obtain rfl:=(XQ e1).1;obtain rfl:=(XQ e2).1;obtain rfl:=(XQ e3).1;obtain rfl:=(XQ e4).1;obtain rfl:=(XQ e5).1;refine ⟨⟨z0,s1.data.toList,z2,z3,z4,z5⟩,rfl,?_⟩;have:s1.data.toList.length=s1.size:=X5;dsimp only;omega
theorem ZeW (fuel:Nat) (cs:List Value) (x:DataW H×List MemPlace) (h:DataW.trod enc Tryz.prog w base spare aC fuel 32 cs=some x):∃ (a:Atp) (rv:Value),cs=atC a rv/\SlV [] w rv a.rets:=by
 obtain ⟨xs,n,rfl,hx,ai,dI,hf⟩:=DataW.trod_struct Tryz.underlying32 h;rw [Zoe] at ai;have h0:DataW.trod enc Tryz.prog w base spare aC n 3 ((cs.drop 0).take (Tryz.prog.cellsOf 3))=xs[0]?:=hf 0 _ rfl;have h1:DataW.trod enc Tryz.prog w base spare aC n 3 ((cs.drop 1).take (Tryz.prog.cellsOf 3))=xs[1]?:=hf 1 _ rfl;have h2:DataW.trod enc Tryz.prog w base spare aC n 3 ((cs.drop 2).take (Tryz.prog.cellsOf 3))=xs[2]?:=hf 2 _ rfl;have h3:DataW.trod enc Tryz.prog w base spare aC n 3 ((cs.drop 3).take (Tryz.prog.cellsOf 3))=xs[3]?:=hf 3 _ rfl;have h4:DataW.trod enc Tryz.prog w base spare aC n 30 ((cs.drop 4).take (Tryz.prog.cellsOf 30))=xs[4]?:=hf 4 _ rfl;rw [k3] at h0 h1 h2 h3;rw [ZoZ] at h4
 match cs,ai,xs,dI with
 | [c0, c1, c2, c3, c4], _, [y0, y1, y2, y3, y4], _=>
   simp only [List.drop,List.take] at h0 h1 h2 h3 h4;obtain ⟨z0,e0,-,-⟩:=DataW.trod_int Tryz.underlying3 h0;obtain ⟨z1,e1,-,-⟩:=DataW.trod_int Tryz.underlying3 h1;obtain ⟨z2,e2,-,-⟩:=DataW.trod_int Tryz.underlying3 h2;obtain ⟨z3,e3,-,-⟩:=DataW.trod_int Tryz.underlying3 h3;have rd:∀ (n:Nat) (cs:List Value) (y:DataW H×List MemPlace),cs.length=Z8.k Rtn->DataW.trod enc Tryz.prog w base spare aC n 138 cs=some y->∃ a:Rtn,cs=Z8.enc a/\True:=λn cs y hl hy=>by
    obtain ⟨zs,h1,rfl,h2⟩:=Z0I (k:=4) (by kernel_rfl) hl hy
    match zs,h1 with
    | [a,b,c,d],_=>exact ⟨⟨a,b,c,d⟩,rfl,trivial⟩
   obtain ⟨u4,l4,e4,cP,-,-⟩:=Z0Z (α:=Rtn) (ok:=λ_=>True) Tryz.underlying30 (by kernel_rfl) (by decide) rd h4;obtain rfl:=(XQ e0).1;obtain rfl:=(XQ e1).1;obtain rfl:=(XQ e2).1;obtain rfl:=(XQ e3).1;obtain rfl:=(XQ e4).1;exact ⟨⟨z0,z1,z2,z3,l4⟩,_,rfl,cP⟩
theorem Zof {r:Reach} {b0:Nat} {v:Value} {d:DataW H} {p:List MemPlace} (hv:Value.okWide Tryz.prog w r b0 34 v) (h:DataW.Trod enc Tryz.prog w base spare aC 34 v d p) :
 ∃ (x:Spl) (kc kd rv:Value),v=.agg (spC x kc kd rv).toArray/\ZkB w x kc kd rv:=by
 obtain ⟨cs,rfl,br⟩:=okWide_struct Tryz.underlying34 hv;obtain ⟨fuel,h⟩:=h;obtain ⟨xs,n,rfl,hx,ai,dI,hf⟩:=DataW.trod_struct Tryz.underlying34 h;rw [Zp0] at ai;have h0:DataW.trod enc Tryz.prog w base spare aC n 3 (((Value.agg cs).cells.toList.drop 0).take (Tryz.prog.cellsOf 3))=xs[0]?:=hf 0 _ rfl;have h1:DataW.trod enc Tryz.prog w base spare aC n 3 (((Value.agg cs).cells.toList.drop 1).take (Tryz.prog.cellsOf 3))=xs[1]?:=hf 1 _ rfl;have h2:DataW.trod enc Tryz.prog w base spare aC n 24 (((Value.agg cs).cells.toList.drop 2).take (Tryz.prog.cellsOf 24))=xs[2]?:=hf 2 _ rfl;have h3:DataW.trod enc Tryz.prog w base spare aC n 27 (((Value.agg cs).cells.toList.drop 8).take (Tryz.prog.cellsOf 27))=xs[3]?:=hf 3 _ rfl;have h4:DataW.trod enc Tryz.prog w base spare aC n 29 (((Value.agg cs).cells.toList.drop 15).take (Tryz.prog.cellsOf 29))=xs[4]?:=hf 4 _ rfl;have h5:DataW.trod enc Tryz.prog w base spare aC n 32 (((Value.agg cs).cells.toList.drop 17).take (Tryz.prog.cellsOf 32))=xs[5]?:=hf 5 _ rfl;rw [k3] at h0 h1;rw [Zod] at h2;rw [Zoc] at h3;rw [ZoY] at h4;rw [Zoe] at h5;have bu:(Value.agg cs).cells.toList=cs.toList:=rfl;rw [bu] at h0 h1 h2 h3 h4 h5 ai;rw [<- XK (xs:=cs)];generalize cs.toList=cl at *
 match xs,dI with
 | [y0, y1, y2, y3, y4, y5], _=>
   obtain ⟨f,ef,hm⟩:=ZeV _ _ _ h2;obtain ⟨q,kc,kd,eq,gE,cI⟩:=Zhu _ _ _ h3;obtain ⟨a,rv,ea,fc⟩:=ZeW _ _ _ h5;obtain ⟨zs,db,ez,-⟩:=Z0I (k:=2) (by kernel_rfl) (by simp;omega) h4;obtain ⟨z0,e0,-,i0⟩:=DataW.trod_int Tryz.underlying3 h0;obtain ⟨z1,e1,-,-⟩:=DataW.trod_int Tryz.underlying3 h1
   match zs,db with
   | [s0, s1], _=>
     refine ⟨⟨z0,z1,f,q,(s0,s1),a⟩,kc,kd,rv,?_,gE,cI,fc,by simpa [I64,Lit.wf,IntKind.min,IntKind.max,IntKind.signed,IntKind.bits] using i0,hm⟩;have hsplit:cl=(cl.drop 0).take 1++(cl.drop 1).take 1++(cl.drop 2).take 6++(cl.drop 8).take 7++(cl.drop 15).take 2++(cl.drop 17).take 5:=by
      match cl,ai with
      | [_,_,_,_,_,_,_,_,_,_,_,_,_,_,_,_,_,_,_,_,_,_],_=>rfl
     rw [hsplit,e0,e1,ef,eq,ez,ea];rfl
end
end Go.Proofs.YteibicnbkggiiaaGreatDoor
