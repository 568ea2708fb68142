/-
Contracts and plain laws, merged out of own texts.
-/
import Derived.Test.YtkojegdemoahlaaGreatDoorM5
import Derived.JoinedOf
set_option linter.unusedVariables false
set_option linter.unusedSimpArgs false
set_option maxHeartbeats 4000000
set_option maxRecDepth 20000
namespace Go.Proofs.YtkojegdemoahlaaGreatDoor
open Go Go.Eng Go.RowKit Go.Proofs
theorem ZeZ (w):(Instr.buildSlice 58 0 #[]).run Tryz.prog w=.ok (.slice (some ⟨w.heap.size,0,none⟩) 0 0) (w.alloc (.cells #[] 62)):=by kernel_rfl
theorem Zf0 (w):(Instr.buildSlice 39 0 #[]).run Tryz.prog w=.ok (.slice (some ⟨w.heap.size,0,none⟩) 0 0) (w.alloc (.cells #[] 60)):=by kernel_rfl
theorem Z1G (X:List Nat) (v:Value) (l:List Rtn) (w:World) (hX:∀ b∈X,b<w.heap.size) (hs:SlV X w v l) (hl:l.length<=1000000):CC 23 #[v] w λr w'=>Row X w' w.heap.size 62 r l/\Stp [] w w':=by
 obtain ⟨p,k,rfl,h1,h2,h3,h4⟩:=id hs;refine cW1 8 Tryz.func23 ?_;refine W ?_;refine Z7 (Z5R rfl rfl) rfl ?_;cases p with
 | none=>
   obtain rfl:k=0:=h3 rfl;obtain rfl:l=[]:=Yau (by omega);repeat'(first|refine W1 ?_|omega|refine VG ?_ ?_<;>intro hg|refine VC ?_ ?_<;>intro hc)
   refine RU ?_;exact ⟨Row.nil,Stp.refl _ _⟩
 | some a=>
   repeat'(first|refine W1 ?_|omega|refine VG ?_ ?_<;>intro hg|refine VC ?_ ?_<;>intro hc)
   refine Z0 (Z3 (vs:=[]) rfl ZeZ) rfl ?_;rintro o w1 hN;obtain ⟨ac,-⟩:=Go.EngB.nil_row (w0:=w) (α:=Rtn) (X:=X) hN (Xm _);have aJ:=λb hb=>ac.ob_le b hb;have hU:=Zh.stp hN;clear hN;have iw:SlV (ob o++X) w1 (.slice (some a) l.length k) l:=hs.ext hU (by simp) (λb hb=>(Xg.1 hb).elim (λh=>.inr (aJ b h).1) .inl);repeat'(first|refine W1 ?_|omega|refine VG ?_ ?_<;>intro hg|refine VC ?_ ?_<;>intro hc)
   refine Z0 (ZJ (α:=Rtn) (X:=X) (base:=w.heap.size) rfl (by decide) rfl rfl ac iw (Xl (Xt _ (show ([]:List Rtn).length+l.length<=1000000 by simp only [Xr];omega)) (by decide)) (by simp only [Xr,maxLen];omega) hU.size) rfl ?_;rintro o2 w2 ⟨bD,hT,-⟩;rw [XM] at bD;repeat'(first|refine W1 ?_|omega|refine VG ?_ ?_<;>intro hg|refine VC ?_ ?_<;>intro hc)
   refine RU ?_;exact ⟨bD,hU.own hT (λb hb=>.inr (aJ b hb).1)⟩
theorem Z5r (X:List Nat) (v:Value) (l:List Atp) (w:World) (hX:∀ b∈X,b<w.heap.size) (hs:SlV X w v l) (hl:l.length<=1000000):CC 59 #[v] w λr w'=>Row X w' w.heap.size 60 r l/\Stp [] w w':=by
 obtain ⟨p,k,rfl,h1,h2,h3,h4⟩:=id hs;refine cW1 8 Tryz.func59 ?_;refine W ?_;refine Z7 (Z5R rfl rfl) rfl ?_;cases p with
 | none=>
   obtain rfl:k=0:=h3 rfl;obtain rfl:l=[]:=Yau (by omega);repeat'(first|refine W1 ?_|omega|refine VG ?_ ?_<;>intro hg|refine VC ?_ ?_<;>intro hc)
   refine RU ?_;exact ⟨Row.nil,Stp.refl _ _⟩
 | some a=>
   repeat'(first|refine W1 ?_|omega|refine VG ?_ ?_<;>intro hg|refine VC ?_ ?_<;>intro hc)
   refine Z0 (Z3 (vs:=[]) rfl Zf0) rfl ?_;rintro o w1 hN;obtain ⟨ac,-⟩:=Go.EngB.nil_row (w0:=w) (α:=Atp) (X:=X) hN (Xm _);have aJ:=λb hb=>ac.ob_le b hb;have hU:=Zh.stp hN;clear hN;have iw:SlV (ob o++X) w1 (.slice (some a) l.length k) l:=hs.ext hU (by simp) (λb hb=>(Xg.1 hb).elim (λh=>.inr (aJ b h).1) .inl);repeat'(first|refine W1 ?_|omega|refine VG ?_ ?_<;>intro hg|refine VC ?_ ?_<;>intro hc)
   refine Z0 (ZJ (α:=Atp) (X:=X) (base:=w.heap.size) rfl (by decide) rfl rfl ac iw (Xl (Xt _ (show ([]:List Atp).length+l.length<=1000000 by simp only [Xr];omega)) (by decide)) (by simp only [Xr,maxLen];omega) hU.size) rfl ?_;rintro o2 w2 ⟨bD,hT,-⟩;rw [XM] at bD;repeat'(first|refine W1 ?_|omega|refine VG ?_ ?_<;>intro hg|refine VC ?_ ?_<;>intro hc)
   refine RU ?_;exact ⟨bD,hU.own hT (λb hb=>.inr (aJ b hb).1)⟩
theorem Z6j (X:List Nat) (v:Value) (l:List Atp) (w:World) (hX:∀ b∈X,b<w.heap.size) (hs:SlV X w v l) (hl:l.length<=100000) (hr:∀ a∈l,a.rets.length<=1000):CC 24 #[v] w λr w'=>Row X w' w.heap.size 60 r l/\Stp [] w w':=by
 refine cW1 24 Tryz.func24 ?_;refine W ?_;refine CM (ZO rfl) (Z5r X v l _ hX hs (by omega)) ?_;rintro o w1 ⟨ac,hS⟩;have br:SlV X w1 o l:=ac.slv hX;refine W ?_;refine LP (σ:=Nat) (λk=>[(3,o),(8,.I l.length),(9,.I (k:Int))]) (λk W=>k<=l.length/\Row X W w.heap.size 60 o l/\Stp [] w W) (λk=>l.length - k) 0 ⟨Xu _,ac,hS⟩ ?_;clear ac hS br;rintro k w2 ⟨hk,ac,hS⟩;have br:SlV X w2 o l:=ac.slv hX;have z2:=hS.size;by_cases ah:k<l.length;obtain ⟨cs,⟨rv,rfl,cK⟩,ak⟩:=br.cell ah;have cg:w2.cell? (Zq o k 5 4)=some rv:=ak 4 _ rfl;focus repeat'(first|refine W1 ?_|omega|refine VG ?_ ?_<;>intro hg|refine VC ?_ ?_<;>intro hc)
 refine Z0x rfl rfl cg rfl ?_;refine CM (ZO rfl) (Z1G X rv _ _ (λb hb=>Xj (hX b hb) z2) cK (by have:=hr _ (Xc ah);omega)) ?_;rintro nv w3 ⟨hn,hT⟩;have aJ:=λb hb=>(ac.ob_le b hb).2;have be:SlV (ob o++X) w3 nv l[k].rets:=Row.slv (X:=ob o++X) (Jj hn) (λb hb=>(Xg.1 hb).elim (aJ b) (λh=>Xj (hX b h) z2));replace ac:=ac.up hT;replace br:=br.up hT;replace hS:=hS.trans hT;clear hn ak cg;focus repeat'(first|refine W1 ?_|omega|refine VG ?_ ?_<;>intro hg|refine VC ?_ ?_<;>intro hc)
 refine Z5 (Z1n (j:=4) (y':=l[k]) (u:=nv) rfl rfl rfl be.cells be.one ac ah (by decide) (λcs h=>?_)) ?_;obtain ⟨rv',rfl,-⟩:=h;exact ⟨nv,rfl,be⟩;rintro _ w4 ⟨bX,hU⟩;rw [Ya5] at bX;focus repeat'(first|refine W1 ?_|omega|refine VG ?_ ?_<;>intro hg|refine VC ?_ ?_<;>intro hc)
 exact QL (k+1) ⟨ah,bX,hS.own hU (λb hb=>.inr (ac.ob_le b hb).1)⟩ (Xx ah (XD k));focus repeat'(first|refine W1 ?_|omega|refine VG ?_ ?_<;>intro hg|refine VC ?_ ?_<;>intro hc)
 refine RU ?_;exact ⟨ac,hS⟩
structure AtH where
 a:Atp
 h:Option Value
instance:Z1 AtH where
 k:=5
 rep:=λX w x cs=>match x.h with
  | some rv=>cs=atC x.a rv/\rv.oneCell'=true
  | none=>Z1.rep X w x.a cs
 len:=by
  rintro X w ⟨a,_|rv⟩ cs h;exact Z1.len (α:=Atp) h;exact h.1 ▸ rfl
 one:=by
  rintro X w ⟨a,_|rv⟩ cs h;exact Z1.one (α:=Atp) h;obtain ⟨rfl,h⟩:=h;intro u hu;simp only [Xd,Xp,or_false] at hu;rcases hu with rfl|rfl|rfl|rfl|rfl<;>first|rfl|assumption
 ext:=by
  rintro S X X' w w' ⟨a,_|rv⟩ cs h hS h1 h2;exact Z1.ext (α:=Atp) h hS h1 h2;exact h
def hol (l:List Atp) (i:Nat) (rv:Value):List AtH:=(l.map (λa=>⟨a,none⟩)).set i ⟨l.getD i default,some rv⟩
theorem Z2z (l:List Atp) (i:Nat) (rv:Value):(hol l i rv).length=l.length:=by simp [hol]
theorem Zmi {l:List Atp} {i k:Nat} {rv:Value} (h:k<l.length) (hk:k≠i):(hol l i rv)[k]'(by rw [Z2z];exact h)=⟨l[k],none⟩:=by
 unfold hol;rw [YaO (Ne.symm hk),Ybx]
theorem ZpF {l:List Atp} {i:Nat} {rv:Value} (h:i<l.length):(hol l i rv)[i]'(by rw [Z2z];exact h)=⟨l[i],some rv⟩:=by
 unfold hol;rw [Yao];simp [h]
theorem Row.toH {X:List Nat} {w} {base T:Nat} {v:Value} {l:List Atp} (h:Row X w base T v l):Row X w base T v (l.map (λa=>(⟨a,none⟩:AtH))):=by
 obtain ⟨css,h1,h2,h3⟩:=h;exact ⟨css,by simpa using h1,λi hi bV=>by rw [Ybx];exact h2 i (by simpa using hi) bV,by rw [XI];exact h3⟩
theorem Row.ofH {X:List Nat} {w} {base T:Nat} {v:Value} {l:List Atp} (h:Row X w base T v (l.map (λa=>(⟨a,none⟩:AtH)))):Row X w base T v l:=by
 obtain ⟨css,h1,h2,h3⟩:=h;refine ⟨css,by simpa using h1,λi hi bV=>?_,by rw [XI] at h3;exact h3⟩;have:=h2 i (by simpa using hi) bV;rw [Ybx] at this;exact this
structure ZpG (X:List Nat) (l:List Atp) (i:Nat) (hi:i<l.length) (w0:World) (o rv:Value) (W:World):Prop where
 row:Row (ob rv++X) W w0.heap.size 60 o (hol l i rv)
 ret:Row [] W w0.heap.size 62 rv l[i].rets
 apt:∀ b∈ob rv,b∉ob o
theorem Z8A (X:List Nat) (v:Value) (l:List Atp) (i:Nat) (hi:i<l.length) (w:World) (hX:∀ b∈X,b<w.heap.size) (hs:SlV X w v l) (hl:l.length<=100000) (hr:∀ a∈l,a.rets.length<=1000):CC 24 #[v] w λr w'=>(∃ rv,ZpG X l i hi w r rv w')/\Stp [] w w':=by
 refine cW1 24 Tryz.func24 ?_;refine W ?_;refine CM (ZO rfl) (Z5r X v l _ hX hs (by omega)) ?_;rintro o w1 ⟨ac,hS⟩;have br:SlV X w1 o l:=ac.slv hX;refine W ?_;refine LP (σ:=Nat×Value) (λq=>[(3,o),(8,.I l.length),(9,.I (q.1:Int))]) (λq W=>q.1<=l.length/\Stp [] w W/\(q.1<=i/\Row X W w.heap.size 60 o l\/i<q.1/\ZpG X l i hi w o q.2 W)) (λq=>l.length - q.1) (0,v) ⟨Xu _,hS,.inl ⟨Xu _,ac⟩⟩ ?_;clear ac hS br;rintro ⟨k,rv⟩ w2 ⟨hk,hS,hJ⟩;dsimp only at hk hJ ⊢;by_cases ah:k<l.length;have cZ:=Z2z l i;rcases hJ with ⟨gP,ac⟩|⟨gP,ac,ci,dz⟩
 have br:SlV X w2 o l:=ac.slv hX;obtain ⟨cs,⟨rk,rfl,kq⟩,ak⟩:=br.cell ah;have cg:w2.cell? (Zq o k 5 4)=some rk:=ak 4 _ rfl;focus repeat'(first|refine W1 ?_|omega|refine VG ?_ ?_<;>intro hg|refine VC ?_ ?_<;>intro hc)
 refine Z0x rfl rfl cg rfl ?_;refine CM (ZO rfl) (Z1G X rk _ _ (λb hb=>Xj (hX b hb) hS.size) kq (by have:=hr _ (Xc ah);omega)) ?_;rintro nv w3 ⟨hn,hT⟩;have aJ:=λb hb=>(ac.ob_le b hb).2;have gz:=λb hb=>(hn.ob_le b hb).1;have z2:=hS.size;have be:SlV (ob o++X) w3 nv l[k].rets:=Row.slv (X:=ob o++X) (Jj hn) (λb hb=>(Xg.1 hb).elim (aJ b) (λh=>Xj (hX b h) z2));replace br:=br.up hT;by_cases ej:k=i;subst ej;have po:Row (ob nv++X) w3 w.heap.size 60 o (l.map (λa=>(⟨a,none⟩:AtH))):=Row.toH (ac.ext hT (by simp) (λb hb=>(Xg.1 hb).elim (λh=>.inr (gz b h)) .inl));replace hS:=hS.trans hT;clear ak cg ac;focus repeat'(first|refine W1 ?_|omega|refine VG ?_ ?_<;>intro hg|refine VC ?_ ?_<;>intro hc)
 refine Z5 (Z1n (j:=4) (y':=⟨l.getD k default,some nv⟩) (u:=nv) rfl rfl rfl be.cells be.one po (by simpa using ah) (by decide) (λcs h=>?_)) ?_;rw [Ybx] at h;obtain ⟨rv',rfl,-⟩:=h;exact ⟨by simp [ah],be.one⟩;rintro _ w4 ⟨bX,hU⟩;have sq:=λb hb=>(po.ob_le b hb).1;focus repeat'(first|refine W1 ?_|omega|refine VG ?_ ?_<;>intro hg|refine VC ?_ ?_<;>intro hc)
 refine QL (k+1,nv) ⟨ah,hS.own hU (λb hb=>.inr (sq b hb)),.inr ⟨XD k,bX,?_,λb hb h=>by have:=gz b hb;have:=aJ b h;omega⟩⟩ (Xx ah (XD k));exact (hn.lower z2).keep hU (λb hb h=>by have:=gz b h;have:=aJ b hb;omega);replace ac:=ac.up hT;replace hS:=hS.trans hT;clear hn ak cg;focus repeat'(first|refine W1 ?_|omega|refine VG ?_ ?_<;>intro hg|refine VC ?_ ?_<;>intro hc)
 refine Z5 (Z1n (j:=4) (y':=l[k]) (u:=nv) rfl rfl rfl be.cells be.one ac ah (by decide) (λcs h=>?_)) ?_;obtain ⟨rv',rfl,-⟩:=h;exact ⟨nv,rfl,be⟩;rintro _ w4 ⟨bX,hU⟩;rw [Ya5] at bX;focus repeat'(first|refine W1 ?_|omega|refine VG ?_ ?_<;>intro hg|refine VC ?_ ?_<;>intro hc)
 exact QL (k+1,rv) ⟨ah,hS.own hU (λb hb=>.inr (ac.ob_le b hb).1),.inl ⟨by dsimp only;omega,bX⟩⟩ (Xx ah (XD k));have px:k<(hol l i rv).length:=by rw [Z2z];exact ah
 have bq:=Zmi (rv:=rv) ah (show k≠i by omega);have br:SlV (ob rv++X) w2 o (hol l i rv):=Row.slvN ac (λb hb=>(Xg.1 hb).elim (dz b) (λh h2=>by have:=hX b h;have:=(ac.ob_le b h2).1;omega));obtain ⟨cs,aH,ak⟩:=br.cell px;rw [bq] at aH;obtain ⟨rk,rfl,kq⟩:=aH;have cg:w2.cell? (Zq o k 5 4)=some rk:=ak 4 _ rfl;replace kq:SlV X w2 rk l[k].rets:=kq.ext (Stp.refl [] _) (by simp) (λb hb=>.inl (List.mem_append_right _ hb));have iR:=cZ rv;focus repeat'(first|refine W1 ?_|omega|refine VG ?_ ?_<;>intro hg|refine VC ?_ ?_<;>intro hc)
 refine Z0x rfl rfl cg rfl ?_;refine CM (ZO rfl) (Z1G X rk _ _ (λb hb=>Xj (hX b hb) hS.size) kq (by have:=hr _ (Xc ah);omega)) ?_;rintro nv w3 ⟨hn,hT⟩;have aJ:=λb hb=>(ac.ob_le b hb).2;have cV:=λb hb=>(ci.ob_le b hb).2;have z2:=hS.size;have be:SlV (ob o++(ob rv++X)) w3 nv l[k].rets:=Row.slv (X:=ob o++(ob rv++X)) (Jj hn) (λb hb=>(Xg.1 hb).elim (aJ b) (λhb=>(Xg.1 hb).elim (cV b) (λh=>Xj (hX b h) z2)));replace br:=br.up hT;replace ac:=ac.up hT;replace ci:=ci.up hT;replace hS:=hS.trans hT;clear hn ak cg;focus repeat'(first|refine W1 ?_|omega|refine VG ?_ ?_<;>intro hg|refine VC ?_ ?_<;>intro hc)
 refine Z5 (Z1n (j:=4) (y':=⟨l[k],none⟩) (u:=nv) rfl rfl rfl be.cells be.one ac px (by decide) (λcs h=>?_)) ?_;rw [bq] at h;obtain ⟨rv',rfl,-⟩:=h;exact ⟨nv,rfl,be⟩;rintro _ w4 ⟨bX,hU⟩;rw [<- bq,Ya5] at bX;focus repeat'(first|refine W1 ?_|omega|refine VG ?_ ?_<;>intro hg|refine VC ?_ ?_<;>intro hc)
 exact QL (k+1,rv) ⟨ah,hS.own hU (λb hb=>.inr (ac.ob_le b hb).1),.inr ⟨by dsimp only;omega,bX,ci.keep hU (λb hb h=>dz b h hb),dz⟩⟩ (Xx ah (XD k));focus repeat'(first|refine W1 ?_|omega|refine VG ?_ ?_<;>intro hg|refine VC ?_ ?_<;>intro hc)
 refine WR ?_;refine .mk ⟨⟨rv,?_⟩,hS⟩;rcases hJ with ⟨gP,ac⟩|⟨gP,h⟩
 omega;exact h
theorem Z8B (a:Atp) (p:Option Addr) (k m:Nat) (w):(Instr.buildSlice 39 1 #[(0,.agg (atC a (.slice p k m)).toArray)]).run Tryz.prog w=.ok (.slice (some ⟨w.heap.size,0,none⟩) 1 1) (w.alloc (.cells (atC a (.slice p k m)).toArray 60)):=by kernel_rfl
theorem ZbO (X:List Nat) (v cv rv:Value) (l:List Atp) (a:Atp) (cs:List Crr) (w:World) (hX:∀ b∈X,b<w.heap.size) (hs:SlV X w v l) (hr:SlV [] w rv a.rets) (cX:SlV [] w cv cs) (hl:l.length<=1000) (dO:∀ a∈l,a.rets.length<=1000) (eK:a.rets.length<=1000) (ha:Z4t cs.length a=0) :
 CC 9 #[v,.agg (atC a rv).toArray,cv] w λr w'=>∃ o,r=.tuple #[o,.I 0]/\Row X w' w.heap.size 60 o (l++[a])/\Stp [] w w':=by
 have cd:=hs;refine cW3 27 Tryz.func9 ?_;refine W ?_;refine BX (Stp.refl [] w) λb4 w1 h4 e4 _ hS=>?_;replace e4:Blk w1 b4 60 (atC a rv):=e4;replace hs:=hs.up hS;replace hr:=hr.up hS;replace cX:=cX.up hS;repeat'(first|refine W1 ?_|omega|refine VG ?_ ?_<;>intro hg|refine VC ?_ ?_<;>intro hc)
 refine CL (Z3C rv cv a cs _ hr cX) ?_;rintro _ w2 ⟨rfl,hT⟩;rw [ha];replace hr:=hr.up hT;replace e4:=e4.up hT;replace hS:=hS.trans hT;clear hT cX hs;repeat'(first|refine W1 ?_|omega|refine VG ?_ ?_<;>intro hg|refine VC ?_ ?_<;>intro hc)
 refine CM (ZO rfl) (Z1G [] rv _ _ (by simp) hr (by omega)) ?_;rintro nv w3 ⟨hn,hT⟩;have l4:=e4.lt;have tD:=λb hb=>(hn.ob_le b hb).1;have be:SlV (b4 :: X) w3 nv a.rets:=Row.slv (X:=b4 :: X) (Jj hn) (λb hb=>by
  rcases Xd.1 hb with rfl|hb
  omega;have:=hX b hb;have:=hS.size;omega)
 replace e4:=e4.up hT;replace hS:=hS.trans hT;clear hT hr hn;repeat'(first|refine W1 ?_|omega|refine VG ?_ ?_<;>intro hg|refine VC ?_ ?_<;>intro hc)
 refine Z5 (Zj (u:=nv) rfl rfl be.cells be.one e4 (show (4:Nat)<5 by decide)) ?_;rintro _ w4 ⟨hU,e4⟩;replace e4:Blk w4 b4 60 (atC a nv):=e4;replace be:SlV X w4 nv a.rets:=be.ext hU (by simp) (λb hb=>.inl (X0 _ hb));replace hS:=hS.ow hU;clear hU;repeat'(first|refine W1 ?_|omega|refine VG ?_ ?_<;>intro hg|refine VC ?_ ?_<;>intro hc)
 refine Go.EngB.WC_drawn 7 (w4.heap.size,[]) [] [(0,0),(2,1),(1,6),(3,2),(4,2),(5,0),(6,0)] rfl mixed (by kernel_rfl) (by kernel_rfl) (by kernel_rfl) (λw5 hW=>?_);have f4:=e4.lt;refine Zg rfl trivial (λw'=>ZV rfl) rfl ?_;refine Go.EngB.WD_read rfl trivial (λw' bp=>Zy (us:=atC a nv) rfl rfl (bp.blk (e4.up hW) f4) rfl rfl) rfl ?_;replace be:=be.up hW;replace hS:=hS.trans hW;have z45:=hW.size;clear e4 f4;have nE:=cd.up hS;have z5:=hS.size;apply Z6u rfl;refine Z0U rfl trivial (Zd rfl (ZO rfl) (Z6j X v l _ (λb hb=>by have:=hX b hb;omega) nE (by omega) dO)) (λ_ _ h=>Go.EngB.StpB.of h.2 z45 (by simp)) rfl ?_;rintro o w6 ⟨ac,hT⟩;have aJ:=λb hb=>ac.ob_le b hb;have z6:=hT.size;replace be:SlV (ob o++X) w6 nv a.rets:=be.ext hT (by simp) (λb hb=>(Xg.1 hb).elim (λh=>.inr (aJ b h).1) .inl);obtain ⟨p,m,rfl⟩:=Z3z be;replace hS:=hS.trans hT;refine Zp rfl trivial (Z3 (vs:=[(0,.agg (atC a (.slice p a.rets.length m)).toArray)]) rfl (Z8B a p _ m)) (λ_ _ h=>Go.EngB.StpB.of (Zh.stp h) (by omega) (by simp)) rfl ?_;rintro o3 w7 hN;have eJ:SlV (ob o++X) w7 o3 [a]:=hN.slv1 (λb hb=>(Xg.1 hb).elim (λh=>(aJ b h).2) (λh=>by have:=hX b h;omega)) ⟨_,rfl,be⟩;replace ac:=ac.up (Zh.stp hN);have z7:=(Zh.stp hN).size;replace hS:=hS.trans (Zh.stp hN);clear hN hT;refine Zp rfl trivial (ZJ (α:=Atp) (X:=X) (base:=w5.heap.size) rfl (by decide) rfl rfl ac eJ (Xl (Xt _ (show l.length+[a].length<=1001 by simp only [Xo,Xr];omega)) (by decide)) (by simp only [Xo,Xr,maxLen];omega) (by omega)) (λ_ _ h=>Go.EngB.StpB.of h.2.1 (by omega) (λb hb=>by have:=(aJ b hb).1;omega)) rfl ?_;rintro o4 w8 ⟨bX,hU,-⟩;replace hS:=hS.own hU (λb hb=>.inr (by have:=(aJ b hb).1;omega));refine Zg rfl trivial (λw'=>Z07 rfl) rfl ?_;refine Zg rfl trivial (λw'=>Z07 rfl) rfl ?_;refine Z3F ?_;focus repeat'(first|refine W1 ?_|omega|refine VG ?_ ?_<;>intro hg|refine VC ?_ ?_<;>intro hc)
 refine RU ?_;exact ⟨_,rfl,bX.lower (by omega),hS⟩;obtain ⟨p,m,rfl⟩:=Z3z be;refine Z0U rfl trivial (Z3 (vs:=[(0,.agg (atC a (.slice p a.rets.length m)).toArray)]) rfl (Z8B a p _ m)) (λ_ _ h=>Go.EngB.StpB.of (Zh.stp h) (by omega) (by simp)) rfl ?_;rintro o3 w6 hN;have eJ:SlV X w6 o3 [a]:=hN.slv1 (λb h=>by have:=hX b h;omega) ⟨_,rfl,be⟩;have z6:=(Zh.stp hN).size;replace hS:=hS.trans (Zh.stp hN);replace nE:=cd.up hS;clear hN;refine Zp rfl trivial (Zd rfl (ZO rfl) (Z6j X v l _ (λb hb=>by have:=hX b hb;omega) nE (by omega) dO)) (λ_ _ h=>Go.EngB.StpB.of h.2 (by omega) (by simp)) rfl ?_;rintro o w7 ⟨ac,hT⟩;have aJ:=λb hb=>ac.ob_le b hb;have z7:=hT.size;replace eJ:SlV (ob o++X) w7 o3 [a]:=eJ.ext hT (by simp) (λb hb=>(Xg.1 hb).elim (λh=>.inr (aJ b h).1) .inl);replace hS:=hS.trans hT;clear hT;refine Zp rfl trivial (ZJ (α:=Atp) (X:=X) (base:=w6.heap.size) rfl (by decide) rfl rfl ac eJ (Xl (Xt _ (show l.length+[a].length<=1001 by simp only [Xo,Xr];omega)) (by decide)) (by simp only [Xo,Xr,maxLen];omega) (by omega)) (λ_ _ h=>Go.EngB.StpB.of h.2.1 (by omega) (λb hb=>by have:=(aJ b hb).1;omega)) rfl ?_;rintro o4 w8 ⟨bX,hU,-⟩;replace hS:=hS.own hU (λb hb=>.inr (by have:=(aJ b hb).1;omega));refine Zg rfl trivial (λw'=>Z07 rfl) rfl ?_;refine Zg rfl trivial (λw'=>Z07 rfl) rfl ?_;refine Z3F ?_;focus repeat'(first|refine W1 ?_|omega|refine VG ?_ ?_<;>intro hg|refine VC ?_ ?_<;>intro hc)
 refine RU ?_;exact ⟨_,rfl,bX.lower (by omega),hS⟩
theorem ZbP (x:Rtn) (w):(Instr.buildSlice 58 1 #[(0,aG x)]).run Tryz.prog w=.ok (.slice (some ⟨w.heap.size,0,none⟩) 1 1) (w.alloc (.cells (Z2.enc x).toArray 62)):=by kernel_rfl
theorem Zik (l:List Atp) (i:Nat) (rv:Value) (a:Atp):(hol l i rv).set i ⟨a,none⟩=(l.set i a).map (λa=>(⟨a,none⟩:AtH)):=by
 unfold hol;rw [List.set_set,YbN]
theorem Z9V (X:List Nat) (v cv:Value) (l:List Atp) (i:Nat) (hi:i<l.length) (r:Rtn) (cs_:List Crr) (w:World) (hX:∀ b∈X,b<w.heap.size) (hs:SlV X w v l) (cX:SlV [] w cv cs_) (hl:l.length<=1000) (dO:∀ a∈l,a.rets.length<=1000) (hr:Z9R cs_.length (l[i].rets++[r])=0) :
 CC 10 #[v,.I (i:Int),aG r,cv] w λx w'=>∃ o,x=.tuple #[o,.I 0]/\Row X w' w.heap.size 60 o (l.set i { l[i] with rets:=l[i].rets++[r] })/\Stp [] w w':=by
 have cd:=hs;have tE:=dO _ (Xc hi);refine cW4 45 Tryz.func10 ?_;refine W ?_;refine BX (Stp.refl [] w) λb6 w1 h6 e6 _ hS=>?_;replace e6:Blk w1 b6 62 (Z2.enc r):=e6;replace hs:=hs.up hS;repeat'(first|refine W1 ?_|omega|refine VG ?_ ?_<;>intro hg|refine VC ?_ ?_<;>intro hc)
 refine CM (ZO rfl) (Z8A X v l i hi _ (λb hb=>Xj (hX b hb) hS.size) hs (by omega) dO) ?_;rintro o w2 ⟨⟨rv,ac,ci,dz⟩,hT⟩;have l6:=e6.lt;replace e6:=e6.up hT;have z1:=hS.size;have z2:=hT.size;replace hS:=hS.trans hT;have aJ:=λb hb=>ac.ob_le b hb;have jR:=λb hb=>ci.ob_le b hb;have iF:i<(hol l i rv).length:=by rw [Z2z];exact hi
 clear hs hT;have am:=Z2z l i rv;repeat'(first|refine W1 ?_|omega|refine VG ?_ ?_<;>intro hg|refine VC ?_ ?_<;>intro hc)
 refine WC_drawn 13 (ob rv) [12] [(0,0),(1,0),(2,0),(3,0),(4,0),(5,0),(6,1),(7,1),(8,2),(9,2),(10,0),(11,0),(12,2)] rfl mixed (by kernel_rfl) (by kernel_rfl) (by kernel_rfl) (λw3 ae=>?_);have py:=λb (hb:b∈ob rv)=>dz b hb;have n6:b6∉ob rv:=λh=>by have:=(jR _ h).1;omega
 have bq:=ZpF (rv:=rv) hi;replace ac:=ac.up ae;replace ci:=ci.up ae;replace e6:=e6.up ae;replace hS:=hS.trans ae;have z3:=ae.size;clear ae;have su:SlV (ob rv++X) w3 o (hol l i rv):=Row.slvN ac (λb hb=>(Xg.1 hb).elim (dz b) (λh h2=>by have:=hX b h;have:=(aJ b h2).1;omega));have br:SlV (ob rv) w3 o (hol l i rv):=su.ext (Stp.refl [] _) (by simp) (λb hb=>.inl (Yby _ hb));obtain ⟨cz,mL,ak⟩:=br.cell iF;rw [bq] at mL;obtain ⟨rfl,az⟩:=mL;have cg:w3.cell? (Zq o i 5 4)=some rv:=ak 4 _ rfl;refine Zg rfl trivial (λw'=>ZV rfl) rfl ?_;refine Zg rfl trivial (λw'=>ZV rfl) rfl ?_;refine Zg rfl trivial (λw'=>ZV rfl) rfl ?_;refine Zg rfl trivial (λw'=>ZV rfl) rfl ?_;refine Zg rfl trivial (λw'=>Z0n rfl br rfl rfl iF) rfl ?_;refine Zg rfl trivial (λw'=>Z0e rfl (SlV.isSome br iF)) rfl ?_;refine WD_read rfl trivial (λw' bp=>ZP rfl rfl (Z4A br iF bp cg)) rfl ?_;refine WD_read rfl trivial (λw' bp=>Zy (us:=Z2.enc r) rfl rfl (e6.ext bp n6) rfl rfl) rfl ?_;refine Zp rfl trivial (Z3 (vs:=[(0,aG r)]) rfl (ZbP r)) (λ_ _ h=>(Zh.stp h).mn) rfl ?_;rintro o3 w4 hN;have eJ:SlV (ob rv++[]) w4 o3 [r]:=hN.slv (λb hb=>(ci.ob_le b (by simpa using hb)).2) rfl rfl (by simp [maxLen]);have hT:=Zh.stp hN;replace ac:=ac.up hT;replace ci:=ci.up hT;replace hS:=hS.trans hT;have z4:=hT.size;clear hT hN ak cg;refine Zp rfl trivial (ZJ (α:=Rtn) (X:=[]) (base:=w1.heap.size) rfl (by decide) rfl rfl ci eJ (Xl (Xt _ (show l[i].rets.length+[r].length<=1001 by simp only [Xo,Xr];omega)) (by decide)) (by simp only [Xo,Xr,maxLen];omega) (by omega)) (λ_ _ h=>h.2.1) rfl ?_;rintro nv w5 ⟨jU,hU,iG⟩;replace ac:Row X w5 w1.heap.size 60 o (hol l i rv):=ac.ext hU (λb hb=>⟨Yby _ hb,dz b hb⟩) (λb hb=>.inl (List.mem_append_right _ hb));have be:SlV (ob o++X) w5 nv (l[i].rets++[r]):=Row.slvN (X:=ob o++X) (Jj jU) (λb hb h=>by
  rcases Xg.1 hb with bQ|bQ
  rcases iG b h with g|g
  exact dz b g bQ;have:=(aJ b bQ).2;omega;have:=hX b bQ;rcases iG b h with g|g
  have:=(jR b g).1;omega;omega)
 replace hS:=hS.own hU (λb hb=>.inr (by have:=(jR b hb).1;omega));have br:SlV X w5 o (hol l i rv):=ac.slv (λb hb=>by have:=hX b hb;omega);refine Zg rfl trivial (λw'=>Z0n rfl br rfl rfl iF) rfl ?_;refine Zg rfl trivial (λw'=>Z0e rfl (SlV.isSome br iF)) rfl ?_;refine Jg rfl trivial (Z1n (j:=4) (y':=⟨{ l[i] with rets:=l[i].rets++[r] },none⟩) (u:=nv) rfl rfl rfl be.cells be.one ac iF (by decide) (λcs h=>?_)) rfl ?_;rw [bq] at h;obtain ⟨rfl,-⟩:=h;exact ⟨nv,rfl,be⟩;rintro _ w6 ⟨kr,dX⟩;replace hS:=hS.own dX (λb hb=>.inr (by have:=(aJ b hb).1;omega));rw [Zik] at kr;replace kr:=Row.ofH kr;have cP:i<(l.set i { l[i] with rets:=l[i].rets++[r] }).length:=by simpa using hi
 have nF:SlV X w6 o (l.set i { l[i] with rets:=l[i].rets++[r] }):=kr.slv (λb hb=>by have:=hX b hb;omega);obtain ⟨cs,aH,ak⟩:=nF.cell cP;rw [Yao] at aH;obtain ⟨nv2,rfl,nG⟩:=aH;have cg:w6.cell? (Zq o i 5 4)=some nv2:=ak 4 _ rfl;have nH:=cX.up hS;clear jU iG be br ac hU dX ak;refine Z3F ?_;repeat'(first|refine W1 ?_|omega|refine VG ?_ ?_<;>intro hg|refine VC ?_ ?_<;>intro hc)
 refine Z0x rfl rfl cg rfl ?_;repeat'(first|refine W1 ?_|omega|refine VG ?_ ?_<;>intro hg|refine VC ?_ ?_<;>intro hc)
 refine CM (ZK rfl rfl) (Z3B nv2 cv _ cs_ _ (nG.ext (Stp.refl [] _) (by simp) (by simp)) nH) ?_;rintro _ w7 ⟨rfl,hT⟩;rw [hr];repeat'(first|refine W1 ?_|omega|refine VG ?_ ?_<;>intro hg|refine VC ?_ ?_<;>intro hc)
 refine RU ?_;exact ⟨_,rfl,(kr.up hT).lower (by omega),hS.trans hT⟩
end Go.Proofs.YtkojegdemoahlaaGreatDoor
namespace Go.Eng
open Go Go.RowKit Go.Proofs
variable {P:Program} {n:Nat} {Q:Exit->Act->World->Prop} {e:Env} {w:World} {ops:Array Oper} {Lt:List Nat} {rest:List (Nat×Nat)}
theorem WD.weak {S:List Nat} {e':Env} {ord:List (Nat×Nat)} (hs:∀ t v,look e' t=some v->look e t=some v) (h:WD P n ops S Lt Q ord e' w):WD P n ops S Lt Q ord e w:=⟨λlisted a b c ha=>h.h listed a b c (ha.weak hs)⟩
theorem OE.weak {o:Oper} {e':Env} {G:Value->World->Prop} (hs:∀ t v,look e' t=some v->look e t=some v) (h:OE P n o e' w G):OE P n o e w G:=⟨λa ha=>h.h a (ha.weak hs)⟩
theorem Zil {d:Nat} {v:Value} {e:Env} (h:look e d=none):∀ t u,look e t=some u->look ((d,v) :: e) t=some u:=λt u g=>by
 by_cases hd:d=t;subst hd;rw [h] at g;cases g;rw [Zb,if_neg hd];exact g
theorem Z5L {d:Nat} {v:Value} {e:Env}:ev ((d,v) :: e) (.tmp d)=some v:=by show look _ _=_;rw [Zb,if_pos rfl]
theorem Z7h {d d':Nat} {v v':Value} {e:Env} (h:d'≠d) (g:ev e (.tmp d)=some v):ev ((d',v') :: e) (.tmp d)=some v:=by show look _ _=_;rw [Zb,if_neg h];exact g
theorem Zim {α:Type} [Z2 α] {iC i7 i8 i9 iA iS dC d7 d8 d9 dA T0 T m tC t7 t8 t9 tA tS:Nat} {pC p7 p8 p9 pA pS:String} {aC a7 a8 a9 aA aS:Array Edge} {opC:Op} {z y:Value} {cs:Value->List Value} {xs:List α}
 [hz:Zer P T z] [bw:Siz P T m]
 (call:∀ W,Stp [] w W->OE P n ⟨some dC,opC,tC,pC,aC,none⟩ e W (λv W'=>∃ rv,v=.tuple #[.agg (cs rv).toArray,y]/\ZE T0 W W' rv xs))
 (aH:∀ W rv,SlV [] W rv xs->∀ u∈cs rv,u.oneCell'=true)
 (k:∀ rv b W,Stp [] w W->w.heap.size<=b->Blk W b T (cs rv)->(∀ X:List Nat,(∀ c∈X,c<w.heap.size)->SlV X W rv xs)->WD P n ops [] Lt Q rest ((dA,pQ b) :: (d9,y) :: e) W)
 (hC:ops[iC]?=some ⟨some dC,opC,tC,pC,aC,none⟩:=by exact rfl)
 (h7:ops[i7]?=some ⟨some d7,.move (.tmp dC),t7,p7,a7,none⟩:=by exact rfl)
 (h8:ops[i8]?=some ⟨some d8,.extract (.tmp d7) 0,t8,p8,a8,none⟩:=by exact rfl)
 (h9:ops[i9]?=some ⟨some d9,.extract (.tmp d7) 1,t9,p9,a9,none⟩:=by exact rfl)
 (hA:ops[iA]?=some ⟨some dA,.alloc T,tA,pA,aA,none⟩:=by exact rfl)
 (hS:ops[iS]?=some ⟨none,.store T (.tmp dA) (.tmp d8),tS,pS,aS,none⟩:=by exact rfl)
 (hn:look e dC=none/\look e d7=none/\look e d8=none/\look e d9=none/\look e dA=none:=by exact ⟨rfl,rfl,rfl,rfl,rfl⟩)
 (hd:dC≠dA/\d7≠dA/\d8≠dA/\d9≠dA/\d8≠d9/\d7≠d8/\d7≠d9/\dC≠d9/\dC≠d7/\dC≠d8:=by decide)
 (ah:Nat.blt dC n=true/\Nat.blt d7 n=true/\Nat.blt d8 n=true/\Nat.blt d9 n=true/\Nat.blt dA n=true:=by exact ⟨rfl,rfl,rfl,rfl,rfl⟩)
 (hm:∀ rv,(cs rv).length=m:=by intro rv;exact rfl) (kR:z.cells.toList.length=m:=by exact rfl)
 (nI:Z1R iA ((i7,0) :: (i8,0) :: (i9,0) :: (iA,2) :: (iS,2) :: rest)=(i7,0) :: (i8,0) :: (i9,0) :: (iS,2) :: rest:=by exact rfl) (hq:Nat.blt (iA+3) 100000=true:=by exact rfl) (hL:Lt.contains iS=true:=by exact rfl) :
 WD P n ops [] Lt Q ((iC,iA+3) :: (i7,0) :: (i8,0) :: (i9,0) :: (iA,2) :: (iS,2) :: rest) e w:=by
 obtain ⟨nC,n7,n8,n9,nA⟩:=hn;obtain ⟨lC,l7,l8,l9,lA⟩:=ah;obtain ⟨dCA,d7A,d8A,d9A,d89,d78,d79,dC9,dC7,dC8⟩:=hd
 have fin:∀ (rv:Value) (b:Nat) (W:World) (e':Env),ev e' (.tmp dA)=some (pQ b)->ev e' (.tmp d8)=some (.agg (cs rv).toArray)->(∀ t u,look ((dA,pQ b) :: (d9,y) :: e) t=some u->look e' t=some u)->
  Stp [] w W->w.heap.size<=b->Blk W b T z.cells.toList->(∀ X:List Nat,(∀ c∈X,c<w.heap.size)->SlV (b :: X) W rv xs)->WD P n ops [] Lt Q ((iS,2) :: rest) e' W:=by
  intro rv b W e' sw sy hw hT hb kb hs;refine Jg hS trivial (Jf (us:=cs rv) sw sy (by simp [Value.cells]) (hm rv) (aH W rv ((hs [] (by simp)).ext (X':=[]) (Stp.refl [] _) (by simp) (by simp))) kb (by rw [hm,kR])) hL ?_;rintro _ W' ⟨hU,kb'⟩;exact (k rv b W' (hT.ow hU) hb kb' (λX hX=>(hs X hX).ext hU (by simp) (λc hc=>.inl (by simp [hc])))).weak hw
 apply Z6u hq;refine Z0U hC trivial (call w (Stp.refl _ _)) (λv W h=>by obtain ⟨rv,-,h⟩:=h;exact h.2) lC ?_;rintro _ W ⟨rv,rfl,hr⟩;refine Zg h7 trivial (λw'=>ZV Z5L) l7 ?_;refine Zg h8 trivial (λw'=>Z08 Z5L rfl) l8 ?_;refine Zg h9 trivial (λw'=>Z08 (Z7h (Ne.symm d78) Z5L) rfl) l9 ?_;refine Zp hA trivial Z4 (λ_ _ h=>h.choose_spec.2.2.2) lA ?_;rintro _ W' ⟨b,rfl,hb,kb,hT⟩;have hz:=hr.2.size;refine fin rv b W' _ Z5L (Z7h (Ne.symm d8A) (Z7h (Ne.symm d89) Z5L)) ?_ (hr.2.trans hT) (by omega) kb ?_;refine λt u h=>?_;by_cases h1:dA=t;subst h1;rwa [Zb,if_pos rfl] at h ⊢;rw [Zb,if_neg h1] at h ⊢;by_cases h2:d9=t;subst h2;rwa [Zb,if_pos rfl] at h ⊢;rw [Zb,if_neg h2] at h ⊢;have g1:d8≠t:=λg=>by rw [<- g,n8] at h;cases h
 have g2:d7≠t:=λg=>by rw [<- g,n7] at h;cases h
 have g3:dC≠t:=λg=>by rw [<- g,nC] at h;cases h
 rw [Zb,if_neg g1,Zb,if_neg g2,Zb,if_neg g3];exact h;exact λX hX=>(hr.slv hX).ext hT (by simp) (λc hc=>(Xd.1 hc).elim (λh=>.inr (by omega)) .inl)
 rw [nI];refine Z0U hA trivial Z4 (λ_ _ h=>h.choose_spec.2.2.2) lA ?_;rintro _ W ⟨b,rfl,hb,kb,hT⟩;refine Zp hC trivial ((call W hT).weak (Zil nA)) (λv W h=>by obtain ⟨rv,-,h⟩:=h;exact h.2) lC ?_;rintro _ W' ⟨rv,rfl,hr⟩;have hs:=λ(X:List Nat) (hX:∀ c∈X,c<w.heap.size)=>hr.slv (X:=b :: X) (λc hc=>(Xd.1 hc).elim (λh=>h ▸ kb.lt) (λh=>Xj (hX c h) hT.size));refine Zg h7 trivial (λw'=>ZV Z5L) l7 ?_;refine Zg h8 trivial (λw'=>Z08 Z5L rfl) l8 ?_;refine Zg h9 trivial (λw'=>Z08 (Z7h (Ne.symm d78) Z5L) rfl) l9 ?_;refine fin rv b W' _ (Z7h d9A (Z7h d8A (Z7h d7A (Z7h dCA Z5L)))) (Z7h (Ne.symm d89) Z5L) ?_ (hT.trans hr.2) hb (kb.up hr.2) hs;refine λt u h=>?_;by_cases h1:dA=t;subst h1;rw [Zb,if_pos rfl] at h;rw [Zb,if_neg d9A,Zb,if_neg d8A,Zb,if_neg d7A,Zb,if_neg dCA,Zb,if_pos rfl];exact h;rw [Zb,if_neg h1] at h;by_cases h2:d9=t;subst h2;rwa [Zb,if_pos rfl] at h ⊢;rw [Zb,if_neg h2] at h ⊢;have g1:d8≠t:=λg=>by rw [<- g,n8] at h;cases h
 have g2:d7≠t:=λg=>by rw [<- g,n7] at h;cases h
 have g3:dC≠t:=λg=>by rw [<- g,nC] at h;cases h
 rw [Zb,if_neg g1,Zb,if_neg g2,Zb,if_neg g3,Zb,if_neg h1];exact h
end Go.Eng
namespace Go.Proofs.YtkojegdemoahlaaGreatDoor
open Go Go.Eng Go.RowKit
theorem Zin (op:BinOp) (x y:Operand) (a b:Rsn) (w):(eqGuard op 73 x y (agg a) (agg b)).run Tryz.prog w=.ok () w:=by
 cases op<;>kernel_rfl
theorem ZpH (a b:Rsn) (w):(binOp .neq 73 (agg a) (agg b)).run Tryz.prog w=.ok (.B (decide (¬ a=b))) w:=by
 have h1:Program.stoodInHeld Tryz.prog 73=false:=by kernel_rfl
 obtain ⟨i,hi⟩:∃ i,Tryz.prog.info? 3=some i:=by
  have:=(inferInstance:Siz Tryz.prog 3 1).h;cases h:Tryz.prog.info? 3 with
  | none=>rw [h] at this;cases this
  | some i=>exact ⟨i,rfl⟩
 obtain ⟨a1,a2,a3⟩:=a;obtain ⟨b1,b2,b3⟩:=b;simp [agg,Z2.enc,run_neq_struct,run_equalIn_struct,h1,Program.fieldsOf,Tryz.underlying73,Op.eqFields,part,Und.isAgg,Siz.run,JO,run_equalIn_int w _ _ .i64 .i64 _ _ Tryz.underlying3];repeat' split
 all_goals simp_all
theorem Z8m.cell {c:Cas} {R:Z5B} {w} (h:Z8m w c R):∀ u∈Z1j c R,u.oneCell'=true:=by
 have h1:=h.ff.one;have h2:=h.rr.one;have h3:=h.aa.one;have h4:=h.cc.one;have h5:=h.ss.one;have h6:=h.cal.hols.one;have h7:=h.cal.clos.one;obtain ⟨h8,h9,iP⟩:=h.one;intro u hu;simp only [Z1j,Jq,Xd,Xp,or_false,X9,XM] at hu;rcases hu with rfl|rfl|rfl|rfl|rfl|rfl|rfl|rfl|rfl|rfl|rfl|rfl|rfl|rfl|rfl|rfl|rfl|rfl|rfl<;>first|assumption|rfl
theorem Zio (f:Fct) (w):(Instr.buildSlice 38 1 #[(0,aG f)]).run Tryz.prog w=.ok (.slice (some ⟨w.heap.size,0,none⟩) 1 1) (w.alloc (.cells (Z2.enc f).toArray 54)):=by kernel_rfl
theorem Z8C (er:Value) (m:Int) (w) (hF:SlV [] w Z1w Za) (ew:Z05 w) (ez:Z1i w) (cE:w.cell? ⟨2,0,none⟩=some (.I m)) (iu:w.cell? ⟨5,0,none⟩=some er) (bJ:er=.nilIface\/∃ te pe,er=.iface te pe) :
 CC 13 #[] w λr w'=>r=.B true/\Stp [] w w':=Z9G er m w hF ew ez cE iu bJ
open Go Go.Eng Go.RowKit Go.Proofs
theorem Zip (e:Int) (w):(Instr.buildSlice 33 3 #[(0,aG (⟨e,0⟩:Crr)),(1,aG (⟨1,0⟩:Crr)),(2,aG (⟨0,0⟩:Crr))]).run Tryz.prog w=.ok (.slice (some ⟨w.heap.size,0,none⟩) 3 3) (w.alloc (.cells #[.I e,.I 0,.I 1,.I 0,.I 0,.I 0] 32)):=by kernel_rfl
theorem Z5s (e:Int) (w):(Instr.build 32 #[(0,.I e)]).run Tryz.prog w=.ok (aG (⟨e,0⟩:Crr)) w:=by kernel_rfl
def caR (rv cv:Value) (fv av:Value):Z5B:=⟨fv,rv,av,cv,.N,.N,.N,.I 0,.N,.I 0⟩
theorem Zf1 (p1 p3:Option Addr) (k1 m1 k3 m3:Nat) (w):(Instr.build 50 #[(1,.slice p1 k1 m1),(3,.slice p3 k3 m3),(7,.I 739686)]).run Tryz.prog w=.ok (.agg (Z1j (Jm 0 [] [] 0) (caR (.slice p1 k1 m1) (.slice p3 k3 m3) (.N) (.N))).toArray) w:=by kernel_rfl
theorem Zf2 (i:Nat) (p:Pap) (w):(Instr.build 54 #[(0,.I (i:Int)),(1,str [99,108,97,105,109]),(2,.I p.sent),(4,.I p.party)]).run Tryz.prog w=.ok (aG (Z03 i p)) w:=by kernel_rfl
theorem Zf3 (i:Nat) (p:Pap) (w):(Instr.build 60 #[(0,.I (i:Int)),(1,.I p.party),(2,.I p.carrier),(3,.I p.sent)]).run Tryz.prog w=.ok (.agg (atC (JQ i p []) (.N)).toArray) w:=by kernel_rfl
theorem Zf4 (a b c:Int) (w):(Instr.build 73 #[(0,.I a),(1,.I b),(2,.I c)]).run Tryz.prog w=.ok (aG (⟨a,b,c⟩:Rsn)) w:=by kernel_rfl
theorem Zml (pv qv:Value) (p q:List Int) (ex:Int) (er:Value) (m:Int) (w) (hp:SlV [] w pv p) (sz:∀ a∈p,I64 a) (hq:SlV [] w qv q) (sA:∀ a∈q,I64 a) (fZ:I64 ex) (hF:SlV [] w Z1w Za) (ew:Z05 w) (ez:Z1i w) (cE:w.cell? ⟨2,0,none⟩=some (.I m)) (iu:w.cell? ⟨5,0,none⟩=some er) (bJ:er=.nilIface\/∃ te pe,er=.iface te pe) :
 CC 3 #[pv,qv,.I ex] w λr w'=>r=.B true/\Stp [] w w':=by
 refine cW3 217 Tryz.func3 ?_;refine W ?_;refine CM (ZO rfl) (Z9I [] m w (by simp) hF ew ez cE) ?_;rintro _ w1 ⟨rv,rfl,cK,hS⟩;replace hp:=hp.up hS;replace hq:=hq.up hS;refine W ?_;refine CM (ZO rfl) (ZbJ [] [] pv p w1 (by simp) hp sz) ?_;rintro pp w2 ⟨pz,hT⟩;have aZ:SlV [] w2 pp (ZI p):=pz.slv (by simp);replace hp:=hp.up hT;replace hq:=hq.up hT;replace cK:=cK.up hT;replace hS:=hS.trans hT;clear hT pz;refine W ?_;refine CM (ZK rfl rfl) (ZhZ [] [] [] qv pp (ZI p) q w2 (by simp) aZ hq sA (by have:=Z1F p;omega)) ?_;rintro wv w3 ⟨pB,hT⟩;have cD:SlV [] w3 wv (Z19 (ZI p) q):=pB.slv (by simp);replace aZ:=aZ.up hT;replace cK:=cK.up hT;replace hS:=hS.trans hT;clear hT pB hp hq;have aY:=Z9U p q;have aN:=ZeR p q;generalize Z19 (ZI p) q=ws at *;generalize ZI p=ps at *;have am:=aY.len;refine W ?_;refine CP hS (Z6L ex 30 _ (by decide) fZ) λw4 hT hS=>?_
 have hr:=Z6M (if ex<0 then -(ex+1) else ex) 30 (by decide);generalize (if ex<0 then -(ex+1) else ex) % 30=e at hr ⊢;replace aZ:=aZ.up hT;replace cD:=cD.up hT;replace cK:=cK.up hT;clear hT;refine W ?_;refine Z9 (vs:=[(0,.I e)]) rfl (Z5s e) rfl ?_;refine Z9 (vs:=[(0,.I 1)]) rfl (Z5s 1) rfl ?_;refine Z9 (vs:=[(0,.I 0)]) rfl (Z5s 0) rfl ?_;refine Z0 (Z3 (vs:=[(0,aG (⟨e,0⟩:Crr)),(1,aG (⟨1,0⟩:Crr)),(2,aG (⟨0,0⟩:Crr))]) rfl (Zip e)) rfl ?_;rintro cv w5 hN;have aH:SlV [] w5 cv (Z0s e):=hN.slv (by simp) rfl rfl (by simp [maxLen,Z0s]);have hT:=Zh.stp hN;replace aZ:=aZ.up hT;replace cD:=cD.up hT;replace cK:=cK.up hT;replace hS:=hS.trans hT;clear hT hN;refine W ?_;refine CM (Z16 rfl rfl rfl) (Zi8 [] [] [] pp wv ps ws 739686 w5 (by simp) aZ cD aN) ?_;rintro _ w6 ⟨dv,av,rfl,-,fy,hT⟩;replace aZ:=aZ.up hT;replace cK:=cK.up hT;replace aH:=aH.up hT;replace hS:=hS.trans hT;clear hT cD;refine W ?_;obtain ⟨p1,m1,ku⟩:=Z3z cK;obtain ⟨p3,m3,kw⟩:=Z3z aH;refine Z9 (vs:=[(1,rv),(3,cv),(7,.I 739686)]) (u:=.agg (Z1j (Jm 0 [] [] 0) (caR rv cv (.N) (.N))).toArray) rfl (by rw [ku,kw];exact Zf1 _ _ _ _ _ _) rfl ?_;clear ku kw;refine Z0 Z4 rfl ?_;rintro _ w7 ⟨b14,rfl,mG,e14,hT⟩;have sB:=cK.one;have bG:=aH.one;refine Z5 (Jf (us:=Z1j (Jm 0 [] [] 0) (caR rv cv (.N) (.N))) rfl rfl rfl rfl (λu hu=>by
  simp only [Z1j,Jq,Jm,Zmh,caR,Xd,Xp,or_false,X9,XM] at hu;rcases hu with rfl|rfl|rfl|rfl|rfl|rfl|rfl|rfl|rfl|rfl|rfl|rfl|rfl|rfl|rfl|rfl|rfl|rfl|rfl<;>first|assumption|rfl) e14 rfl) ?_
 rintro _ w8 ⟨hU,e14⟩;have Y:=hT.ow hU;have l14:=e14.lt;have z8:=Y.size;clear hT hU;refine W ?_;refine LP (σ:=Nat) (λi=>[(8,.B true),(9,pp),(11,cv),(13,av),(14,pQ b14),(15,.I (i:Int))]) (λi W=>i<=ps.length/\Stp [] w6 W/\∃ fv tv,Blk W b14 50 (Z1j (Jm 0 [] [] 0) (caR rv cv fv tv))/\Row [] W w8.heap.size 54 fv (Z0T ps i)/\SlV (b14 :: ob fv) W tv (Z0r (Zc 739686 ws ps) ps i)/\w8.heap.size<=W.heap.size) (λi=>ps.length - i) 0 ⟨Xu _,Y,_,_,e14,Row.nil,SlV.nilC _ _,Xm _⟩ ?_;clear e14 Y;rintro i y1 ⟨hi,Y,fv,tv,e14,ac,bq,z1⟩;have aU:=aZ.up Y;have bK:=fy.up Y;have bG:=aH.up Y;have ia:=aU.max;by_cases ah:i<ps.length;have aJ:=λb hb=>ac.ob_le b hb;have n14:b14∉ob fv:=λh=>by have:=(aJ _ h).1;omega
 have cA:SlV (ob fv) y1 pp ps:=aZ.ext Y (by simp) (λb hb=>.inr (by have:=(aJ b hb).1;omega));have kJ:=aY.pa _ (Xc ah);focus repeat'(first|refine W1 ?_|omega|refine VG ?_ ?_<;>intro hg|refine VC ?_ ?_<;>intro hc)
 refine WC_drawn 18 (ob fv) [17] [(0,0),(1,1),(2,0),(3,0),(4,0),(5,0),(6,0),(7,1),(8,0),(9,0),(10,0),(11,0),(12,1),(13,0),(14,2),(15,2),(16,0),(17,2)] rfl mixed (by kernel_rfl) (by kernel_rfl) (by kernel_rfl) (λy2 ae=>?_);replace e14:=e14.up ae;replace ac:=ac.up ae;replace bq:=bq.up ae;replace cA:=cA.up ae;replace Y:=Y.trans ae;have z2:=ae.size;clear ae;refine Zg rfl trivial (λw'=>Z0w rfl) rfl ?_;refine WD_read rfl trivial (λw' bp=>J4 rfl rfl (e14.ext bp n14) rfl) rfl ?_;refine Zg rfl trivial (λw'=>ZV rfl) rfl ?_;refine Zg rfl trivial (λw'=>ZV rfl) rfl ?_;refine Zg rfl trivial (λw'=>ZV rfl) rfl ?_;refine Zg rfl trivial (λw'=>Z0n rfl cA rfl rfl ah) rfl ?_;refine Zg rfl trivial (λw'=>Z0e rfl (SlV.isSome cA ah)) rfl ?_;refine WD_read rfl trivial (λw' bp=>ZP rfl rfl (Z4A cA ah bp (cA.cellF ah (j:=3) rfl))) rfl ?_;refine Zg rfl trivial (λw'=>ZV rfl) rfl ?_;refine Zg rfl trivial (λw'=>ZV rfl) rfl ?_;refine Zg rfl trivial (λw'=>Z0n rfl cA rfl rfl ah) rfl ?_;refine Zg rfl trivial (λw'=>Z0e rfl (SlV.isSome cA ah)) rfl ?_;refine WD_read rfl trivial (λw' bp=>ZP rfl rfl (Z4A cA ah bp (cA.cellF ah (j:=1) rfl))) rfl ?_;refine Zg rfl trivial (λw'=>Z0J (vs:=[(0,.I (i:Int)),(1,str [99,108,97,105,109]),(2,.I ps[i].sent),(4,.I ps[i].party)]) rfl (Zf2 i ps[i])) rfl ?_;refine Zp rfl trivial (Z3 (vs:=[(0,aG (Z03 i ps[i]))]) rfl (Zio _)) (λ_ _ h=>(Zh.stp h).mn) rfl ?_;rintro o3 y3 hN;have eJ:SlV (ob fv++[]) y3 o3 [Z03 i ps[i]]:=hN.slv (λb hb=>(ac.ob_le b (by simpa using hb)).2) rfl rfl (by simp [maxLen]);have hT:=Zh.stp hN;replace ac:=ac.up hT;replace bq:=bq.up hT;replace e14:=e14.up hT;replace Y:=Y.trans hT;have z3:=hT.size;clear hT hN;refine Zp rfl trivial (ZJ (α:=Fct) (X:=[]) (base:=w8.heap.size) rfl (by decide) rfl rfl ac eJ (Xl (Xt _ (show (Z0T ps i).length+1<=9 by rw [Z3D];omega)) (by decide)) (by rw [Z3D];simp only [Xo,Xr,maxLen];omega) (by omega)) (λ_ _ h=>h.2.1) rfl ?_;rintro fv2 y4 ⟨ac,hU,fS⟩;rw [<- ZbL ps i ah] at ac;replace e14:=e14.ext hU n14;replace bq:SlV (b14 :: ob fv2) y4 tv _:=bq.ext hU (λb hb=>X0 _ hb) (λb hb=>by
  rcases Xd.1 hb with rfl|hb
  exact .inl YaB;exact (fS b hb).imp (X0 _) id)
 clear fS;replace Y:=Y.own hU (λb hb=>.inr (by have:=(aJ b hb).1;omega));have z4:=hU.size;clear hU eJ aJ;have dV:SlV [] y4 fv2 (Z0T ps (i+1)):=ac.slv (by simp);have aJ:=λb hb=>ac.ob_le b hb;refine Zg rfl trivial (λw'=>Z0w rfl) rfl ?_;refine Jg rfl trivial (Zj (u:=fv2) rfl rfl dV.cells dV.one e14 (show (0:Nat)<19 by decide)) rfl ?_;rintro _ y5 ⟨hU,e14⟩;replace e14:Blk y5 b14 50 (Z1j (Jm 0 [] [] 0) (caR rv cv fv2 tv)):=e14;replace ac:Row [] y5 w8.heap.size 54 fv2 (Z0T ps (i+1)):=(Jj (X':=[b14]) ac).ext hU (λb hb=>⟨hb,λh=>by have:=(aJ b h).1;simp at hb;omega⟩) (by simp);replace bq:SlV (b14 :: ob fv2) y5 tv _:=bq.ext hU (λb hb=>by simp at hb;simp [hb]) (λb hb=>.inl hb);replace Y:=Y.ow hU;have z5:=hU.size;clear hU dV aJ cA aU bK bG;refine Z3F ?_;focus repeat'(first|refine W1 ?_|omega|refine VG ?_ ?_<;>intro hg|refine VC ?_ ?_<;>intro hc)
 have aU:=aZ.up Y;have bG:=aH.up Y;refine ZDr 26 [] [] [(0,0),(1,1),(2,0),(3,0),(4,0),(5,0),(6,0),(7,1),(8,0),(9,0),(10,0),(11,0),(12,1),(13,0),(14,0),(15,0),(16,0),(17,1),(18,0),(19,0),(20,2),(21,0),(22,0),(23,0),(24,0),(25,0)] (λw1 ae=>?_);replace e14:=e14.up ae;replace ac:=ac.up ae;replace bq:=bq.up ae;replace aU:=aU.up ae;replace bG:=bG.up ae;replace Y:=Y.trans ae;have z6:=ae.size;clear ae;focus repeat'(first|refine D1 ?_|omega|refine Z8 rfl rfl rfl rfl (λhg=>?_) (λhg=>?_)|(refine Z6 rfl rfl rfl rfl (λhg=>?_) (λhg=>?_)<;>refine D1 ?_)|fail)
 refine Zg rfl trivial (λw'=>Z0J (vs:=[(0,.I (i:Int)),(1,.I ps[i].party),(2,.I ps[i].carrier),(3,.I ps[i].sent)]) rfl (Zf3 i ps[i])) rfl ?_;focus repeat'(first|refine D1 ?_|omega|refine Z8 rfl rfl rfl rfl (λhg=>?_) (λhg=>?_)|(refine Z6 rfl rfl rfl rfl (λhg=>?_) (λhg=>?_)<;>refine D1 ?_)|fail)
 have iH:∀ b∈b14 :: ob fv2,b < _:=λb hb=>by
  rcases Xd.1 hb with rfl|hb
  exact e14.lt;exact (ac.ob_le b hb).2
 refine Zp rfl trivial (Zd rfl (Z16 rfl rfl rfl) (ZbO (b14 :: ob fv2) tv cv (.N) _ (JQ i ps[i] []) (Z0s e) _ iH bq (SlV.nilC _ _) bG (by rw [JN];omega) (Z6i aN.dist (by omega)) (Xu _) (aY.att (Xc ah) (by omega) 0 (by omega)))) (λ_ _ ⟨_,_,_,h⟩=>h) rfl ?_;rintro _ y7 ⟨nv,rfl,kx,hU⟩;have eN:SlV (b14 :: ob fv2) y7 nv _:=kx.slv iH;replace e14:=e14.up hU;replace ac:=ac.up hU;replace Y:=Y.trans hU;have z7:=hU.size;clear hU kx bq aU bG iH;focus repeat'(first|refine D1 ?_|omega|refine Z8 rfl rfl rfl rfl (λhg=>?_) (λhg=>?_)|(refine Z6 rfl rfl rfl rfl (λhg=>?_) (λhg=>?_)<;>refine D1 ?_)|fail)
 focus repeat'(first|refine W1 ?_|omega|refine VG ?_ ?_<;>intro hg|refine VC ?_ ?_<;>intro hc)
 refine Z5 (Zj (u:=nv) rfl rfl eN.cells eN.one e14 (show (2:Nat)<19 by decide)) ?_;rintro _ y8 ⟨hU,e14⟩;replace e14:Blk y8 b14 50 (Z1j (Jm 0 [] [] 0) (caR rv cv fv2 nv)):=e14;have aJ:=λb hb=>ac.ob_le b hb;replace ac:Row [] y8 w8.heap.size 54 fv2 (Z0T ps (i+1)):=(Jj (X':=[b14]) ac).ext hU (λb hb=>⟨hb,λh=>by have:=(aJ b h).1;simp at hb;omega⟩) (by simp);replace eN:SlV (b14 :: ob fv2) y8 nv _:=eN.ext hU (λb hb=>by simp at hb;simp [hb]) (λb hb=>.inl hb);replace Y:=Y.ow hU;have z8:=hU.size;clear hU aJ;have dO:=fy.max;focus repeat'(first|refine W1 ?_|omega|refine VG ?_ ?_<;>intro hg|refine VC ?_ ?_<;>intro hc)
 refine LP (σ:=Nat) (λk=>[(8,.B true),(9,pp),(11,cv),(13,av),(14,pQ b14),(15,.I (i:Int)),(18,.I (k:Int))]) (λk W=>k<=(Zc 739686 ws ps).length/\Stp [] w6 W/\w8.heap.size<=W.heap.size/\∃ tv,Blk W b14 50 (Z1j (Jm 0 [] [] 0) (caR rv cv fv2 tv))/\Row [] W w8.heap.size 54 fv2 (Z0T ps (i+1))/\SlV (b14 :: ob fv2) W tv (Z0r (Zc 739686 ws ps) ps i++[JQ i ps[i] (J0 ((Zc 739686 ws ps).take k) ps[i].attempt)])) (λk=>(Zc 739686 ws ps).length - k) 0 ⟨Xu _,Y,by omega,nv,e14,ac,eN⟩ ?_;clear e14 ac eN Y z1 z2 z3 z4 z5 z6 z7 z8;rintro k y1 ⟨hk,Y,z1,tv,e14,ac,bq⟩;have aU:=aZ.up Y;have bK:=fy.up Y;have bG:=aH.up Y;by_cases dc:k<(Zc 739686 ws ps).length;have ax:=ZeY (Zc 739686 ws ps) ps[i].attempt k dc;obtain ⟨n1,sC,dD⟩:=Z8y (till:=739686) (ws:=ws) aN.dist (Xc ah) (k+1);focus repeat'(first|refine W1 ?_|omega|refine VG ?_ ?_<;>intro hg|refine VC ?_ ?_<;>intro hc)
 refine ZDr 11 [] [] [(0,0),(1,0),(2,0),(3,0),(4,1),(5,0),(6,0),(7,0),(8,0),(9,1),(10,0)] (λw1 ae=>?_);replace e14:=e14.up ae;replace ac:=ac.up ae;replace bq:=bq.up ae;replace aU:=aU.up ae;replace bK:=bK.up ae;replace bG:=bG.up ae;replace Y:=Y.trans ae;have z2:=ae.size;clear ae;focus repeat'(first|refine D1 ?_|omega|refine Z8 rfl rfl rfl rfl (λhg=>?_) (λhg=>?_)|(refine Z6 rfl rfl rfl rfl (λhg=>?_) (λhg=>?_)<;>refine D1 ?_)|fail)
 focus repeat'(first|refine W1 ?_|omega|refine VG ?_ ?_<;>intro hg|refine VC ?_ ?_<;>intro hc)
 rw [if_pos hc] at ax;refine ZDr 15 [] [] [(0,0),(1,1),(2,0),(3,0),(4,0),(5,0),(6,0),(7,1),(8,0),(9,2),(10,0),(11,0),(12,0),(13,0),(14,0)] (λw1 ae=>?_);replace e14:=e14.up ae;replace ac:=ac.up ae;replace bq:=bq.up ae;replace aU:=aU.up ae;replace bK:=bK.up ae;replace bG:=bG.up ae;replace Y:=Y.trans ae;have z3:=ae.size;clear ae;focus repeat'(first|refine D1 ?_|omega|refine Z8 rfl rfl rfl rfl (λhg=>?_) (λhg=>?_)|(refine Z6 rfl rfl rfl rfl (λhg=>?_) (λhg=>?_)<;>refine D1 ?_)|fail)
 refine WD_read rfl trivial (λw' bp=>Z1Q (us:=Z2.enc (Z9T (Zc 739686 ws ps)[k])) rfl rfl (bK.up bp) dc rfl rfl rfl) rfl ?_;focus repeat'(first|refine D1 ?_|omega|refine Z8 rfl rfl rfl rfl (λhg=>?_) (λhg=>?_)|(refine Z6 rfl rfl rfl rfl (λhg=>?_) (λhg=>?_)<;>refine D1 ?_)|fail)
 have iH:∀ b∈b14 :: ob fv2,b < _:=λb hb=>by
  rcases Xd.1 hb with rfl|hb
  exact e14.lt;exact (ac.ob_le b hb).2
 have j7:i<(Z0r (Zc 739686 ws ps) ps i++[JQ i ps[i] (J0 ((Zc 739686 ws ps).take k) ps[i].attempt)]).length:=by rw [Xe,JN];simp
 have fu:(Z0r (Zc 739686 ws ps) ps i++[JQ i ps[i] (J0 ((Zc 739686 ws ps).take k) ps[i].attempt)])[i]=JQ i ps[i] (J0 ((Zc 739686 ws ps).take k) ps[i].attempt):=by
  rw [Yaf (by rw [JN];omega)];simp [JN]
 have eK:∀ a∈Z0r (Zc 739686 ws ps) ps i++[JQ i ps[i] (J0 ((Zc 739686 ws ps).take k) ps[i].attempt)],a.rets.length<=1000:=λa ha=>by
  rcases Xg.1 ha with ha|ha
  exact Z6i aN.dist (by omega) a ha;obtain ⟨n2,tF,cM⟩:=Z8y (till:=739686) (ws:=ws) aN.dist (Xc ah) k;obtain rfl:=Xw.1 ha;show (J0 _ _).length<=_;rw [cM,Ya3];omega
 have eZ:(Z0r (Zc 739686 ws ps) ps i++[JQ i ps[i] (J0 ((Zc 739686 ws ps).take k) ps[i].attempt)]).set i (JQ i ps[i] (J0 ((Zc 739686 ws ps).take (k+1)) ps[i].attempt))=Z0r (Zc 739686 ws ps) ps i++[JQ i ps[i] (J0 ((Zc 739686 ws ps).take (k+1)) ps[i].attempt)]:=by
  rw [List.set_append_right _ _ (by rw [JN];omega)];simp [JN]
 refine Zp rfl trivial (Zd rfl (Z30 rfl rfl rfl rfl) (Z9V (b14 :: ob fv2) tv cv _ i j7 (Z9T (Zc 739686 ws ps)[k]) (Z0s e) _ iH bq bG (by rw [Xe,JN];simp;omega) eK (by rw [fu];show Z9R 3 (J0 _ _++_)=0;rw [<- ax,dD];exact aY.ret (Xc ah) n1 sC))) (λ_ _ ⟨_,_,_,h⟩=>h) rfl ?_;rintro _ y7 ⟨nv,rfl,kx,hU⟩;have eN:SlV (b14 :: ob fv2) y7 nv (Z0r (Zc 739686 ws ps) ps i++[JQ i ps[i] (J0 ((Zc 739686 ws ps).take (k+1)) ps[i].attempt)]):=by
  have h:=kx.slv iH;rw [<- eZ,ax];have h2:({ (Z0r (Zc 739686 ws ps) ps i++[JQ i ps[i] (J0 ((Zc 739686 ws ps).take k) ps[i].attempt)])[i] with rets:=(Z0r (Zc 739686 ws ps) ps i++[JQ i ps[i] (J0 ((Zc 739686 ws ps).take k) ps[i].attempt)])[i].rets++[Z9T (Zc 739686 ws ps)[k]] }:Atp)=JQ i ps[i] (J0 ((Zc 739686 ws ps).take k) ps[i].attempt++[Z9T (Zc 739686 ws ps)[k]]):=by rw [fu];rfl
  rw [<- h2];exact h
 replace e14:=e14.up hU;replace ac:=ac.up hU;replace Y:=Y.trans hU;have z7:=hU.size;clear hU kx bq aU bG bK iH eZ eK fu j7 ax dD;focus repeat'(first|refine D1 ?_|omega|refine Z8 rfl rfl rfl rfl (λhg=>?_) (λhg=>?_)|(refine Z6 rfl rfl rfl rfl (λhg=>?_) (λhg=>?_)<;>refine D1 ?_)|fail)
 focus repeat'(first|refine W1 ?_|omega|refine VG ?_ ?_<;>intro hg|refine VC ?_ ?_<;>intro hc)
 refine Z5 (Zj (u:=nv) rfl rfl eN.cells eN.one e14 (show (2:Nat)<19 by decide)) ?_;rintro _ y8 ⟨hU,e14⟩;replace e14:Blk y8 b14 50 (Z1j (Jm 0 [] [] 0) (caR rv cv fv2 nv)):=e14;have aJ:=λb hb=>ac.ob_le b hb;replace ac:Row [] y8 w8.heap.size 54 fv2 (Z0T ps (i+1)):=(Jj (X':=[b14]) ac).ext hU (λb hb=>⟨hb,λh=>by have:=(aJ b h).1;simp at hb;omega⟩) (by simp);replace eN:SlV (b14 :: ob fv2) y8 nv _:=eN.ext hU (λb hb=>by simp at hb;simp [hb]) (λb hb=>.inl hb);replace Y:=Y.ow hU;have z8:=hU.size;clear hU aJ;focus repeat'(first|refine W1 ?_|omega|refine VG ?_ ?_<;>intro hg|refine VC ?_ ?_<;>intro hc)
 exact QL (k+1) ⟨dc,Y,by omega,nv,e14,ac,eN⟩ (Xx dc (XD k));rw [if_neg hc,XJ] at ax;rw [<- ax] at bq;exact QL (k+1) ⟨dc,Y,by omega,tv,e14,ac,bq⟩ (Xx dc (XD k));obtain rfl:k=(Zc 739686 ws ps).length:=by omega
 rw [Xs,<- ZbM _ ps i ah] at bq;focus repeat'(first|refine W1 ?_|omega|refine VG ?_ ?_<;>intro hg|refine VC ?_ ?_<;>intro hc)
 exact QL (i+1) ⟨ah,Y,fv2,tv,e14,ac,bq,z1⟩ (Xx ah (XD i));obtain rfl:i=ps.length:=by omega
 have dV:SlV [] y1 fv (Z0T ps ps.length):=ac.slv (by simp);have cq:=hS.trans Y
 have cX:Z8m y1 (Jm e (Zc 739686 ws ps) ps ps.length) (caR rv cv fv tv):={
  ff:=dV
  rr:=cK.up Y
  aa:=bq.ext (Stp.refl [] _) (by simp) (by simp)
  cc:=bG
  ss:=SlV.nilC _ _
  cal:=⟨SlV.nilC _ _,SlV.nilC _ _,ew.up cq,ez.up cq,⟨rfl,by simp [Jm,Zmh],show (0:Nat)<=6 by decide⟩⟩
  one:=⟨rfl,rfl,rfl⟩ }
 have eU:=cX.cell;clear ac bq;have cy:∀ Z,Stp [] y1 Z->CC 32 #[.agg (Jq (Jm e (Zc 739686 ws ps) ps ps.length).cal (caR rv cv fv tv).hv (caR rv cv fv tv).lv (caR rv cv fv tv).zo (caR rv cv fv tv).zs (caR rv cv fv tv).hr).toArray] Z λr w'=>r=.I 0/\Stp [] Z w':=λZ _=>Z5K Z;replace e14:Blk y1 b14 50 (Z1j (Jm e (Zc 739686 ws ps) ps ps.length) (caR rv cv fv tv)):=e14;have mx:=ZpB (till:=739686) aY aN.dist hr;have py:=Zqx (till:=739686) aY aN.dist hr;have sD:=λi hi=>ZpD (till:=739686) aY aN.dist hr i hi;have sE:=λi hi=>ZpE (till:=739686) aY aN.dist i hi;generalize Jm e (Zc 739686 ws ps) ps ps.length=c at *;focus repeat'(first|refine W1 ?_|omega|refine VG ?_ ?_<;>intro hg|refine VC ?_ ?_<;>intro hc)
 refine CP (Stp.refl [] _) (Z7g c (caR rv cv fv tv) y1 m (hF.up cq) (cq.cell (by simp) cE) cX mx cy) λy2 hU T=>?_
 replace cq:=cq.trans hU;replace Y:=Y.trans hU;have f14:=e14.up hU;have nJ:=cX.up hU;have nK:=dV.up hU;clear hU T cy e14 cX dV bG aU bK z1 mx;focus repeat'(first|refine W1 ?_|omega|refine VG ?_ ?_<;>intro hg|refine VC ?_ ?_<;>intro hc)
 refine LP (σ:=Nat) (λi=>[(9,pp),(11,cv),(13,av),(14,pQ b14),(19,.I (i:Int))]) (λi W=>i<=ps.length/\Stp [] y2 W) (λi=>ps.length - i) 0 ⟨Xu _,Stp.refl _ _⟩ ?_;rintro i y3 ⟨hi,T⟩;have sF:=aZ.max;have nu:=fy.max;by_cases ah:i<ps.length;have aU:=aZ.up (Y.trans T);have bK:=fy.up (Y.trans T);focus repeat'(first|refine W1 ?_|omega|refine VG ?_ ?_<;>intro hg|refine VC ?_ ?_<;>intro hc)
 refine LP (σ:=Nat) (λk=>[(9,pp),(11,cv),(13,av),(14,pQ b14),(19,.I (i:Int)),(20,.I (((Zc 739686 ws ps).take k).foldl (ZbN ps[i].attempt) (-1))),(21,.I (k:Int))]) (λk W=>k<=(Zc 739686 ws ps).length/\Stp [] y2 W) (λk=>(Zc 739686 ws ps).length - k) 0 ⟨Xu _,T⟩ ?_;clear T aU bK;rintro k y4 ⟨hk,T⟩;have aU:=aZ.up (Y.trans T);have bK:=fy.up (Y.trans T);by_cases dc:k<(Zc 739686 ws ps).length;have ax:((Zc 739686 ws ps).take (k+1)).foldl (ZbN ps[i].attempt) (-1)=if (Zc 739686 ws ps)[k].attempt=ps[i].attempt then (Zc 739686 ws ps)[k].frm else ((Zc 739686 ws ps).take k).foldl (ZbN ps[i].attempt) (-1):=Z9J _ _ _ dc _
 focus repeat'(first|refine W1 ?_|omega|refine VG ?_ ?_<;>intro hg|refine VC ?_ ?_<;>intro hc)
 refine ZDr 11 [] [] [(0,0),(1,0),(2,0),(3,0),(4,1),(5,0),(6,0),(7,0),(8,0),(9,1),(10,0)] (λw1 ae=>?_);replace aU:=aU.up ae;replace bK:=bK.up ae;replace T:=T.trans ae;clear ae;focus repeat'(first|refine D1 ?_|omega|refine Z8 rfl rfl rfl rfl (λhg=>?_) (λhg=>?_)|(refine Z6 rfl rfl rfl rfl (λhg=>?_) (λhg=>?_)<;>refine D1 ?_)|fail)
 focus repeat'(first|refine W1 ?_|omega|refine VG ?_ ?_<;>intro hg|refine VC ?_ ?_<;>intro hc)
 rw [if_pos hc] at ax;exact J3 (k+1) ⟨rfl,rfl,rfl,rfl,rfl,by rw [ax];rfl,rfl,trivial⟩ ⟨dc,T⟩ (Xx dc (XD k));rw [if_neg hc] at ax;exact J3 (k+1) ⟨rfl,rfl,rfl,rfl,rfl,by rw [ax];rfl,rfl,trivial⟩ ⟨dc,T⟩ (Xx dc (XD k));obtain rfl:k=(Zc 739686 ws ps).length:=by omega
 rw [Xs,sE i ah];have f14':=f14.up T;have fY:=nJ.up T;have iI:=nK.up T;have kF:i<(Z0T ps ps.length).length:=by rw [Z3D];exact ah
 have pD:=Zij ps ps.length i ah kF;focus repeat'(first|refine W1 ?_|omega|refine VG ?_ ?_<;>intro hg|refine VC ?_ ?_<;>intro hc)
 refine ZDr 13 [] [11] [(0,1),(1,0),(2,1),(3,0),(4,0),(5,1),(6,13),(7,0),(8,0),(9,0),(10,2),(11,2),(12,0)] (λw1 ae=>?_);replace f14':=f14'.up ae;replace fY:=fY.up ae;replace iI:=iI.up ae;replace aU:=aU.up ae;replace T:=T.trans ae;clear ae bK;refine D ?_;have hw:=sD i ah;have nL:=ZpC aY ah;rw [<- pD] at hw nL;refine Zim (T:=69) (λW hT=>Zd rfl (Z16 rfl rfl rfl) (ZhO c (caR rv cv fv tv) (Z0T ps ps.length)[i] 0 W (fY.up hT) py nL (by unfold I64;omega))) (λW rv h=>Z78 _ h.one) (λra ba w13 hT _ ka eK=>?_);replace eK:=eK [] (by simp);replace aU:=aU.up hT;replace T:=T.trans hT;clear hT nL pD f14' fY iI;generalize Z3w c (Z0T ps ps.length)[i] 0=oo at *;obtain ⟨d,ok⟩:=oo;dsimp only at hw ka eK ⊢;rcases hw with ⟨h0,rfl⟩|⟨h0,rfl,nM,x,y,pE⟩
 rw [if_pos h0];refine D ?_;focus repeat'(first|refine W1 ?_|omega|refine VG ?_ ?_<;>intro hg|refine VC ?_ ?_<;>intro hc)
 refine ZDr 33 [] [] [(0,0),(1,0),(2,0),(3,1),(4,0),(5,0),(6,0),(7,0),(8,0),(9,0),(10,1),(11,0),(12,0),(13,1),(14,0),(15,0),(16,0),(17,0),(18,1),(19,0),(20,0),(21,0),(22,0),(23,0),(24,1),(25,0),(26,1),(27,0),(28,0),(29,0),(30,0),(31,0),(32,0)] (λw1 ae=>?_);replace ka:=ka.up ae;replace eK:=eK.up ae;replace aU:=aU.up ae;replace T:=T.trans ae;clear ae;focus repeat'(first|refine D1 ?_|omega|refine Z8 rfl rfl rfl rfl (λhg=>?_) (λhg=>?_)|(refine Z6 rfl rfl rfl rfl (λhg=>?_) (λhg=>?_)<;>refine D1 ?_)|fail)
 focus repeat'(first|refine W1 ?_|omega|refine VG ?_ ?_<;>intro hg|refine VC ?_ ?_<;>intro hc)
 exact QL (i+1) ⟨ah,T⟩ (Xx ah (XD i));rw [if_neg h0];have aD:0<=JI ws ps[i]:=by
  have a1:=aY.pa _ (Xc ah);have a2:=aY.da _ (Xc ah);unfold JI;omega
 refine D ?_;focus repeat'(first|refine W1 ?_|omega|refine VG ?_ ?_<;>intro hg|refine VC ?_ ?_<;>intro hc)
 exact absurd (decide_eq_true aD).symm hc;clear hc;have ky:=aH.up (Y.trans T);obtain ⟨j,hj⟩:∃ j:Nat,ps[i].carrier=j:=⟨ps[i].carrier.toNat,by have:=aY.pa _ (Xc ah);omega⟩
 have sG:j<(Z0s e).length:=by have:=aY.pa _ (Xc ah);show j<3;omega
 have nN:exW e ps[i].carrier=(Z0s e)[j].extra:=by
  unfold exW;rw [hj,Ybo,YaC,XN sG,Ybw]
 have sH:=ZaJ hr ps[i].carrier;rw [nN] at nM sH;have tG:=aY.da _ (Xc ah);have kJ:=aY.pa _ (Xc ah);have io:JI ws ps[i]=ps[i].sent+(JA ws ps[i].attempt).days:=rfl;have dO:d.reas.length=3:=by rw [pE];rfl
 have cM:d.reas[2]'(by omega)=⟨3,i,JI ws ps[i]⟩:=by simp [pE]
 refine ZDr 33 [] [] [(0,0),(1,0),(2,0),(3,1),(4,0),(5,0),(6,0),(7,0),(8,0),(9,0),(10,1),(11,0),(12,0),(13,1),(14,0),(15,0),(16,0),(17,0),(18,1),(19,0),(20,0),(21,0),(22,0),(23,0),(24,1),(25,0),(26,1),(27,0),(28,0),(29,0),(30,0),(31,0),(32,0)] (λw1 ae=>?_);replace ka:=ka.up ae;replace eK:=eK.up ae;replace aU:=aU.up ae;replace ky:=ky.up ae;replace T:=T.trans ae;clear ae;focus repeat'(first|refine D1 ?_|omega|refine Z8 rfl rfl rfl rfl (λhg=>?_) (λhg=>?_)|(refine Z6 rfl rfl rfl rfl (λhg=>?_) (λhg=>?_)<;>refine D1 ?_)|fail)
 have cZ:2<d.reas.length:=by omega
 refine WD_read rfl rfl (λw' bp=>Z1Q (j:=0) (us:=Z2.enc (⟨3,i,JI ws ps[i]⟩:Rsn)) rfl rfl (eK.up bp) cZ rfl rfl (by rw [cM];rfl)) rfl ?_;focus repeat'(first|refine D1 ?_|omega|refine Z8 rfl rfl rfl rfl (λhg=>?_) (λhg=>?_)|(refine Z6 rfl rfl rfl rfl (λhg=>?_) (λhg=>?_)<;>refine D1 ?_)|fail)
 refine Zg rfl rfl (λw'=>Z0J (vs:=[(0,.I 3),(1,.I (i:Int)),(2,.I (JI ws ps[i]))]) rfl (Zf4 3 i (JI ws ps[i]))) rfl ?_;apply Z2B;exact rfl;refine Zfq (c:=(⟨3,i,JI ws ps[i]⟩:Rsn)=⟨3,i,JI ws ps[i]⟩) rfl rfl rfl (λw=>Zin _ _ _ _ _ w) (by intro w;exact ZpH _ _ w) rfl ?_;focus repeat'(first|refine D1 ?_|omega|refine Z8 rfl rfl rfl rfl (λhg=>?_) (λhg=>?_)|(refine Z6 rfl rfl rfl rfl (λhg=>?_) (λhg=>?_)<;>refine D1 ?_)|fail)
 focus repeat'(first|refine W1 ?_|omega|refine VG ?_ ?_<;>intro hg|refine VC ?_ ?_<;>intro hc)
 exact absurd rfl hc;exact QL (i+1) ⟨ah,T⟩ (Xx ah (XD i));focus repeat'(first|refine W1 ?_|omega|refine VG ?_ ?_<;>intro hg|refine VC ?_ ?_<;>intro hc)
 replace cq:=cq.trans T;refine CP cq (Z8C er m _ (hF.up cq) (ew.up cq) (ez.up cq) (cq.cell (by simp) cE) (cq.cell (by simp) iu) bJ) λy9 _ cq=>?_
 focus repeat'(first|refine W1 ?_|omega|refine VG ?_ ?_<;>intro hg|refine VC ?_ ?_<;>intro hc)
 refine RU ?_;exact ⟨rfl,cq⟩
end Go.Proofs.YtkojegdemoahlaaGreatDoor
namespace Go.Eng
open Go Go.RowKit Go.Proofs
def Z5t (P:Program) (w:World) (n:String) (d:DataW Unit):Prop:=∃ g t cs fuel p,P.globalNamed n=some g/\(P.globals[g]?).map (·.type)=some t/\w.var? P n=some cs/\DataW.trod (λ_=>()) P w 0 (λ_=>true) false fuel t cs.toList=some (d,p)
theorem Z2f {P:Program} {w}:∀ (l:List (String×DataW Unit)) (ps:List MemPlace),DataW.LaidVars P w l ps->∀ (n:String) (d:DataW Unit),(n,d)∈l->Z5t P w n d
 | [],_,_,n,d,h=>by simp at h
 | (n0, d0) :: r, ps, hl, n, d, h => by
   obtain ⟨g,t,cs,fuel,p,q,h1,h2,h3,h4,h5,_⟩:=hl;rcases Xd.1 h with h|h
   cases h;exact ⟨g,t,cs,fuel,p,h1,h2,h3,h4⟩;exact Z2f r q h5 n d h
theorem ZbQ {P:Program} {w} {name:String} {g t e n:Nat} {k:IntKind} {zs:List Int} (h:Z5t P w name (Lib.tabData k zs)) (hg:P.globalNamed name=some g) (sI:(P.globals[g]?).map (·.type)=some t) (ht:P.underlying t=some (.array n e)) (he:P.underlying e=some (.int k)) (sJ:P.cellsOf e=1) (nr:P.cellsOf t=n):Lib.TabIs P w name k zs:=by
 obtain ⟨g',t',cs,fuel,p,sK,n4,nO,hd⟩:=h;obtain rfl:=XU (hg.symm.trans sK);obtain rfl:=XU (sI.symm.trans n4);unfold Lib.TabIs;rw [nO,<- Lib.cells_of_tab ht he sJ nr hd]
theorem Z9W {P:Program} {W:World} {name:String} {g t e n:Nat} {ss:List Str} (hg:P.globalNamed name=some g) (ht:(P.globals[g]?).map (·.type)=some t) (hu:P.underlying t=some (.array n e)) (he:P.underlying e=some .string) (hc:P.cellsOf e=1)
 (hn:ss.length=n) (h:Z5t P W name (.agg (ss.map (λs=>DataW.lit (.string s))))) :
 ∀ i (hi:i<ss.length),W.cell? ⟨g,i,none⟩=some (str ss[i]):=by
 obtain ⟨g0,t0,cs0,f0,p0,gx,kz,kA,cL⟩:=h;obtain rfl:=XU (hg.symm.trans gx);obtain rfl:=XU (ht.symm.trans kz);obtain ⟨xs,m1,rfl,i6,am,sL,ct⟩:=DataW.trod_array hu cL;intro i hi;have h1:=ct i (by omega);rw [hc,YaW] at h1;have pF:xs[i]?=some (xs[i]'(by omega)):=XN (by omega);rw [pF] at h1;obtain ⟨s,e1,e2,_⟩:=DataW.trod_string he h1;have e3:DataW.agg (ss.map (λs=>DataW.lit (.string s)))=(DataW.agg (xs.map (·.1)):DataW Unit):=congrArg Prod.fst i6;simp only [DataW.agg.injEq] at e3;have e4:(DataW.lit (.string ss[i]):DataW Unit)=(xs[i]'(by omega)).1:=by
  have h2:=congrArg (λl=>l[i]?) e3;simp only [Yag,pF,XN hi,Ybj,Xh] at h2;exact h2
 rw [e2] at e4;simp only [DataW.lit.injEq,Lit.string.injEq] at e4;have hv:=World.var?_cell gx kA i;rw [hv];have h5:cs0.toList[i]?=some (.string s):=by
  have h6:=congrArg (λl=>l[0]?) e1;simpa [Yab,Ybm] using h6
 rw [<- YaF,h5];congr 1;simp only [str,e4]
theorem Z8D {P:Program} {W:World} {name:String} {g t:Nat} {ms:Array (String×TypeId)} {d:DataW Unit} (hg:P.globalNamed name=some g) (ht:(P.globals[g]?).map (·.type)=some t) (hu:P.underlying t=some (.interface ms)) (h:Z5t P W name d) :
 ∃ er,W.cell? ⟨g,0,none⟩=some er/\(er=.nilIface\/∃ te pe,er=.iface te pe):=by
 obtain ⟨g0,t0,cs0,f0,p0,gx,kz,kA,cL⟩:=h;obtain rfl:=XU (hg.symm.trans gx);obtain rfl:=XU (ht.symm.trans kz);have hv:=World.var?_cell gx kA 0;rw [hv];rw [<- YaF];generalize cs0.toList=cs at *;cases f0 with
 | zero=>simp [DataW.trod] at cL
 | succ f=>
   unfold DataW.trod at cL;rw [hu] at cL
   match cs,cL with
   | [],cL=>simp at cL
   | a :: b :: r,cL=>simp at cL
   | [x], cL=>
     refine ⟨x,rfl,?_⟩;cases x with
     | nilIface=>exact .inl rfl
     | iface u v=>exact .inr ⟨u,v,rfl⟩
     | _=>simp at cL
end Go.Eng
namespace Go.Proofs.YtkojegdemoahlaaGreatDoor
open Go Go.Eng Go.RowKit Go.Proofs
open Go Go.Eng Go.RowKit Go.Proofs Go.ChangeShapes Go.WideShapes Go.Deep
theorem ZbR {W:World} (h:Z5t Tryz.prog W "rollbook/holiday.moves" Rows.laid_rollbook_holiday_moves):Z1i W:=by
 obtain ⟨g0,t0,cs0,f0,p0,gx,kz,kA,cL⟩:=h;have hg:Tryz.prog.globalNamed "rollbook/holiday.moves" = some 3:=by kernel_rfl
 have ht:(Tryz.prog.globals[3]?).map (·.type)=some 375:=by kernel_rfl
 obtain rfl:=XU (hg.symm.trans gx);obtain rfl:=XU (ht.symm.trans kz);obtain ⟨xs,m1,rfl,i6,am,sL,ct⟩:=DataW.trod_array Tryz.underlying375 cL;have pG:Tryz.prog.cellsOf 285=7:=by kernel_rfl
 have e3:(Rows.laid_rollbook_holiday_moves:DataW Unit)=.agg (xs.map (·.1)):=congrArg Prod.fst i6;have e4:(.agg [Lib.tabData .i64 [0,0,0,0,0,0,0],Lib.tabData .i64 [0,0,0,0,0,2,1],Lib.tabData .i64 [0,0,0,0,0,-1,1]]:DataW Unit)=.agg (xs.map (·.1)):=e3;simp only [DataW.agg.injEq] at e4;have row:∀ (k:Nat) (zs:List Int),k<3->[Lib.tabData .i64 [0,0,0,0,0,0,0],Lib.tabData .i64 [0,0,0,0,0,2,1],(Lib.tabData .i64 [0,0,0,0,0,-1,1]:DataW Unit)][k]?=some (Lib.tabData .i64 zs)->(cs0.toList.drop (k * 7)).take 7=zs.map λz=>Value.int .i64 z:=by
  intro k zs hk hz;have h1:=ct k hk;rw [pG] at h1;rw [e4,Yag] at hz;cases hx:xs[k]? with
  | none=>rw [hx] at hz;cases hz
  | some y=>
    rw [hx] at hz h1;have hy:y=(Lib.tabData .i64 zs,y.2):=Prod.ext (XU hz) rfl;rw [hy] at h1;exact Lib.cells_of_tab (t:=285) (e:=3) (n:=7) Tryz.underlying285 Tryz.underlying3 (by kernel_rfl) pG h1
 have r0:=row 0 _ (by omega) rfl;have r1:=row 1 _ (by omega) rfl;have r2:=row 2 _ (by omega) rfl;have ak:∀ (k:Nat) (zs:List Int) (j:Nat),(cs0.toList.drop (k * 7)).take 7=(zs.map λz=>Value.int .i64 z)->j<7->j<zs.length->cs0.toList[k * 7+j]?=some (.I (zs.getD j 0)):=by
  intro k zs j hr hj dB;have h6:=congrArg (λl=>l[j]?) hr;simp only [Yab,Ybm,Yag,if_pos hj] at h6;rw [h6];simp [List.getD,dB]
 intro i u hu;have hi:=(Xn.1 hu).1;have sM:i<21:=hi;have hv:=World.var?_cell hg kA i;rw [hv,<- YaF];by_cases h7:i<7;have h2:=ak 0 _ i r0 h7 (by simpa using h7);rw [show 0 * 7+i=i by omega] at h2;rw [h2];have hk:i=0\/i=1\/i=2\/i=3\/i=4\/i=5\/i=6:=by omega
 rcases hk with rfl|rfl|rfl|rfl|rfl|rfl|rfl<;>(simp [Z24] at hu;subst hu;rfl)
 by_cases ce:i<14;have h2:=ak 1 _ (i - 7) r1 (by omega) (by simp;omega);rw [show 1 * 7+(i - 7)=i by omega] at h2;rw [h2];have hk:i=7\/i=8\/i=9\/i=10\/i=11\/i=12\/i=13:=by omega
 rcases hk with rfl|rfl|rfl|rfl|rfl|rfl|rfl<;>(simp [Z24] at hu;subst hu;rfl)
 have h2:=ak 2 _ (i - 14) r2 (by omega) (by simp;omega);rw [show 2 * 7+(i - 14)=i by omega] at h2;rw [h2];have hk:i=14\/i=15\/i=16\/i=17\/i=18\/i=19\/i=20:=by omega
 rcases hk with rfl|rfl|rfl|rfl|rfl|rfl|rfl<;>(simp [Z24] at hu;subst hu;rfl)
abbrev Z5u:List (String×DataW Unit):=[("math/bits.deBruijn32tab",Rows.laid_math_bits_deBruijn32tab),("math/bits.deBruijn64tab",Rows.laid_math_bits_deBruijn64tab),("internal/strconv.uint64pow10",Rows.laid_internal_strconv_uint64pow10),("strconv.ErrRange",Rows.laid_strconv_ErrRange),("strconv.ErrSyntax",Rows.laid_strconv_ErrSyntax),("rollbook/date.lengths",Rows.laid_rollbook_date_lengths),("rollbook/holiday.moves",Rows.laid_rollbook_holiday_moves)]
abbrev Z8E:List (String×DataW Unit):=Z5u++[("rollbook/types.fields",Rows.laid_rollbook_types_fields)]
theorem Z8F {W:World} (h1:Z5t Tryz.prog W "rollbook/date.lengths" Rows.laid_rollbook_date_lengths):Z05 W:=by
 have h2:=ZbQ (k:=.i64) (zs:=Z1f) (g:=1) (t:=320) (e:=3) (n:=13) h1 (by kernel_rfl) (by kernel_rfl) Tryz.underlying320 Tryz.underlying3 (by kernel_rfl) (by kernel_rfl);intro i u hu;have hi:=(Xn.1 hu).1;rw [Lib.TabIs.cell h2 (g:=1) (by kernel_rfl) i hi];simp [List.getD,hu]
theorem Z9X {W:World} (h1:Z5t Tryz.prog W "rollbook/types.fields" Rows.laid_rollbook_types_fields):SlV [] W Z1w Za:=by
 have hc:=Z9W (g:=0) (t:=258) (e:=9) (n:=7) (ss:=Za) (by kernel_rfl) (by kernel_rfl) Tryz.underlying258 Tryz.underlying9 (by kernel_rfl) rfl h1;have ah:0<W.heap.size:=block_lt_of_cell (a:=⟨0,0,none⟩) (hc 0 (by decide));refine ⟨some ⟨0,0,none⟩,7,rfl,by decide,by decide,(λh=>by cases h),λi hi=>⟨0,0,[str Za[i]],rfl,ah,by simp,rfl,λj u hu=>?_⟩⟩;have hj:j=0:=by
  have:=(Xn.1 hu).1;simp at this;exact this
 subst hj;simp at hu;subst hu;have:=hc i hi;simpa [Z1.k,Z2.k] using this
structure ZiH (W:World):Prop where
 len:Z05 W
 mov:Z1i W
 err:∃ er,W.cell? ⟨5,0,none⟩=some er/\(er=.nilIface\/∃ te pe,er=.iface te pe)
theorem Zf5 {W:World} {l:List (String×DataW Unit)} {ps:List MemPlace} (h:DataW.LaidVars Tryz.prog W l ps) (h1:("rollbook/date.lengths",Rows.laid_rollbook_date_lengths)∈l) (h2:("rollbook/holiday.moves",Rows.laid_rollbook_holiday_moves)∈l) (h3:("strconv.ErrRange",Rows.laid_strconv_ErrRange)∈l):ZiH W:=
 ⟨Z8F (Z2f _ _ h _ _ h1),ZbR (Z2f _ _ h _ _ h2),Z8D (g:=5) (t:=300) (by kernel_rfl) (by kernel_rfl) Tryz.underlying300 (Z2f _ _ h _ _ h3)⟩
theorem Zmj {W:World} (h:laidMetH Tryz.prog Z8E W):ZiH W/\SlV [] W Z1w Za:=by
 rw [MakeChecks.laidMetH_plain _ _ _ (by kernel_rfl)] at h;obtain ⟨ps,h,_⟩:=h;exact ⟨Zf5 h (by simp [Z8E,Z5u]) (by simp [Z8E,Z5u]) (by simp [Z8E,Z5u]),Z9X (Z2f _ _ h _ _ (by simp [Z8E,Z5u]))⟩
end Go.Proofs.YtkojegdemoahlaaGreatDoor
namespace Go.Eng
open Go Go.RowKit Go.Proofs Go.ChangeShapes Go.WideShapes Go.Deep
def Z4u (P:Program) (lo n:Nat):Bool:=(List.range n).all λi=>!((P.funcs[lo+i]?).any Func.goes)
theorem Z04 {P:Program} {lo n g:Nat} (h:Z4u P lo n=true) (h1:lo<=g) (h2:g<lo+n):(P.funcs[g]?).any Func.goes=false:=by
 have:=XS.1 h (g - lo) (Ybq.2 (by omega));rw [show lo+(g - lo)=g by omega] at this;simpa using this
theorem ZpL {P:Program} (h:∀ g:Nat,(P.funcs[g]?).any Func.goes=false) {c:OpenClaim} (hs:c.start=.entering):false=c.goesBy P:=by
 symm;have aM:P.funcs.any Func.goes=false:=by
  rw [Array.any_eq_false];intro i hi hg;have:=h i;rw [Array.getElem?_eq_getElem hi] at this;simp only [Option.any_some] at this;rw [this] at hg;cases hg
 have sN:∀ f,P.goes f=false:=by
  intro f;unfold Program.goes;rw [aM,YbU,Bool.or_false];rw [YbI];intro hc;have dt:=hc;simp [h] at dt
 unfold OpenClaim.goesBy Program.goesAt Program.goesFrom;rw [hs];cases hf:P.funcNamed c.func with
 | none=>rfl
 | some f=>simp [sN]
theorem Ziq {P:Program} {f:FuncId} {fn:Func} {s:ChangeSpec} {c:OpenClaim} (a1:c.wf (OpenSpec.ofChange s)=true) (a2:laidOutB P=true) (a3:mapsRowed P=true) (a4:fn.params.all (P.readableRec ·)=true) (a5:namedTie P c.named s.vars=true)
 (a6:((c.stops == []) && (P.stops == []) && (c.knobs == []) && (P.stopKnobs == []))=true)
 (h2:(c.inPlace == P.inPlace f)=true) (h3:(c.unfollowed == P.unfollowed f)=true) (h4:(c.recurses == P.recurses f)=true) (h5:(c.named == P.varsNamed f)=true)
 (h6 : ((c.maps == (fn.params.toList ++ s.plain.varTypes P).any (P.mapsRec ·)) && (c.ifaces == (fn.params.toList ++ s.plain.varTypes P).any (P.ifacesRec ·)) && (c.mapsOut == P.mapsAmong fn.resultTypes.toList) &&
   (c.loops == (fn.params.toList++s.plain.varTypes P).any (P.loopsFrom ·)) && (c.wideKeys == (fn.params.toList++s.plain.varTypes P++fn.resultTypes.toList).any (P.wideKeysFrom ·)) &&
   s.vars.all (P.varReadable ·) && fn.resultTypes.all (λt=>P.readableRec t && decide (t<P.types.size)) && (c.ifacesOut == fn.resultTypes.toList.any (P.ifacesRec ·)) && (c.loopsOut == fn.resultTypes.toList.any (P.loopsFrom ·)) && (c.plainKeys == P.plainKeys) && c.shortTexts.isNone && P.stopsHeard && P.mayEnter && (c.lifted == P.liftsFinal) && (P.make == some c.make) && (c.kinds == (if c.domain.isEmpty then [] else fn.params.toList.map λt=>match P.underlying t with|some (.int k)=>some k|_=>none)) && (c.pinned == c.pinnedBy) &&
   (c.veiled == (fn.params.toList++s.plain.varTypes P++fn.resultTypes.toList).any (P.veiledRec ·)) && c.veiledFits P fn.params.toList (fn.params.toList++s.plain.varTypes P++fn.resultTypes.toList))=true) :
 joinedFacts P f fn s c=true:=by
 simp only [Xa] at a6 h6;unfold joinedFacts;simp only [Xa];exact ⟨⟨⟨⟨⟨⟨⟨⟨⟨⟨⟨⟨⟨⟨⟨⟨⟨⟨⟨⟨⟨⟨⟨⟨⟨⟨⟨⟨⟨⟨⟨a1,a2⟩,a3⟩,a4⟩,a5⟩,a6.1.1.1⟩,a6.1.1.2⟩,a6.1.2⟩,a6.2⟩,h2⟩,h3⟩,h4⟩,h5⟩,h6.1.1.1.1.1.1.1.1.1.1.1.1.1.1.1.1.1.1⟩,h6.1.1.1.1.1.1.1.1.1.1.1.1.1.1.1.1.1.2⟩,h6.1.1.1.1.1.1.1.1.1.1.1.1.1.1.1.1.2⟩,h6.1.1.1.1.1.1.1.1.1.1.1.1.1.1.1.2⟩,h6.1.1.1.1.1.1.1.1.1.1.1.1.1.1.2⟩,h6.1.1.1.1.1.1.1.1.1.1.1.1.1.2⟩,h6.1.1.1.1.1.1.1.1.1.1.1.1.2⟩,h6.1.1.1.1.1.1.1.1.1.1.1.2⟩,h6.1.1.1.1.1.1.1.1.1.1.2⟩,h6.1.1.1.1.1.1.1.1.1.2⟩,h6.1.1.1.1.1.1.1.1.2⟩,h6.1.1.1.1.1.1.1.2⟩,h6.1.1.1.1.1.1.2⟩,h6.1.1.1.1.1.2⟩,h6.1.1.1.1.2⟩,h6.1.1.1.2⟩,h6.1.1.2⟩,h6.1.2⟩,h6.2⟩
end Go.Eng
namespace Go.Proofs.YtkojegdemoahlaaGreatDoor
open Go Go.Eng Go.RowKit Go.Proofs Go.ChangeShapes Go.WideShapes Go.Deep
theorem ZpI:mapsRowed Tryz.prog=true:=by kernel_rfl
theorem Zf6:Tryz.prog.funcs.size=363:=by kernel_rfl
theorem ZbS:Z4u Tryz.prog 0 34=true:=by kernel_rfl
theorem ZbT:Z4u Tryz.prog 34 34=true:=by kernel_rfl
theorem ZbU:Z4u Tryz.prog 68 34=true:=by kernel_rfl
theorem ZbV:Z4u Tryz.prog 102 34=true:=by kernel_rfl
theorem ZbW:Z4u Tryz.prog 136 34=true:=by kernel_rfl
theorem ZbX:Z4u Tryz.prog 170 34=true:=by kernel_rfl
theorem ZbY:Z4u Tryz.prog 204 34=true:=by kernel_rfl
theorem ZbZ:Z4u Tryz.prog 238 34=true:=by kernel_rfl
theorem Zc0:Z4u Tryz.prog 272 34=true:=by kernel_rfl
theorem Zc1:Z4u Tryz.prog 306 34=true:=by kernel_rfl
theorem Z9Y:Z4u Tryz.prog 340 23=true:=by kernel_rfl
theorem ZpJ:∀ g:Nat,(Tryz.prog.funcs[g]?).any Func.goes=false:=λg=>by
 by_cases h:g<363;by_cases h0:g<34;exact Z04 ZbS (by omega) (by omega);by_cases h1:g<68;exact Z04 ZbT (by omega) (by omega);by_cases h2:g<102;exact Z04 ZbU (by omega) (by omega);by_cases h3:g<136;exact Z04 ZbV (by omega) (by omega);by_cases h4:g<170;exact Z04 ZbW (by omega) (by omega);by_cases h5:g<204;exact Z04 ZbX (by omega) (by omega);by_cases h6:g<238;exact Z04 ZbY (by omega) (by omega);by_cases h7:g<272;exact Z04 ZbZ (by omega) (by omega);by_cases h8:g<306;exact Z04 Zc0 (by omega) (by omega);by_cases h9:g<340;exact Z04 Zc1 (by omega) (by omega);exact Z04 Z9Y (by omega) (by omega);rw [YaZ (by rw [Zf6];omega)];rfl
end Go.Proofs.YtkojegdemoahlaaGreatDoor
