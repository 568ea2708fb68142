/-
Merged by program out of own texts: Vev0, Pln1, Pln2, Psr1, Psr2, Psr3, Psr4, Psr5, Psr6, Psr7, Psr8, Eng26, Eng27, Psr9.
-/
import Derived.Test.YtjdjdoefppebkaaGreatDoorM3
import Derived.Recover
set_option linter.unusedVariables false
set_option linter.unusedSimpArgs false
namespace Go.Proofs.YtjdjdoefppebkaaGreatDoor
open Go Go.Eng Go.RowKit
structure Z9q where
 k:Int
 s:Str
 ts:List Int
 t:Int
 L:List Int
deriving DecidableEq
def Z3c:List Z9q:=[⟨5,[45],[1],1,[8]⟩,⟨5,[110,111,116],[2],2,[12]⟩,⟨10,[110,101,120,116],[3],3,[19]⟩,⟨10,[112,114,101,118],[3],3,[20]⟩,⟨10,[108,97,116,101,114],[3,3],3,[21]⟩,⟨10,[101,97,114,108,105,101,114],[3,3],3,[22]⟩,⟨10,[98,101,116,119,101,101,110],[3,3],1,[23]⟩,
 ⟨7,[100,97,121,115],[3,1],3,[15]⟩,⟨7,[119,101,101,107,115],[3,1],3,[16]⟩,⟨7,[109,111,110,116,104,115],[3,1],3,[17]⟩,⟨7,[99,111,117,114,116,100,97,121,115],[3,1],3,[18]⟩,
 ⟨8,[100,97,121,115],[3,1],3,[8,15]⟩,⟨8,[119,101,101,107,115],[3,1],3,[8,16]⟩,⟨8,[109,111,110,116,104,115],[3,1],3,[8,17]⟩,⟨8,[99,111,117,114,116,100,97,121,115],[3,1],3,[8,18]⟩,
 ⟨6,[43],[1,1],1,[5]⟩,⟨6,[45],[1,1],1,[6]⟩,⟨6,[42],[1,1],1,[7]⟩,
 ⟨6,[60],[1,1],2,[9]⟩,⟨6,[60,61],[1,1],2,[10]⟩,⟨6,[61],[1,1],2,[11]⟩,⟨6,[33,61],[1,1],2,[11,12]⟩,⟨6,[62],[1,1],2,[10,12]⟩,⟨6,[62,61],[1,1],2,[9,12]⟩,
 ⟨6,[60],[3,3],2,[9]⟩,⟨6,[60,61],[3,3],2,[10]⟩,⟨6,[61],[3,3],2,[11]⟩,⟨6,[33,61],[3,3],2,[11,12]⟩,⟨6,[62],[3,3],2,[10,12]⟩,⟨6,[62,61],[3,3],2,[9,12]⟩]
theorem Zia:Z2x.all (fun e=>Z3c.any (fun r=>decide (r.k=e.1.kind∧r.s=e.1.s∧r.ts=(if e.1.b=0 then [e.1.a] else [e.1.a,e.1.b])∧e.1.c=0) && (match e.2 with|.int .i64 t=>decide (t=r.t)|_=>false)))=true:=by decide +kernel
theorem Zp7:Z0f.all (fun s=>Z3c.any (fun r=>decide (r.k=6∧r.s=s∧r.ts=[1,1]∧r.t=1)))=true:=by decide +kernel
theorem Zp8:Z25.all (fun s=>Z3c.any (fun r=>decide (r.k=6∧r.s=s∧r.ts=[1,1]∧r.t=2)) && Z3c.any (fun r=>decide (r.k=6∧r.s=s∧r.ts=[3,3]∧r.t=2)))=true:=by decide +kernel
theorem Zgc:Z3c.all (fun r=>decide (r.k≠9) && decide (r.k≠1∧r.k≠2∧r.k≠3∧r.k≠4) && decide (r.ts≠[]) && !(decide (r.k=6) && (decide (r.s=[97,110,100]) || decide (r.s=[111,114]))) && okL (r.L.map fun o=>⟨o,0⟩) r.ts r.t && decide (Z4V r.k r.s++(if r.k=6∧r.s=[45] then [⟨6,0⟩] else [])=r.L.map fun o=>(⟨o,0⟩:Ins)))=true:=by decide +kernel
def ZmJ (k n:Int) (s:Str) (t:Int):Prop:=
 ((k=1∨k=2∨k=3)∧t=k∧vOk k n)∨(k=4∧∃ i:Nat,i<7∧s=Zg.getD i []∧(ZZ s).1=(i:Int)∧t=if i≤1 then 3 else 1)
theorem Ze0 {k n:Int} {s:Str} (h:Z0E k n s≠0):ZmJ k n s (Z0E k n s):=by
 unfold Z0E at h ⊢
 by_cases k4:k=4
 rw [if_pos k4] at h ⊢
 split at h
 · rename_i hn
   rw [if_pos hn]
   have h1:(ZZ s).2.2=true:=by
    cases hb:(ZZ s).2.2 with
    | true=>rfl
    | false=>exact absurd (Z8o hb) h
   obtain ⟨i,hi,hsn,hii⟩:=(Z7g s (ZZ s).1).1 ⟨h1,rfl⟩
   refine .inr ⟨k4,i,hi,hsn,hii,?_⟩
   subst hsn
   match i,hi with
   | 0,_=>decide +kernel
   | 1,_=>decide +kernel
   | 2,_=>decide +kernel
   | 3,_=>decide +kernel
   | 4,_=>decide +kernel
   | 5,_=>decide +kernel
   | 6,_=>decide +kernel
 exact absurd rfl h
 rw [if_neg k4] at h ⊢
 split at h
 exact absurd rfl h
 rename_i hs0
 rw [if_neg hs0]
 left
 unfold vOk
 by_cases k1:k=1
 rw [if_pos k1] at h ⊢
 split at h
 rename_i h2;rw [if_pos h2];subst k1;exact ⟨.inl rfl,rfl,.inl ⟨rfl,by omega,by omega⟩⟩
 exact absurd rfl h
 rw [if_neg k1] at h ⊢
 by_cases k2:k=2
 rw [if_pos k2] at h ⊢
 split at h
 rename_i h2;rw [if_pos h2];subst k2;exact ⟨.inr (.inl rfl),rfl,.inr (.inl ⟨rfl,by omega⟩)⟩
 exact absurd rfl h
 rw [if_neg k2] at h ⊢
 by_cases k3:k=3
 rw [if_pos k3] at h ⊢
 split at h
 rename_i h2;rw [if_pos h2];subst k3;exact ⟨.inr (.inr rfl),rfl,.inr (.inr ⟨rfl,by omega,by omega⟩)⟩
 exact absurd rfl h
 rw [if_neg k3] at h;exact absurd rfl h
theorem Z53 {k n:Int} {s:Str} {l:List Nd} (ht:Zd (.mk k n s l)≠0) :
 (l=[]∧ZmJ k n s (Zd (.mk k n s l)))∨(k=9∧∃ a b c,l=[a,b,c]∧Zd a=2∧Zd b=Zd (.mk k n s l)∧Zd c=Zd (.mk k n s l))∨
 (k=6∧(s=[97,110,100]∨s=[111,114])∧∃ a b,l=[a,b]∧Zd a=2∧Zd b=2∧Zd (.mk k n s l)=2)∨
 (∃ r∈Z3c,r.k=k∧r.s=s∧l.map Zd=r.ts∧Zd (.mk k n s l)=r.t):=by
 have hteq:Zd (.mk k n s l)=Jb k n s (l.map Zd):=Z08 _
 rw [hteq] at ht ⊢
 rcases Z6q ht with ⟨he,hc⟩|⟨h0,h3,hn0,hc⟩
 left
 rw [hc] at ht ⊢
 exact ⟨by simpa using he,Ze0 ht⟩
 have hlen:l.length≤3:=by simpa using h3
 rcases hc with ⟨h9,hts⟩|⟨h6,hg2,hbt⟩|hsg
 right;left
 have hl3:l.length=3:=by have:=congrArg List.length hts;simpa using this
 obtain ⟨a,b,c,rfl⟩:=ZcR hl3
 simp only [Xn,Xv,Yay,and_true] at hts
 exact ⟨h9,a,b,c,rfl,hts.1,hts.2.1,hts.2.2⟩
 subst h6
 rcases ZcQ h0 h3 hn0 hg2 with ⟨hb0,hts⟩|⟨hb0,hts⟩
 exfalso
 apply ht
 rw [hbt,hb0]
 have ha0:(l.map Zd).getD 0 0≠0:=fun h=>h0 (by rw [hts,h];simp)
 unfold Z1A
 split
 rw [if_neg (by omega)]
 split
 rw [if_neg (by omega)]
 split
 rw [if_neg (by omega)]
 rfl
 have hl2:l.length=2:=by have:=congrArg List.length hts;simpa using this
 obtain ⟨a,b,rfl⟩:=Z9i hl2
 have ra:=Z2F a
 rw [hbt] at ht ⊢
 simp only [Xn,Xv,Xm,XH] at ht ⊢
 have a0:Zd a≠0:=fun h=>h0 (by simp [h])
 unfold Z1A at ht ⊢
 by_cases hA:s∈Z0f
 rw [if_pos hA] at ht ⊢
 split at ht
 rename_i hab
 rw [if_pos hab]
 right;right;right
 have:=XD.1 Zp7 s hA
 obtain ⟨r,hr,hp⟩:=Yaf.1 this
 obtain ⟨p1,p2,p3,p4⟩:=of_decide_eq_true hp
 exact ⟨r,hr,p1,p2,by rw [p3,← hab.1,hab.2],p4.symm⟩
 exact absurd rfl ht
 rw [if_neg hA] at ht ⊢
 by_cases hC:s∈Z25
 rw [if_pos hC] at ht ⊢
 split at ht
 rename_i hab
 rw [if_pos hab]
 right;right;right
 have:=XD.1 Zp8 s hC
 rw [Xi] at this
 have h13:Zd a=1∨Zd a=3:=by omega
 rcases h13 with h1|h1
 obtain ⟨r,hr,hp⟩:=Yaf.1 this.1
 obtain ⟨p1,p2,p3,p4⟩:=of_decide_eq_true hp
 exact ⟨r,hr,p1,p2,by rw [p3,← hab.1,h1],p4.symm⟩
 obtain ⟨r,hr,hp⟩:=Yaf.1 this.2
 obtain ⟨p1,p2,p3,p4⟩:=of_decide_eq_true hp
 exact ⟨r,hr,p1,p2,by rw [p3,← hab.1,h1],p4.symm⟩
 exact absurd rfl ht
 rw [if_neg hC] at ht ⊢
 split at ht
 rename_i hL
 rw [if_pos hL]
 split at ht
 rename_i hab
 rw [if_pos hab]
 right;right;left
 have hs:s=[97,110,100]∨s=[111,114]:=by simpa [Z0g] using hL
 exact ⟨trivial,hs,a,b,rfl,hab.2,by rw [← hab.1,hab.2],rfl⟩
 exact absurd rfl ht
 exact absurd rfl ht
 right;right;right
 rw [hsg] at ht ⊢
 obtain ⟨e,he,hx,hv⟩:=Z8t ht
 have:=XD.1 Zia e he
 obtain ⟨r,hr,hp⟩:=Yaf.1 this
 rw [Xi] at hp
 obtain ⟨p1,p2,p3,p4⟩:=of_decide_eq_true hp.1
 have p5:=hp.2
 rw [hv] at p5
 have p6:=of_decide_eq_true p5
 rw [← hx] at p1 p2 p3 p4
 dsimp only at p1 p2 p3 p4
 refine ⟨r,hr,p1,p2,?_,p6⟩
 rw [p3]
 rcases ZcQ h0 h3 hn0 p4 with ⟨hb0,hts⟩|⟨hb0,hts⟩
 rw [if_pos hb0];exact hts
 rw [if_neg hb0];exact hts
def Z3F (opn:Int→Bool) (ev:List Int):List Int→List Int→Int×List Int
 | [],st=>(0,st)
 | o :: L,st=>if (Jq opn ev ⟨o,0⟩ (Js st 1) (Js st 0)).2=0 then Z3F opn ev L (st.take (st.length - arM o)++[(Jq opn ev ⟨o,0⟩ (Js st 1) (Js st 0)).1]) else ((Jq opn ev ⟨o,0⟩ (Js st 1) (Js st 0)).2,st)
abbrev okv (vs:List Int):List (Int×Int):=vs.map fun v=>(v,0)
def Z3d (opn:Int→Bool) (ev:List Int) (L st0 vs:List Int) (v:Int×Int):Prop:=(Z3F opn ev L (st0++vs)).1=v.2∧(v.2=0→(Z3F opn ev L (st0++vs)).2=st0++[v.1])
theorem Zp9 (l:List Int) (a b:Int):(l++[a,b]).take ((l++[a,b]).length - 2)=l:=by rw [Xb];simp
theorem Zrl (l:List Int) (a:Int):(l++[a]).take ((l++[a]).length - 1)=l:=by rw [Xb];simp
theorem Zrm (l:List Int) (a b:Int):(l++[a,b]).take ((l++[a,b]).length - 1)=l++[a]:=by rw [Xb];simp [Yau,XB]
theorem Zj9 {opn:Int→Bool} {ev:List Int} {o a b:Int} {st0:List Int} (h:arM o=2):Z3d opn ev [o] st0 [a,b] (Jq opn ev ⟨o,0⟩ a b):=by
 unfold Z3d Z3F
 rw [(ZY st0 a b).1,(ZY st0 a b).2,h,Zp9]
 by_cases he:(Jq opn ev ⟨o,0⟩ a b).2=0
 rw [if_pos he]
 exact ⟨by rw [he];rfl,fun _=>rfl⟩
 rw [if_neg he]
 exact ⟨rfl,fun h=>absurd h he⟩
theorem ZaK {opn:Int→Bool} {ev:List Int} {o b:Int} {st0:List Int} (h:arM o=1):Z3d opn ev [o] st0 [b] (Z3a opn o b):=by
 have hv:∀ a,Jq opn ev ⟨o,0⟩ a b=Z3a opn o b:=by
  intro a
  unfold Jq
  have h4:o≠4:=by intro h4;subst h4;simp [arM] at h
  dsimp only
  rw [if_neg h4,if_neg (by omega),if_pos h]
 unfold Z3d Z3F
 rw [Z1E,hv,h,Zrl]
 by_cases he:(Z3a opn o b).2=0
 rw [if_pos he]
 exact ⟨by rw [he];rfl,fun _=>rfl⟩
 rw [if_neg he]
 exact ⟨rfl,fun h=>absurd h he⟩
theorem Zpa {opn:Int→Bool} {ev:List Int} {o a b:Int} {st0:List Int} (h:arM o=2):Z3d opn ev [8,o] st0 [a,b] (Jq opn ev ⟨o,0⟩ a (-b)):=by
 have hl:=Zj9 (opn:=opn) (ev:=ev) (a:=a) (b:=-b) (st0:=st0) h
 unfold Z3d at hl ⊢
 have e:Z3F opn ev [8,o] (st0++[a,b])=Z3F opn ev [o] (st0++[a,-b]):=by
  rw [Z3F,(ZY st0 a b).1,(ZY st0 a b).2]
  have e1:Jq opn ev ⟨8,0⟩ a b=(-b,0):=rfl
  rw [e1,if_pos rfl]
  have e2:arM 8=1:=rfl
  rw [e2,Zrm,Xr]
  rfl
 rw [e]
 exact hl
theorem Zpb {opn:Int→Bool} {ev:List Int} {o:Int} (h:arM o=2) (a b:Int):Jq opn ev ⟨o,0⟩ a b=Jf opn o a b:=by
 unfold Jq
 have h4:o≠4:=by intro h4;subst h4;simp [arM] at h
 dsimp only
 rw [if_neg h4,if_neg (by omega),if_neg (by omega)]
theorem Z0W {opn:Int→Bool} {ev:List Int} {o a b:Int} {st0:List Int} (h:arM o=2):Z3d opn ev [o] st0 [a,b] (Jf opn o a b):=Zpb (opn:=opn) (ev:=ev) h a b ▸ Zj9 h
theorem Z9r {opn:Int→Bool} {ev:List Int} {o a b:Int} {st0:List Int} (h:arM o=2):Z3d opn ev [8,o] st0 [a,b] (Jf opn o a (-b)):=Zpb (opn:=opn) (ev:=ev) h a (-b) ▸ Zpa h
theorem Z62 {opn:Int→Bool} {ev:List Int} {o a b v:Int} {st0:List Int} (h:arM o=2) (hv:Jq opn ev ⟨o,0⟩ a b=(v,0)):Z3d opn ev [o,12] st0 [a,b] (1 - v,0):=by
 have e:Z3F opn ev [o,12] (st0++[a,b])=Z3F opn ev [12] (st0++[v]):=by
  rw [Z3F,(ZY st0 a b).1,(ZY st0 a b).2,hv,if_pos rfl,h,Zp9]
 have hl:=ZaK (opn:=opn) (ev:=ev) (o:=12) (b:=v) (st0:=st0) rfl
 unfold Z3d at hl ⊢
 rw [e]
 exact hl
theorem Z4w (p q:Prop) [Decidable p] [Decidable q] (h:¬ p↔q):1 - Jr (decide p)=Jr (decide q):=by
 by_cases hp:p
 have hq:¬ q:=fun x=>(h.2 x) hp
 rw [decide_eq_true hp,decide_eq_false hq];rfl
 have hq:q:=h.1 hp
 rw [decide_eq_false hp,decide_eq_true hq];rfl
def PL (r:Z9q):Prop:=∀ (opn:Int→Bool) (ev:List Int) (n:Int) (st0 vs:List Int),JI r.ts vs→Z3d opn ev r.L st0 vs (Zo opn ev r.k n r.s (okv vs))
theorem pl0:PL ⟨5,[45],[1],1,[8]⟩:=by
 intro opn ev n st0 vs hv
 dsimp only at hv ⊢
 obtain ⟨b,rfl,hb⟩:=hv.one_inv
 have e:Zo opn ev 5 n [45] (okv [b])=Z3a opn 8 b:=by kernel_rfl
 rw [e]
 exact ZaK rfl
theorem pl1:PL ⟨5,[110,111,116],[2],2,[12]⟩:=by
 intro opn ev n st0 vs hv
 dsimp only at hv ⊢
 obtain ⟨b,rfl,hb⟩:=hv.one_inv
 have e:Zo opn ev 5 n [110,111,116] (okv [b])=Z3a opn 12 b:=by kernel_rfl
 rw [e]
 exact ZaK rfl
theorem pl2:PL ⟨10,[110,101,120,116],[3],3,[19]⟩:=by
 intro opn ev n st0 vs hv
 dsimp only at hv ⊢
 obtain ⟨b,rfl,hb⟩:=hv.one_inv
 have e:Zo opn ev 10 n [110,101,120,116] (okv [b])=Z3a opn 19 b:=by kernel_rfl
 rw [e]
 exact ZaK rfl
theorem pl3:PL ⟨10,[112,114,101,118],[3],3,[20]⟩:=by
 intro opn ev n st0 vs hv
 dsimp only at hv ⊢
 obtain ⟨b,rfl,hb⟩:=hv.one_inv
 have e:Zo opn ev 10 n [112,114,101,118] (okv [b])=Z3a opn 20 b:=by kernel_rfl
 rw [e]
 exact ZaK rfl
theorem pl4:PL ⟨10,[108,97,116,101,114],[3,3],3,[21]⟩:=by
 intro opn ev n st0 vs hv
 dsimp only at hv ⊢
 obtain ⟨a,b,rfl,ha,hb⟩:=hv.two_inv
 have e:Zo opn ev 10 n [108,97,116,101,114] (okv [a,b])=Jf opn 21 a b:=by kernel_rfl
 rw [e]
 exact Z0W rfl
theorem pl5:PL ⟨10,[101,97,114,108,105,101,114],[3,3],3,[22]⟩:=by
 intro opn ev n st0 vs hv
 dsimp only at hv ⊢
 obtain ⟨a,b,rfl,ha,hb⟩:=hv.two_inv
 have e:Zo opn ev 10 n [101,97,114,108,105,101,114] (okv [a,b])=Jf opn 22 a b:=by kernel_rfl
 rw [e]
 exact Z0W rfl
theorem pl6:PL ⟨10,[98,101,116,119,101,101,110],[3,3],1,[23]⟩:=by
 intro opn ev n st0 vs hv
 dsimp only at hv ⊢
 obtain ⟨a,b,rfl,ha,hb⟩:=hv.two_inv
 have e:Zo opn ev 10 n [98,101,116,119,101,101,110] (okv [a,b])=Jf opn 23 a b:=by kernel_rfl
 rw [e]
 exact Z0W rfl
theorem pl7:PL ⟨7,[100,97,121,115],[3,1],3,[15]⟩:=by
 intro opn ev n st0 vs hv
 dsimp only at hv ⊢
 obtain ⟨a,b,rfl,ha,hb⟩:=hv.two_inv
 have e:Zo opn ev 7 n [100,97,121,115] (okv [a,b])=Jf opn 15 a b:=by kernel_rfl
 rw [e]
 exact Z0W rfl
theorem pl8:PL ⟨7,[119,101,101,107,115],[3,1],3,[16]⟩:=by
 intro opn ev n st0 vs hv
 dsimp only at hv ⊢
 obtain ⟨a,b,rfl,ha,hb⟩:=hv.two_inv
 have e:Zo opn ev 7 n [119,101,101,107,115] (okv [a,b])=Jf opn 16 a b:=by kernel_rfl
 rw [e]
 exact Z0W rfl
theorem pl9:PL ⟨7,[109,111,110,116,104,115],[3,1],3,[17]⟩:=by
 intro opn ev n st0 vs hv
 dsimp only at hv ⊢
 obtain ⟨a,b,rfl,ha,hb⟩:=hv.two_inv
 have e:Zo opn ev 7 n [109,111,110,116,104,115] (okv [a,b])=Jf opn 17 a b:=by kernel_rfl
 rw [e]
 exact Z0W rfl
theorem Zrn:PL ⟨7,[99,111,117,114,116,100,97,121,115],[3,1],3,[18]⟩:=by
 intro opn ev n st0 vs hv
 dsimp only at hv ⊢
 obtain ⟨a,b,rfl,ha,hb⟩:=hv.two_inv
 have e:Zo opn ev 7 n [99,111,117,114,116,100,97,121,115] (okv [a,b])=Jf opn 18 a b:=by kernel_rfl
 rw [e]
 exact Z0W rfl
theorem Zro:PL ⟨8,[100,97,121,115],[3,1],3,[8,15]⟩:=by
 intro opn ev n st0 vs hv
 dsimp only at hv ⊢
 obtain ⟨a,b,rfl,ha,hb⟩:=hv.two_inv
 have e:Zo opn ev 8 n [100,97,121,115] (okv [a,b])=Jf opn 15 a (-b):=by kernel_rfl
 rw [e]
 exact Z9r rfl
theorem Zrp:PL ⟨8,[119,101,101,107,115],[3,1],3,[8,16]⟩:=by
 intro opn ev n st0 vs hv
 dsimp only at hv ⊢
 obtain ⟨a,b,rfl,ha,hb⟩:=hv.two_inv
 have e:Zo opn ev 8 n [119,101,101,107,115] (okv [a,b])=Jf opn 16 a (-b):=by kernel_rfl
 rw [e]
 exact Z9r rfl
theorem Zrq:PL ⟨8,[109,111,110,116,104,115],[3,1],3,[8,17]⟩:=by
 intro opn ev n st0 vs hv
 dsimp only at hv ⊢
 obtain ⟨a,b,rfl,ha,hb⟩:=hv.two_inv
 have e:Zo opn ev 8 n [109,111,110,116,104,115] (okv [a,b])=Jf opn 17 a (-b):=by kernel_rfl
 rw [e]
 exact Z9r rfl
theorem Zrr:PL ⟨8,[99,111,117,114,116,100,97,121,115],[3,1],3,[8,18]⟩:=by
 intro opn ev n st0 vs hv
 dsimp only at hv ⊢
 obtain ⟨a,b,rfl,ha,hb⟩:=hv.two_inv
 have e:Zo opn ev 8 n [99,111,117,114,116,100,97,121,115] (okv [a,b])=Jf opn 18 a (-b):=by kernel_rfl
 rw [e]
 exact Z9r rfl
theorem Zrs:PL ⟨6,[43],[1,1],1,[5]⟩:=by
 intro opn ev n st0 vs hv
 dsimp only at hv ⊢
 obtain ⟨a,b,rfl,ha,hb⟩:=hv.two_inv
 have e:Zo opn ev 6 n [43] (okv [a,b])=Jf opn 5 a b:=by kernel_rfl
 rw [e]
 exact Z0W rfl
theorem Zrt:PL ⟨6,[45],[1,1],1,[6]⟩:=by
 intro opn ev n st0 vs hv
 dsimp only at hv ⊢
 obtain ⟨a,b,rfl,ha,hb⟩:=hv.two_inv
 have e:Zo opn ev 6 n [45] (okv [a,b])=Jf opn 6 a b:=by kernel_rfl
 rw [e]
 exact Z0W rfl
theorem Zru:PL ⟨6,[42],[1,1],1,[7]⟩:=by
 intro opn ev n st0 vs hv
 dsimp only at hv ⊢
 obtain ⟨a,b,rfl,ha,hb⟩:=hv.two_inv
 have e:Zo opn ev 6 n [42] (okv [a,b])=Jf opn 7 a b:=by kernel_rfl
 rw [e]
 exact Z0W rfl
theorem Zrv:PL ⟨6,[60],[1,1],2,[9]⟩:=by
 intro opn ev n st0 vs hv
 dsimp only at hv ⊢
 obtain ⟨a,b,rfl,ha,hb⟩:=hv.two_inv
 have e:Zo opn ev 6 n [60] (okv [a,b])=Jf opn 9 a b:=by kernel_rfl
 rw [e]
 exact Z0W rfl
theorem Zrw:PL ⟨6,[60,61],[1,1],2,[10]⟩:=by
 intro opn ev n st0 vs hv
 dsimp only at hv ⊢
 obtain ⟨a,b,rfl,ha,hb⟩:=hv.two_inv
 have e:Zo opn ev 6 n [60,61] (okv [a,b])=Jf opn 10 a b:=by kernel_rfl
 rw [e]
 exact Z0W rfl
theorem Zrx:PL ⟨6,[61],[1,1],2,[11]⟩:=by
 intro opn ev n st0 vs hv
 dsimp only at hv ⊢
 obtain ⟨a,b,rfl,ha,hb⟩:=hv.two_inv
 have e:Zo opn ev 6 n [61] (okv [a,b])=Jf opn 11 a b:=by kernel_rfl
 rw [e]
 exact Z0W rfl
theorem Zry:PL ⟨6,[33,61],[1,1],2,[11,12]⟩:=by
 intro opn ev n st0 vs hv
 dsimp only at hv ⊢
 obtain ⟨a,b,rfl,ha,hb⟩:=hv.two_inv
 have e:Zo opn ev 6 n [33,61] (okv [a,b])=(Jr (decide (¬ a=b)),0):=by kernel_rfl
 have hl:=Z62 (opn:=opn) (ev:=ev) (o:=11) (a:=a) (b:=b) (v:=Jr (decide (a=b))) (st0:=st0) rfl rfl
 rw [Z4w (a=b) (¬ a=b) Iff.rfl] at hl
 rw [e]
 exact hl
theorem Zrz:PL ⟨6,[62],[1,1],2,[10,12]⟩:=by
 intro opn ev n st0 vs hv
 dsimp only at hv ⊢
 obtain ⟨a,b,rfl,ha,hb⟩:=hv.two_inv
 have e:Zo opn ev 6 n [62] (okv [a,b])=(Jr (decide (b<a)),0):=by kernel_rfl
 have hl:=Z62 (opn:=opn) (ev:=ev) (o:=10) (a:=a) (b:=b) (v:=Jr (decide (a≤b))) (st0:=st0) rfl rfl
 rw [Z4w (a≤b) (b<a) (by omega)] at hl
 rw [e]
 exact hl
theorem ZrA:PL ⟨6,[62,61],[1,1],2,[9,12]⟩:=by
 intro opn ev n st0 vs hv
 dsimp only at hv ⊢
 obtain ⟨a,b,rfl,ha,hb⟩:=hv.two_inv
 have e:Zo opn ev 6 n [62,61] (okv [a,b])=(Jr (decide (b≤a)),0):=by kernel_rfl
 have hl:=Z62 (opn:=opn) (ev:=ev) (o:=9) (a:=a) (b:=b) (v:=Jr (decide (a<b))) (st0:=st0) rfl rfl
 rw [Z4w (a<b) (b≤a) (by omega)] at hl
 rw [e]
 exact hl
theorem ZrB:PL ⟨6,[60],[3,3],2,[9]⟩:=by
 intro opn ev n st0 vs hv
 dsimp only at hv ⊢
 obtain ⟨a,b,rfl,ha,hb⟩:=hv.two_inv
 have e:Zo opn ev 6 n [60] (okv [a,b])=Jf opn 9 a b:=by kernel_rfl
 rw [e]
 exact Z0W rfl
theorem ZrC:PL ⟨6,[60,61],[3,3],2,[10]⟩:=by
 intro opn ev n st0 vs hv
 dsimp only at hv ⊢
 obtain ⟨a,b,rfl,ha,hb⟩:=hv.two_inv
 have e:Zo opn ev 6 n [60,61] (okv [a,b])=Jf opn 10 a b:=by kernel_rfl
 rw [e]
 exact Z0W rfl
theorem ZrD:PL ⟨6,[61],[3,3],2,[11]⟩:=by
 intro opn ev n st0 vs hv
 dsimp only at hv ⊢
 obtain ⟨a,b,rfl,ha,hb⟩:=hv.two_inv
 have e:Zo opn ev 6 n [61] (okv [a,b])=Jf opn 11 a b:=by kernel_rfl
 rw [e]
 exact Z0W rfl
theorem ZrE:PL ⟨6,[33,61],[3,3],2,[11,12]⟩:=by
 intro opn ev n st0 vs hv
 dsimp only at hv ⊢
 obtain ⟨a,b,rfl,ha,hb⟩:=hv.two_inv
 have e:Zo opn ev 6 n [33,61] (okv [a,b])=(Jr (decide (¬ a=b)),0):=by kernel_rfl
 have hl:=Z62 (opn:=opn) (ev:=ev) (o:=11) (a:=a) (b:=b) (v:=Jr (decide (a=b))) (st0:=st0) rfl rfl
 rw [Z4w (a=b) (¬ a=b) Iff.rfl] at hl
 rw [e]
 exact hl
theorem ZrF:PL ⟨6,[62],[3,3],2,[10,12]⟩:=by
 intro opn ev n st0 vs hv
 dsimp only at hv ⊢
 obtain ⟨a,b,rfl,ha,hb⟩:=hv.two_inv
 have e:Zo opn ev 6 n [62] (okv [a,b])=(Jr (decide (b<a)),0):=by kernel_rfl
 have hl:=Z62 (opn:=opn) (ev:=ev) (o:=10) (a:=a) (b:=b) (v:=Jr (decide (a≤b))) (st0:=st0) rfl rfl
 rw [Z4w (a≤b) (b<a) (by omega)] at hl
 rw [e]
 exact hl
theorem ZrG:PL ⟨6,[62,61],[3,3],2,[9,12]⟩:=by
 intro opn ev n st0 vs hv
 dsimp only at hv ⊢
 obtain ⟨a,b,rfl,ha,hb⟩:=hv.two_inv
 have e:Zo opn ev 6 n [62,61] (okv [a,b])=(Jr (decide (b≤a)),0):=by kernel_rfl
 have hl:=Z62 (opn:=opn) (ev:=ev) (o:=9) (a:=a) (b:=b) (v:=Jr (decide (a<b))) (st0:=st0) rfl rfl
 rw [Z4w (a<b) (b≤a) (by omega)] at hl
 rw [e]
 exact hl
theorem ZmK:∀ r∈Z3c,PL r:=by
 unfold Z3c
 refine Xd.2 ⟨pl0,?_⟩
 refine Xd.2 ⟨pl1,?_⟩
 refine Xd.2 ⟨pl2,?_⟩
 refine Xd.2 ⟨pl3,?_⟩
 refine Xd.2 ⟨pl4,?_⟩
 refine Xd.2 ⟨pl5,?_⟩
 refine Xd.2 ⟨pl6,?_⟩
 refine Xd.2 ⟨pl7,?_⟩
 refine Xd.2 ⟨pl8,?_⟩
 refine Xd.2 ⟨pl9,?_⟩
 refine Xd.2 ⟨Zrn,?_⟩
 refine Xd.2 ⟨Zro,?_⟩
 refine Xd.2 ⟨Zrp,?_⟩
 refine Xd.2 ⟨Zrq,?_⟩
 refine Xd.2 ⟨Zrr,?_⟩
 refine Xd.2 ⟨Zrs,?_⟩
 refine Xd.2 ⟨Zrt,?_⟩
 refine Xd.2 ⟨Zru,?_⟩
 refine Xd.2 ⟨Zrv,?_⟩
 refine Xd.2 ⟨Zrw,?_⟩
 refine Xd.2 ⟨Zrx,?_⟩
 refine Xd.2 ⟨Zry,?_⟩
 refine Xd.2 ⟨Zrz,?_⟩
 refine Xd.2 ⟨ZrA,?_⟩
 refine Xd.2 ⟨ZrB,?_⟩
 refine Xd.2 ⟨ZrC,?_⟩
 refine Xd.2 ⟨ZrD,?_⟩
 refine Xd.2 ⟨ZrE,?_⟩
 refine Xd.2 ⟨ZrF,?_⟩
 refine Xd.2 ⟨ZrG,?_⟩
 intro r h
 cases h
theorem Z7z (opn:Int→Bool) (ev:List Int) (n:Int) (st0 vs:List Int) (r:Z9q) (hr:r∈Z3c) (hv:JI r.ts vs):Z3d opn ev r.L st0 vs (Zo opn ev r.k n r.s (okv vs)):=ZmK r hr opn ev n st0 vs hv
def POv (r:Z9q):Prop:=∀ (opn:Int→Bool) (ev:List Int) (hev:Z49 ev) (n:Int) (vs:List Int),JI r.ts vs→(Zo opn ev r.k n r.s (okv vs)).2=0→vOk r.t (Zo opn ev r.k n r.s (okv vs)).1
theorem po0:POv ⟨5,[45],[1],1,[8]⟩:=by
 intro opn ev hev n vs hv he
 dsimp only at hv he ⊢
 obtain ⟨b,rfl,hb⟩:=hv.one_inv
 have e:Zo opn ev 5 n [45] (okv [b])=Z3a opn 8 b:=by kernel_rfl
 rw [e] at he ⊢
 have h1:=hb.n
 show vOk 1 (-b)
 unfold vOk
 omega
theorem po1:POv ⟨5,[110,111,116],[2],2,[12]⟩:=by
 intro opn ev hev n vs hv he
 dsimp only at hv he ⊢
 obtain ⟨b,rfl,hb⟩:=hv.one_inv
 have e:Zo opn ev 5 n [110,111,116] (okv [b])=Z3a opn 12 b:=by kernel_rfl
 rw [e] at he ⊢
 have h1:=hb.b
 show vOk 2 (1 - b)
 unfold vOk
 omega
theorem po2:POv ⟨10,[110,101,120,116],[3],3,[19]⟩:=by
 intro opn ev hev n vs hv he
 dsimp only at hv he ⊢
 obtain ⟨b,rfl,hb⟩:=hv.one_inv
 have e:Zo opn ev 10 n [110,101,120,116] (okv [b])=Z3a opn 19 b:=by kernel_rfl
 rw [e] at he ⊢
 exact .days (Z3b (opn:=opn) (step:=1) (d:=b) he).1
theorem po3:POv ⟨10,[112,114,101,118],[3],3,[20]⟩:=by
 intro opn ev hev n vs hv he
 dsimp only at hv he ⊢
 obtain ⟨b,rfl,hb⟩:=hv.one_inv
 have e:Zo opn ev 10 n [112,114,101,118] (okv [b])=Z3a opn 20 b:=by kernel_rfl
 rw [e] at he ⊢
 exact .days (Z3b (opn:=opn) (step:=-1) (d:=b) he).1
theorem po4:POv ⟨10,[108,97,116,101,114],[3,3],3,[21]⟩:=by
 intro opn ev hev n vs hv he
 dsimp only at hv he ⊢
 obtain ⟨a,b,rfl,ha,hb⟩:=hv.two_inv
 have e:Zo opn ev 10 n [108,97,116,101,114] (okv [a,b])=Jf opn 21 a b:=by kernel_rfl
 rw [e] at he ⊢
 have h1:=ha.d
 have h2:=hb.d
 show vOk 3 (max a b)
 unfold vOk
 omega
theorem po5:POv ⟨10,[101,97,114,108,105,101,114],[3,3],3,[22]⟩:=by
 intro opn ev hev n vs hv he
 dsimp only at hv he ⊢
 obtain ⟨a,b,rfl,ha,hb⟩:=hv.two_inv
 have e:Zo opn ev 10 n [101,97,114,108,105,101,114] (okv [a,b])=Jf opn 22 a b:=by kernel_rfl
 rw [e] at he ⊢
 have h1:=ha.d
 have h2:=hb.d
 show vOk 3 (min a b)
 unfold vOk
 omega
theorem po6:POv ⟨10,[98,101,116,119,101,101,110],[3,3],1,[23]⟩:=by
 intro opn ev hev n vs hv he
 dsimp only at hv he ⊢
 obtain ⟨a,b,rfl,ha,hb⟩:=hv.two_inv
 have e:Zo opn ev 10 n [98,101,116,119,101,101,110] (okv [a,b])=Jf opn 23 a b:=by kernel_rfl
 rw [e] at he ⊢
 have h1:=ha.d
 have h2:=hb.d
 show vOk 1 (b - a)
 unfold vOk
 omega
theorem po7:POv ⟨7,[100,97,121,115],[3,1],3,[15]⟩:=by
 intro opn ev hev n vs hv he
 dsimp only at hv he ⊢
 obtain ⟨a,b,rfl,ha,hb⟩:=hv.two_inv
 have e:Zo opn ev 7 n [100,97,121,115] (okv [a,b])=Jf opn 15 a b:=by kernel_rfl
 rw [e] at he ⊢
 exact Z5t he
theorem po8:POv ⟨7,[119,101,101,107,115],[3,1],3,[16]⟩:=by
 intro opn ev hev n vs hv he
 dsimp only at hv he ⊢
 obtain ⟨a,b,rfl,ha,hb⟩:=hv.two_inv
 have e:Zo opn ev 7 n [119,101,101,107,115] (okv [a,b])=Jf opn 16 a b:=by kernel_rfl
 rw [e] at he ⊢
 exact Z5t he
theorem po9:POv ⟨7,[109,111,110,116,104,115],[3,1],3,[17]⟩:=by
 intro opn ev hev n vs hv he
 dsimp only at hv he ⊢
 obtain ⟨a,b,rfl,ha,hb⟩:=hv.two_inv
 have e:Zo opn ev 7 n [109,111,110,116,104,115] (okv [a,b])=Jf opn 17 a b:=by kernel_rfl
 rw [e] at he ⊢
 exact .days (Z9p he)
theorem ZrH:POv ⟨7,[99,111,117,114,116,100,97,121,115],[3,1],3,[18]⟩:=by
 intro opn ev hev n vs hv he
 dsimp only at hv he ⊢
 obtain ⟨a,b,rfl,ha,hb⟩:=hv.two_inv
 have e:Zo opn ev 7 n [99,111,117,114,116,100,97,121,115] (okv [a,b])=Jf opn 18 a b:=by kernel_rfl
 rw [e] at he ⊢
 exact .days (Z9o he)
theorem ZrI:POv ⟨8,[100,97,121,115],[3,1],3,[8,15]⟩:=by
 intro opn ev hev n vs hv he
 dsimp only at hv he ⊢
 obtain ⟨a,b,rfl,ha,hb⟩:=hv.two_inv
 have e:Zo opn ev 8 n [100,97,121,115] (okv [a,b])=Jf opn 15 a (-b):=by kernel_rfl
 rw [e] at he ⊢
 exact Z5t he
theorem ZrJ:POv ⟨8,[119,101,101,107,115],[3,1],3,[8,16]⟩:=by
 intro opn ev hev n vs hv he
 dsimp only at hv he ⊢
 obtain ⟨a,b,rfl,ha,hb⟩:=hv.two_inv
 have e:Zo opn ev 8 n [119,101,101,107,115] (okv [a,b])=Jf opn 16 a (-b):=by kernel_rfl
 rw [e] at he ⊢
 exact Z5t he
theorem ZrK:POv ⟨8,[109,111,110,116,104,115],[3,1],3,[8,17]⟩:=by
 intro opn ev hev n vs hv he
 dsimp only at hv he ⊢
 obtain ⟨a,b,rfl,ha,hb⟩:=hv.two_inv
 have e:Zo opn ev 8 n [109,111,110,116,104,115] (okv [a,b])=Jf opn 17 a (-b):=by kernel_rfl
 rw [e] at he ⊢
 exact .days (Z9p he)
theorem ZrL:POv ⟨8,[99,111,117,114,116,100,97,121,115],[3,1],3,[8,18]⟩:=by
 intro opn ev hev n vs hv he
 dsimp only at hv he ⊢
 obtain ⟨a,b,rfl,ha,hb⟩:=hv.two_inv
 have e:Zo opn ev 8 n [99,111,117,114,116,100,97,121,115] (okv [a,b])=Jf opn 18 a (-b):=by kernel_rfl
 rw [e] at he ⊢
 exact .days (Z9o he)
theorem ZrM:POv ⟨6,[43],[1,1],1,[5]⟩:=by
 intro opn ev hev n vs hv he
 dsimp only at hv he ⊢
 obtain ⟨a,b,rfl,ha,hb⟩:=hv.two_inv
 have e:Zo opn ev 6 n [43] (okv [a,b])=Jf opn 5 a b:=by kernel_rfl
 rw [e] at he ⊢
 exact Z6S he
theorem ZrN:POv ⟨6,[45],[1,1],1,[6]⟩:=by
 intro opn ev hev n vs hv he
 dsimp only at hv he ⊢
 obtain ⟨a,b,rfl,ha,hb⟩:=hv.two_inv
 have e:Zo opn ev 6 n [45] (okv [a,b])=Jf opn 6 a b:=by kernel_rfl
 rw [e] at he ⊢
 exact Z6S he
theorem ZrO:POv ⟨6,[42],[1,1],1,[7]⟩:=by
 intro opn ev hev n vs hv he
 dsimp only at hv he ⊢
 obtain ⟨a,b,rfl,ha,hb⟩:=hv.two_inv
 have e:Zo opn ev 6 n [42] (okv [a,b])=Jf opn 7 a b:=by kernel_rfl
 rw [e] at he ⊢
 exact Z6S he
theorem ZrP:POv ⟨6,[60],[1,1],2,[9]⟩:=by
 intro opn ev hev n vs hv he
 dsimp only at hv he ⊢
 obtain ⟨a,b,rfl,ha,hb⟩:=hv.two_inv
 have e:Zo opn ev 6 n [60] (okv [a,b])=Jf opn 9 a b:=by kernel_rfl
 rw [e] at he ⊢
 exact Z1F _
theorem ZrQ:POv ⟨6,[60,61],[1,1],2,[10]⟩:=by
 intro opn ev hev n vs hv he
 dsimp only at hv he ⊢
 obtain ⟨a,b,rfl,ha,hb⟩:=hv.two_inv
 have e:Zo opn ev 6 n [60,61] (okv [a,b])=Jf opn 10 a b:=by kernel_rfl
 rw [e] at he ⊢
 exact Z1F _
theorem ZrR:POv ⟨6,[61],[1,1],2,[11]⟩:=by
 intro opn ev hev n vs hv he
 dsimp only at hv he ⊢
 obtain ⟨a,b,rfl,ha,hb⟩:=hv.two_inv
 have e:Zo opn ev 6 n [61] (okv [a,b])=Jf opn 11 a b:=by kernel_rfl
 rw [e] at he ⊢
 exact Z1F _
theorem ZrS:POv ⟨6,[33,61],[1,1],2,[11,12]⟩:=by
 intro opn ev hev n vs hv he
 dsimp only at hv he ⊢
 obtain ⟨a,b,rfl,ha,hb⟩:=hv.two_inv
 have e:Zo opn ev 6 n [33,61] (okv [a,b])=(Jr (decide (¬ a=b)),0):=by kernel_rfl
 rw [e]
 exact Z1F _
theorem ZrT:POv ⟨6,[62],[1,1],2,[10,12]⟩:=by
 intro opn ev hev n vs hv he
 dsimp only at hv he ⊢
 obtain ⟨a,b,rfl,ha,hb⟩:=hv.two_inv
 have e:Zo opn ev 6 n [62] (okv [a,b])=(Jr (decide (b<a)),0):=by kernel_rfl
 rw [e]
 exact Z1F _
theorem ZrU:POv ⟨6,[62,61],[1,1],2,[9,12]⟩:=by
 intro opn ev hev n vs hv he
 dsimp only at hv he ⊢
 obtain ⟨a,b,rfl,ha,hb⟩:=hv.two_inv
 have e:Zo opn ev 6 n [62,61] (okv [a,b])=(Jr (decide (b≤a)),0):=by kernel_rfl
 rw [e]
 exact Z1F _
theorem ZrV:POv ⟨6,[60],[3,3],2,[9]⟩:=by
 intro opn ev hev n vs hv he
 dsimp only at hv he ⊢
 obtain ⟨a,b,rfl,ha,hb⟩:=hv.two_inv
 have e:Zo opn ev 6 n [60] (okv [a,b])=Jf opn 9 a b:=by kernel_rfl
 rw [e] at he ⊢
 exact Z1F _
theorem ZrW:POv ⟨6,[60,61],[3,3],2,[10]⟩:=by
 intro opn ev hev n vs hv he
 dsimp only at hv he ⊢
 obtain ⟨a,b,rfl,ha,hb⟩:=hv.two_inv
 have e:Zo opn ev 6 n [60,61] (okv [a,b])=Jf opn 10 a b:=by kernel_rfl
 rw [e] at he ⊢
 exact Z1F _
theorem ZrX:POv ⟨6,[61],[3,3],2,[11]⟩:=by
 intro opn ev hev n vs hv he
 dsimp only at hv he ⊢
 obtain ⟨a,b,rfl,ha,hb⟩:=hv.two_inv
 have e:Zo opn ev 6 n [61] (okv [a,b])=Jf opn 11 a b:=by kernel_rfl
 rw [e] at he ⊢
 exact Z1F _
theorem ZrY:POv ⟨6,[33,61],[3,3],2,[11,12]⟩:=by
 intro opn ev hev n vs hv he
 dsimp only at hv he ⊢
 obtain ⟨a,b,rfl,ha,hb⟩:=hv.two_inv
 have e:Zo opn ev 6 n [33,61] (okv [a,b])=(Jr (decide (¬ a=b)),0):=by kernel_rfl
 rw [e]
 exact Z1F _
theorem ZrZ:POv ⟨6,[62],[3,3],2,[10,12]⟩:=by
 intro opn ev hev n vs hv he
 dsimp only at hv he ⊢
 obtain ⟨a,b,rfl,ha,hb⟩:=hv.two_inv
 have e:Zo opn ev 6 n [62] (okv [a,b])=(Jr (decide (b<a)),0):=by kernel_rfl
 rw [e]
 exact Z1F _
theorem Zs0:POv ⟨6,[62,61],[3,3],2,[9,12]⟩:=by
 intro opn ev hev n vs hv he
 dsimp only at hv he ⊢
 obtain ⟨a,b,rfl,ha,hb⟩:=hv.two_inv
 have e:Zo opn ev 6 n [62,61] (okv [a,b])=(Jr (decide (b≤a)),0):=by kernel_rfl
 rw [e]
 exact Z1F _
theorem ZmL:∀ r∈Z3c,POv r:=by
 unfold Z3c
 refine Xd.2 ⟨po0,?_⟩
 refine Xd.2 ⟨po1,?_⟩
 refine Xd.2 ⟨po2,?_⟩
 refine Xd.2 ⟨po3,?_⟩
 refine Xd.2 ⟨po4,?_⟩
 refine Xd.2 ⟨po5,?_⟩
 refine Xd.2 ⟨po6,?_⟩
 refine Xd.2 ⟨po7,?_⟩
 refine Xd.2 ⟨po8,?_⟩
 refine Xd.2 ⟨po9,?_⟩
 refine Xd.2 ⟨ZrH,?_⟩
 refine Xd.2 ⟨ZrI,?_⟩
 refine Xd.2 ⟨ZrJ,?_⟩
 refine Xd.2 ⟨ZrK,?_⟩
 refine Xd.2 ⟨ZrL,?_⟩
 refine Xd.2 ⟨ZrM,?_⟩
 refine Xd.2 ⟨ZrN,?_⟩
 refine Xd.2 ⟨ZrO,?_⟩
 refine Xd.2 ⟨ZrP,?_⟩
 refine Xd.2 ⟨ZrQ,?_⟩
 refine Xd.2 ⟨ZrR,?_⟩
 refine Xd.2 ⟨ZrS,?_⟩
 refine Xd.2 ⟨ZrT,?_⟩
 refine Xd.2 ⟨ZrU,?_⟩
 refine Xd.2 ⟨ZrV,?_⟩
 refine Xd.2 ⟨ZrW,?_⟩
 refine Xd.2 ⟨ZrX,?_⟩
 refine Xd.2 ⟨ZrY,?_⟩
 refine Xd.2 ⟨ZrZ,?_⟩
 refine Xd.2 ⟨Zs0,?_⟩
 intro r h
 cases h
theorem Zgd (opn:Int→Bool) (ev:List Int) (hev:Z49 ev) (n:Int) (vs:List Int) (r:Z9q) (hr:r∈Z3c) (hv:JI r.ts vs) (he:(Zo opn ev r.k n r.s (okv vs)).2=0):vOk r.t (Zo opn ev r.k n r.s (okv vs)).1:=ZmL r hr opn ev hev n vs hv he
def Jg:List (Int×Int)→Int
 | []=>0
 | r :: l=>if r.2=0 then Jg l else r.2
theorem Zge:∀ r∈Z3c,(¬ (r.k=1∨r.k=2∨r.k=3)∧¬ r.k=4∧¬ r.k=9)∧¬ (r.k=6∧(r.s=[97,110,100]∨r.s=[111,114]))∧(r.ts.length=1∨r.ts.length=2):=by decide +kernel
theorem Z63 (opn:Int→Bool) (ev:List Int) (n:Int) (rs:List (Int×Int)) (r:Z9q) (hr:r∈Z3c) (hl:rs.length=r.ts.length) (he:Jg rs≠0):Zo opn ev r.k n r.s rs=(0,Jg rs):=by
 obtain ⟨⟨h1,h4,h9⟩,hao,hlen⟩:=Zge r hr
 unfold Zo
 rw [if_neg h1,if_neg h4]
 rcases hlen with h|h
 rw [h] at hl
 obtain ⟨a,rfl⟩:=YaN.1 hl
 have ha:¬ a.2=0:=fun h0=>he (by simp [Jg,h0])
 have e1:([a]:List (Int×Int)).getD 0 (0,0)=a:=rfl
 rw [e1,if_pos ha]
 simp [Jg,ha]
 rw [h] at hl
 obtain ⟨a,b,rfl⟩:=Z9i hl
 have e1:([a,b]:List (Int×Int)).getD 0 (0,0)=a:=rfl
 have e2:([a,b]:List (Int×Int)).getD 1 (0,0)=b:=rfl
 rw [e1,e2]
 by_cases ha:a.2=0
 have hb:¬ b.2=0:=fun h0=>he (by simp [Jg,ha,h0])
 have h5:¬ r.k=5:=by
  have:∀ r∈Z3c,r.k=5→r.ts.length=1:=by decide +kernel
  intro h5
  rw [this r hr h5] at h
  cases h
 rw [if_neg (fun h=>h ha),if_neg h5,if_neg h9,if_neg (by simp),if_neg (fun h=>hao ⟨h.1,h.2.elim (fun x=>.inl x.1) (fun x=>.inr x.1)⟩),if_pos hb]
 simp [Jg,ha,hb]
 rw [if_pos ha]
 simp [Jg,ha]
theorem Z0Z (opn:Int→Bool) (ev:List Int) (hev:Z49 ev) (x:Nd):Zd x≠0→(Z4 opn ev x).2=0→vOk (Zd x) (Z4 opn ev x).1:=by
 induction x using Nd.ind with
 | h k n s l ih=>
 intro ht he
 have hkid:∀ y∈l,Zd y≠0:=fun y hy=>Z34 (x:=.mk k n s l) ht hy
 have hev2:Z4 opn ev (.mk k n s l)=Zo opn ev k n s (l.map (Z4 opn ev)):=Z2r _ _ _
 rw [hev2] at he ⊢
 rcases Z53 ht with ⟨rfl,hlf⟩|⟨rfl,a,b,c,rfl,ta,tb,tc⟩|⟨rfl,hs,a,b,rfl,ta,tb,ht2⟩|⟨r,hr,rfl,rfl,hts,htt⟩
 rcases hlf with ⟨hk,ht2,hv⟩|⟨rfl,i,hi,rfl,hf,ht2⟩
 rw [ht2]
 unfold Zo
 rw [if_pos hk]
 exact hv
 have e:Zo opn ev 4 n (Zg.getD i []) (List.map (Z4 opn ev) [])=Z6J ev (i:Int):=by
  unfold Zo
  rw [if_neg (by decide),if_pos rfl,hf]
 rw [e] at he ⊢
 rw [ht2]
 unfold Z6J at he ⊢
 split at he
 simp at he
 rename_i h1
 rw [if_neg h1]
 have h0:=hev.day
 have hs1:=hev.served
 rw [YaL]
 by_cases h01:i≤1
 rw [if_pos h01]
 right;right
 have h01:i=0∨i=1:=by omega
 rcases h01 with rfl|rfl
 exact ⟨rfl,h0.1,h0.2⟩
 refine ⟨rfl,?_,hs1.2⟩
 have:¬ ev.getD 1 0=-1:=fun h=>h1 ⟨rfl,h⟩
 show 0≤ev.getD 1 0
 omega
 rw [if_neg h01]
 left
 exact ⟨rfl,hev.rest i (by omega) (by omega)⟩
 have em:[a,b,c].map (Z4 opn ev)=[Z4 opn ev a,Z4 opn ev b,Z4 opn ev c]:=rfl
 have e0:[Z4 opn ev a,Z4 opn ev b,Z4 opn ev c].getD 0 (0,0)=Z4 opn ev a:=rfl
 rw [em] at he ⊢
 unfold Zo at he ⊢
 rw [if_neg (by decide),if_neg (by decide),e0] at he ⊢
 by_cases ha:(Z4 opn ev a).2=0
 rw [if_neg (fun h=>h ha),if_neg (by decide),if_pos rfl] at he ⊢
 have hva:=(ih a (by simp) (hkid a (by simp)) ha)
 rw [ta] at hva
 rcases hva.b with h0|h1
 rw [h0] at he ⊢
 rw [← tc]
 exact ih c (by simp) (hkid c (by simp)) he
 rw [h1] at he ⊢
 rw [← tb]
 exact ih b (by simp) (hkid b (by simp)) he
 rw [if_pos ha] at he
 exact absurd he ha
 rw [ht2]
 have em:[a,b].map (Z4 opn ev)=[Z4 opn ev a,Z4 opn ev b]:=rfl
 have e0:[Z4 opn ev a,Z4 opn ev b].getD 0 (0,0)=Z4 opn ev a:=rfl
 have e1:[Z4 opn ev a,Z4 opn ev b].getD 1 (0,0)=Z4 opn ev b:=rfl
 rw [em] at he ⊢
 unfold Zo at he ⊢
 rw [if_neg (by decide),if_neg (by decide),e0,e1] at he ⊢
 by_cases ha:(Z4 opn ev a).2=0
 rw [if_neg (fun h=>h ha),if_neg (by decide),if_neg (by decide),if_neg (by simp)] at he ⊢
 have hva:=(ih a (by simp) (hkid a (by simp)) ha)
 rw [ta] at hva
 split at he
 rename_i hc
 rw [if_pos hc]
 exact hva
 rename_i hc
 rw [if_neg hc]
 by_cases hb:(Z4 opn ev b).2=0
 rw [if_neg (fun h=>h hb),if_neg (by decide),if_neg (by decide),if_neg (by decide)] at he ⊢
 have hvb:=(ih b (by simp) (hkid b (by simp)) hb)
 rw [tb] at hvb
 rcases hs with rfl|rfl
 exact hvb
 exact hvb
 rw [if_pos hb] at he
 exact absurd he hb
 rw [if_pos ha] at he
 exact absurd he ha
 rw [htt]
 by_cases hf:Jg (l.map (Z4 opn ev))=0
 · have hall:∀ y∈l,(Z4 opn ev y).2=0:=by
    have:∀ (rs:List (Int×Int)),Jg rs=0→∀ z∈rs,z.2=0:=by
     intro rs
     induction rs with
     | nil=>intro _ z hz;cases hz
     | cons q r ihr=>
       intro h z hz
       rw [Jg] at h
       split at h
       rename_i h0
       rcases Xf.1 hz with rfl|hz
       exact h0
       exact ihr h z hz
       rename_i h0;exact absurd h h0
    intro y hy
    exact this _ hf _ (X4 hy)
   have hmap:l.map (Z4 opn ev)=okv (l.map fun y=>(Z4 opn ev y).1):=by
    unfold okv
    rw [YaX]
    refine List.map_congr_left (fun y hy=>?_)
    have:=hall y hy
    exact Prod.ext rfl this
   have hst:JI r.ts (l.map fun y=>(Z4 opn ev y).1):=by
    rw [← hts]
    refine ⟨by simp,fun i h h'=>?_⟩
    simp only [YaC]
    have hi:i<l.length:=by simpa using h
    exact ih l[i] (Xg hi) (hkid _ (Xg hi)) (hall _ (Xg hi))
   rw [hmap] at he ⊢
   exact Zgd opn ev hev n _ r hr hst he
 rw [Z63 opn ev n _ r hr (by rw [← hts];simp) hf] at he
 exact absurd he hf
theorem ZaL (opn:Int→Bool) (ev:List Int) (C:List Ins):∀ (L:List Int) (p f:Nat) (st:List Int) (sp:List Spn),(∀ i (h:i<L.length),C.getD (p+i) ⟨0,0⟩=⟨L[i],0⟩)→(∀ o∈L,o≠24∧o≠13∧o≠14)→L.length≤f→
 ((Z3F opn ev L st).1=0→∃ sp',Z2R opn ev C f p st sp=Z2R opn ev C (f - L.length) (p+L.length) (Z3F opn ev L st).2 sp')∧((Z3F opn ev L st).1≠0→Z2R opn ev C f p st sp=(0,[],(Z3F opn ev L st).1))
 | [],p,f,st,sp,_,_,_=>⟨fun _=>⟨sp,rfl⟩,fun h=>absurd rfl h⟩
 | o :: L, p, f, st, sp, hC, ho, hf => by
   obtain ⟨g,rfl⟩:∃ g,f=g+1:=⟨f - 1,by simp only [Xc] at hf;omega⟩
   have h0:C.getD p ⟨0,0⟩=⟨o,0⟩:=hC 0 (by simp)
   obtain ⟨n1,n2,n3⟩:=ho o (by simp)
   rw [Z2R,Z3F,h0]
   dsimp only
   rw [if_neg n1,if_neg n2,if_neg n3]
   by_cases he:(Jq opn ev ⟨o,0⟩ (Js st 1) (Js st 0)).2=0
   rw [if_pos he,if_pos he]
   have ih:=ZaL opn ev C L (p+1) g (st.take (st.length - arM o)++[(Jq opn ev ⟨o,0⟩ (Js st 1) (Js st 0)).1]) (sp++Z0b o (Js st 1) (Js st 0) (Jq opn ev ⟨o,0⟩ (Js st 1) (Js st 0)).1) (fun i h=>by have:=hC (i+1) (by simp only [Xc];omega);rw [show p+(i+1)=p+1+i by omega] at this;simpa using this) (fun o h=>ho o (by simp [h])) (by simp only [Xc] at hf;omega)
   refine ⟨fun h=>?_,ih.2⟩
   obtain ⟨sp',e⟩:=ih.1 h
   exact ⟨sp',by rw [e];simp only [Xc];rw [show g+1 - (L.length+1)=g - L.length by omega,show p+(L.length+1)=p+1+L.length by omega]⟩
   rw [if_neg he,if_neg he]
   exact ⟨fun h=>absurd h he,fun _=>rfl⟩
def Z20 (opn:Int→Bool) (ev:List Int) (C:List Ins) (p n:Nat) (v:Int×Int):Prop:=∀ (f:Nat) (st:List Int) (sp:List Spn),C.length≤f+p→
 (v.2=0→∃ f' sp',C.length≤f'+(p+n)∧Z2R opn ev C f p st sp=Z2R opn ev C f' (p+n) (st++[v.1]) sp')∧(v.2≠0→Z2R opn ev C f p st sp=(0,[],v.2))
def Z7A (opn:Int→Bool) (ev:List Int) (C:List Ins) (p n:Nat) (vs:List (Int×Int)):Prop:=∀ (f:Nat) (st:List Int) (sp:List Spn),C.length≤f+p→
 (Jg vs=0→∃ f' sp',C.length≤f'+(p+n)∧Z2R opn ev C f p st sp=Z2R opn ev C f' (p+n) (st++vs.map Prod.fst) sp')∧(Jg vs≠0→Z2R opn ev C f p st sp=(0,[],Jg vs))
theorem Z7A.nil (opn:Int→Bool) (ev:List Int) (C:List Ins) (p:Nat):Z7A opn ev C p 0 []:=fun f st sp hf=>⟨fun _=>⟨f,sp,by omega,by simp⟩,fun h=>absurd rfl h⟩
theorem Z7A.cons {opn:Int→Bool} {ev:List Int} {C:List Ins} {p n m:Nat} {v:Int×Int} {vs:List (Int×Int)} (h1:Z20 opn ev C p n v) (h2:Z7A opn ev C (p+n) m vs):Z7A opn ev C p (n+m) (v :: vs):=by
 intro f st sp hf
 obtain ⟨a1,a2⟩:=h1 f st sp hf
 by_cases he:v.2=0
 obtain ⟨f1,sp1,hf1,e1⟩:=a1 he
 obtain ⟨b1,b2⟩:=h2 f1 (st++[v.1]) sp1 hf1
 have hfe:Jg (v :: vs)=Jg vs:=by simp [Jg,he]
 rw [hfe,e1]
 refine ⟨fun h=>?_,b2⟩
 obtain ⟨f2,sp2,hf2,e2⟩:=b1 h
 exact ⟨f2,sp2,by omega,by rw [e2];simp [XT]⟩
 have hfe:Jg (v :: vs)=v.2:=by simp [Jg,he]
 rw [hfe]
 exact ⟨fun h=>absurd h he,fun _=>a2 he⟩
theorem Z7A.line {opn:Int→Bool} {ev:List Int} {C:List Ins} {p n:Nat} {vs:List (Int×Int)} {L:List Int} {v:Int×Int} (h:Z7A opn ev C p n vs) (hp:p+n+L.length≤C.length) (hC:∀ i (h:i<L.length),C.getD (p+n+i) ⟨0,0⟩=⟨L[i],0⟩) (ho:∀ o∈L,o≠24∧o≠13∧o≠14)
 (hl:Jg vs=0→∀ st0,Z3d opn ev L st0 (vs.map Prod.fst) v) (he:Jg vs≠0→v=(0,Jg vs)):Z20 opn ev C p (n+L.length) v:=by
 intro f st sp hf
 obtain ⟨a1,a2⟩:=h f st sp hf
 by_cases h0:Jg vs=0
 obtain ⟨f1,sp1,hf1,e1⟩:=a1 h0
 obtain ⟨l1,l2⟩:=hl h0 st
 obtain ⟨r1,r2⟩:=ZaL opn ev C L (p+n) f1 (st++vs.map Prod.fst) sp1 hC ho (by omega)
 rw [e1]
 refine ⟨fun hv=>?_,fun hv=>?_⟩
 obtain ⟨sp2,e2⟩:=r1 (by rw [l1];exact hv)
 exact ⟨f1 - L.length,sp2,by omega,by rw [e2,l2 hv,XT]⟩
 rw [r2 (by rw [l1];exact hv),l1]
 rw [he h0]
 exact ⟨fun h=>absurd h h0,fun _=>a2 h0⟩
theorem Z20.one {opn:Int→Bool} {ev:List Int} {C:List Ins} {p:Nat} {x:Ins} (hp:p<C.length) (hC:C.getD p ⟨0,0⟩=x) (h1:x.op≠24) (h2:x.op≠13) (h3:x.op≠14) (ha:arM x.op=0) {v:Int×Int} (hv:∀ a b,Jq opn ev x a b=v):Z20 opn ev C p 1 v:=by
 intro f st sp hf
 obtain ⟨g,rfl⟩:∃ g,f=g+1:=⟨f - 1,by omega⟩
 rw [Z2R,hC]
 rw [if_neg h1,if_neg h2,if_neg h3,hv,ha]
 by_cases he:v.2=0
 rw [if_pos he]
 exact ⟨fun _=>⟨g,sp++Z0b x.op (Js st 1) (Js st 0) v.1,by omega,by simp⟩,fun h=>absurd he h⟩
 rw [if_neg he]
 exact ⟨fun h=>absurd h he,fun _=>rfl⟩
theorem Z20.choice {opn:Int→Bool} {ev:List Int} {C:List Ins} {p nc ny nn:Nat} {b v:Int×Int} (hc:Z20 opn ev C p nc b) (hp:p+nc+1+ny+1+nn≤C.length) (h14:C.getD (p+nc) ⟨0,0⟩=⟨14,((p+nc+1+ny+1:Nat):Int)⟩) (h13:C.getD (p+nc+1+ny) ⟨0,0⟩=⟨13,((p+nc+1+ny+1+nn:Nat):Int)⟩)
 (he:b.2≠0→v=(0,b.2)) (hy:b.2=0→b.1≠0→Z20 opn ev C (p+nc+1) ny v) (hn:b.2=0→b.1=0→Z20 opn ev C (p+nc+1+ny+1) nn v):Z20 opn ev C p (nc+1+ny+1+nn) v:=by
 intro f st sp hf
 obtain ⟨a1,a2⟩:=hc f st sp hf
 by_cases h0:b.2=0
 obtain ⟨f1,sp1,hf1,e1⟩:=a1 h0
 obtain ⟨g,rfl⟩:∃ g,f1=g+1:=⟨f1 - 1,by omega⟩
 have hb:Js (st++[b.1]) 0=b.1:=by simp [Js]
 rw [e1,Z2R,h14,hb]
 rw [if_neg (show ¬ (14:Int)=24 by decide),if_neg (show ¬ (14:Int)=13 by decide),if_pos rfl,List.dropLast_concat]
 by_cases hb0:b.1=0
 rw [if_pos hb0]
 obtain ⟨r1,r2⟩:=hn h0 hb0 g st sp1 (by omega)
 refine ⟨fun hv=>?_,r2⟩
 obtain ⟨f2,sp2,hf2,e2⟩:=r1 hv
 exact ⟨f2,sp2,by omega,by rw [show ((p+nc+1+ny+1:Nat):Int).toNat=p+nc+1+ny+1 by omega,e2];congr 1;omega⟩
 rw [if_neg hb0]
 obtain ⟨r1,r2⟩:=hy h0 hb0 g st sp1 (by omega)
 refine ⟨fun hv=>?_,r2⟩
 obtain ⟨f2,sp2,hf2,e2⟩:=r1 hv
 obtain ⟨k,rfl⟩:∃ k,f2=k+1:=⟨f2 - 1,by omega⟩
 refine ⟨k,sp2,by omega,?_⟩
 rw [e2,Z2R,h13]
 rw [if_neg (show ¬ (13:Int)=24 by decide),if_pos rfl]
 dsimp only
 congr 1
 omega
 rw [he h0]
 exact ⟨fun h=>absurd h h0,fun _=>a2 h0⟩
theorem Seg.get {C c:List Ins} {p:Nat} (h:Seg C p c) {i:Nat} (hi:i<c.length):C.getD (p+i) ⟨0,0⟩=c[i]:=by
 obtain ⟨A,B,rfl,rfl⟩:=h
 have h1:A.length+i<(A++c++B).length:=by simp only [Xb];omega
 rw [Xx,XA h1]
 simp only [Yae]
 rw [XP (by simp only [Xb];omega),XN (by omega)]
 congr 1
 omega
theorem Seg.len {C c:List Ins} {p:Nat} (h:Seg C p c):p+c.length≤C.length:=by
 obtain ⟨A,B,rfl,rfl⟩:=h
 simp only [Xb]
 omega
theorem Z20.congr {opn:Int→Bool} {ev:List Int} {C:List Ins} {p n:Nat} {v v':Int×Int} (h:Z20 opn ev C p n v) (h2:v.2=v'.2) (h1:v.2=0→v.1=v'.1):Z20 opn ev C p n v':=by
 intro f st sp hf
 obtain ⟨a,b⟩:=h f st sp hf
 refine ⟨fun he=>?_,fun he=>?_⟩
 rw [← h2] at he
 rw [← h1 he]
 exact a he
 rw [← h2] at he ⊢
 exact b he
theorem Zd1 {opn:Int→Bool} {ev:List Int} {C:List Ins}:∀ (l:List Nd),(∀ y∈l,∀ p,Seg C p (Zq y p)→Z20 opn ev C p (Zq y p).length (Z4 opn ev y))→∀ p,Seg C p (JL (l.map Zq) p)→Z7A opn ev C p (JL (l.map Zq) p).length (l.map (Z4 opn ev))
 | [],_,p,_=>Z7A.nil opn ev C p
 | y :: l, h, p, hs => by
   have e:JL ((y :: l).map Zq) p=Zq y p++JL (l.map Zq) (p+(Zq y p).length):=rfl
   rw [e] at hs ⊢
   rw [Xb]
   exact Z7A.cons (h y (by simp) p hs.left) (Zd1 l (fun y hy=>h y (by simp [hy])) _ hs.right)
theorem ZaM (opn:Int→Bool) (ev:List Int) (hev:Z49 ev):∀ l:List Nd,(∀ y∈l,Zd y≠0)→Jg (l.map (Z4 opn ev))=0→JI (l.map Zd) ((l.map (Z4 opn ev)).map Prod.fst)∧okv ((l.map (Z4 opn ev)).map Prod.fst)=l.map (Z4 opn ev)
 | [],_,_=>⟨JI.nil,rfl⟩
 | y :: l, h, he => by
   rw [Xn] at he ⊢
   have h1:(Z4 opn ev y).2=0:=by
    by_cases h1:(Z4 opn ev y).2=0
    exact h1
    rw [Jg,if_neg h1] at he
    exact he
   rw [Jg,if_pos h1] at he
   obtain ⟨a,b⟩:=ZaM opn ev hev l (fun y hy=>h y (by simp [hy])) he
   refine ⟨(JI.one (Z0Z opn ev hev y (h y (by simp)) h1)).app a,?_⟩
   show ((Z4 opn ev y).1,(0:Int)) :: okv ((l.map (Z4 opn ev)).map Prod.fst)=Z4 opn ev y :: l.map (Z4 opn ev)
   rw [b,← h1]
theorem Zgf (opn:Int→Bool) (ev:List Int) (hev:Z49 ev) (C:List Ins) (x:Nd):Zd x≠0→∀ p,Seg C p (Zq x p)→Z20 opn ev C p (Zq x p).length (Z4 opn ev x):=by
 induction x using Nd.ind with
 | h k n s l ih=>
 intro ht p hs
 have hkid:∀ y∈l,Zd y≠0:=fun y hy=>Z34 (x:=.mk k n s l) ht hy
 have hr:∀ y∈l,∀ p,Seg C p (Zq y p)→Z20 opn ev C p (Zq y p).length (Z4 opn ev y):=fun y hy=>ih y hy (hkid y hy)
 have hev2:Z4 opn ev (.mk k n s l)=Zo opn ev k n s (l.map (Z4 opn ev)):=Z2r _ _ _
 rw [hev2]
 rw [Zq] at hs ⊢
 rcases Z53 ht with ⟨rfl,hlf⟩|⟨rfl,a,b,c,rfl,ta,tb,tc⟩|⟨rfl,hs',a,b,rfl,ta,tb,ht2⟩|⟨r,hr',rfl,rfl,hts,htt⟩
 unfold Z1n at hs ⊢
 rw [if_pos (show (List.map Zq ([]:List Nd)).length=0 from rfl)] at hs ⊢
 have hlen:=hs.len
 simp only [Xc,Xe] at hlen ⊢
 have hat:=hs.at
 rcases hlf with ⟨hk,ht2,hv⟩|⟨rfl,i,hi,rfl,hf,ht2⟩
 have hc:Zo opn ev k n s (List.map (Z4 opn ev) [])=(n,0):=by unfold Zo;rw [if_pos hk]
 rw [hc]
 rcases hk with rfl|rfl|rfl
 exact Z20.one (by omega) (x:=⟨1,n⟩) hat (by simp) (by simp) (by simp) rfl (fun a b=>rfl)
 exact Z20.one (by omega) (x:=⟨2,n⟩) hat (by simp) (by simp) (by simp) rfl (fun a b=>rfl)
 exact Z20.one (by omega) (x:=⟨3,n⟩) hat (by simp) (by simp) (by simp) rfl (fun a b=>rfl)
 have e:Zo opn ev 4 n (Zg.getD i []) (List.map (Z4 opn ev) [])=Z6J ev (i:Int):=by
  unfold Zo
  rw [if_neg (by decide),if_pos rfl,hf]
 rw [e]
 have e2:Z32 4 n (Zg.getD i [])=⟨4,(i:Int)⟩:=by
  unfold Z32
  rw [if_neg (by decide),if_neg (by decide),if_neg (by decide),hf]
 rw [e2] at hat
 exact Z20.one (by omega) (x:=⟨4,(i:Int)⟩) hat (by simp) (by simp) (by simp) rfl (fun a b=>rfl)
 ·
   unfold Z1n at hs ⊢
   rw [if_neg (by simp),if_pos rfl] at hs ⊢
   simp only [Xn,Xv,Xm,XH] at hs ⊢
   unfold chC at hs ⊢
   have hlen:=hs.len
   have s1:=hs.left.left.left.left
   have s2:=hs.left.left.left.right
   have s3:=hs.left.left.right
   have s4:=hs.left.right
   have s5:=hs.right
   simp only [Xb,Xc,Xe,XO,← XT] at hlen s2 s3 s4 s5 ⊢
   have e0:[Z4 opn ev a,Z4 opn ev b,Z4 opn ev c].getD 0 (0,0)=Z4 opn ev a:=rfl
   refine Z20.choice (b:=Z4 opn ev a) (hr a (by simp) p s1) hlen s2.at s4.at ?_ ?_ ?_
   intro he
   unfold Zo
   rw [if_neg (by decide),if_neg (by decide),e0,if_pos he]
   intro he hb
   have hva:=Z0Z opn ev hev a (hkid a (by simp)) he
   rw [ta] at hva
   have h1:(Z4 opn ev a).1=1:=by rcases hva.b with h|h<;>omega
   have e:Zo opn ev 9 n s [Z4 opn ev a,Z4 opn ev b,Z4 opn ev c]=Z4 opn ev b:=by
    unfold Zo
    rw [if_neg (by decide),if_neg (by decide),e0,if_neg (fun h=>h he),if_neg (by decide),if_pos rfl,h1]
    rfl
   rw [e]
   exact hr b (by simp) _ s3
   intro he hb
   have e:Zo opn ev 9 n s [Z4 opn ev a,Z4 opn ev b,Z4 opn ev c]=Z4 opn ev c:=by
    unfold Zo
    rw [if_neg (by decide),if_neg (by decide),e0,if_neg (fun h=>h he),if_neg (by decide),if_pos rfl,hb]
    rfl
   rw [e]
   exact hr c (by simp) _ s5
 ·
   have e0:[Z4 opn ev a,Z4 opn ev b].getD 0 (0,0)=Z4 opn ev a:=rfl
   have e1:[Z4 opn ev a,Z4 opn ev b].getD 1 (0,0)=Z4 opn ev b:=rfl
   have hva:(Z4 opn ev a).2=0→(Z4 opn ev a).1=0∨(Z4 opn ev a).1=1:=fun he=>by
    have hva:=Z0Z opn ev hev a (hkid a (by simp)) he
    rw [ta] at hva
    exact hva.b
   have hbin:∀ s:Str,s=[97,110,100]∨s=[111,114]→∀ u v:Int,Zp6 s u v=(v,0):=by
    intro s h u v
    rcases h with rfl|rfl<;>rfl
   have hand:([97,110,100]:Str)≠[111,114]:=by decide
   have hsecond:∀ s:Str,(s=[97,110,100]∨s=[111,114])→¬ (s=[97,110,100]∧(Z4 opn ev a).1=0∨s=[111,114]∧(Z4 opn ev a).1=1)→(Z4 opn ev a).2=0→∀ q m,Z20 opn ev C q m (Z4 opn ev b)→Z20 opn ev C q m (Zo opn ev 6 n s [Z4 opn ev a,Z4 opn ev b]):=by
    intro s hs1 hn he q m h
    unfold Zo
    rw [if_neg (by decide),if_neg (by decide),e0,e1,if_neg (fun h=>h he),if_neg (by decide),if_neg (by decide),if_neg (by simp),if_neg (fun h=>hn h.2)]
    by_cases hb:(Z4 opn ev b).2=0
    rw [if_neg (fun h=>h hb),if_neg (by decide),if_neg (by decide),if_neg (by decide),hbin s hs1]
    exact h.congr hb (fun _=>rfl)
    rw [if_pos hb]
    exact h.congr rfl (fun h=>absurd h hb)
   have hfirst:∀ s:Str,(s=[97,110,100]∧(Z4 opn ev a).1=0∨s=[111,114]∧(Z4 opn ev a).1=1)→(Z4 opn ev a).2=0→Zo opn ev 6 n s [Z4 opn ev a,Z4 opn ev b]=((Z4 opn ev a).1,0):=by
    intro s hn he
    unfold Zo
    rw [if_neg (by decide),if_neg (by decide),e0,if_neg (fun h=>h he),if_neg (by decide),if_neg (by decide),if_neg (by simp),if_pos ⟨rfl,hn⟩]
   have herr:∀ s:Str,(Z4 opn ev a).2≠0→Zo opn ev 6 n s [Z4 opn ev a,Z4 opn ev b]=(0,(Z4 opn ev a).2):=by
    intro s he
    unfold Zo
    rw [if_neg (by decide),if_neg (by decide),e0,if_pos he]
   have hconst:∀ (z:Int) (q:Nat),Seg C q [⟨2,z⟩]→Z20 opn ev C q 1 (z,0):=fun z q hq=>
    Z20.one (by have:=hq.len;simp only [Xc,Xe] at this;omega) (x:=⟨2,z⟩) hq.at (by simp) (by simp) (by simp) rfl (fun a b=>rfl)
   unfold Z1n at hs ⊢
   rw [if_neg (by simp),if_neg (by decide)] at hs ⊢
   rcases hs' with rfl|rfl
   rw [if_pos ⟨rfl,rfl⟩] at hs ⊢
   simp only [Xn,Xv,Xm,XH] at hs ⊢
   unfold chC at hs ⊢
   have hlen:=hs.len
   have s1:=hs.left.left.left.left
   have s2:=hs.left.left.left.right
   have s3:=hs.left.left.right
   have s4:=hs.left.right
   have s5:=hs.right
   simp only [Xb,Xc,Xe,XO,← XT] at hlen s2 s3 s4 s5 ⊢
   refine Z20.choice (b:=Z4 opn ev a) (nn:=1) (hr a (by simp) p s1) hlen s2.at s4.at (fun he=>herr _ he) ?_ ?_
   intro he hb
   exact hsecond _ (.inl rfl) (fun h=>h.elim (fun h=>hb h.2) (fun h=>hand h.1)) he _ _ (hr b (by simp) _ s3)
   intro he hb
   rw [hfirst _ (.inl ⟨rfl,hb⟩) he,hb]
   exact hconst 0 _ s5
   rw [if_neg (fun h=>hand h.2.symm),if_pos ⟨rfl,rfl⟩] at hs ⊢
   simp only [Xn,Xv,Xm,XH] at hs ⊢
   unfold chC at hs ⊢
   have hlen:=hs.len
   have s1:=hs.left.left.left.left
   have s2:=hs.left.left.left.right
   have s3:=hs.left.left.right
   have s4:=hs.left.right
   have s5:=hs.right
   simp only [Xb,Xc,Xe,XO,← XT] at hlen s2 s3 s4 s5 ⊢
   refine Z20.choice (b:=Z4 opn ev a) (ny:=1) (hr a (by simp) p s1) hlen s2.at s4.at (fun he=>herr _ he) ?_ ?_
   intro he hb
   have h1:(Z4 opn ev a).1=1:=by rcases hva he with h|h<;>omega
   rw [hfirst _ (.inr ⟨rfl,h1⟩) he,h1]
   exact hconst 1 _ s3
   intro he hb
   exact hsecond _ (.inr rfl) (fun h=>h.elim (fun h=>hand h.1.symm) (fun h=>by omega)) he _ _ (hr b (by simp) _ s5)
 ·
   obtain ⟨⟨h1,h4,h9⟩,hao,hl12⟩:=Zge r hr'
   have hok:=XD.1 Zgc r hr'
   simp only [Xi,decide_eq_true_eq] at hok
   obtain ⟨⟨_,okl⟩,hL⟩:=hok
   obtain ⟨_,o2,_⟩:=Z37 okl
   have hl0:l.length=r.ts.length:=by rw [← hts,XM]
   have ecode:Z1n r.k n r.s (l.map Zq) p=JL (l.map Zq) p++r.L.map fun o=>(⟨o,0⟩:Ins):=by
    unfold Z1n
    rw [if_neg (by rw [XM];omega),if_neg h9,if_neg (fun h=>hao ⟨h.1,.inl h.2⟩),if_neg (fun h=>hao ⟨h.1,.inr h.2⟩),← hL]
    split
    rename_i hm
    rw [Z29,Xr]
    rename_i hm
    rw [Z29,Xz]
   rw [ecode] at hs ⊢
   have hlen:=hs.len
   rw [Xb,XM] at hlen ⊢
   have sr:=hs.right
   refine Z7A.line (L:=r.L) (Zd1 l hr p hs.left) (by omega) (fun i hi=>?_) (fun o ho=>?_) (fun he st0=>?_) (fun he=>?_)
   have:=sr.get (i:=i) (by simpa using hi)
   rw [this]
   simp
   have:=o2 ⟨o,0⟩ (Yax.2 ⟨o,ho,rfl⟩)
   exact this
   obtain ⟨k1,k2⟩:=ZaM opn ev hev l hkid he
   have:=Z7z opn ev n st0 ((l.map (Z4 opn ev)).map Prod.fst) r hr' (hts ▸ k1)
   rw [k2] at this
   exact this
   exact Z63 opn ev n (l.map (Z4 opn ev)) r hr' (by rw [XM];exact hl0) he
theorem ZaN (opn:Int→Bool) (ev:List Int) (hev:Z49 ev) (x:Nd) (ht:Zd x≠0) :
 ((Z4 opn ev x).2=0→∃ sp,Z0V opn ev (Jm x)=((Z4 opn ev x).1,sp,0))∧((Z4 opn ev x).2≠0→Z0V opn ev (Jm x)=(0,[],(Z4 opn ev x).2)):=by
 have hseg:Seg (Jm x) 0 (Zq x 0):=⟨[],[⟨24,0⟩],by simp [Jm],rfl⟩
 have hlen:(Jm x).length=(Zq x 0).length+1:=by simp [Jm]
 have h24:(Jm x).getD (Zq x 0).length ⟨0,0⟩=⟨24,0⟩:=by simp [Jm,Xx]
 obtain ⟨a,b⟩:=Zgf opn ev hev (Jm x) x ht 0 hseg (Jm x).length [] [] (by omega)
 refine ⟨fun he=>?_,b⟩
 obtain ⟨f,sp,hf,e⟩:=a he
 obtain ⟨g,rfl⟩:∃ g,f=g+1:=⟨f - 1,by omega⟩
 refine ⟨sp,?_⟩
 unfold Z0V
 rw [e,Z2R,XO,h24,if_pos rfl]
 simp [Js]
open Go Go.Eng Go.RowKit Go.Proofs
theorem Z4a {l:List Tkn} {i:Nat} (h:i<l.length):cur l i=l[i]:=by simp [cur,List.getD,h]
def Pd (w:World) (b:Nat) (tv:Value) (l:List Tkn) (i o:Nat):Prop:=Blk w b 170 [tv,.int .i64 i,.int .i64 o]∧SlV [b] w tv l∧i<l.length∧l.length≤1000000∧o≤12
theorem Pd.up {w w':World} {b i o:Nat} {tv:Value} {l:List Tkn} (h:Pd w b tv l i o) (hS:Stp [] w w'):Pd w' b tv l i o:=by
 obtain ⟨h1,h2,h3⟩:=h
 exact ⟨h1.up hS,h2.up hS,h3⟩
theorem Pd.lt {w:World} {b i o:Nat} {tv:Value} {l:List Tkn} (h:Pd w b tv l i o):b<w.heap.size:=by
 obtain ⟨h1,_⟩:=h
 exact h1.lt
theorem Pd.i_lt {w:World} {b i o:Nat} {tv:Value} {l:List Tkn} (h:Pd w b tv l i o):i<l.length:=by
 obtain ⟨_,_,h1,_⟩:=h
 exact h1
def Z3e (a c:Int):Value:=.iface 210 (.agg #[.int .i64 a,.int .i64 c])
def PE {α:Type} (r:Out α) (G:α→Nat→Nat→Value→World→Prop) (F:World→Prop) (e:Ending) (w':World):Prop:=
 match r with
 | .err a c=>e=.panicked [⟨Z3e a c,false,false⟩]∧F w'
 | .ok x i o=>Ret (G x i o) e w'
theorem ZB {P:Program} {n:Nat} {Q:Exit→Act→World→Prop} {e:Env} {w:World} {ops:Array Oper} {rest:List Oper} {d:Nat} {ty:TypeId} {pos:String} {af:Array Edge} {f:Nat} {fn:Func} {xs:Array Operand} {ts:Array TypeId} {vs:Array Value} {c:Operand} {ch:List PanicEntry} {F:World→Prop} [hf:Fun P f fn]
 (hc:ev e c=some (.func (.func f) #[] #[])) (hv:∀ a,Has n e a→xs.map a.eval=vs) (h:Calls P f vs w (fun e w'=>e=.panicked ch∧F w')) (hd:Nat.blt d n=true) (k:∀ w',F w'→WQ n Q (.panic ch) [] w') :
 WL P n ops Q (⟨some d,.call { callee:=.value c,args:=xs,argTypes:=ts },ty,pos,af,none⟩ :: rest) e w:=
 Z9j (G:=fun _ _=>False) (F:=fun ch' w'=>ch'=ch∧F w') (Z7h hc hv (h.mono fun e w' ⟨h1,h2⟩=>by rw [h1];exact .pan ⟨rfl,h2⟩)) hd (fun ch' w' ⟨h1,h2⟩=>by subst h1;exact Z8u (k w' h2)) (fun _ _ h=>h.elim)
theorem ZmM (a c:Int) (w:World):(Instr.build 210 #[(0,.int .i64 a),(1,.int .i64 c)]).run Tryz.prog w=.ok (.agg #[.int .i64 a,.int .i64 c]) w:=by kernel_rfl
theorem JO (b:Nat) (tv:Value) (l:List Tkn) (i o:Nat) (w:World) (hp:Pd w b tv l i o) :
 CC 168 #[.pointer (some ⟨b,0,none⟩)] w fun r w'=>r=str (cur l i).text∧Stp [] w w':=by
 obtain ⟨hb,hs,hi,hl,ho⟩:=hp
 rw [Z4a hi]
 refine cW1 14 Tryz.func168 ?_
 refine W ?_
 refine ZDr 12 [] [] [(0,0),(1,0),(2,0),(3,1),(4,0),(5,0),(6,0),(7,1),(8,0),(9,0),(10,1),(11,0)] (fun w1 hS1=>?_)
 replace hb:=hb.up hS1
 replace hs:=hs.up hS1
 refine D ?_
 refine W ?_
 refine WR ?_
 exact .mk ⟨rfl,hS1⟩
theorem ZaO (b:Nat) (tv:Value) (l:List Tkn) (i o:Nat) (c:Int) (w:World) (hp:Pd w b tv l i o) :
 Calls Tryz.prog 119 #[.pointer (some ⟨b,0,none⟩),.int .i64 c] w (fun e w'=>e=.panicked [⟨Z3e (cur l i).pos c,false,false⟩]∧Stp [] w w'):=by
 obtain ⟨hb,hs,hi,hl,ho⟩:=hp
 rw [Z4a hi]
 refine cW2 18 Tryz.func119 ?_
 refine W ?_
 refine Z4r 15 ([]) [] [(0,0),(1,0),(2,0),(3,1),(4,0),(5,0),(6,0),(7,1),(8,0),(9,0),(10,1),(11,0),(12,0),(13,0),(14,2)] rfl mixed (by kernel_rfl) (by kernel_rfl) (by kernel_rfl) (fun w1 hS1=>?_)
 replace hb:=hb.up hS1
 replace hs:=hs.up hS1
 refine Jo rfl trivial (fun _=>ZU rfl) rfl ?_
 refine Jo rfl trivial (fun _=>Z2D rfl) rfl ?_
 refine Jo rfl trivial (fun _=>JQ rfl) rfl ?_
 refine Z38 rfl trivial (fun w' hw=>ZP rfl rfl (hb.up hw) rfl) rfl ?_
 refine Jo rfl trivial (fun _=>ZU rfl) rfl ?_
 refine Jo rfl trivial (fun _=>Z2D rfl) rfl ?_
 refine Jo rfl trivial (fun _=>JQ rfl) rfl ?_
 refine Z38 rfl trivial (fun w' hw=>ZP rfl rfl (hb.up hw) rfl) rfl ?_
 refine Jo rfl trivial (fun _=>Zby rfl hs rfl rfl hi) rfl ?_
 refine Jo rfl trivial (fun _=>Z6i rfl (SlV.isSome hs hi)) rfl ?_
 refine Z38 rfl trivial (fun w' hw=>Z4P (u:=.int .i64 l[i].pos) rfl rfl (hs.up hw) hi rfl rfl) rfl ?_
 refine Jo rfl trivial (fun _=>ZU rfl) rfl ?_
 refine Jo rfl trivial (fun _=>Z0A (vs:=[(0,.int .i64 l[i].pos),(1,.int .i64 c)]) rfl (ZmM _ _)) rfl ?_
 refine Jo rfl trivial (fun _=>Z5T rfl) rfl ?_
 refine ZdQ rfl trivial (ZdP rfl) ?_
 refine Zx ?_
 exact ⟨rfl,hS1⟩
theorem Z4b (b:Nat) (tv:Value) (l:List Tkn) (s:Str) (i o:Nat) (w:World) (hp:Pd w b tv l i o) (hn:(cur l i).text=s→i+1<l.length) :
 CC 251 #[.pointer (some ⟨b,0,none⟩),str s] w fun r w'=>r=.bool (decide ((cur l i).text=s))∧Pd w' b tv l (if (cur l i).text=s then i+1 else i) o∧Stp [b] w w':=by
 refine cW2 16 Tryz.func251 ?_
 refine W ?_
 refine CL rfl (Zp rfl) rfl (JO b tv l i o _ hp) ?_
 rintro _ w1 ⟨rfl,hS1⟩
 replace hp:=hp.up hS1
 obtain ⟨hb,hs,hi,hl,ho⟩:=hp
 have hmax:=hs.max
 by_cases h:(cur l i).text=s
 have hi1:=hn h
 focus repeat'(first|refine W1 ?_|omega|refine VG ?_ ?_<;>intro hg|refine VC ?_ ?_<;>intro hc)
 exact absurd h (by assumption)
 refine Z0 (Zj (u:=.int .i64 ((i+1:Nat):Int)) rfl (by show some _=some _;simp) rfl rfl hb (by simp)) ?_
 rintro _ w2 ⟨hT,hb2⟩
 refine W ?_
 refine WR ?_
 rw [decide_eq_true h,if_pos h]
 exact .mk ⟨rfl,⟨hb2,hs.ext hT (fun c hc=>hc) (fun c hc=>.inl hc),hi1,hl,ho⟩,(hS1.mono (by simp)).trans hT⟩
 focus repeat'(first|refine W1 ?_|omega|refine VG ?_ ?_<;>intro hg|refine VC ?_ ?_<;>intro hc)
 refine WR ?_
 rw [decide_eq_false h,if_neg h]
 exact .mk ⟨rfl,⟨hb,hs,hi,hl,ho⟩,hS1.mono (by simp)⟩
 exact absurd h (by assumption)
def PC {α:Type} (b:Nat) (w:World) (tv:Value) (l:List Tkn) (r:Out α) (G:α→Value→World→Prop) (e:Ending) (w':World):Prop:=
 PE r (fun x i o v w'=>G x v w'∧Pd w' b tv l i o∧Stp [b] w w') (fun w'=>Stp [b] w w') e w'
theorem PC.ok {α:Type} {b:Nat} {w w':World} {tv:Value} {l:List Tkn} {x:α} {i o:Nat} {G:α→Value→World→Prop} {v:Value} (hG:G x v w') (hp:Pd w' b tv l i o) (hS:Stp [b] w w'):PC b w tv l (.ok x i o) G (.returned v) w':=⟨v,rfl,hG,hp,hS⟩
theorem PC.err {α:Type} {b:Nat} {w w':World} {tv:Value} {l:List Tkn} {a c:Int} {G:α→Value→World→Prop} (hS:Stp [b] w w'):PC b w tv l (.err a c) G (.panicked [⟨Z3e a c,false,false⟩]) w':=⟨rfl,hS⟩
theorem PC.fail {α:Type} {b:Nat} {w w':World} {tv:Value} {l:List Tkn} {i:Nat} {c:Int} {G:α→Value→World→Prop} (hS:Stp [b] w w'):PC b w tv l (Z1q l i c) G (.panicked [⟨Z3e (cur l i).pos c,false,false⟩]) w':=⟨rfl,hS⟩
theorem Z6u (b:Nat) (tv:Value) (l:List Tkn) (i o:Nat) (c:Int) (w w0:World) (hp:Pd w b tv l i o) (hS:Stp [b] w0 w) :
 Calls Tryz.prog 119 #[.pointer (some ⟨b,0,none⟩),.int .i64 c] w (fun e w'=>e=.panicked [⟨Z3e (cur l i).pos c,false,false⟩]∧Stp [b] w0 w'):=
 (ZaO b tv l i o c w hp).mono fun e w' ⟨h1,h2⟩=>⟨h1,hS.trans (h2.mono (by simp))⟩
theorem PC.goes {α:Type} {b f:Nat} {args:Array Value} {w:World} {tv:Value} {l:List Tkn} {x:α} {i o:Nat} {r:Out α} {G:α→Value→World→Prop} (h:Calls Tryz.prog f args w (PC b w tv l r G)) (hr:r=.ok x i o):CC f args w fun v w'=>G x v w'∧Pd w' b tv l i o∧Stp [b] w w':=by
 subst hr;exact h
theorem PC.falls {α:Type} {b f:Nat} {args:Array Value} {w w0:World} {tv:Value} {l:List Tkn} {a c:Int} {r:Out α} {G:α→Value→World→Prop} (h:Calls Tryz.prog f args w (PC b w tv l r G)) (hr:r=.err a c) (hS:Stp [b] w0 w):Calls Tryz.prog f args w (fun e w'=>e=.panicked [⟨Z3e a c,false,false⟩]∧Stp [b] w0 w'):=by
 subst hr;exact h.mono fun e w' ⟨h1,h2⟩=>⟨h1,hS.trans h2⟩
theorem Jc (b:Nat) (tv:Value) (l:List Tkn) (hL:Z2A l) (s:Str) (hs0:s≠[]) (i o:Nat) (w:World) (hp:Pd w b tv l i o) :
 Calls Tryz.prog 165 #[.pointer (some ⟨b,0,none⟩),str s] w (PC b w tv l (Jy l s i o) (fun _ v _=>v=.tuple #[])):=by
 have hn:(cur l i).text=s→i+1<l.length:=fun h=>hL.end_of hp.i_lt (by rw [h];exact hs0)
 unfold Jy
 refine cW2 10 Tryz.func165 ?_
 refine W ?_
 refine CL rfl (Z9 rfl rfl) rfl (Z4b b tv l s i o _ hp hn) ?_
 rintro _ w1 ⟨rfl,hp1,hS1⟩
 by_cases h:(cur l i).text=s
 rw [if_pos h] at hp1 ⊢
 rw [decide_eq_true h]
 refine W ?_
 refine WR ?_
 exact PC.ok rfl hp1 hS1
 rw [if_neg h] at hp1 ⊢
 rw [decide_eq_false h]
 refine W ?_
 refine ZB rfl (Z9 rfl rfl) (Z6u b tv l i o 20 _ w hp1 hS1) rfl ?_
 intro w2 hw2
 focus repeat'(first|refine Za ?_|refine Z8 ?_)
 refine Zx ?_
 exact PC.fail hw2
theorem Z4x (C:Str) (W:List Str) (h1:∀ i∈List.range (C.length+1),(C.drop i).head?=some 32→(C.drop (i+1)).takeWhile (fun c=>decide (c≠32))∈W∨(C.drop (i+1)).takeWhile (fun c=>decide (c≠32))=[])
 (h2:∀ t∈W,Lib.contains C (32 :: t++[32])=true) {t:Str} (h0:t≠[]) (hc:∀ c∈t,c≠32):Lib.contains C (32 :: t++[32])=decide (t∈W):=by
 by_cases ht:t∈W
 rw [h2 t ht,decide_eq_true ht]
 · rw [decide_eq_false ht]
   unfold Lib.contains
   rw [decide_eq_false_iff_not,Z5R]
   rintro ⟨i,hi,h⟩
   cases hd:C.drop i with
   | nil=>rw [hd] at h;simp at h
   | cons a l=>
     rw [hd] at h
     simp only [Xp,List.isPrefixOf,Xi,beq_iff_eq] at h
     obtain ⟨rfl,h⟩:=h
     have hl:C.drop (i+1)=l:=by
      have:=congrArg List.tail hd
      simpa [List.tail_drop] using this
     have hw:=Z5S t l hc h
     have:=h1 i (Ybf.2 (by omega)) (by rw [hd];rfl)
     rw [hl,hw] at this
     exact this.elim ht h0
def ZmN:Str:=[32,114,117,108,101,32,102,114,111,109,32,111,110,32,105,102,32,100,117,101,32,117,110,108,101,115,115,32,101,108,115,101,32,116,114,117,101,32,102,97,108,115,101,32,110,111,116,32,97,110,100,32,111,114,32,116,104,101,110,32,101,110,100,32,32,100,97,121,115,32,119,101,101,107,115,32,109,111,110,116,104,115,32,99,111,117,114,116,100,97,121,115,32,32,100,97,121,32,115,101,114,118,101,100,32,101,120,116,114,97,32,98,121,32,116,111,32,99,111,117,114,116,32,97,109,111,117,110,116,32,32,110,101,120,116,32,112,114,101,118,32,108,97,116,101,114,32,101,97,114,108,105,101,114,32,98,101,116,119,101,101,110,32]
def ZaP:Str:=[32,100,97,121,115,32,119,101,101,107,115,32,109,111,110,116,104,115,32,99,111,117,114,116,100,97,121,115,32]
def Z9s:Str:=[32,100,97,121,32,115,101,114,118,101,100,32,101,120,116,114,97,32,98,121,32,116,111,32,99,111,117,114,116,32,97,109,111,117,110,116,32]
def Zd2:Str:=[32,110,101,120,116,32,112,114,101,118,32,108,97,116,101,114,32,101,97,114,108,105,101,114,32,98,101,116,119,101,101,110,32]
theorem Zib {t:Str} (h0:t≠[]) (hc:∀ c∈t,c≠32):Lib.contains ZmN (32 :: t++[32])=decide (t∈Z8v++Z0v++Z0U++Z0S):=Z4x ZmN _ (by decide +kernel) (by decide +kernel) h0 hc
theorem Zgg {t:Str} (h0:t≠[]) (hc:∀ c∈t,c≠32):Lib.contains ZaP (32 :: t++[32])=decide (t∈Z0v):=Z4x ZaP _ (by decide +kernel) (by decide +kernel) h0 hc
theorem Ze1 {t:Str} (h0:t≠[]) (hc:∀ c∈t,c≠32):Lib.contains Z9s (32 :: t++[32])=decide (t∈Z0U):=Z4x Z9s _ (by decide +kernel) (by decide +kernel) h0 hc
theorem Zgh {t:Str} (h0:t≠[]) (hc:∀ c∈t,c≠32):Lib.contains Zd2 (32 :: t++[32])=decide (t∈Z0S):=Z4x Zd2 _ (by decide +kernel) (by decide +kernel) h0 hc
theorem Z3G (C:Str) (ws:List Str) (hW:[]∉ws) (t:Str) (m:Int) (w:World) (hm:w.cell? ⟨2,0,none⟩=some (.int .i64 m)) (hC:C.length≤1000000) (htl:t.length≤4000)
 (hiff:t≠[]→Lib.contains C (32 :: t++[32])=decide (t∈ws)) :
 CC 215 #[str C,str t] w fun r w'=>r=.bool (decide (t∈ws))∧Stp [] w w':=by
 refine cW2 14 Tryz.func215 ?_
 by_cases h:t=[]
 · subst h
   repeat'(first|refine W1 ?_|omega|refine VG ?_ ?_<;>intro hg|refine VC ?_ ?_<;>intro hc)
   all_goals
    refine WR ?_
    rw [decide_eq_false hW]
    exact .mk ⟨rfl,Stp.refl _ _⟩
 · have e1:Lib.contains C ([32]++t++[32])=decide (t∈ws):=hiff h
   repeat'(first|refine W1 ?_|omega|refine VG ?_ ?_<;>intro hg|refine VC ?_ ?_<;>intro hc)
   rotate_left
   exact absurd h (by assumption)
   refine ZQ rfl rfl (by simp;omega) rfl ?_
   repeat'(first|refine W1 ?_|omega|refine VG ?_ ?_<;>intro hg|refine VC ?_ ?_<;>intro hc)
   refine ZQ rfl rfl (by simp;omega) rfl ?_
   repeat'(first|refine W1 ?_|omega|refine VG ?_ ?_<;>intro hg|refine VC ?_ ?_<;>intro hc)
   refine CL rfl (Z9 rfl rfl) rfl (Z5h C ([32]++t++[32]) m _ (by omega) hm) ?_
   rintro _ w1 ⟨rfl,hS1⟩
   rw [e1]
   refine W ?_
   refine WR ?_
   exact .mk ⟨rfl,hS1⟩
theorem Z2c (b:Nat) (tv:Value) (l:List Tkn) (hL:Z2A l) (k:Int) (hk:k≠0) (i o:Nat) (w:World) (hp:Pd w b tv l i o) :
 Calls Tryz.prog 167 #[.pointer (some ⟨b,0,none⟩),.int .i64 k] w (PC b w tv l (Z0H l k i o) (fun t v _=>v=.agg (Zi.enc t).toArray)):=by
 obtain ⟨hb,hs,hi,hl,ho⟩:=id hp
 have hn:(cur l i).kind=k→i+1<l.length:=fun h=>hL.end_of_kind hi (by rw [h];exact hk)
 have hmax:=hs.max
 have hs0:=hs
 unfold Z0H
 rw [Z4a hi] at hn ⊢
 refine cW2 30 Tryz.func167 ?_
 refine W ?_
 refine Z3 Z6 rfl ?_
 rintro _ w0 ⟨b4,rfl,hb4,e4,hS0⟩
 have n4:b4≠b:=by have:=hb.lt;omega
 replace hb:=hb.up hS0
 replace hs:=hs.up hS0
 refine W ?_
 refine ZDr 12 [] [11] [(0,0),(1,0),(2,0),(3,1),(4,0),(5,0),(6,0),(7,1),(8,0),(9,1),(10,2),(11,2)] (fun w1 hS1=>?_)
 replace hb:=hb.up hS1
 replace hs:=hs.up hS1
 replace e4:=e4.up hS1
 replace hS0:=hS0.trans hS1
 clear hS1
 refine D ?_
 refine Zb rfl trivial Z6 (fun _ _ ⟨_,_,_,_,h⟩=>h) rfl ?_
 rintro _ w2 ⟨b5,rfl,hb5,e5,hS2⟩
 have n5:b5≠b:=by have:=hb.lt;omega
 have n54:b5≠b4:=by have:=e4.lt;omega
 refine JR rfl trivial (Z1 (us:=Zi.enc l[i]) rfl rfl rfl rfl (Zi.one _) e5 rfl) rfl ?_
 rintro _ w3 ⟨hT,e5⟩
 have hT0:=hS2.own hT (fun c hc=>.inr (by simp at hc;omega))
 clear hT hS2
 replace hb:=hb.up hT0
 replace hs:=hs.up hT0
 replace e4:=e4.up hT0
 replace hS0:=hS0.trans hT0
 clear hT0 hb5
 refine D ?_
 refine W ?_
 have hp3:Pd w3 b tv l i o:=⟨hb,hs,hi,hl,ho⟩
 by_cases h:l[i].kind=k
 rw [if_pos h]
 have hi1:=hn h
 focus repeat'(first|refine W1 ?_|omega|refine VG ?_ ?_<;>intro hg|refine VC ?_ ?_<;>intro hc)
 refine Z0 (Zj (u:=.int .i64 ((i+1:Nat):Int)) rfl (by show some _=some _;simp) rfl rfl hb (by simp)) ?_
 rintro _ w4 ⟨hT,hb2⟩
 replace e4:=e4.ext hT (by simpa using n4)
 replace e5:=e5.ext hT (by simpa using n5)
 replace hs:=hs.ext (X':=[b]) hT (fun c hc=>hc) (fun c hc=>.inl hc)
 refine W ?_
 refine Z0 (Z1 (us:=Zi.enc l[i]) rfl rfl rfl rfl (Zi.one _) e4 rfl) ?_
 rintro _ w5 ⟨hT5,e4⟩
 refine W ?_
 refine Zu (cs:=Zi.enc l[i]) rfl rfl rfl e4 rfl ?_
 have hTT:=((hS0.mono (by simp)).trans hT).own hT5 (fun c hc=>.inr (by simp at hc;omega))
 exact PC.ok rfl ⟨hb2.ext hT5 (by simpa using n4.symm),hs0.ext hTT (fun c hc=>hc) (fun c hc=>.inl hc),hi1,hl,ho⟩ hTT
 rw [if_neg h]
 focus repeat'(first|refine W1 ?_|omega|refine VG ?_ ?_<;>intro hg|refine VC ?_ ?_<;>intro hc)
 refine ZB rfl (Z9 rfl rfl) (Z6u b tv l i o 20 _ w hp3 (hS0.mono (by simp))) rfl ?_
 intro w2 hw2
 focus repeat'(first|refine Za ?_|refine Z8 ?_)
 refine Zx ?_
 exact PC.fail hw2
theorem ZS {w w':World} {b:Nat} {m:Int} (hm:w.cell? ⟨2,0,none⟩=some (.int .i64 m)) (hb:b≠2) (hS:Stp [b] w w'):w'.cell? ⟨2,0,none⟩=some (.int .i64 m):=
 hS.cell (by simpa using fun h=>hb h.symm) hm
theorem Zd3 (t:Tkn) (w:World):(Instr.field 167 (.agg (Zi.enc t).toArray) 2).run Tryz.prog w=.ok (str t.text) w:=by kernel_rfl
theorem ZmO (t:Tkn) (w:World):(Instr.field 167 (.agg (Zi.enc t).toArray) 3).run Tryz.prog w=.ok (.int .i64 t.num) w:=by kernel_rfl
theorem Z5u (b:Nat) (tv:Value) (l:List Tkn) (hL:Z2A l) (i o:Nat) (m:Int) (w:World) (hm:w.cell? ⟨2,0,none⟩=some (.int .i64 m)) (hp:Pd w b tv l i o) :
 Calls Tryz.prog 166 #[.pointer (some ⟨b,0,none⟩)] w (PC b w tv l (Z1X l i o) (fun s v _=>v=str s)):=by
 unfold Z1X
 refine cW1 11 Tryz.func166 ?_
 refine W ?_
 refine CL rfl (Zp rfl) rfl (JO b tv l i o _ hp) ?_
 rintro _ w1 ⟨rfl,hS1⟩
 have hp1:=hp.up hS1
 refine W ?_
 refine CL rfl (Z9 rfl rfl) rfl (Z3G ZmN (Z8v++Z0v++Z0U++Z0S) (by decide +kernel) (cur l i).text m _ (hS1.cell (by simp) hm) (by decide +kernel) (hL.tl i) (fun h=>Zib h (hL.sp i))) ?_
 rintro _ w2 ⟨rfl,hS2⟩
 have hp2:=hp1.up hS2
 have hS:=(hS1.trans hS2).mono (S':=[b]) (by simp)
 by_cases h:(cur l i).text∈Z8v++Z0v++Z0U++Z0S
 rw [if_pos h,decide_eq_true h]
 refine W ?_
 refine ZB rfl (Z9 rfl rfl) (Z6u b tv l i o 20 _ w hp2 hS) rfl ?_
 intro w3 hw3
 focus repeat'(first|refine Za ?_|refine Z8 ?_)
 refine Zx ?_
 exact PC.fail hw3
 · rw [if_neg h,decide_eq_false h]
   refine W ?_
   cases hr:Z0H l 1 i o with
   | err a c=>
     refine ZB rfl (Z9 rfl rfl) (PC.falls (Z2c b tv l hL 1 (by decide) i o _ hp2) hr hS) rfl ?_
     intro w3 hw3
     repeat'(first|refine Za ?_|refine Z8 ?_)
     refine Zx ?_
     exact PC.err hw3
   | ok t i1 o1=>
     refine CL rfl (Z9 rfl rfl) rfl (PC.goes (Z2c b tv l hL 1 (by decide) i o _ hp2) hr) ?_
     rintro _ w3 ⟨rfl,hp3,hS3⟩
     refine Z7 (Z7m rfl (Zd3 t)) rfl ?_
     refine W ?_
     refine WR ?_
     exact PC.ok rfl hp3 (hS.trans hS3)
theorem Z0s (b:Nat) (tv:Value) (l:List Tkn) (hL:Z2A l) (s:Str) (hs0:s≠[]) (i o:Nat) (w:World) (hp:Pd w b tv l i o) :
 Calls Tryz.prog 212 #[.pointer (some ⟨b,0,none⟩),str s] w (PC b w tv l (JF l s i o) (fun _ v _=>v=.tuple #[])):=by
 have hn:(cur l i).text=s→i+1<l.length:=fun h=>hL.end_of hp.i_lt (by rw [h];exact hs0)
 unfold JF
 refine cW2 31 Tryz.func212 ?_
 refine W ?_
 refine CL rfl (Zp rfl) rfl (JO b tv l i o _ hp) ?_
 rintro _ w1 ⟨rfl,hS1⟩
 have hp1:=hp.up hS1
 have hS:=hS1.mono (S':=[b]) (by simp)
 by_cases h:(cur l i).text=s
 have hi1:=hn h
 rw [if_pos h]
 obtain ⟨hb,hs,hi,hl,ho⟩:=id hp1
 focus repeat'(first|refine W1 ?_|omega|refine VG ?_ ?_<;>intro hg|refine VC ?_ ?_<;>intro hc)
 exact absurd h (by assumption)
 refine ZB rfl (Z9 rfl rfl) (Z6u b tv l i o 2 _ w hp1 hS) rfl ?_
 intro w3 hw3
 focus repeat'(first|refine Za ?_|refine Z8 ?_)
 refine Zx ?_
 rw [if_pos (by omega)]
 exact PC.fail hw3
 refine Z0 (Zj (u:=.int .i64 ((i+1:Nat):Int)) rfl (by show some _=some _;simp) rfl rfl hb (by simp)) ?_
 rintro _ w2 ⟨hT,hb2⟩
 replace hs:=hs.ext (X':=[b]) hT (fun c hc=>hc) (fun c hc=>.inl hc)
 refine W ?_
 refine Z0 (Zj (u:=.int .i64 ((o+1:Nat):Int)) rfl (by show some _=some _;simp) rfl rfl hb2 (by simp)) ?_
 rintro _ w3 ⟨hT3,hb3⟩
 replace hs:=hs.ext (X':=[b]) hT3 (fun c hc=>hc) (fun c hc=>.inl hc)
 refine W ?_
 first|refine Z4n rfl ?_|refine Z4o rfl ?_
 rw [if_neg (by omega)]
 exact PC.ok rfl ⟨hb3,hs,hi1,hl,by omega⟩ ((hS.trans hT).trans hT3)
 · rw [if_neg h]
   repeat'(first|refine W1 ?_|omega|refine VG ?_ ?_<;>intro hg|refine VC ?_ ?_<;>intro hc)
   refine ZB rfl (Z9 rfl rfl) (Z6u b tv l i o 20 _ w hp1 hS) rfl ?_
   intro w3 hw3
   focus repeat'(first|refine Za ?_|refine Z8 ?_)
   refine Zx ?_
   exact PC.fail hw3
   all_goals exact absurd h (by assumption)
theorem Z1G (b:Nat) (tv:Value) (l:List Tkn) (hL:Z2A l) (s:Str) (hs0:s≠[]) (i o:Nat) (ho0:0<o) (w:World) (hp:Pd w b tv l i o) :
 Calls Tryz.prog 273 #[.pointer (some ⟨b,0,none⟩),str s] w (PC b w tv l (Z04 l s i o) (fun _ v _=>v=.tuple #[])):=by
 unfold Z04
 refine cW2 14 Tryz.func273 ?_
 refine W ?_
 cases hr:Jy l s i o with
 | err a c=>
   refine ZB rfl (Z9 rfl rfl) (PC.falls (Jc b tv l hL s hs0 i o _ hp) hr (Stp.refl _ _)) rfl ?_
   intro w3 hw3
   repeat'(first|refine Za ?_|refine Z8 ?_)
   refine Zx ?_
   exact PC.err hw3
 | ok x i1 o1=>
   have ho1:o1=o:=by
    unfold Jy Z1q at hr
    split at hr<;>simp at hr
    omega
   refine CL rfl (Z9 rfl rfl) rfl (PC.goes (Jc b tv l hL s hs0 i o _ hp) hr) ?_
   rintro _ w1 ⟨rfl,hp1,hS⟩
   obtain ⟨hb,hs,hi,hl,ho⟩:=id hp1
   refine W ?_
   refine Z0 (Zj (u:=.int .i64 ((o1 - 1:Nat):Int)) rfl (by show some _=some _;simp;omega) rfl rfl hb (by simp)) ?_
   rintro _ w3 ⟨hT3,hb3⟩
   replace hs:=hs.ext (X':=[b]) hT3 (fun c hc=>hc) (fun c hc=>.inl hc)
   refine W ?_
   refine WR ?_
   exact PC.ok rfl ⟨hb3,hs,hi,hl,by omega⟩ (hS.trans hT3)
theorem ZaQ (s:Str) (w:World):CC 214 #[str s] w fun r w'=>r=.int .i64 (Zm s:Int)∧w'=w:=by
 unfold Zm
 refine cW1 20 Tryz.func214 ?_
 repeat'(first|refine W1 ?_|omega|refine VG ?_ ?_<;>intro hg|refine VC ?_ ?_<;>intro hc)
 all_goals refine WR ?_
 all_goals refine .mk ⟨?_,rfl⟩
 all_goals simp_all
theorem Z8b (s:Str) (w:World):CC 307 #[str s] w fun r w'=>r=.int .i64 (Z0I s:Int)∧w'=w:=by
 unfold Z0I
 refine cW1 9 Tryz.func307 ?_
 repeat'(first|refine W1 ?_|omega|refine VG ?_ ?_<;>intro hg|refine VC ?_ ?_<;>intro hc)
 all_goals refine WR ?_
 all_goals refine .mk ⟨?_,rfl⟩
 all_goals simp_all
end Go.Proofs.YtjdjdoefppebkaaGreatDoor
namespace Go.Eng
open Go Go.RowKit Go.Proofs
section
variable {P:Program} {n:Nat} {Q:Exit→Act→World→Prop} {e:Env} {w:World} {ops:Array Oper} {S:List Nat} {Lt:List Nat} {rest:List (Nat×Nat)}
theorem Z64 {i d:Nat} {ty:TypeId} {pos:String} {af:Array Edge} {gd:Option (Nat×Bool)} {f:Nat} {fn:Func} {xs:Array Operand} {ts:Array TypeId} {vs:Array Value} {c:Operand} {ch:List PanicEntry} {F:World→Prop} [hf:Fun P f fn]
 (hi:ops[i]?=some ⟨some d,.call { callee:=.value c,args:=xs,argTypes:=ts },ty,pos,af,gd⟩) (hg:ZR ops e gd)
 (hc:ev e c=some (.func (.func f) #[] #[])) (hv:∀ a,Has n e a→xs.map a.eval=vs) (h:Calls P f vs w (fun e w'=>e=.panicked ch∧F w')) (hdn:Nat.blt d n=true) (k:∀ w',F w'→WQ n Q (.panic ch) [] w'):WDq P n ops S Lt Q ((i,2) :: rest) e w:=
 ZfR (G:=fun _ _=>False) (F:=fun ch' w'=>ch'=ch∧F w') hi hg (Z7h hc hv (h.mono fun e w' ⟨h1,h2⟩=>by rw [h1];exact .pan ⟨rfl,h2⟩)) (fun _ _ h=>h.elim) hdn (fun ch' w' ⟨h1,h2⟩=>by subst h1;exact k w' h2) (fun _ _ h=>h.elim)
end
end Go.Eng
namespace Go.Proofs.YtjdjdoefppebkaaGreatDoor
open Go Go.Eng Go.RowKit Go.Proofs
def Z8I (f:Nat):Prop:=∀ (l:List Tkn) (hL:Z2A l) (m:Int) (c:Eng.Call) (i o:Nat) (r:Out Nd),Zz l f c i o=some r→
 ∀ (X:List Nat) (b:Nat) (tv:Value) (w:World),b≠2→b∈X→(∀ c∈X,c<w.heap.size)→w.cell? ⟨2,0,none⟩=some (.int .i64 m)→Pd w b tv l i o→
 match c with
 | .expr k=>1≤k→k≤8→Calls Tryz.prog 120 #[.pointer (some ⟨b,0,none⟩),.int .i64 (k:Int)] w (PC b w tv l r (fun x v w'=>NdV X w' v x))
 | .prim=>Calls Tryz.prog 213 #[.pointer (some ⟨b,0,none⟩)] w (PC b w tv l r (fun x v w'=>NdV X w' v x))
 | .loop _ _=>True
theorem Zgi (s:Str) (p:Option Addr) (l c:Nat) (w:World):(Instr.build 27 #[(0,.int .i64 5),(2,str s),(3,.slice p l c)]).run Tryz.prog w=.ok (.agg #[.int .i64 5,.int .i64 0,str s,.slice p l c]) w:=by kernel_rfl
theorem ZmP (s:Str) (p:Option Addr) (l c:Nat) (w:World):(Instr.build 27 #[(0,.int .i64 6),(2,str s),(3,.slice p l c)]).run Tryz.prog w=.ok (.agg #[.int .i64 6,.int .i64 0,str s,.slice p l c]) w:=by kernel_rfl
theorem Zpc (f:Nat) (IH:Z8I f) (l:List Tkn) (hL:Z2A l) (m:Int) (k i o:Nat) (r:Out Nd) (hk:k≤8) (hsp:(k=3∧(cur l i).text=[110,111,116])∨(k=7∧(cur l i).text=[45]))
 (h : (match JF l (cur l i).text i o with
   | .err a c=>some (.err a c)
   | .ok _ i' o'=>
     match Zz l f (.expr k) i' o' with
     | none=>none
     | some (.err a c)=>some (.err a c)
     | some (.ok x i'' o'')=>some (.ok (.mk 5 0 (cur l i).text [x]) i'' (o'' - 1)))=some r) (X:List Nat) (b:Nat) (tv:Value) (w:World) (hb1:b≠2) (hbX:b∈X) (hX:∀ c∈X,c<w.heap.size) (hm:w.cell? ⟨2,0,none⟩=some (.int .i64 m)) (hp:Pd w b tv l i o) :
 Calls Tryz.prog 120 #[.pointer (some ⟨b,0,none⟩),.int .i64 (k:Int)] w (PC b w tv l r (fun x v w'=>NdV X w' v x)):=by
 have htn:(cur l i).text≠[]:=by rcases hsp with ⟨_,h⟩|⟨_,h⟩<;>rw [h]<;>decide
 have hs0:=hp.2.1
 refine cW2 98 Tryz.func120 ?_
 refine W ?_
 refine Z3 Z6 rfl ?_
 rintro _ w1 ⟨b4,rfl,hb4,e4,hS⟩
 have n4:b4≠b:=by have:=hp.lt;omega
 replace hm:=hS.cell (by simp) hm
 replace hp:=hp.up hS
 rcases hsp with ⟨rfl,ht⟩|⟨rfl,ht⟩
 · refine W ?_
   refine CL rfl (Zp rfl) rfl (JO b tv l i o _ hp) ?_
   rintro _ w2 ⟨rfl,hT⟩
   replace hp:=hp.up hT;replace e4:=e4.up hT
   replace hm:=hT.cell (by simp) hm
   replace hS:=hS.trans hT
   clear hT
   repeat'(first|refine W1 ?_|omega|refine VG ?_ ?_<;>intro hg|refine VC ?_ ?_<;>intro hc)
   all_goals try exact absurd ht (by assumption)
   refine CL rfl (Zp rfl) rfl (JO b tv l i o _ hp) ?_
   rintro _ w3 ⟨rfl,hT⟩
   replace hp:=hp.up hT;replace e4:=e4.up hT
   replace hm:=hT.cell (by simp) hm
   replace hS:=hS.trans hT
   clear hT
   refine W ?_
   cases hO:JF l (cur l i).text i o with
   | err a c=>
     rw [hO] at h
     simp only [Xj] at h
     subst h
     refine ZB rfl (Z9 rfl rfl) (PC.falls (Z0s b tv l hL _ htn i o _ hp) hO (hS.mono (by simp))) rfl ?_
     intro w4 hw4
     repeat'(first|refine Za ?_|refine Z8 ?_)
     refine Zx ?_
     exact PC.err hw4
   | ok u i1 o1=>
     have hoo:=ZT hO
     rw [hO] at h
     simp only at h
     refine CL rfl (Z9 rfl rfl) rfl (PC.goes (Z0s b tv l hL _ htn i o _ hp) hO) ?_
     rintro _ w4 ⟨rfl,hp4,hT⟩
     replace e4:=e4.ext hT (by simpa using n4)
     replace hm:=ZS hm hb1 hT
     have hS4:=(hS.mono (S':=[b]) (by simp)).trans hT
     clear hT hS hp
     have l4:=e4.lt
     have hX4:∀ c∈b4 :: X,c<w4.heap.size:=fun c hc=>by
      rcases Xf.1 hc with rfl|h
      exact l4
      exact Xa (hX c h) hS4.size
     refine W ?_
     cases hE:Zz l f (.expr 3) i1 o1 with
     | none=>rw [hE] at h;simp at h
     | some r1=>
       rw [hE] at h
       have hsub:=IH l hL m (.expr 3) i1 o1 r1 hE (b4 :: X) b tv w4 hb1 (XK _ hbX) hX4 hm hp4 (by omega) (by omega)
       cases r1 with
       | err a c=>
         simp only [Xj] at h
         subst h
         refine ZB rfl (Z9 rfl rfl) (PC.falls hsub rfl hS4) rfl ?_
         intro w5 hw5
         repeat'(first|refine Za ?_|refine Z8 ?_)
         refine Zx ?_
         exact PC.err hw5
       | ok x i2 o2=>
         have hoe:=Z0l l _ _ _ _ _ _ _ hE
         simp only [Xj] at h
         subst h
         refine CL rfl (Z9 rfl rfl) rfl (PC.goes hsub rfl) ?_
         rintro _ w5 ⟨⟨kx,rfl,hx⟩,hp5,hT⟩
         replace e4:=e4.ext hT (by simpa using n4)
         have hX5:∀ c∈b4 :: X,c<w5.heap.size:=fun c hc=>Xa (hX4 c hc) hT.size
         have hS5:=hS4.trans hT
         clear hT hS4 hp4 hX4 hsub
         obtain ⟨p0,c0,rfl,-⟩:=id hx
         refine W ?_
         refine Z3 (Z2 (vs:=[(0,.agg (ndC x (.slice p0 x.kids.length c0)).toArray)]) rfl (Z0F _ _ _ _ _ _)) rfl ?_
         intro bv w6 hN
         have hbv:SlV (b4 :: X) w6 bv [x]:=hN.slvG (css:=[ndC x _]) hX5 rfl rfl rfl (Z3X hx) (by simp [maxLen])
         obtain ⟨bn,rfl,hbn,-,hT⟩:=id hN
         replace e4:=e4.up hT;replace hp5:=hp5.up hT
         have hX6:∀ c∈b4 :: X,c<w6.heap.size:=fun c hc=>Xa (hX5 c hc) hT.size
         have hS6:=hS5.trans (hT.mono (by simp))
         clear hT hS5 hX5 hN hx
         apply Ze (vs:=[(0,.int .i64 5),(2,str (cur l i).text),(3,.slice (some ⟨bn,0,none⟩) 1 1)]) rfl (Zgi _ _ _ _) rfl
         refine Z3 Z6 rfl ?_
         rintro _ w7 ⟨b6,rfl,hb6,e6,hT⟩
         have n64:b6≠b4:=by have:=e4.lt;omega
         have n6b:b6≠b:=by have:=hp5.lt;omega
         refine Z0 (Z1 (us:=ndC (.mk 5 0 (cur l i).text [x]) (.slice (some ⟨bn,0,none⟩) 1 1)) rfl rfl rfl rfl (Zk hbv) e6 rfl) ?_
         rintro _ w8 ⟨hT2,e6'⟩
         replace hT:=hT.own hT2 (fun c hc=>.inr (by simp at hc;omega))
         clear hT2 e6
         replace e4:=e4.up hT;replace hp5:=hp5.up hT
         have hS8:=hS6.trans (hT.mono (by simp))
         replace hbv:SlV (b6 :: b4 :: X) w8 (.slice (some ⟨bn,0,none⟩) 1 1) [x]:=hbv.ext hT (by simp) (fun c hc=>by
          rcases Xf.1 hc with rfl|h
          exact .inr hb6
          exact .inl h)
         have hb4w:w.heap.size≤b4:=hb4
         clear hT hS6 hX6
         obtain ⟨hpb,hps,hpi,hpl,hpo⟩:=id hp5
         refine W ?_
         refine Z0 (Zj (u:=.int .i64 ((o2 - 1:Nat):Int)) rfl (by show some _=some _;simp;omega) rfl rfl hpb (by simp)) ?_
         rintro _ w9 ⟨hT,hpb9⟩
         replace hps:=hps.ext (X':=[b]) hT (fun c hc=>hc) (fun c hc=>.inl hc)
         replace e4:=e4.ext hT (by simpa using n4)
         replace e6':=e6'.ext hT (by simpa using n6b)
         replace hbv:=hbv.ext (X':=b6 :: b4 :: X) hT (fun c hc=>by simp at hc;subst hc;simp [hbX]) (fun c hc=>.inl hc)
         have hS9:=hS8.trans hT
         clear hT hS8 hpb hp5
         refine W ?_
         refine Z0 (Z1 (us:=ndC (.mk 5 0 (cur l i).text [x]) (.slice (some ⟨bn,0,none⟩) 1 1)) rfl rfl rfl rfl (Zk hbv) e4 rfl) ?_
         rintro _ w10 ⟨hT,e4'⟩
         refine W ?_
         refine Zu rfl rfl rfl e4' rfl ?_
         have hl4:=hpb9.lt
         have hSx:=hS9.own hT (fun c hc=>by simp at hc;subst hc;exact .inr hb4w)
         refine PC.ok ⟨_,rfl,?_⟩ ⟨hpb9.ext hT (by simpa using n4.symm),hs0.ext hSx (fun c hc=>hc) (fun c hc=>.inl hc),hpi,hpl,by omega⟩ hSx
         exact (hbv.ext (X':=b6 :: b4 :: X) hT (fun c hc=>by simp at hc;simp [hc]) (fun c hc=>.inl hc)).wk (fun c hc=>by simp [hc])
 · refine W ?_
   refine CL rfl (Zp rfl) rfl (JO b tv l i o _ hp) ?_
   rintro _ w2 ⟨rfl,hT⟩
   replace hp:=hp.up hT;replace e4:=e4.up hT
   replace hm:=hT.cell (by simp) hm
   replace hS:=hS.trans hT
   clear hT
   repeat'(first|refine W1 ?_|omega|refine VG ?_ ?_<;>intro hg|refine VC ?_ ?_<;>intro hc)
   all_goals try exact absurd ht (by assumption)
   refine CL rfl (Zp rfl) rfl (JO b tv l i o _ hp) ?_
   rintro _ w3 ⟨rfl,hT⟩
   replace hp:=hp.up hT;replace e4:=e4.up hT
   replace hm:=hT.cell (by simp) hm
   replace hS:=hS.trans hT
   clear hT
   refine W ?_
   cases hO:JF l (cur l i).text i o with
   | err a c=>
     rw [hO] at h
     simp only [Xj] at h
     subst h
     refine ZB rfl (Z9 rfl rfl) (PC.falls (Z0s b tv l hL _ htn i o _ hp) hO (hS.mono (by simp))) rfl ?_
     intro w4 hw4
     repeat'(first|refine Za ?_|refine Z8 ?_)
     refine Zx ?_
     exact PC.err hw4
   | ok u i1 o1=>
     have hoo:=ZT hO
     rw [hO] at h
     simp only at h
     refine CL rfl (Z9 rfl rfl) rfl (PC.goes (Z0s b tv l hL _ htn i o _ hp) hO) ?_
     rintro _ w4 ⟨rfl,hp4,hT⟩
     replace e4:=e4.ext hT (by simpa using n4)
     replace hm:=ZS hm hb1 hT
     have hS4:=(hS.mono (S':=[b]) (by simp)).trans hT
     clear hT hS hp
     have l4:=e4.lt
     have hX4:∀ c∈b4 :: X,c<w4.heap.size:=fun c hc=>by
      rcases Xf.1 hc with rfl|h
      exact l4
      exact Xa (hX c h) hS4.size
     refine W ?_
     cases hE:Zz l f (.expr 7) i1 o1 with
     | none=>rw [hE] at h;simp at h
     | some r1=>
       rw [hE] at h
       have hsub:=IH l hL m (.expr 7) i1 o1 r1 hE (b4 :: X) b tv w4 hb1 (XK _ hbX) hX4 hm hp4 (by omega) (by omega)
       cases r1 with
       | err a c=>
         simp only [Xj] at h
         subst h
         refine ZB rfl (Z9 rfl rfl) (PC.falls hsub rfl hS4) rfl ?_
         intro w5 hw5
         repeat'(first|refine Za ?_|refine Z8 ?_)
         refine Zx ?_
         exact PC.err hw5
       | ok x i2 o2=>
         have hoe:=Z0l l _ _ _ _ _ _ _ hE
         simp only [Xj] at h
         subst h
         refine CL rfl (Z9 rfl rfl) rfl (PC.goes hsub rfl) ?_
         rintro _ w5 ⟨⟨kx,rfl,hx⟩,hp5,hT⟩
         replace e4:=e4.ext hT (by simpa using n4)
         have hX5:∀ c∈b4 :: X,c<w5.heap.size:=fun c hc=>Xa (hX4 c hc) hT.size
         have hS5:=hS4.trans hT
         clear hT hS4 hp4 hX4 hsub
         obtain ⟨p0,c0,rfl,-⟩:=id hx
         refine W ?_
         refine Z3 (Z2 (vs:=[(0,.agg (ndC x (.slice p0 x.kids.length c0)).toArray)]) rfl (Z0F _ _ _ _ _ _)) rfl ?_
         intro bv w6 hN
         have hbv:SlV (b4 :: X) w6 bv [x]:=hN.slvG (css:=[ndC x _]) hX5 rfl rfl rfl (Z3X hx) (by simp [maxLen])
         obtain ⟨bn,rfl,hbn,-,hT⟩:=id hN
         replace e4:=e4.up hT;replace hp5:=hp5.up hT
         have hX6:∀ c∈b4 :: X,c<w6.heap.size:=fun c hc=>Xa (hX5 c hc) hT.size
         have hS6:=hS5.trans (hT.mono (by simp))
         clear hT hS5 hX5 hN hx
         apply Ze (vs:=[(0,.int .i64 5),(2,str (cur l i).text),(3,.slice (some ⟨bn,0,none⟩) 1 1)]) rfl (Zgi _ _ _ _) rfl
         refine Z3 Z6 rfl ?_
         rintro _ w7 ⟨b6,rfl,hb6,e6,hT⟩
         have n64:b6≠b4:=by have:=e4.lt;omega
         have n6b:b6≠b:=by have:=hp5.lt;omega
         refine Z0 (Z1 (us:=ndC (.mk 5 0 (cur l i).text [x]) (.slice (some ⟨bn,0,none⟩) 1 1)) rfl rfl rfl rfl (Zk hbv) e6 rfl) ?_
         rintro _ w8 ⟨hT2,e6'⟩
         replace hT:=hT.own hT2 (fun c hc=>.inr (by simp at hc;omega))
         clear hT2 e6
         replace e4:=e4.up hT;replace hp5:=hp5.up hT
         have hS8:=hS6.trans (hT.mono (by simp))
         replace hbv:SlV (b6 :: b4 :: X) w8 (.slice (some ⟨bn,0,none⟩) 1 1) [x]:=hbv.ext hT (by simp) (fun c hc=>by
          rcases Xf.1 hc with rfl|h
          exact .inr hb6
          exact .inl h)
         have hb4w:w.heap.size≤b4:=hb4
         clear hT hS6 hX6
         obtain ⟨hpb,hps,hpi,hpl,hpo⟩:=id hp5
         refine W ?_
         refine Z0 (Zj (u:=.int .i64 ((o2 - 1:Nat):Int)) rfl (by show some _=some _;simp;omega) rfl rfl hpb (by simp)) ?_
         rintro _ w9 ⟨hT,hpb9⟩
         replace hps:=hps.ext (X':=[b]) hT (fun c hc=>hc) (fun c hc=>.inl hc)
         replace e4:=e4.ext hT (by simpa using n4)
         replace e6':=e6'.ext hT (by simpa using n6b)
         replace hbv:=hbv.ext (X':=b6 :: b4 :: X) hT (fun c hc=>by simp at hc;subst hc;simp [hbX]) (fun c hc=>.inl hc)
         have hS9:=hS8.trans hT
         clear hT hS8 hpb hp5
         refine W ?_
         refine Z0 (Z1 (us:=ndC (.mk 5 0 (cur l i).text [x]) (.slice (some ⟨bn,0,none⟩) 1 1)) rfl rfl rfl rfl (Zk hbv) e4 rfl) ?_
         rintro _ w10 ⟨hT,e4'⟩
         refine W ?_
         refine Zu rfl rfl rfl e4' rfl ?_
         have hl4:=hpb9.lt
         have hSx:=hS9.own hT (fun c hc=>by simp at hc;subst hc;exact .inr hb4w)
         refine PC.ok ⟨_,rfl,?_⟩ ⟨hpb9.ext hT (by simpa using n4.symm),hs0.ext hSx (fun c hc=>hc) (fun c hc=>.inl hc),hpi,hpl,by omega⟩ hSx
         exact (hbv.ext (X':=b6 :: b4 :: X) hT (fun c hc=>by simp at hc;simp [hc]) (fun c hc=>.inl hc)).wk (fun c hc=>by simp [hc])
theorem Z8J:([]:Str)∉Z0v:=by decide
theorem Ze2:ZaP.length≤1000000:=by decide
theorem ZaR (t:Str) (m:Int) (w:World) (hm:w.cell? ⟨2,0,none⟩=some (.int .i64 m)) (htl:t.length≤4000) (hsp:∀ c∈t,c≠32) :
 CC 215 #[str ZaP,str t] w fun r w'=>r=.bool (decide (t∈Z0v))∧Stp [] w w':=
 Z3G ZaP Z0v Z8J t m w hm Ze2 htl (fun h=>Zgg h hsp)
set_option maxHeartbeats 2000000 in
theorem Zpd (f:Nat) (IH:∀ f'≤f,Z8I f') (l:List Tkn) (hL:Z2A l) (m:Int) (k i o:Nat) (r:Out Nd) (hk1:1≤k) (hk:k≤7) (hsp:¬ ((k=3∧(cur l i).text=[110,111,116])∨(k=7∧(cur l i).text=[45])))
 (h : (match Zz l f (.expr (k + 1)) i o with
   | none=>none
   | some (.err a c)=>some (.err a c)
   | some (.ok x i' o')=>Zz l f (.loop k x) i' o')=some r) (X:List Nat) (b:Nat) (tv:Value) (w:World) (hb1:b≠2) (hbX:b∈X) (hX:∀ c∈X,c<w.heap.size) (hm:w.cell? ⟨2,0,none⟩=some (.int .i64 m)) (hp:Pd w b tv l i o) :
 Calls Tryz.prog 120 #[.pointer (some ⟨b,0,none⟩),.int .i64 (k:Int)] w (PC b w tv l r (fun x v w'=>NdV X w' v x)):=by
 have hs0:=hp.2.1
 refine cW2 98 Tryz.func120 ?_
 refine W ?_
 refine Z3 Z6 rfl ?_
 rintro _ w1 ⟨b4,rfl,hb4,e4,hS⟩
 have n4:b4≠b:=by have:=hp.lt;omega
 replace hm:=hS.cell (by simp) hm
 replace hp:=hp.up hS
 have hX1:∀ c∈X,c<w1.heap.size:=fun c hc=>Xa (hX c hc) hS.size
 refine Z22 ?_
 refine Z3l ?_
 refine ZeT (σ:=Unit) (fun _=>[(0,.pointer (some ⟨b,0,none⟩)),(1,.int .i64 (k:Int)),(4,.pointer (some ⟨b4,0,none⟩))])
  (fun _ w'=>Pd w' b tv l i o∧(∃ cs:List Value,cs.length=4∧Blk w' b4 27 cs)∧w'.cell? ⟨2,0,none⟩=some (.int .i64 m)∧Stp [] w w') ?_ ?_
 by_cases k3:k=3
 · subst k3
   have ht:¬ (cur l i).text=[110,111,116]:=fun e=>hsp (.inl ⟨rfl,e⟩)
   refine W ?_
   refine CL rfl (Zp rfl) rfl (JO b tv l i o _ hp) ?_
   rintro _ w2 ⟨rfl,hT⟩
   replace hp:=hp.up hT;replace e4:=e4.up hT
   replace hm:=hT.cell (by simp) hm
   replace hS:=hS.trans hT
   repeat'(first|refine W1 ?_|omega|refine VG ?_ ?_<;>intro hg|refine VC ?_ ?_<;>intro hc)
   all_goals try exact absurd (by assumption) ht
   exact ZI () ⟨rfl,rfl,rfl,trivial⟩ ⟨hp,⟨_,rfl,e4⟩,hm,hS⟩
 by_cases k7:k=7
 · subst k7
   have ht:¬ (cur l i).text=[45]:=fun e=>hsp (.inr ⟨rfl,e⟩)
   refine W ?_
   refine CL rfl (Zp rfl) rfl (JO b tv l i o _ hp) ?_
   rintro _ w2 ⟨rfl,hT⟩
   replace hp:=hp.up hT;replace e4:=e4.up hT
   replace hm:=hT.cell (by simp) hm
   replace hS:=hS.trans hT
   repeat'(first|refine W1 ?_|omega|refine VG ?_ ?_<;>intro hg|refine VC ?_ ?_<;>intro hc)
   all_goals try exact absurd (by assumption) ht
   exact ZI () ⟨rfl,rfl,rfl,trivial⟩ ⟨hp,⟨_,rfl,e4⟩,hm,hS⟩
 focus repeat'(first|refine W1 ?_|omega|refine VG ?_ ?_<;>intro hg|refine VC ?_ ?_<;>intro hc)
 exact ZI () ⟨rfl,rfl,rfl,trivial⟩ ⟨hp,⟨_,rfl,e4⟩,hm,hS⟩
 clear hp e4 hm hS
 rintro _ w2 ⟨hp,⟨cs4,hc4,e4⟩,hm,hS⟩
 have l4:=e4.lt
 have hX2:∀ c∈b4 :: X,c<w2.heap.size:=fun c hc=>by
  rcases Xf.1 hc with rfl|h
  exact l4
  exact Xa (hX c h) hS.size
 refine W ?_
 cases hE:Zz l f (.expr (k+1)) i o with
 | none=>rw [hE] at h;simp at h
 | some r1=>
   rw [hE] at h
   have hsub:=IH f (Xo _) l hL m (.expr (k+1)) i o r1 hE (b4 :: X) b tv w2 hb1 (XK _ hbX) hX2 hm hp (by omega) (by omega)
   cases r1 with
   | err a c=>
     simp only [Xj] at h
     subst h
     refine ZB rfl (Z9 rfl rfl) (PC.falls hsub rfl (hS.mono (by simp))) rfl ?_
     intro w3 hw3
     repeat'(first|refine Za ?_|refine Z8 ?_)
     refine Zx ?_
     exact PC.err hw3
   | ok x i1 o1=>
     simp only at h
     refine CL rfl (Z9 rfl rfl) rfl (PC.goes hsub rfl) ?_
     rintro _ w3 ⟨⟨kx,rfl,hx⟩,hp3,hT⟩
     replace e4:=e4.ext hT (by simpa using n4)
     replace hm:=ZS hm hb1 hT
     have hX3:∀ c∈b4 :: X,c<w3.heap.size:=fun c hc=>Xa (hX2 c hc) hT.size
     have hS3:=(hS.mono (S':=[b]) (by simp)).trans hT
     clear hT hS hp hX2 hsub
     refine Z3 Z6 rfl ?_
     rintro _ w4 ⟨b7,rfl,hb7,e7,hT⟩
     have n74:b7≠b4:=by have:=e4.lt;omega
     have n7b:b7≠b:=by have:=hp3.lt;omega
     have n71:b7≠2:=by have:=block_lt_of_cell hm;simp at this;omega
     refine Z0 (Z1 (us:=ndC x kx) rfl rfl rfl rfl (Zk hx) e7 rfl) ?_
     rintro _ w5 ⟨hT2,e7'⟩
     replace hT:=hT.own hT2 (fun c hc=>.inr (by simp at hc;omega))
     clear hT2 e7
     have hb7w:w.heap.size≤b7:=Xh hS3.size hb7
     have hb4w:w.heap.size≤b4:=hb4
     replace e4:=e4.up hT;replace hp3:=hp3.up hT
     replace hm:=hT.cell (by simp) hm
     replace hx:SlV (b7 :: b4 :: X) w5 kx x.kids:=hx.ext hT (by simp) (fun c hc=>by
      rcases Xf.1 hc with rfl|h
      exact .inr hb7
      exact .inl h)
     have hS5:=hS3.trans (hT.mono (by simp))
     clear hT hS3
     have l7:=e7'.lt
     have hX5:∀ c∈b7 :: b4 :: X,c<w5.heap.size:=fun c hc=>by
      rcases Xf.1 hc with rfl|h
      exact l7
      have:=hX3 c h;omega
     refine W ?_
     clear hX3 hE
     refine ZD (σ:=Nat×Nd×Value×Nat×Nat) (fun q=>[(0,.pointer (some ⟨b,0,none⟩)),(1,.int .i64 (k:Int)),(4,.pointer (some ⟨b4,0,none⟩)),(7,.pointer (some ⟨b7,0,none⟩))])
      (fun q w'=>Zz l q.1 (.loop k q.2.1) q.2.2.2.1 q.2.2.2.2=some r∧q.1≤f∧Pd w' b tv l q.2.2.2.1 q.2.2.2.2∧Blk w' b7 27 (ndC q.2.1 q.2.2.1)∧SlV (b7 :: b4 :: X) w' q.2.2.1 q.2.1.kids∧(∃ cs:List Value,cs.length=4∧Blk w' b4 27 cs)∧w'.cell? ⟨2,0,none⟩=some (.int .i64 m)∧Stp [b] w w'∧w5.heap.size≤w'.heap.size)
      (fun q=>q.1) (f,x,kx,i1,o1) ⟨rfl,rfl,rfl,rfl,trivial⟩ ⟨h,Xo _,hp3,e7',hx,⟨cs4,hc4,e4⟩,hm,hS5,Xo _⟩ ?_
     clear h hp3 e7' hx e4 hm hS5 l4 l7 hc4 cs4
     rintro ⟨f1,y,ky,i2,o2⟩ w6 ⟨h,hf1,hp,e7,hy,⟨cs4,hc4,e4⟩,hm,hS,h56⟩
     dsimp only at h hf1 hp e7 hy ⊢
     match cs4,hc4 with
     | [q0,q1,q2,q3],_=>
     cases f1 with
     | zero=>simp [Zz] at h
     | succ f1=>
     rw [Zz] at h
     refine W ?_
     refine CL rfl (Zp rfl) rfl (JO b tv l i2 o2 _ hp) ?_
     rintro _ w7 ⟨rfl,hT⟩
     replace hp:=hp.up hT;replace e4:=e4.up hT;replace e7:=e7.up hT;replace hy:=hy.up hT
     replace hm:=hT.cell (by simp) hm
     replace hS:=hS.trans (hT.mono (by simp))
     replace h56:=Xh h56 hT.size
     clear hT
     refine W ?_
     refine CL rfl (Zp rfl) rfl (ZaQ _ _) ?_
     rintro _ _ ⟨rfl,rfl⟩
     by_cases hlv:Zm (cur l i2).text=k
     · rw [if_pos hlv] at h
       have hi1:=hL.end_of hp.i_lt (Z7k hlv hk1)
       repeat'(first|refine W1 ?_|omega|refine VG ?_ ?_<;>intro hg|refine VC ?_ ?_<;>intro hc)
       refine CL rfl (Zp rfl) rfl (JO b tv l i2 o2 _ hp) ?_
       rintro _ w8 ⟨rfl,hT⟩
       replace hp:=hp.up hT;replace e4:=e4.up hT;replace e7:=e7.up hT;replace hy:=hy.up hT
       replace hm:=hT.cell (by simp) hm
       replace hS:=hS.trans (hT.mono (by simp))
       replace h56:=Xh h56 hT.size
       clear hT
       obtain ⟨hpb,hps,hpi,hpl,hpo⟩:=id hp
       refine W ?_
       refine Z0 (Zj (u:=.int .i64 ((i2+1:Nat):Int)) rfl (by show some _=some _;simp) rfl rfl hpb (by simp)) ?_
       rintro _ w9 ⟨hT,hpb9⟩
       replace hps:=hps.ext (X':=[b]) hT (fun c hc=>hc) (fun c hc=>.inl hc)
       replace e4:=e4.ext hT (by simpa using n4)
       replace e7:=e7.ext hT (by simpa using n7b)
       replace hy:=hy.ext (X':=b7 :: b4 :: X) hT (fun c hc=>by simp at hc;subst hc;simp [hbX]) (fun c hc=>.inl hc)
       replace hm:=ZS hm hb1 hT
       replace hS:=hS.trans hT
       replace h56:=Xh h56 hT.size
       replace hp:Pd w9 b tv l (i2+1) o2:=⟨hpb9,hps,hi1,hpl,hpo⟩
       clear hT hpb9 hps hpi hpl hpo hpb
       refine W ?_
       have hX9:∀ c∈b7 :: b4 :: X,c<w9.heap.size:=fun c hc=>Xa (hX5 c hc) h56
       cases hE:Zz l f1 (.expr (k+1)) (i2+1) o2 with
       | none=>rw [hE] at h;simp at h
       | some r2=>
         rw [hE] at h
         cases r2 with
         | err a c=>
           simp only [Xj] at h
           subst h
           refine Z4r 9 ([b]) [8] [(0,0),(1,1),(2,0),(3,0),(4,0),(5,2),(6,2),(7,0),(8,2)] rfl mixed (by kernel_rfl) (by kernel_rfl) (by kernel_rfl) (fun w1 hS1=>?_)
           replace hp:=hp.up hS1;replace e7:=e7.up hS1
           replace hm:=hS1.cell (by simp) hm
           replace hS:=hS.trans (hS1.mono (by simp))
           have hsub:=IH f1 (by omega) l hL m (.expr (k+1)) (i2+1) o2 _ hE (b7 :: b4 :: X) b tv w1 hb1 (by simp [hbX]) (fun c hc=>Xa (hX9 c hc) hS1.size) hm hp (by omega) (by omega)
           refine Jo rfl trivial (fun _=>ZU rfl) rfl ?_
           refine Z38 rfl trivial (fun w' hw=>J8 rfl rfl (e7.ext hw (by simpa using n7b)) rfl) rfl ?_
           refine Jo rfl trivial (fun _=>ZU rfl) rfl ?_
           refine Jo rfl trivial (fun _=>ZU rfl) rfl ?_
           refine Jo rfl trivial (fun _=>Zbx rfl rfl (by unfold I64;omega)) rfl ?_
           refine Z64 rfl trivial rfl (Z9 rfl rfl) (PC.falls hsub rfl hS) rfl ?_
           intro wz hwz
           repeat'(first|refine Za ?_|refine Z8 ?_)
           refine Zx ?_
           exact PC.err hwz
         | ok z i3 o3=>
           simp only at h
           refine ZDr 9 ([b]) [8] [(0,0),(1,1),(2,0),(3,0),(4,0),(5,2),(6,2),(7,0),(8,2)] (fun w1 hS1=>?_)
           replace hp:=hp.up hS1;replace e7:=e7.up hS1;replace hy:=hy.up hS1;replace e4:=e4.up hS1
           replace hm:=hS1.cell (by simp) hm
           replace hS:=hS.trans (hS1.mono (by simp))
           have h5x:=Xh h56 hS1.size
           have hX1:∀ c∈b7 :: b4 :: X,c<w1.heap.size:=fun c hc=>Xa (hX9 c hc) hS1.size
           have hsub:=IH f1 (by omega) l hL m (.expr (k+1)) (i2+1) o2 _ hE (b7 :: b4 :: X) b tv w1 hb1 (by simp [hbX]) hX1 hm hp (by omega) (by omega)
           clear hS1 hX9 h56
           refine D ?_
           refine Zb rfl trivial (Z5 rfl (Z9 rfl rfl) (PC.goes hsub rfl)) (fun _ _ h=>h.2.2) rfl ?_
           rintro _ w10 ⟨⟨kz,rfl,hz⟩,hp10,hT⟩
           replace e4:=e4.ext hT (by simpa using n4)
           replace e7:=e7.ext hT (by simpa using n7b)
           replace hy:=hy.ext (X':=b7 :: b4 :: X) hT (fun c hc=>by simp at hc;subst hc;simp [hbX]) (fun c hc=>.inl hc)
           replace hm:=ZS hm hb1 hT
           replace hS:=hS.trans hT
           have h510:=Xh h5x hT.size
           have hX10:∀ c∈b7 :: b4 :: X,c<w10.heap.size:=fun c hc=>Xa (hX1 c hc) hT.size
           clear hT hp hX1 h5x hsub
           obtain ⟨py,cy,rfl,-⟩:=id hy
           obtain ⟨pz,cz,rfl,-⟩:=id hz
           refine Zb rfl trivial (Z2 (vs:=[(0,.agg (ndC y (.slice py y.kids.length cy)).toArray),(1,.agg (ndC z (.slice pz z.kids.length cz)).toArray)]) rfl (Jw _ _ _ _ _ _ _ _ _ _ _ _)) (fun _ _ h=>(Zc.stp h).mono (by simp)) rfl ?_
           intro bv w11 hN
           have hbv:SlV (b7 :: b4 :: X) w11 bv [y,z]:=hN.slvG (css:=[ndC y _,ndC z _]) hX10 rfl rfl rfl (Z1V hy hz) (by simp [maxLen])
           obtain ⟨bn,rfl,hbn,-,hT⟩:=id hN
           replace hp10:=hp10.up hT;replace e4:=e4.up hT;replace e7:=e7.up hT
           replace hm:=hT.cell (by simp) hm
           replace hS:=hS.trans (hT.mono (by simp))
           have h511:=Xh h510 hT.size
           clear hT hN hX10 h510 hy hz
           refine Z74 rfl trivial (vs:=[(0,.int .i64 6),(2,str (cur l i2).text),(3,.slice (some ⟨bn,0,none⟩) 2 2)]) rfl (ZmP _ _ _ _) rfl ?_
           refine JR rfl trivial (Z1 (us:=ndC (.mk 6 0 (cur l i2).text [y,z]) (.slice (some ⟨bn,0,none⟩) 2 2)) rfl rfl rfl rfl (Zk hbv) e7 rfl) rfl ?_
           rintro _ w12 ⟨hT,e7'⟩
           have hb7x:∀ S:List Nat,S=[b7]→∀ c∈S,w.heap.size≤c:=fun S hS c hc=>by subst hS;simp at hc;subst hc;exact hb7w
           replace e4:=e4.ext hT (by simpa using n74.symm)
           replace hp10:Pd w12 b tv l i3 o3:=by
            obtain ⟨g1,g2,g3,g4,g5⟩:=hp10
            have hSx:=hS.own hT (fun c hc=>.inr (hb7x _ rfl c hc))
            exact ⟨g1.ext hT (by simpa using n7b.symm),hs0.ext hSx (fun c hc=>hc) (fun c hc=>.inl hc),g3,g4,g5⟩
           replace hbv:=hbv.ext (X':=b7 :: b4 :: X) hT (fun c hc=>by simp at hc;simp [hc]) (fun c hc=>.inl hc)
           replace hm:=hT.cell (by simpa using n71.symm) hm
           replace hS:=hS.own hT (fun c hc=>.inr (hb7x _ rfl c hc))
           have h512:=Xh h511 hT.size
           clear hT h511
           refine D ?_
           by_cases k5:k=5
           subst k5
           refine W ?_
           refine CL rfl (Zp rfl) rfl (JO b tv l i3 o3 _ hp10) ?_
           rintro _ w13 ⟨rfl,hT⟩
           replace hp10:=hp10.up hT;replace e4:=e4.up hT;replace e7':=e7'.up hT;replace hbv:=hbv.up hT
           replace hm:=hT.cell (by simp) hm
           replace hS:=hS.trans (hT.mono (by simp))
           replace h512:=Xh h512 hT.size
           clear hT
           refine W ?_
           refine CL rfl (Z9 rfl rfl) rfl (ZaR (cur l i3).text m _ hm (hL.tl i3) (hL.sp i3)) ?_
           rintro _ w14 ⟨rfl,hT⟩
           replace hp10:=hp10.up hT;replace e4:=e4.up hT;replace e7':=e7'.up hT;replace hbv:=hbv.up hT
           replace hm:=hT.cell (by simp) hm
           replace hS:=hS.trans (hT.mono (by simp))
           replace h512:=Xh h512 hT.size
           clear hT
           by_cases hu:(cur l i3).text∈Z0v
           rw [if_pos ⟨rfl,hu⟩] at h
           rw [decide_eq_true hu]
           have hi3:=hL.end_of hp10.i_lt (fun e=>Z8J (e ▸ hu))
           refine W ?_
           refine CL rfl (Zp rfl) rfl (JO b tv l i3 o3 _ hp10) ?_
           rintro _ w15 ⟨rfl,hT⟩
           replace hp10:=hp10.up hT;replace e4:=e4.up hT;replace e7':=e7'.up hT;replace hbv:=hbv.up hT
           replace hm:=hT.cell (by simp) hm
           replace hS:=hS.trans (hT.mono (by simp))
           replace h512:=Xh h512 hT.size
           clear hT
           refine W ?_
           refine Z0 (Zj (u:=.int .i64 7) rfl rfl rfl rfl e7' (by simp)) ?_
           rintro _ w16 ⟨hT,e7''⟩
           refine W ?_
           refine Z0 (Zj (u:=str (cur l i3).text) rfl rfl rfl rfl e7'' (by simp)) ?_
           rintro _ w17 ⟨hT',e7q⟩
           replace hT:=hT.trans hT'
           replace e7q:Blk w17 b7 27 (ndC (.mk 7 0 (cur l i3).text [y,z]) (.slice (some ⟨bn,0,none⟩) 2 2)):=e7q
           clear hT' e7' e7''
           replace e4:=e4.ext hT (by simpa using n74.symm)
           replace hp10:Pd w17 b tv l i3 o3:=by
            obtain ⟨g1,g2,g3,g4,g5⟩:=hp10
            have hSx:=hS.own hT (fun c hc=>.inr (hb7x _ rfl c hc))
            exact ⟨g1.ext hT (by simpa using n7b.symm),hs0.ext hSx (fun c hc=>hc) (fun c hc=>.inl hc),g3,g4,g5⟩
           replace hbv:=hbv.ext (X':=b7 :: b4 :: X) hT (fun c hc=>by simp at hc;simp [hc]) (fun c hc=>.inl hc)
           replace hm:=hT.cell (by simpa using n71.symm) hm
           replace hS:=hS.own hT (fun c hc=>.inr (hb7x _ rfl c hc))
           replace h512:=Xh h512 hT.size
           clear hT
           refine W ?_
           refine Z1J (σ:=Unit) (fun _=>[(0,.pointer (some ⟨b,0,none⟩)),(1,.int .i64 (5:Int)),(4,.pointer (some ⟨b4,0,none⟩)),(7,.pointer (some ⟨b7,0,none⟩))])
            (fun _ w'=>Blk w' b7 27 (ndC (.mk (if (cur l i2).text=[45] then 8 else 7) 0 (cur l i3).text [y,z]) (.slice (some ⟨bn,0,none⟩) 2 2))∧Stp [b7] w17 w') ?_ ?_
           by_cases hm8:(cur l i2).text=[45]
           rw [if_pos hm8]
           focus repeat'(first|refine W1 ?_|omega|refine VG ?_ ?_<;>intro hg|refine VC ?_ ?_<;>intro hc)
           refine Z0 (Zj (u:=.int .i64 8) rfl rfl rfl rfl e7q (by simp)) ?_
           rintro _ w18 ⟨hT,e8⟩
           refine W ?_
           exact ZI () ⟨rfl,rfl,rfl,rfl,trivial⟩ ⟨e8,hT⟩
           exact absurd hm8 (by assumption)
           rw [if_neg hm8]
           focus repeat'(first|refine W1 ?_|omega|refine VG ?_ ?_<;>intro hg|refine VC ?_ ?_<;>intro hc)
           exact absurd (by assumption) hm8
           exact ZI () ⟨rfl,rfl,rfl,rfl,trivial⟩ ⟨e7q,Stp.refl _ _⟩
           rintro _ w18 ⟨e8,hT⟩
           replace e4:=e4.ext hT (by simpa using n74.symm)
           replace hp10:Pd w18 b tv l i3 o3:=by
            obtain ⟨g1,g2,g3,g4,g5⟩:=hp10
            have hSx:=hS.own hT (fun c hc=>.inr (hb7x _ rfl c hc))
            exact ⟨g1.ext hT (by simpa using n7b.symm),hs0.ext hSx (fun c hc=>hc) (fun c hc=>.inl hc),g3,g4,g5⟩
           replace hbv:=hbv.ext (X':=b7 :: b4 :: X) hT (fun c hc=>by simp at hc;simp [hc]) (fun c hc=>.inl hc)
           replace hm:=hT.cell (by simpa using n71.symm) hm
           replace hS:=hS.own hT (fun c hc=>.inr (hb7x _ rfl c hc))
           replace h512:=Xh h512 hT.size
           clear hT e7q
           obtain ⟨hpb,hps,hpi,hpl,hpo⟩:=id hp10
           refine W ?_
           refine Z0 (Zj (u:=.int .i64 ((i3+1:Nat):Int)) rfl (by show some _=some _;simp) rfl rfl hpb (by simp)) ?_
           rintro _ w19 ⟨hT,hpb9⟩
           replace hps:=hps.ext (X':=[b]) hT (fun c hc=>hc) (fun c hc=>.inl hc)
           replace e4:=e4.ext hT (by simpa using n4)
           replace e8:=e8.ext hT (by simpa using n7b)
           replace hbv:=hbv.ext (X':=b7 :: b4 :: X) hT (fun c hc=>by simp at hc;subst hc;simp [hbX]) (fun c hc=>.inl hc)
           replace hm:=ZS hm hb1 hT
           replace hS:=hS.trans hT
           replace h512:=Xh h512 hT.size
           refine W ?_
           exact Zr (f1,.mk (if (cur l i2).text=[45] then 8 else 7) 0 (cur l i3).text [y,z],.slice (some ⟨bn,0,none⟩) 2 2,i3+1,o3) ⟨rfl,rfl,rfl,rfl,trivial⟩ ⟨h,by omega,⟨hpb9,hps,hi3,hpl,hpo⟩,e8,hbv,⟨_,rfl,e4⟩,hm,hS,h512⟩ (by omega)
           rw [if_neg (fun h=>hu h.2),if_neg (by omega)] at h
           rw [decide_eq_false hu]
           refine W ?_
           exact Zr (f1,.mk 6 0 (cur l i2).text [y,z],.slice (some ⟨bn,0,none⟩) 2 2,i3,o3) ⟨rfl,rfl,rfl,rfl,trivial⟩ ⟨h,by omega,hp10,e7',hbv,⟨_,rfl,e4⟩,hm,hS,h512⟩ (by omega)
           rw [if_neg (fun h=>k5 h.1)] at h
           by_cases k4:k=4
           rw [if_pos k4] at h
           subst k4
           simp only [Xj] at h
           subst h
           have e7:=e7'
           replace hp:=hp10
           skip
           refine W ?_
           refine Z0 (Z1 (us:=ndC (.mk 6 0 (cur l i2).text [y,z]) (.slice (some ⟨bn,0,none⟩) 2 2)) rfl rfl rfl rfl (Zk hbv) e4 rfl) ?_
           rintro _ wz ⟨hT,e4'⟩
           refine W ?_
           refine Zu rfl rfl rfl e4' rfl ?_
           obtain ⟨hpb,hps,hpi,hpl,hpo⟩:=id hp
           have hSx:=hS.own hT (fun c hc=>by simp at hc;subst hc;exact .inr hb4w)
           refine PC.ok ⟨_,rfl,?_⟩ ⟨hpb.ext hT (by simpa using n4.symm),hs0.ext hSx (fun c hc=>hc) (fun c hc=>.inl hc),hpi,hpl,hpo⟩ hSx
           exact (hbv.ext (X':=b7 :: b4 :: X) hT (fun c hc=>by simp at hc;simp [hc]) (fun c hc=>.inl hc)).wk (fun c hc=>by simp [hc])
           rw [if_neg k4] at h
           focus repeat'(first|refine W1 ?_|omega|refine VG ?_ ?_<;>intro hg|refine VC ?_ ?_<;>intro hc)
           exact Zr (f1,.mk 6 0 (cur l i2).text [y,z],.slice (some ⟨bn,0,none⟩) 2 2,i3,o3) ⟨rfl,rfl,rfl,rfl,trivial⟩ ⟨h,by omega,hp10,e7',hbv,⟨_,rfl,e4⟩,hm,hS,h512⟩ (by omega)
     rw [if_neg hlv] at h
     simp only [Xj] at h
     subst h
     focus repeat'(first|refine W1 ?_|omega|refine VG ?_ ?_<;>intro hg|refine VC ?_ ?_<;>intro hc)
     skip
     refine W ?_
     refine Z0 (Z1 (us:=ndC y ky) rfl rfl rfl rfl (Zk hy) e4 rfl) ?_
     rintro _ wz ⟨hT,e4'⟩
     refine W ?_
     refine Zu rfl rfl rfl e4' rfl ?_
     obtain ⟨hpb,hps,hpi,hpl,hpo⟩:=id hp
     have hSx:=hS.own hT (fun c hc=>by simp at hc;subst hc;exact .inr hb4w)
     refine PC.ok ⟨_,rfl,?_⟩ ⟨hpb.ext hT (by simpa using n4.symm),hs0.ext hSx (fun c hc=>hc) (fun c hc=>.inl hc),hpi,hpl,hpo⟩ hSx
     exact (hy.ext (X':=b7 :: b4 :: X) hT (fun c hc=>by simp at hc;simp [hc]) (fun c hc=>.inl hc)).wk (fun c hc=>by simp [hc])
end Go.Proofs.YtjdjdoefppebkaaGreatDoor
namespace Go.Eng
open Go Go.RowKit Go.Proofs
theorem Z5v {k:Nat}:∀ (l:List (List Value)),(∀ c∈l,c.length=k)→l.flatten.length=l.length * k
 | [],_=>by simp
 | c :: r, h => by
   simp only [X7,Xb,Xc,X8]
   rw [Z5v r (fun c hc=>h c (by simp [hc])),h c (by simp)]
   omega
theorem Zc.rowG {α:Type} [Zf α] {w w':World} {X:List Nat} {T len base:Nat} {cs:List Value} {v:Value} {ys:List α} {css:List (List Value)} (h:Zc w T len cs v w') (hX:∀ b∈X,b<w.heap.size) (hbase:base≤w.heap.size) (hl:len=ys.length) (hcl:css.length=ys.length)
 (hc:cs=css.flatten) (hr:∀ i (hi:i<ys.length) (hi':i<css.length),Zf.rep X w ys[i] css[i]) (hm:ys.length≤maxLen):Row X w' base T v ys:=by
 obtain ⟨b,rfl,hb,hblk,hS⟩:=h
 subst hl
 subst hc
 have hk:∀ c∈css,c.length=Zf.k α:=by
  intro c hc
  obtain ⟨i,hi,rfl⟩:=Xs hc
  exact Zf.len (hr i (by omega) hi)
 have hfl:css.flatten.length=ys.length * Zf.k α:=by rw [Z5v css hk,hcl]
 refine ⟨css,hcl,fun i hi hi'=>Zf.ext (hr i hi hi') hS (by simp) (fun c hc=>?_),hfl,.inr ⟨b,ys.length,css.flatten.toArray,rfl,by omega,hblk,Xo _,hm,by rw [YaA];exact hfl,?_⟩⟩
 rcases Xt.1 hc with hc|hc
 simp only [ob,Xq] at hc
 exact .inr (by omega)
 exact .inl hc
 exact XB (by show css.flatten.length≤_;rw [hfl];exact Xo _)
theorem Row.slvN {α:Type} [Zf α] {X:List Nat} {w:World} {base T:Nat} {v:Value} {xs:List α} (h:Row X w base T v xs) (hX:∀ b∈X,b∉ob v):SlV X w v xs:=by
 obtain ⟨css,hl,hr,ho⟩:=h
 have hk:∀ c∈css,c.length=Zf.k α:=by
  intro c hc
  obtain ⟨i,hi,rfl⟩:=Xs hc
  exact Zf.len (hr i (by omega) hi)
 rcases ho.2 with ⟨rfl,hn⟩|⟨q,cap,cur,rfl,hb,hg,hnc,hcm,hcs,ht⟩
 exact ⟨none,0,by rw [hn],by omega,by simp [maxLen],fun _=>rfl,fun i hi=>by omega⟩
 refine ⟨some ⟨q,0,none⟩,cap,rfl,hnc,hcm,fun h=>by simp at h,fun i hi=>?_⟩
 refine ⟨q,0,css[i]'(by omega),rfl,(Xl.1 hg).1,fun hx=>hX q hx (by simp [ob]),?_,fun j u hu=>?_⟩
 exact Zf.ext (hr i hi (by omega)) (Stp.refl [] w) (by simp) (fun b hb=>.inl (by simp [hb]))
 have h1:=Z1x css hk i (by omega) j u hu
 rw [← ht,Yac] at h1
 split at h1
 have h2:cur[i * Zf.k α+j]?=some u:=by simpa using h1
 rw [XO,cell_of_row w q _ cur T (0,0) hg]
 exact h2
 cases h1
end Go.Eng
namespace Go.Proofs.YtjdjdoefppebkaaGreatDoor
open Go Go.Eng Go.RowKit Go.Proofs
theorem Z0n {α:Type} [Zf α] (X:List Nat) (w:World):SlV (α:=α) X w (.slice none 0 0) []:=⟨none,0,rfl,Xo _,by simp [maxLen],fun _=>rfl,fun i hi=>absurd hi (XI _)⟩
theorem ZmQ (s:Str) (w:World):(Instr.build 27 #[(0,.int .i64 10),(2,str s)]).run Tryz.prog w=.ok (.agg #[.int .i64 10,.int .i64 0,str s,.slice none 0 0]) w:=by kernel_rfl
theorem Zic (p:Option Addr) (l c:Nat) (w:World):(Instr.build 27 #[(0,.int .i64 9),(3,.slice p l c)]).run Tryz.prog w=.ok (.agg #[.int .i64 9,.int .i64 0,str [],.slice p l c]) w:=by kernel_rfl
theorem Zid (a b:Str) (w:World):(Instr.buildSlice 119 2 #[(0,str a),(1,str b)]).run Tryz.prog w=.ok (.slice (some ⟨w.heap.size,0,none⟩) 2 2) (w.alloc (.cells #[str a,str b] 9)):=by kernel_rfl
theorem Ze3:([]:Str)∉Z0S:=by decide
theorem Zgj (s:Str):Z0I s≤2:=by unfold Z0I;split<;>omega
theorem Blk.slv2 {w:World} {bw T:Nat} {a c:Str} (h:Blk w bw T [str a,str c]):SlV (α:=Str) [] w (.slice (some ⟨bw,0,none⟩) 2 2) [a,c]:=by
 refine ⟨some ⟨bw,0,none⟩,2,rfl,Xo _,by simp [maxLen],fun h=>by simp at h,fun i hi=>⟨bw,0,[str ([a,c][i])],rfl,h.lt,by simp,rfl,fun j u hu=>h.cell ?_⟩⟩
 have hi2:i<2:=hi
 rcases (by omega:i=0∨i=1) with rfl|rfl
 · cases j with
   | zero=>exact hu
   | succ j=>simp at hu
 · cases j with
   | zero=>exact hu
   | succ j=>simp at hu
theorem Z8K {α:Type} [Zf α] {X:List Nat} {w:World} {base T:Nat} {v:Value} {xs:List α} (h:Row X w base T v xs):v.cells.toList=[v]:=by
 obtain ⟨css,_,_,ho⟩:=h
 rcases ho.2 with ⟨rfl,hn⟩|⟨q,cap,cur,rfl,_⟩<;>rfl
theorem Zd4 {α:Type} [Zf α] {X:List Nat} {w:World} {base T:Nat} {v:Value} {xs:List α} (h:Row X w base T v xs):v.oneCell'=true:=by
 obtain ⟨css,_,_,ho⟩:=h
 rcases ho.2 with ⟨rfl,hn⟩|⟨q,cap,cur,rfl,_⟩<;>rfl
set_option maxHeartbeats 2000000 in
theorem Zpe (f:Nat) (IH:Z8I f) (l:List Tkn) (hL:Z2A l) (m:Int) (i o:Nat) (r:Out Nd) (hf:(cur l i).text∈Z0S)
 (h : (match Z0H l 1 i o with
   | .err a c=>some (.err a c)
   | .ok _ i1 o1=>
     match JF l [40] i1 o1 with
     | .err a c=>some (.err a c)
     | .ok _ i' o'=>
       match JM (Zz l f (.expr 1)) (Z18 l) (Z0I (cur l i).text) 0 [] i' o' with
       | none=>none
       | some (.err a c)=>some (.err a c)
       | some (.ok ks i3 o3)=>
         match Z04 l [41] i3 o3 with
         | .err a c=>some (.err a c)
         | .ok _ i4 o4=>some (.ok (.mk 10 0 (cur l i).text ks) i4 o4))=some r) (X:List Nat) (b:Nat) (tv:Value) (w:World) (hb1:b≠2) (hbX:b∈X) (hX:∀ c∈X,c<w.heap.size) (hm:w.cell? ⟨2,0,none⟩=some (.int .i64 m)) (hp:Pd w b tv l i o) :
 Calls Tryz.prog 275 #[.pointer (some ⟨b,0,none⟩)] w (PC b w tv l r (fun x v w'=>NdV X w' v x)):=by
 have hs0:=hp.2.1
 have hm0:=hm
 have hbw:=hp.lt
 have hargs:=Zgj (cur l i).text
 have htx:=hL.tl i
 refine cW1 32 Tryz.func275 ?_
 refine W ?_
 refine Z3 Z6 rfl ?_
 rintro _ w1 ⟨b2,rfl,hb2,e2,hS⟩
 have n2b:b2≠b:=by have:=hp.lt;omega
 have hb2w:w.heap.size≤b2:=hb2
 replace hm:=hS.cell (by simp) hm
 replace hp:=hp.up hS
 refine W ?_
 cases hK:Z0H l 1 i o with
 | err a c=>
   rw [hK] at h
   simp only [Xj] at h
   subst h
   refine ZB rfl (Z9 rfl rfl) (PC.falls (Z2c b tv l hL 1 (by decide) i o _ hp) hK (hS.mono (by simp))) rfl ?_
   intro wz hwz
   repeat'(first|refine Za ?_|refine Z8 ?_)
   refine Zx ?_
   exact PC.err hwz
 | ok t i1 o1=>
   obtain ⟨ho1,hi1,ht,hkind⟩:=Z1d hK
   subst o1;subst i1;subst t
   rw [hK] at h
   simp only at h
   refine CL rfl (Z9 rfl rfl) rfl (PC.goes (Z2c b tv l hL 1 (by decide) i o _ hp) hK) ?_
   rintro _ w2 ⟨rfl,hp2,hT⟩
   replace e2:=e2.ext hT (by simpa using n2b)
   replace hm:=ZS hm hb1 hT
   replace hS:=(hS.mono (S':=[b]) (by simp)).trans hT
   clear hT hp
   refine Z7 (Z7m rfl (Zd3 _)) rfl ?_
   apply Ze (vs:=[(0,.int .i64 10),(2,str (cur l i).text)]) rfl (ZmQ _) rfl
   refine Z3 Z6 rfl ?_
   rintro _ w3 ⟨b3,rfl,hb3,e3,hT⟩
   have n23:b2≠b3:=by have:=e2.lt;omega
   have n3b:b3≠b:=by have:=hp2.lt;omega
   have n31:b3≠2:=by have:=block_lt_of_cell hm;simp at this;omega
   have hb3w:w.heap.size≤b3:=Xh hS.size hb3
   refine Z0 (Z1 (us:=ndC (.mk 10 0 (cur l i).text []) (.slice none 0 0)) rfl rfl rfl rfl (Zk (x:=.mk 10 0 (cur l i).text []) (Z0n [] w)) e3 rfl) ?_
   rintro _ w4 ⟨hT2,e3'⟩
   replace hT:=hT.own hT2 (fun c hc=>.inr (by simp at hc;omega))
   clear hT2 e3
   replace hp2:=hp2.up hT;replace e2:=e2.up hT
   replace hm:=hT.cell (by simp) hm
   replace hS:=hS.trans (hT.mono (by simp))
   clear hT
   refine W ?_
   cases hO:JF l [40] (i+1) o with
   | err a c=>
     rw [hO] at h
     simp only [Xj] at h
     subst h
     refine ZB rfl (Z9 rfl rfl) (PC.falls (Z0s b tv l hL [40] (by decide) _ _ _ hp2) hO hS) rfl ?_
     intro wz hwz
     repeat'(first|refine Za ?_|refine Z8 ?_)
     refine Zx ?_
     exact PC.err hwz
   | ok u iA oA=>
     obtain ⟨hoo,hoi,hopt⟩:=ZT hO
     subst oA;subst iA
     rw [hO] at h
     simp only at h
     refine CL rfl (Z9 rfl rfl) rfl (PC.goes (Z0s b tv l hL [40] (by decide) _ _ _ hp2) hO) ?_
     rintro _ wB ⟨rfl,hp,hT⟩
     replace e2:=e2.ext hT (by simpa using n2b)
     replace e3:=e3'.ext hT (by simpa using n3b)
     replace hm:=ZS hm hb1 hT
     replace hS:=hS.trans hT
     clear hT hp2 e3'
     have l2:=e2.lt
     have l3:=e3.lt
     have hwB:wB.heap.size≤wB.heap.size:=Xo _
     have hwBw:=hS.size
     have hXb:∀ c∈b3 :: b2 :: X,c<wB.heap.size:=fun c hc=>by
      rcases Xf.1 hc with rfl|hc
      exact l3
      rcases Xf.1 hc with rfl|hc
      exact l2
      have:=hX c hc;have:=hS.size;omega
     refine W ?_
     refine CL rfl (Zp rfl) rfl (Z8b _ _) ?_
     rintro _ wB2 ⟨rfl,hww⟩
     subst wB2
     refine W ?_
     cases hM:JM (Zz l f (.expr 1)) (Z18 l) (Z0I (cur l i).text) 0 [] (i+1+1) (o+1) with
     | none=>rw [hM] at h;simp at h
     | some r3=>
     rw [hM] at h
     refine ZD (σ:=Nat×List Nd×Value×Nat×Nat) (fun q=>[(0,.pointer (some ⟨b,0,none⟩)),(2,.pointer (some ⟨b2,0,none⟩)),(3,.pointer (some ⟨b3,0,none⟩)),(13,.int .i64 (Z0I (cur l i).text:Int)),(14,.int .i64 (q.1:Int))])
      (fun q w'=>JM (Zz l f (.expr 1)) (Z18 l) (Z0I (cur l i).text - q.1) q.1 q.2.1 q.2.2.2.1 q.2.2.2.2=some r3∧q.1≤Z0I (cur l i).text∧q.2.1.length=q.1∧q.2.2.2.2=o+1∧Pd w' b tv l q.2.2.2.1 q.2.2.2.2∧Blk w' b3 27 (ndC (.mk 10 0 (cur l i).text q.2.1) q.2.2.1)∧Row (b3 :: b2 :: X) w' wB.heap.size 27 q.2.2.1 q.2.1∧b3∉ob q.2.2.1∧(∃ cs:List Value,cs.length=4∧Blk w' b2 27 cs)∧w'.cell? ⟨2,0,none⟩=some (.int .i64 m)∧Stp [b] w w'∧wB.heap.size≤w'.heap.size)
      (fun q=>Z0I (cur l i).text - q.1) (0,[],.slice none 0 0,i+1+1,o+1) ⟨rfl,rfl,rfl,rfl,rfl,trivial⟩ ⟨hM,Xy _,rfl,rfl,hp,e3,Row.nil,by simp [ob],⟨_,rfl,e2⟩,hm,hS,Xo _⟩ ?_
     clear hM hp e3 e2 hm hS
     rintro ⟨k,ks,kv,i2,o2⟩ w6 ⟨hM,hka,hkl,ho2',hp,e3,hrow,hn3,⟨cs2,hc2,e2⟩,hm,hS,hsz⟩
     dsimp only at hM hka hkl ho2' hp e3 hrow hn3 hsz ⊢
     match cs2,hc2 with
     | [q0,q1,q2,q3],_=>
     by_cases hlt:k<Z0I (cur l i).text
     obtain ⟨n',hn'⟩:∃ n',Z0I (cur l i).text - k=n'+1:=⟨Z0I (cur l i).text - k - 1,by omega⟩
     rw [hn'] at hM
     simp only [JM] at hM
     refine W ?_
     refine VC ?_ ?_<;>intro hg
     refine W ?_
     refine Z1J (σ:=Nat×Nat) (fun _=>[(0,.pointer (some ⟨b,0,none⟩)),(2,.pointer (some ⟨b2,0,none⟩)),(3,.pointer (some ⟨b3,0,none⟩)),(13,.int .i64 (Z0I (cur l i).text:Int)),(14,.int .i64 (k:Int))])
      (fun q w'=>Z18 l k i2 o2=.ok () q.1 q.2∧q.2=o+1∧Pd w' b tv l q.1 q.2∧Blk w' b3 27 (ndC (.mk 10 0 (cur l i).text ks) kv)∧Row (b3 :: b2 :: X) w' wB.heap.size 27 kv ks∧Blk w' b2 27 [q0,q1,q2,q3]∧w'.cell? ⟨2,0,none⟩=some (.int .i64 m)∧Stp [b] w w'∧wB.heap.size≤w'.heap.size) ?_ ?_
     · repeat'(first|refine W1 ?_|omega|refine VG ?_ ?_<;>intro hg|refine VC ?_ ?_<;>intro hc)
       ·
         have hk0:0<k:=by omega
         have hcm:Z18 l k i2 o2=Jy l [44] i2 o2:=by unfold Z18;rw [if_pos hk0]
         rw [hcm] at hM
         cases hU:Jy l [44] i2 o2 with
         | err a c=>
           rw [hU] at hM
           simp only [Xj] at hM
           subst hM
           simp only [Xj] at h
           subst h
           refine ZB rfl (Z9 rfl rfl) (PC.falls (Jc b tv l hL _ (by decide) i2 o2 _ hp) hU hS) rfl ?_
           intro wz hwz
           repeat'(first|refine Za ?_|refine Z8 ?_)
           refine Zx ?_
           exact PC.err hwz
         | ok u iC oC=>
           rw [hU] at hM
           simp only at hM
           have hoC:=Z2l hU
           refine CL rfl (Z9 rfl rfl) rfl (PC.goes (Jc b tv l hL _ (by decide) i2 o2 _ hp) hU) ?_
           rintro _ wC ⟨rfl,hpC,hT⟩
           have hbk:∀ c∈[b],c∈b3 :: b2 :: X∧c∉ob kv:=fun c hc=>by
            simp only [Xq] at hc
            subst hc
            exact ⟨by simp [hbX],fun h=>by have:=(hrow.ob_le c h).1;have:=hp.lt;omega⟩
           replace hrow:=hrow.ext (X':=b3 :: b2 :: X) hT hbk (fun c hc=>.inl hc)
           replace e2:=e2.ext hT (by simpa using n2b)
           replace e3:=e3.ext hT (by simpa using n3b)
           replace hm:=ZS hm hb1 hT
           replace hS:=hS.trans hT
           replace hsz:=Xh hsz hT.size
           refine W ?_
           exact ZI (iC,oC) ⟨rfl,rfl,rfl,rfl,rfl,trivial⟩ ⟨hcm.trans hU,by dsimp only;omega,hpC,e3,hrow,e2,hm,hS,hsz⟩
       exact ZI (i2,o2) ⟨rfl,rfl,rfl,rfl,rfl,trivial⟩ ⟨by unfold Z18;rw [if_neg (by omega)],ho2',hp,e3,hrow,e2,hm,hS,hsz⟩
     · rintro ⟨iC,oC⟩ wC ⟨hcm,hoC,hp,e3,hrow,e2,hm,hS,hsz⟩
       dsimp only at hcm hoC hp
       rw [hcm] at hM
       simp only at hM
       refine W ?_
       cases hE:Zz l f (.expr 1) iC oC with
       | none=>rw [hE] at hM;simp at hM
       | some r2=>
         rw [hE] at hM
         obtain ⟨hpb,hps,hpi,hpl,hpo⟩:=id hp
         have hlb:=hpb.lt
         have hlk:=hrow.ob_le
         have hXk:∀ c∈ob kv++(b3 :: b2 :: X),c<wC.heap.size:=fun c hc=>by
          rcases Xt.1 hc with h|h
          exact (hlk c h).2
          exact Xa (hXb c h) hsz
         cases r2 with
         | err a c=>
           simp only [Xj] at hM
           subst hM
           simp only [Xj] at h
           subst h
           refine Z4r 8 (b :: ob kv) [7] [(0,0),(1,1),(2,0),(3,2),(4,2),(5,2),(6,0),(7,2)] rfl mixed (by kernel_rfl) (by kernel_rfl) (by kernel_rfl) (fun w1 hS1=>?_)
           replace hp:=hp.up hS1;replace e3:=e3.up hS1
           replace hm:=hS1.cell (by simp) hm
           replace hS:=hS.trans (hS1.mono (by simp))
           have hsub:=IH l hL m (.expr 1) iC oC _ hE (ob kv++(b3 :: b2 :: X)) b tv w1 hb1 (by simp [hbX]) (fun c hc=>Xa (hXk c hc) hS1.size) hm hp (by omega) (by omega)
           refine Jo rfl trivial (fun _=>JQ rfl) rfl ?_
           refine Z38 rfl trivial (fun w' hw=>ZP rfl rfl (e3.ext hw (by simp only [Xf,not_or];exact ⟨n3b,hn3⟩)) rfl) rfl ?_
           refine Jo rfl trivial (fun _=>ZU rfl) rfl ?_
           refine Z64 rfl trivial rfl (Z9 rfl rfl) (PC.falls hsub rfl hS) rfl ?_
           intro wz hwz
           repeat'(first|refine Za ?_|refine Z8 ?_)
           refine Zx ?_
           exact PC.err hwz
         | ok x i3 o3=>
           simp only at hM
           refine Z2g 8 (b :: ob kv) [7] [(0,0),(1,1),(2,0),(3,2),(4,2),(5,2),(6,0),(7,2)] rfl mixed (by kernel_rfl) (by kernel_rfl) (by kernel_rfl) (fun w1 hS1=>?_)
           replace hp:=hp.up hS1;replace e3:=e3.up hS1;replace e2:=e2.up hS1;replace hrow:=hrow.up hS1
           replace hm:=hS1.cell (by simp) hm
           replace hS:=hS.trans (hS1.mono (by simp))
           have hsz1:=Xh hsz hS1.size
           have hXk1:∀ c∈ob kv++(b3 :: b2 :: X),c<w1.heap.size:=fun c hc=>Xa (hXk c hc) hS1.size
           have hsub:=IH l hL m (.expr 1) iC oC _ hE (ob kv++(b3 :: b2 :: X)) b tv w1 hb1 (by simp [hbX]) hXk1 hm hp (by omega) (by omega)
           clear hS1 hXk hpb hps hlk
           refine JG rfl trivial rfl rfl ?_
           refine Jh rfl trivial rfl rfl e3 (by simp only [Xf,not_or];exact ⟨n3b,hn3⟩) rfl rfl ?_
           refine Z90 rfl trivial rfl rfl ?_
           refine Zb rfl trivial (Z5 rfl (Z9 rfl rfl) (PC.goes hsub rfl)) (fun _ _ h=>h.2.2.mono (by simp)) rfl ?_
           rintro _ w7 ⟨⟨kx,rfl,hx⟩,hp7,hT⟩
           have hbk:∀ c∈[b],c∈b3 :: b2 :: X∧c∉ob kv:=fun c hc=>by
            simp only [Xq] at hc
            subst hc
            exact ⟨by simp [hbX],fun h=>by have:=(hrow.ob_le c h).1;omega⟩
           replace hrow:=hrow.ext (X':=b3 :: b2 :: X) hT hbk (fun c hc=>.inl hc)
           replace e2:=e2.ext hT (by simpa using n2b)
           replace e3:=e3.ext hT (by simpa using n3b)
           replace hm:=ZS hm hb1 hT
           replace hS:=hS.trans hT
           have hsz7:=Xh hsz1 hT.size
           have hXk7:∀ c∈ob kv++(b3 :: b2 :: X),c<w7.heap.size:=fun c hc=>Xa (hXk1 c hc) hT.size
           clear hT hXk1 hsz1 hsub hp
           obtain ⟨px,cx,rfl,-⟩:=id hx
           refine Zb rfl trivial (Z2 (vs:=[(0,.agg (ndC x (.slice px x.kids.length cx)).toArray)]) rfl (Z0F _ _ _ _ _ _)) (fun _ _ h=>(Zc.stp h).mono (by simp)) rfl ?_
           intro bv w8 hN
           have hbv:SlV (ob kv++(b3 :: b2 :: X)) w8 bv [x]:=hN.slvG (css:=[ndC x _]) hXk7 rfl rfl rfl (Z3X hx) (by simp [maxLen])
           have hT:=Zc.stp hN
           replace hp7:=hp7.up hT;replace e3:=e3.up hT;replace e2:=e2.up hT;replace hrow:=hrow.up hT
           replace hm:=hT.cell (by simp) hm
           replace hS:=hS.trans (hT.mono (by simp))
           have hsz8:=Xh hsz7 hT.size
           have hXk8:∀ c∈ob kv++(b3 :: b2 :: X),c<w8.heap.size:=fun c hc=>Xa (hXk7 c hc) hT.size
           clear hT hN hXk7 hsz7 hx
           have hbase:wB.heap.size≤w8.heap.size:=Xh hwB hsz8
           refine Zb rfl trivial (Z05 (X:=b3 :: b2 :: X) (base:=wB.heap.size) rfl (by decide) rfl rfl hrow hbv (by simp only [Xc,Xe];omega) (by simp only [Xc,Xe,maxLen];omega) hbase) (fun _ _ h=>h.2.1.mono (fun c hc=>XK _ hc)) rfl ?_
           rintro kv' w9 ⟨hrow',hT,hown⟩
           have hown1:∀ c∈ob kv,w.heap.size≤c:=fun c hc=>by have:=(hrow.ob_le c hc).1;omega
           have hn3':b3∉ob kv':=fun h=>by
            rcases hown _ h with h|h
            exact hn3 h
            have:=hXk8 b3 (by simp);omega
           have hn2':b2∉ob kv:=fun h=>by have:=(hrow.ob_le _ h).1;omega
           have hn1:(2:Nat)∉ob kv:=fun h=>by have:=(hrow.ob_le _ h).1;have:=block_lt_of_cell hm0;simp at this;omega
           have hnX:∀ c∈X,c∉ob kv':=fun c hc h=>by
            have:=(hrow'.ob_le _ h).1
            have:=hX c hc
            omega
           replace e2:=e2.ext hT hn2'
           replace e3:=e3.ext hT hn3
           replace hm:=hT.cell hn1 hm
           replace hS:=hS.own hT (fun c hc=>.inr (hown1 c hc))
           replace hp7:Pd w9 b tv l i3 o3:=by
            obtain ⟨g1,g2,g3,g4,g5⟩:=hp7
            exact ⟨g1.ext hT (fun h=>by have:=hown1 b h;omega),hs0.ext hS (fun c hc=>hc) (fun c hc=>.inl hc),g3,g4,g5⟩
           have hsz9:=Xh hsz8 hT.size
           clear hT hbv hXk8 hrow
           refine JG rfl trivial rfl rfl ?_
           refine JR rfl trivial (Zj (u:=kv') rfl rfl (Z8K hrow') (Zd4 hrow') e3 (by simp)) rfl ?_
           rintro _ w10 ⟨hT,e3'⟩
           replace e3':Blk w10 b3 27 (ndC (.mk 10 0 (cur l i).text (ks++[x])) kv'):=e3'
           replace e2:=e2.ext hT (by simpa using n23)
           replace hm:=hT.cell (by simpa using n31.symm) hm
           replace hS:=hS.own hT (fun c hc=>by simp at hc;subst hc;exact .inr hb3w)
           replace hp7:Pd w10 b tv l i3 o3:=by
            obtain ⟨g1,g2,g3,g4,g5⟩:=hp7
            exact ⟨g1.ext hT (by simpa using n3b.symm),hs0.ext hS (fun c hc=>hc) (fun c hc=>.inl hc),g3,g4,g5⟩
           replace hrow':=hrow'.ext (X':=b3 :: b2 :: X) hT (fun c hc=>by simp at hc;subst hc;exact ⟨by simp,hn3'⟩) (fun c hc=>.inl hc)
           have hsz10:=Xh hsz9 hT.size
           refine D ?_
           refine W ?_
           exact Zr (k+1,ks++[x],kv',i3,o3) ⟨rfl,rfl,rfl,rfl,rfl,trivial⟩ ⟨by rw [show Z0I (cur l i).text - (k+1)=n' by omega];exact hM,by omega,by simp;omega,by show o3=o+1;have:=Z0l l _ _ _ _ _ _ _ hE;omega,hp7,e3',hrow',hn3',⟨_,rfl,e2⟩,hm,hS,hsz10⟩ (by dsimp only;omega)
     exfalso
     omega
     · have hk:k=Z0I (cur l i).text:=by omega
       rw [show Z0I (cur l i).text - k=0 by omega] at hM
       simp only [JM,Xj] at hM
       subst hM
       simp only at h
       have ho2:0<o2:=by omega
       repeat'(first|refine W1 ?_|omega|refine VG ?_ ?_<;>intro hg|refine VC ?_ ?_<;>intro hc)
       cases hC:Z04 l [41] i2 o2 with
       | err a c=>
         rw [hC] at h
         simp only [Xj] at h
         subst h
         refine ZB rfl (Z9 rfl rfl) (PC.falls (Z1G b tv l hL _ (by decide) i2 o2 ho2 _ hp) hC hS) rfl ?_
         intro wz hwz
         repeat'(first|refine Za ?_|refine Z8 ?_)
         refine Zx ?_
         exact PC.err hwz
       | ok u i3 o3=>
         rw [hC] at h
         simp only [Xj] at h
         subst h
         refine CL rfl (Z9 rfl rfl) rfl (PC.goes (Z1G b tv l hL _ (by decide) i2 o2 ho2 _ hp) hC) ?_
         rintro _ w7 ⟨rfl,hp7,hT⟩
         have hbk:∀ c∈[b],c∈b3 :: b2 :: X∧c∉ob kv:=fun c hc=>by
          simp only [Xq] at hc
          subst hc
          exact ⟨by simp [hbX],fun h=>by have:=(hrow.ob_le c h).1;have:=hp.lt;omega⟩
         have hnX:∀ c∈b3 :: b2 :: X,c∉ob kv:=fun c hc h=>by
          have h1:=(hrow.ob_le _ h).1
          rcases Xf.1 hc with rfl|hc
          exact hn3 h
          rcases Xf.1 hc with rfl|hc
          omega
          have:=hX c hc;omega
         replace hrow:=hrow.ext (X':=b3 :: b2 :: X) hT hbk (fun c hc=>.inl hc)
         replace e2:=e2.ext hT (by simpa using n2b)
         replace e3:=e3.ext hT (by simpa using n3b)
         replace hS:=hS.trans hT
         have hsl:=hrow.slvN hnX
         refine W ?_
         refine Z0 (Z1 (us:=ndC (.mk 10 0 (cur l i).text ks) kv) rfl rfl rfl rfl (Zk hsl) e2 rfl) ?_
         rintro _ wz ⟨hT,e2'⟩
         refine W ?_
         refine Zu rfl rfl rfl e2' rfl ?_
         obtain ⟨hpb,hps,hpi,hpl,hpo⟩:=id hp7
         have hSx:=hS.own hT (fun c hc=>by simp at hc;subst hc;exact .inr hb2w)
         refine PC.ok ⟨_,rfl,?_⟩ ⟨hpb.ext hT (by simpa using n2b.symm),hs0.ext hSx (fun c hc=>hc) (fun c hc=>.inl hc),hpi,hpl,hpo⟩ hSx
         exact (hsl.ext (X':=b3 :: b2 :: X) hT (fun c hc=>by simp at hc;simp [hc]) (fun c hc=>.inl hc)).wk (fun c hc=>by simp [hc])
set_option maxHeartbeats 2000000 in
theorem Zie (f:Nat) (IH:Z8I f) (l:List Tkn) (hL:Z2A l) (m:Int) (i o:Nat) (r:Out Nd)
 (h : (match JF l [105, 102] i o with
   | .err a c=>some (.err a c)
   | .ok _ i' o'=>
     match Zz l f (.expr 1) i' o' with
     | none=>none
     | some (.err a c)=>some (.err a c)
     | some (.ok x i'' o'')=>
       match JM (Zz l f (.expr 1)) (Z5m l) 2 0 [x] i'' o'' with
       | none=>none
       | some (.err a c)=>some (.err a c)
       | some (.ok ks i3 o3)=>
         match Z04 l [101,110,100] i3 o3 with
         | .err a c=>some (.err a c)
         | .ok _ i4 o4=>some (.ok (.mk 9 0 [] ks) i4 o4))=some r) (X:List Nat) (b:Nat) (tv:Value) (w:World) (hb1:b≠2) (hbX:b∈X) (hX:∀ c∈X,c<w.heap.size) (hm:w.cell? ⟨2,0,none⟩=some (.int .i64 m)) (hp:Pd w b tv l i o) :
 Calls Tryz.prog 274 #[.pointer (some ⟨b,0,none⟩)] w (PC b w tv l r (fun x v w'=>NdV X w' v x)):=by
 have hs0:=hp.2.1
 have hm0:=hm
 have hbw:=hp.lt
 refine cW1 32 Tryz.func274 ?_
 refine W ?_
 refine Z3 Z6 rfl ?_
 rintro _ w1 ⟨b2,rfl,hb2,e2,hS⟩
 have n2b:b2≠b:=by have:=hp.lt;omega
 have hb2w:w.heap.size≤b2:=hb2
 replace hm:=hS.cell (by simp) hm
 replace hp:=hp.up hS
 refine W ?_
 cases hO:JF l [105,102] i o with
 | err a c=>
   rw [hO] at h
   simp only [Xj] at h
   subst h
   refine ZB rfl (Z9 rfl rfl) (PC.falls (Z0s b tv l hL _ (by decide) i o _ hp) hO (hS.mono (by simp))) rfl ?_
   intro wz hwz
   repeat'(first|refine Za ?_|refine Z8 ?_)
   refine Zx ?_
   exact PC.err hwz
 | ok t i1 o1=>
   obtain ⟨hoo,hoi,hopt⟩:=ZT hO
   subst o1;subst i1
   rw [hO] at h
   simp only at h
   refine CL rfl (Z9 rfl rfl) rfl (PC.goes (Z0s b tv l hL _ (by decide) i o _ hp) hO) ?_
   rintro _ wA ⟨rfl,hp2,hT⟩
   replace e2:=e2.ext hT (by simpa using n2b)
   replace hm:=ZS hm hb1 hT
   replace hS:=(hS.mono (S':=[b]) (by simp)).trans hT
   clear hT hp
   have l2:=e2.lt
   have hXa:∀ c∈b2 :: X,c<wA.heap.size:=fun c hc=>by
    rcases Xf.1 hc with rfl|hc
    exact l2
    have:=hX c hc;have:=hS.size;omega
   refine W ?_
   cases hE0:Zz l f (.expr 1) (i+1) (o+1) with
   | none=>rw [hE0] at h;simp at h
   | some r1=>
   rw [hE0] at h
   have hsub:=IH l hL m (.expr 1) (i+1) (o+1) r1 hE0 (b2 :: X) b tv wA hb1 (by simp [hbX]) hXa hm hp2 (by omega) (by omega)
   cases r1 with
   | err a c=>
     simp only [Xj] at h
     subst h
     refine ZB rfl (Z9 rfl rfl) (PC.falls hsub rfl hS) rfl ?_
     intro wz hwz
     repeat'(first|refine Za ?_|refine Z8 ?_)
     refine Zx ?_
     exact PC.err hwz
   | ok x0 iA oA=>
     have hoA:=Z0l l _ _ _ _ _ _ _ hE0
     simp only at h
     refine CL rfl (Z9 rfl rfl) rfl (PC.goes hsub rfl) ?_
     rintro _ wB ⟨⟨kx0,rfl,hx0⟩,hp,hT⟩
     replace e2:=e2.ext hT (by simpa using n2b)
     replace hm:=ZS hm hb1 hT
     replace hS:=hS.trans hT
     have hXB:∀ c∈b2 :: X,c<wB.heap.size:=fun c hc=>Xa (hXa c hc) hT.size
     clear hT hp2 hsub hXa l2
     obtain ⟨p0,c0,rfl,-⟩:=id hx0
     refine Z3 (Z2 (vs:=[(0,.agg (ndC x0 (.slice p0 x0.kids.length c0)).toArray)]) rfl (Z0F _ _ _ _ _ _)) rfl ?_
     intro kv0 wD hN
     have hr0:Row (b2 :: X) wD wB.heap.size 27 kv0 [x0]:=hN.rowG (css:=[ndC x0 _]) hXB (Xo _) rfl rfl rfl (Z3X hx0) (by simp [maxLen])
     obtain ⟨bn,rfl,hbn,-,hT⟩:=id hN
     replace hp:=hp.up hT;replace e2:=e2.up hT
     replace hm:=hT.cell (by simp) hm
     replace hS:=hS.trans (hT.mono (by simp))
     have hBD:=hT.size
     clear hT hN hx0
     apply Ze (vs:=[(0,.int .i64 9),(3,.slice (some ⟨bn,0,none⟩) 1 1)]) rfl (Zic _ _ _) rfl
     refine Z3 Z6 rfl ?_
     rintro _ w3 ⟨b3,rfl,hb3,e3,hT⟩
     have n23:b2≠b3:=by have:=e2.lt;omega
     have n3b:b3≠b:=by have:=hp.lt;omega
     have n31:b3≠2:=by have:=block_lt_of_cell hm;simp at this;omega
     have n3n:b3≠bn:=by have:=(hr0.ob_le bn (by simp [ob])).2;omega
     have hb3w:w.heap.size≤b3:=Xh hS.size hb3
     refine Z0 (Z1 (us:=ndC (.mk 9 0 [] [x0]) (.slice (some ⟨bn,0,none⟩) 1 1)) rfl rfl rfl rfl (by intro c hc;simp [ndC] at hc;rcases hc with rfl|rfl|rfl|rfl<;>rfl) e3 rfl) ?_
     rintro _ w4 ⟨hT2,e3'⟩
     replace hT:=hT.own hT2 (fun c hc=>.inr (by simp at hc;omega))
     clear hT2 e3
     replace hp:=hp.up hT;replace e2:=e2.up hT
     replace hr0:Row (b3 :: b2 :: X) w4 wB.heap.size 27 (.slice (some ⟨bn,0,none⟩) 1 1) [x0]:=hr0.ext hT (by simp) (fun c hc=>by
      rcases Xf.1 hc with rfl|hc
      exact .inr hb3
      exact .inl hc)
     replace hm:=hT.cell (by simp) hm
     replace hS:=hS.trans (hT.mono (by simp))
     have hB4:=Xh hBD hT.size
     clear hT
     refine W ?_
     refine Z3 (Z2 (vs:=[(0,str [116,104,101,110]),(1,str [101,108,115,101])]) rfl (Zid _ _)) rfl ?_
     intro wv w5 hN
     obtain ⟨bw,rfl,hbw5,ew,hT⟩:=id hN
     have nwb:bw≠b:=by have:=hp.lt;omega
     have nw3:bw≠b3:=by have:=e3'.lt;omega
     have nwn:bw≠bn:=by have:=(hr0.ob_le bn (by simp [ob])).2;omega
     replace hp:=hp.up hT;replace e2:=e2.up hT;replace e3':=e3'.up hT;replace hr0:=hr0.up hT
     replace hm:=hT.cell (by simp) hm
     replace hS:=hS.trans (hT.mono (by simp))
     have hwB:=Xh hB4 hT.size
     have l2:=hXB b2 (by simp)
     have hXb:∀ c∈b3 :: b2 :: X,c<w5.heap.size:=fun c hc=>by
      rcases Xf.1 hc with rfl|hc
      exact e3'.lt
      exact Xa (hXB c hc) hwB
     clear hT hN hbw5
     have hwv:=Blk.slv2 ew
     have hwv2:(0:Nat)<([[116,104,101,110],[101,108,115,101]]:List Str).length:=by simp
     refine W ?_
     cases hM:JM (Zz l f (.expr 1)) (Z5m l) 2 0 [x0] iA oA with
     | none=>rw [hM] at h;simp at h
     | some r3=>
     rw [hM] at h
     refine ZD (σ:=Nat×List Nd×Value×Nat×Nat) (fun q=>[(0,.pointer (some ⟨b,0,none⟩)),(2,.pointer (some ⟨b2,0,none⟩)),(3,.pointer (some ⟨b3,0,none⟩)),(12,.slice (some ⟨bw,0,none⟩) 2 2),(13,.int .i64 2),(14,.int .i64 (q.1:Int))])
      (fun q w'=>JM (Zz l f (.expr 1)) (Z5m l) (2 - q.1) q.1 q.2.1 q.2.2.2.1 q.2.2.2.2=some r3∧q.1≤2∧q.2.1.length=q.1+1∧q.2.2.2.2=o+1∧Pd w' b tv l q.2.2.2.1 q.2.2.2.2∧Blk w' b3 27 (ndC (.mk 9 0 [] q.2.1) q.2.2.1)∧Row (b3 :: b2 :: X) w' wB.heap.size 27 q.2.2.1 q.2.1∧b3∉ob q.2.2.1∧bw∉ob q.2.2.1∧Blk w' bw 9 [str [116,104,101,110],str [101,108,115,101]]∧(∃ cs:List Value,cs.length=4∧Blk w' b2 27 cs)∧w'.cell? ⟨2,0,none⟩=some (.int .i64 m)∧Stp [b] w w'∧w5.heap.size≤w'.heap.size)
      (fun q=>2 - q.1) (0,[x0],.slice (some ⟨bn,0,none⟩) 1 1,iA,oA) ⟨rfl,rfl,rfl,rfl,rfl,rfl,trivial⟩ ⟨hM,by simp,rfl,hoA,hp,e3',hr0,by simpa [ob] using n3n,by simpa [ob] using nwn,ew,⟨_,rfl,e2⟩,hm,hS,Xo _⟩ ?_
     have hwBw:w.heap.size≤wB.heap.size:=by omega
     clear hM hp e3' e2 hm hS hwv hr0 ew
     rintro ⟨k,ks,kv,i2,o2⟩ w6 ⟨hM,hka,hkl,ho2',hp,e3,hrow,hn3,hnw,ew,⟨cs2,hc2,e2⟩,hm,hS,hsz⟩
     dsimp only at hM hka hkl ho2' hp e3 hrow hn3 hnw hsz ⊢
     match cs2,hc2 with
     | [q0,q1,q2,q3],_=>
     have hwv:=Blk.slv2 ew
     by_cases hlt:k<2
     · obtain ⟨n',hn'⟩:∃ n',2 - k=n'+1:=⟨2 - k - 1,by omega⟩
       rw [hn'] at hM
       simp only [JM] at hM
       have hk2:k<([[116,104,101,110],[101,108,115,101]]:List Str).length:=hlt
       have hth:Z5m l k i2 o2=Jy l (([[116,104,101,110],[101,108,115,101]]:List Str)[k]) i2 o2:=by
        rcases (by omega:k=0∨k=1) with rfl|rfl<;>rfl
       have hne:([[116,104,101,110],[101,108,115,101]]:List Str)[k]≠[]:=by
        rcases (by omega:k=0∨k=1) with rfl|rfl
        show ([116,104,101,110]:Str)≠[];decide
        show ([101,108,115,101]:Str)≠[];decide
       rw [hth] at hM
       repeat'(first|refine W1 ?_|omega|refine VG ?_ ?_<;>intro hg|refine VC ?_ ?_<;>intro hc)
       cases hU:Jy l (([[116,104,101,110],[101,108,115,101]]:List Str)[k]) i2 o2 with
       | err a c=>
         rw [hU] at hM
         simp only [Xj] at hM
         subst hM
         simp only [Xj] at h
         subst h
         refine ZB rfl (Z9 rfl rfl) (PC.falls (Jc b tv l hL _ hne i2 o2 _ hp) hU hS) rfl ?_
         intro wz hwz
         repeat'(first|refine Za ?_|refine Z8 ?_)
         refine Zx ?_
         exact PC.err hwz
       | ok u iC oC=>
         rw [hU] at hM
         simp only at hM
         have hoC:=Z2l hU
         refine CL rfl (Z9 rfl rfl) rfl (PC.goes (Jc b tv l hL _ hne i2 o2 _ hp) hU) ?_
         rintro _ wC ⟨rfl,hpC,hT⟩
         have hbk:∀ c∈[b],c∈b3 :: b2 :: X∧c∉ob kv:=fun c hc=>by
          simp only [Xq] at hc
          subst hc
          exact ⟨by simp [hbX],fun h=>by have:=(hrow.ob_le c h).1;have:=hp.lt;omega⟩
         replace hrow:=hrow.ext (X':=b3 :: b2 :: X) hT hbk (fun c hc=>.inl hc)
         replace e2:=e2.ext hT (by simpa using n2b)
         replace ew:=ew.ext hT (by simpa using nwb)
         replace e3:=e3.ext hT (by simpa using n3b)
         replace hm:=ZS hm hb1 hT
         replace hS:=hS.trans hT
         replace hsz:=Xh hsz hT.size
         clear hT hp hU hwv hth
         refine W ?_
         have hp:=hpC
         cases hE:Zz l f (.expr 1) iC oC with
         | none=>rw [hE] at hM;simp at hM
         | some r2=>
           rw [hE] at hM
           obtain ⟨hpb,hps,hpi,hpl,hpo⟩:=id hp
           have hlb:=hpb.lt
           have hlk:=hrow.ob_le
           have hXk:∀ c∈ob kv++(b3 :: b2 :: X),c<wC.heap.size:=fun c hc=>by
            rcases Xt.1 hc with h|h
            exact (hlk c h).2
            exact Xa (hXb c h) hsz
           cases r2 with
           | err a c=>
             simp only [Xj] at hM
             subst hM
             simp only [Xj] at h
             subst h
             refine Z4r 8 (b :: ob kv) [7] [(0,0),(1,1),(2,0),(3,2),(4,2),(5,2),(6,0),(7,2)] rfl mixed (by kernel_rfl) (by kernel_rfl) (by kernel_rfl) (fun w1 hS1=>?_)
             replace hp:=hp.up hS1;replace e3:=e3.up hS1
             replace hm:=hS1.cell (by simp) hm
             replace hS:=hS.trans (hS1.mono (by simp))
             have hsub:=IH l hL m (.expr 1) iC oC _ hE (ob kv++(b3 :: b2 :: X)) b tv w1 hb1 (by simp [hbX]) (fun c hc=>Xa (hXk c hc) hS1.size) hm hp (by omega) (by omega)
             refine Jo rfl trivial (fun _=>JQ rfl) rfl ?_
             refine Z38 rfl trivial (fun w' hw=>ZP rfl rfl (e3.ext hw (by simp only [Xf,not_or];exact ⟨n3b,hn3⟩)) rfl) rfl ?_
             refine Jo rfl trivial (fun _=>ZU rfl) rfl ?_
             refine Z64 rfl trivial rfl (Z9 rfl rfl) (PC.falls hsub rfl hS) rfl ?_
             intro wz hwz
             repeat'(first|refine Za ?_|refine Z8 ?_)
             refine Zx ?_
             exact PC.err hwz
           | ok x i3 o3=>
             simp only at hM
             refine Z2g 8 (b :: ob kv) [7] [(0,0),(1,1),(2,0),(3,2),(4,2),(5,2),(6,0),(7,2)] rfl mixed (by kernel_rfl) (by kernel_rfl) (by kernel_rfl) (fun w1 hS1=>?_)
             replace hp:=hp.up hS1;replace e3:=e3.up hS1;replace e2:=e2.up hS1;replace ew:=ew.up hS1;replace hrow:=hrow.up hS1
             replace hm:=hS1.cell (by simp) hm
             replace hS:=hS.trans (hS1.mono (by simp))
             have hsz1:=Xh hsz hS1.size
             have hXk1:∀ c∈ob kv++(b3 :: b2 :: X),c<w1.heap.size:=fun c hc=>Xa (hXk c hc) hS1.size
             have hsub:=IH l hL m (.expr 1) iC oC _ hE (ob kv++(b3 :: b2 :: X)) b tv w1 hb1 (by simp [hbX]) hXk1 hm hp (by omega) (by omega)
             clear hS1 hXk hpb hps hlk
             refine JG rfl trivial rfl rfl ?_
             refine Jh rfl trivial rfl rfl e3 (by simp only [Xf,not_or];exact ⟨n3b,hn3⟩) rfl rfl ?_
             refine Z90 rfl trivial rfl rfl ?_
             refine Zb rfl trivial (Z5 rfl (Z9 rfl rfl) (PC.goes hsub rfl)) (fun _ _ h=>h.2.2.mono (by simp)) rfl ?_
             rintro _ w7 ⟨⟨kx,rfl,hx⟩,hp7,hT⟩
             have hbk:∀ c∈[b],c∈b3 :: b2 :: X∧c∉ob kv:=fun c hc=>by
              simp only [Xq] at hc
              subst hc
              exact ⟨by simp [hbX],fun h=>by have:=(hrow.ob_le c h).1;omega⟩
             replace hrow:=hrow.ext (X':=b3 :: b2 :: X) hT hbk (fun c hc=>.inl hc)
             replace e2:=e2.ext hT (by simpa using n2b)
             replace ew:=ew.ext hT (by simpa using nwb)
             replace e3:=e3.ext hT (by simpa using n3b)
             replace hm:=ZS hm hb1 hT
             replace hS:=hS.trans hT
             have hsz7:=Xh hsz1 hT.size
             have hXk7:∀ c∈ob kv++(b3 :: b2 :: X),c<w7.heap.size:=fun c hc=>Xa (hXk1 c hc) hT.size
             clear hT hXk1 hsz1 hsub hp
             obtain ⟨px,cx,rfl,-⟩:=id hx
             refine Zb rfl trivial (Z2 (vs:=[(0,.agg (ndC x (.slice px x.kids.length cx)).toArray)]) rfl (Z0F _ _ _ _ _ _)) (fun _ _ h=>(Zc.stp h).mono (by simp)) rfl ?_
             intro bv w8 hN
             have hbv:SlV (ob kv++(b3 :: b2 :: X)) w8 bv [x]:=hN.slvG (css:=[ndC x _]) hXk7 rfl rfl rfl (Z3X hx) (by simp [maxLen])
             have hT:=Zc.stp hN
             replace hp7:=hp7.up hT;replace e3:=e3.up hT;replace e2:=e2.up hT;replace ew:=ew.up hT;replace hrow:=hrow.up hT
             replace hm:=hT.cell (by simp) hm
             replace hS:=hS.trans (hT.mono (by simp))
             have hsz8:=Xh hsz7 hT.size
             have hXk8:∀ c∈ob kv++(b3 :: b2 :: X),c<w8.heap.size:=fun c hc=>Xa (hXk7 c hc) hT.size
             clear hT hN hXk7 hsz7 hx
             have hbase:wB.heap.size≤w8.heap.size:=Xh hwB hsz8
             refine Zb rfl trivial (Z05 (X:=b3 :: b2 :: X) (base:=wB.heap.size) rfl (by decide) rfl rfl hrow hbv (by simp only [Xc,Xe];omega) (by simp only [Xc,Xe,maxLen];omega) hbase) (fun _ _ h=>h.2.1.mono (fun c hc=>XK _ hc)) rfl ?_
             rintro kv' w9 ⟨hrow',hT,hown⟩
             have hown1:∀ c∈ob kv,w.heap.size≤c:=fun c hc=>by have:=(hrow.ob_le c hc).1;omega
             have hn3':b3∉ob kv':=fun h=>by
              rcases hown _ h with h|h
              exact hn3 h
              have:=hXk8 b3 (by simp);omega
             have hnw':bw∉ob kv':=fun h=>by
              rcases hown _ h with h|h
              exact hnw h
              have:=ew.lt;omega
             have hn2':b2∉ob kv:=fun h=>by have:=(hrow.ob_le _ h).1;omega
             have hn1:(2:Nat)∉ob kv:=fun h=>by have:=(hrow.ob_le _ h).1;have:=block_lt_of_cell hm0;simp at this;omega
             have hnX:∀ c∈X,c∉ob kv':=fun c hc h=>by
              have:=(hrow'.ob_le _ h).1
              have:=hX c hc
              omega
             replace e2:=e2.ext hT hn2'
             replace ew:=ew.ext hT hnw
             replace e3:=e3.ext hT hn3
             replace hm:=hT.cell hn1 hm
             replace hS:=hS.own hT (fun c hc=>.inr (hown1 c hc))
             replace hp7:Pd w9 b tv l i3 o3:=by
              obtain ⟨g1,g2,g3,g4,g5⟩:=hp7
              exact ⟨g1.ext hT (fun h=>by have:=hown1 b h;omega),hs0.ext hS (fun c hc=>hc) (fun c hc=>.inl hc),g3,g4,g5⟩
             have hsz9:=Xh hsz8 hT.size
             clear hT hbv hXk8 hrow
             refine JG rfl trivial rfl rfl ?_
             refine JR rfl trivial (Zj (u:=kv') rfl rfl (Z8K hrow') (Zd4 hrow') e3 (by simp)) rfl ?_
             rintro _ w10 ⟨hT,e3'⟩
             replace e3':Blk w10 b3 27 (ndC (.mk 9 0 [] (ks++[x])) kv'):=e3'
             replace e2:=e2.ext hT (by simpa using n23)
             replace ew:=ew.ext hT (by simpa using nw3)
             replace hm:=hT.cell (by simpa using n31.symm) hm
             replace hS:=hS.own hT (fun c hc=>by simp at hc;subst hc;exact .inr hb3w)
             replace hp7:Pd w10 b tv l i3 o3:=by
              obtain ⟨g1,g2,g3,g4,g5⟩:=hp7
              exact ⟨g1.ext hT (by simpa using n3b.symm),hs0.ext hS (fun c hc=>hc) (fun c hc=>.inl hc),g3,g4,g5⟩
             replace hrow':=hrow'.ext (X':=b3 :: b2 :: X) hT (fun c hc=>by simp at hc;subst hc;exact ⟨by simp,hn3'⟩) (fun c hc=>.inl hc)
             have hsz10:=Xh hsz9 hT.size
             refine D ?_
             refine W ?_
             exact Zr (k+1,ks++[x],kv',i3,o3) ⟨rfl,rfl,rfl,rfl,rfl,rfl,trivial⟩ ⟨by rw [show 2 - (k+1)=n' by omega];exact hM,by omega,by simp;omega,by show o3=o+1;have:=Z0l l _ _ _ _ _ _ _ hE;omega,hp7,e3',hrow',hn3',hnw',ew,⟨_,rfl,e2⟩,hm,hS,hsz10⟩ (by dsimp only;omega)
     · have hk:k=2:=by omega
       subst hk
       simp only [Ya8,JM,Xj] at hM
       subst hM
       simp only at h
       have ho2:0<o2:=by omega
       repeat'(first|refine W1 ?_|omega|refine VG ?_ ?_<;>intro hg|refine VC ?_ ?_<;>intro hc)
       cases hC:Z04 l [101,110,100] i2 o2 with
       | err a c=>
         rw [hC] at h
         simp only [Xj] at h
         subst h
         refine ZB rfl (Z9 rfl rfl) (PC.falls (Z1G b tv l hL _ (by decide) i2 o2 ho2 _ hp) hC hS) rfl ?_
         intro wz hwz
         repeat'(first|refine Za ?_|refine Z8 ?_)
         refine Zx ?_
         exact PC.err hwz
       | ok u i3 o3=>
         rw [hC] at h
         simp only [Xj] at h
         subst h
         refine CL rfl (Z9 rfl rfl) rfl (PC.goes (Z1G b tv l hL _ (by decide) i2 o2 ho2 _ hp) hC) ?_
         rintro _ w7 ⟨rfl,hp7,hT⟩
         have hbk:∀ c∈[b],c∈b3 :: b2 :: X∧c∉ob kv:=fun c hc=>by
          simp only [Xq] at hc
          subst hc
          exact ⟨by simp [hbX],fun h=>by have:=(hrow.ob_le c h).1;have:=hp.lt;omega⟩
         have hnX:∀ c∈b3 :: b2 :: X,c∉ob kv:=fun c hc h=>by
          have h1:=(hrow.ob_le _ h).1
          rcases Xf.1 hc with rfl|hc
          exact hn3 h
          rcases Xf.1 hc with rfl|hc
          omega
          have:=hX c hc;omega
         replace hrow:=hrow.ext (X':=b3 :: b2 :: X) hT hbk (fun c hc=>.inl hc)
         replace e2:=e2.ext hT (by simpa using n2b)
         replace e3:=e3.ext hT (by simpa using n3b)
         replace hS:=hS.trans hT
         have hsl:=hrow.slvN hnX
         refine W ?_
         refine Z0 (Z1 (us:=ndC (.mk 9 0 [] ks) kv) rfl rfl rfl rfl (Zk hsl) e2 rfl) ?_
         rintro _ wz ⟨hT,e2'⟩
         refine W ?_
         refine Zu rfl rfl rfl e2' rfl ?_
         obtain ⟨hpb,hps,hpi,hpl,hpo⟩:=id hp7
         have hSx:=hS.own hT (fun c hc=>by simp at hc;subst hc;exact .inr hb2w)
         refine PC.ok ⟨_,rfl,?_⟩ ⟨hpb.ext hT (by simpa using n2b.symm),hs0.ext hSx (fun c hc=>hc) (fun c hc=>.inl hc),hpi,hpl,hpo⟩ hSx
         exact (hsl.ext (X':=b3 :: b2 :: X) hT (fun c hc=>by simp at hc;simp [hc]) (fun c hc=>.inl hc)).wk (fun c hc=>by simp [hc])
theorem Z6T (k n:Int) (w:World):(Instr.build 27 #[(0,.int .i64 k),(1,.int .i64 n)]).run Tryz.prog w=.ok (.agg #[.int .i64 k,.int .i64 n,str [],.slice none 0 0]) w:=by kernel_rfl
theorem Zif (k:Int) (w:World):(Instr.build 27 #[(0,.int .i64 k)]).run Tryz.prog w=.ok (.agg #[.int .i64 k,.int .i64 0,str [],.slice none 0 0]) w:=by kernel_rfl
theorem Zig (k:Int) (s:Str) (w:World):(Instr.build 27 #[(0,.int .i64 k),(2,str s)]).run Tryz.prog w=.ok (.agg #[.int .i64 k,.int .i64 0,str s,.slice none 0 0]) w:=by kernel_rfl
theorem Zc6:Z9s.length≤1000000:=by decide
theorem Ze4:Zd2.length≤1000000:=by decide
theorem Z7B:([]:Str)∉Z0U:=by decide
set_option maxHeartbeats 4000000 in
theorem Zpf (f:Nat) (IH:Z8I f) (l:List Tkn) (hL:Z2A l) (m:Int) (i o:Nat) (r:Out Nd) (h:Zz l (f+1) .prim i o=some r) (X:List Nat) (b:Nat) (tv:Value) (w:World) (hb1:b≠2) (hbX:b∈X) (hX:∀ c∈X,c<w.heap.size) (hm:w.cell? ⟨2,0,none⟩=some (.int .i64 m)) (hp:Pd w b tv l i o) :
 Calls Tryz.prog 213 #[.pointer (some ⟨b,0,none⟩)] w (PC b w tv l r (fun x v w'=>NdV X w' v x)):=by
 have hs0:=hp.2.1
 have hi:=hp.i_lt
 have hcur:=Z4a hi
 rw [Zz] at h
 refine cW1 91 Tryz.func213 ?_
 refine W ?_
 refine Z3 Z6 rfl ?_
 rintro _ w0 ⟨b2,rfl,hb2,e2,hS⟩
 have n2:b2≠b:=by have:=hp.lt;omega
 have hb2w:w.heap.size≤b2:=hb2
 obtain ⟨hpb,hps,hpi,hpl,hpo⟩:=id hp
 replace hpb:=hpb.up hS
 replace hps:=hps.up hS
 replace hm:=hS.cell (by simp) hm
 refine W ?_
 refine ZDr 12 [] [11] [(0,0),(1,0),(2,0),(3,1),(4,0),(5,0),(6,0),(7,1),(8,0),(9,1),(10,2),(11,2)] (fun w1 hS1=>?_)
 replace hpb:=hpb.up hS1
 replace hps:=hps.up hS1
 replace e2:=e2.up hS1
 replace hm:=hS1.cell (by simp) hm
 replace hS:=hS.trans hS1
 clear hS1
 refine D ?_
 refine Zb rfl trivial Z6 (fun _ _ ⟨_,_,_,_,h⟩=>h) rfl ?_
 rintro _ w2 ⟨b3,rfl,hb3,e3,hS2⟩
 have n3:b3≠b:=by have:=hpb.lt;omega
 have n32:b3≠b2:=by have:=e2.lt;omega
 have n31:b3≠2:=by have:=block_lt_of_cell hm;simp at this;omega
 have hb3w:w.heap.size≤b3:=Xh hS.size hb3
 refine JR rfl trivial (Z1 (us:=Zi.enc l[i]) rfl rfl rfl rfl (Zi.one _) e3 rfl) rfl ?_
 rintro _ w3 ⟨hT,e3⟩
 have hT0:=hS2.own hT (fun c hc=>.inr (by simp at hc;omega))
 clear hT hS2
 replace hpb:=hpb.up hT0
 replace hps:=hps.up hT0
 replace e2:=e2.up hT0
 replace hm:=hT0.cell (by simp) hm
 replace hS:=hS.trans hT0
 clear hT0 hb3
 refine D ?_
 rw [← hcur] at e3
 clear hp
 have hp:Pd w3 b tv l i o:=⟨hpb,hps,hpi,hpl,hpo⟩
 have fin:∀ (nd:Nd) (i' o':Nat) (w4 w5:World) (kv:Value),nd.kids=[]→kv=.slice none 0 0→Pd w4 b tv l i' o'→Stp [b] w w4→Stp [b2] w4 w5→PC b w tv l (.ok nd i' o') (fun x v w'=>NdV X w' v x) (.returned (.agg (ndC nd kv).toArray)) w5:=by
  intro nd i' o' w4 w5 kv hk hkv hp4 h1 h2
  subst hkv
  obtain ⟨g1,g2,g3,g4,g5⟩:=hp4
  have hSx:=h1.own h2 (fun c hc=>by simp at hc;subst hc;exact .inr hb2w)
  refine PC.ok ⟨_,rfl,?_⟩ ⟨g1.ext h2 (by simpa using n2.symm),hs0.ext hSx (fun c hc=>hc) (fun c hc=>.inl hc),g3,g4,g5⟩ hSx
  rw [hk]
  exact Z0n _ _
 by_cases c1:(cur l i).kind=2
 · rw [if_pos c1] at h
   simp only [Xj] at h
   subst h
   repeat'(first|refine W1 ?_|omega|refine VG ?_ ?_<;>intro hg|refine VC ?_ ?_<;>intro hc)
   all_goals try exact absurd c1 (by assumption)
   obtain ⟨hpb,hps,hpi,hpl,hpo⟩:=id hp
   have hi1:=hL.end_of_kind hp.i_lt (by rw [c1];decide)
   refine W ?_
   refine Z0 (Zj (u:=.int .i64 ((i+1:Nat):Int)) rfl (by show some _=some _;simp) rfl rfl hpb (by simp)) ?_
   rintro _ w4 ⟨hT,hpb9⟩
   replace hps:=hps.ext (X':=[b]) hT (fun c hc=>hc) (fun c hc=>.inl hc)
   replace e2:=e2.ext hT (by simpa using n2)
   replace e3:=e3.ext hT (by simpa using n3)
   replace hS:=(hS.mono (S':=[b]) (by simp)).trans hT
   replace hp:Pd w4 b tv l (i+1) o:=⟨hpb9,hps,hi1,hpl,hpo⟩
   clear hT hpb9 hpb hps
   refine W ?_
   apply Ze (vs:=[(0,.int .i64 1),(1,.int .i64 (cur l i).num)]) rfl (Z6T _ _) rfl
   refine Z0 (Z1 (us:=ndC (.mk 1 (cur l i).num [] []) (.slice none 0 0)) rfl rfl rfl rfl (Zk (x:=(.mk 1 (cur l i).num [] [])) (Z0n [] w)) e2 rfl) ?_
   rintro _ w5 ⟨hT,e2'⟩
   refine W ?_
   refine Zu rfl rfl rfl e2' rfl ?_
   exact fin _ _ _ _ _ _ rfl rfl hp hS hT
 rw [if_neg c1] at h
 by_cases c2:(cur l i).kind=3
 · rw [if_pos c2] at h
   simp only [Xj] at h
   subst h
   repeat'(first|refine W1 ?_|omega|refine VG ?_ ?_<;>intro hg|refine VC ?_ ?_<;>intro hc)
   all_goals try exact absurd (by assumption) c1
   all_goals try exact absurd c2 (by assumption)
   obtain ⟨hpb,hps,hpi,hpl,hpo⟩:=id hp
   have hi1:=hL.end_of_kind hp.i_lt (by rw [c2];decide)
   refine W ?_
   refine Z0 (Zj (u:=.int .i64 ((i+1:Nat):Int)) rfl (by show some _=some _;simp) rfl rfl hpb (by simp)) ?_
   rintro _ w4 ⟨hT,hpb9⟩
   replace hps:=hps.ext (X':=[b]) hT (fun c hc=>hc) (fun c hc=>.inl hc)
   replace e2:=e2.ext hT (by simpa using n2)
   replace e3:=e3.ext hT (by simpa using n3)
   replace hS:=(hS.mono (S':=[b]) (by simp)).trans hT
   replace hp:Pd w4 b tv l (i+1) o:=⟨hpb9,hps,hi1,hpl,hpo⟩
   clear hT hpb9 hpb hps
   refine W ?_
   apply Ze (vs:=[(0,.int .i64 3),(1,.int .i64 (cur l i).num)]) rfl (Z6T _ _) rfl
   refine Z0 (Z1 (us:=ndC (.mk 3 (cur l i).num [] []) (.slice none 0 0)) rfl rfl rfl rfl (Zk (x:=(.mk 3 (cur l i).num [] [])) (Z0n [] w)) e2 rfl) ?_
   rintro _ w5 ⟨hT,e2'⟩
   refine W ?_
   refine Zu rfl rfl rfl e2' rfl ?_
   exact fin _ _ _ _ _ _ rfl rfl hp hS hT
 rw [if_neg c2] at h
 repeat'(first|refine W1 ?_|omega|refine VG ?_ ?_<;>intro hg|refine VC ?_ ?_<;>intro hc)
 all_goals try exact absurd (by assumption) c1
 all_goals try exact absurd (by assumption) c2
 refine CL rfl (Z9 rfl rfl) rfl (Z4b b tv l [116,114,117,101] i o _ hp (fun h=>hL.end_of hp.i_lt (by rw [h];decide))) ?_
 rintro _ w4 ⟨rfl,hp4,hT⟩
 replace e2:=e2.ext hT (by simpa using n2)
 replace e3:=e3.ext hT (by simpa using n3)
 replace hm:=ZS hm hb1 hT
 replace hS:=(hS.mono (S':=[b]) (by simp)).trans hT
 clear hT hp
 by_cases c3:(cur l i).text=[116,114,117,101]
 rw [if_pos c3] at h
 simp only [Xj] at h
 subst h
 rw [if_pos c3] at hp4
 rw [decide_eq_true c3]
 have hp:=hp4
 refine W ?_
 apply Ze (vs:=[(0,.int .i64 2),(1,.int .i64 1)]) rfl (Z6T _ _) rfl
 refine Z0 (Z1 (us:=ndC (.mk 2 1 [] []) (.slice none 0 0)) rfl rfl rfl rfl (Zk (x:=(.mk 2 1 [] [])) (Z0n [] w)) e2 rfl) ?_
 rintro _ w5 ⟨hT,e2'⟩
 refine W ?_
 refine Zu rfl rfl rfl e2' rfl ?_
 exact fin _ _ _ _ _ _ rfl rfl hp hS hT
 rw [if_neg c3] at h hp4
 rw [decide_eq_false c3]
 refine W ?_
 refine CL rfl (Z9 rfl rfl) rfl (Z4b b tv l [102,97,108,115,101] i o _ hp4 (fun h=>hL.end_of hp4.i_lt (by rw [h];decide))) ?_
 rintro _ w5 ⟨rfl,hp5,hT⟩
 replace e2:=e2.ext hT (by simpa using n2)
 replace e3:=e3.ext hT (by simpa using n3)
 replace hm:=ZS hm hb1 hT
 replace hS:=hS.trans hT
 clear hT hp4
 by_cases c4:(cur l i).text=[102,97,108,115,101]
 rw [if_pos c4] at h
 simp only [Xj] at h
 subst h
 rw [if_pos c4] at hp5
 rw [decide_eq_true c4]
 have hp:=hp5
 refine W ?_
 apply Ze (vs:=[(0,.int .i64 2)]) rfl (Zif _) rfl
 refine Z0 (Z1 (us:=ndC (.mk 2 0 [] []) (.slice none 0 0)) rfl rfl rfl rfl (Zk (x:=(.mk 2 0 [] [])) (Z0n [] w)) e2 rfl) ?_
 rintro _ w6 ⟨hT,e2'⟩
 refine W ?_
 refine Zu rfl rfl rfl e2' rfl ?_
 exact fin _ _ _ _ _ _ rfl rfl hp hS hT
 rw [if_neg c4] at h hp5
 rw [decide_eq_false c4]
 have hp:=hp5
 clear hp5
 by_cases c5:(cur l i).text=[40]
 · rw [if_pos c5] at h
   repeat'(first|refine W1 ?_|omega|refine VG ?_ ?_<;>intro hg|refine VC ?_ ?_<;>intro hc)
   all_goals try exact absurd c5 (by assumption)
   cases hO:JF l [40] i o with
   | err a c=>
     rw [hO] at h
     simp only [Xj] at h
     subst h
     refine ZB rfl (Z9 rfl rfl) (PC.falls (Z0s b tv l hL _ (by decide) i o _ hp) hO hS) rfl ?_
     intro wz hwz
     repeat'(first|refine Za ?_|refine Z8 ?_)
     refine Zx ?_
     exact PC.err hwz
   | ok t i1 o1=>
     obtain ⟨hoo,hoi,hopt⟩:=ZT hO
     subst o1;subst i1
     rw [hO] at h
     simp only at h
     refine CL rfl (Z9 rfl rfl) rfl (PC.goes (Z0s b tv l hL _ (by decide) i o _ hp) hO) ?_
     rintro _ wA ⟨rfl,hp2,hT⟩
     replace e2:=e2.ext hT (by simpa using n2)
     replace hm:=ZS hm hb1 hT
     replace hS:=hS.trans hT
     clear hT hp e3
     have l2:=e2.lt
     have hXa:∀ c∈b2 :: X,c<wA.heap.size:=fun c hc=>by
      rcases Xf.1 hc with rfl|hc
      exact l2
      have:=hX c hc;have:=hS.size;omega
     refine W ?_
     cases hE0:Zz l f (.expr 1) (i+1) (o+1) with
     | none=>rw [hE0] at h;simp at h
     | some r1=>
     rw [hE0] at h
     have hsub:=IH l hL m (.expr 1) (i+1) (o+1) r1 hE0 (b2 :: X) b tv wA hb1 (by simp [hbX]) hXa hm hp2 (by omega) (by omega)
     cases r1 with
     | err a c=>
       simp only [Xj] at h
       subst h
       refine ZB rfl (Z9 rfl rfl) (PC.falls hsub rfl hS) rfl ?_
       intro wz hwz
       repeat'(first|refine Za ?_|refine Z8 ?_)
       refine Zx ?_
       exact PC.err hwz
     | ok x iA oA=>
       have hoA:=Z0l l _ _ _ _ _ _ _ hE0
       simp only at h
       refine CL rfl (Z9 rfl rfl) rfl (PC.goes hsub rfl) ?_
       rintro _ wB ⟨⟨kx,rfl,hx⟩,hp,hT⟩
       replace e2:=e2.ext hT (by simpa using n2)
       replace hm:=ZS hm hb1 hT
       replace hS:=hS.trans hT
       clear hT hp2 hsub
       refine Z3 Z6 rfl ?_
       rintro _ wC ⟨b4,rfl,hb4,e4,hT⟩
       have n42:b4≠b2:=by have:=e2.lt;omega
       have n4:b4≠b:=by have:=hp.lt;omega
       refine Z0 (Z1 (us:=ndC x kx) rfl rfl rfl rfl (Zk hx) e4 rfl) ?_
       rintro _ wD ⟨hT2,e4'⟩
       replace hT:=hT.own hT2 (fun c hc=>.inr (by simp at hc;omega))
       clear hT2 e4
       replace hp:=hp.up hT;replace e2:=e2.up hT;replace hx:=hx.up hT
       replace hS:=hS.trans (hT.mono (by simp))
       clear hT
       refine W ?_
       cases hC:Z04 l [41] iA oA with
       | err a c=>
         rw [hC] at h
         simp only [Xj] at h
         subst h
         refine ZB rfl (Z9 rfl rfl) (PC.falls (Z1G b tv l hL _ (by decide) iA oA (by omega) _ hp) hC hS) rfl ?_
         intro wz hwz
         repeat'(first|refine Za ?_|refine Z8 ?_)
         refine Zx ?_
         exact PC.err hwz
       | ok u i3 o3=>
         rw [hC] at h
         simp only [Xj] at h
         subst h
         refine CL rfl (Z9 rfl rfl) rfl (PC.goes (Z1G b tv l hL _ (by decide) iA oA (by omega) _ hp) hC) ?_
         rintro _ wE ⟨rfl,hp7,hT⟩
         replace e2:=e2.ext hT (by simpa using n2)
         replace e4':=e4'.ext hT (by simpa using n4)
         replace hx:=hx.ext (X':=b2 :: X) hT (fun c hc=>by simp at hc;subst hc;simp [hbX]) (fun c hc=>.inl hc)
         replace hS:=hS.trans hT
         clear hT hp
         refine W ?_
         refine Z0 (Z1 (us:=ndC x kx) rfl rfl rfl rfl (Zk hx) e2 rfl) ?_
         rintro _ wz ⟨hT,e2'⟩
         refine W ?_
         refine Zu rfl rfl rfl e2' rfl ?_
         obtain ⟨g1,g2,g3,g4,g5⟩:=hp7
         have hSx:=hS.own hT (fun c hc=>by simp at hc;subst hc;exact .inr hb2w)
         refine PC.ok ⟨_,rfl,?_⟩ ⟨g1.ext hT (by simpa using n2.symm),hs0.ext hSx (fun c hc=>hc) (fun c hc=>.inl hc),g3,g4,g5⟩ hSx
         exact (hx.ext (X':=b2 :: X) hT (fun c hc=>by simp at hc;simp [hc]) (fun c hc=>.inl hc)).wk (fun c hc=>by simp [hc])
 rw [if_neg c5] at h
 by_cases c6:(cur l i).text=[105,102]
 · rw [if_pos c6] at h
   repeat'(first|refine W1 ?_|omega|refine VG ?_ ?_<;>intro hg|refine VC ?_ ?_<;>intro hc)
   all_goals try exact absurd (by assumption) c5
   all_goals try exact absurd c6 (by assumption)
   have l2:=e2.lt
   have hXa:∀ c∈b2 :: X,c<w5.heap.size:=fun c hc=>by
    rcases Xf.1 hc with rfl|hc
    exact l2
    have:=hX c hc;have:=hS.size;omega
   have hsub:=Zie f IH l hL m i o r h (b2 :: X) b tv _ hb1 (by simp [hbX]) hXa hm hp
   cases r with
   | err a c=>
     refine ZB rfl (Zp rfl) (PC.falls hsub rfl hS) rfl ?_
     intro wz hwz
     repeat'(first|refine Za ?_|refine Z8 ?_)
     refine Zx ?_
     exact PC.err hwz
   | ok x i3 o3=>
     refine CL rfl (Zp rfl) rfl (PC.goes hsub rfl) ?_
     rintro _ wE ⟨⟨kx,rfl,hx⟩,hp7,hT⟩
     replace e2:=e2.ext hT (by simpa using n2)
     replace hS:=hS.trans hT
     clear hT hp
     refine Z0 (Z1 (us:=ndC x kx) rfl rfl rfl rfl (Zk hx) e2 rfl) ?_
     rintro _ wz ⟨hT,e2'⟩
     refine W ?_
     refine Zu rfl rfl rfl e2' rfl ?_
     obtain ⟨g1,g2,g3,g4,g5⟩:=hp7
     have hSx:=hS.own hT (fun c hc=>by simp at hc;subst hc;exact .inr hb2w)
     refine PC.ok ⟨_,rfl,?_⟩ ⟨g1.ext hT (by simpa using n2.symm),hs0.ext hSx (fun c hc=>hc) (fun c hc=>.inl hc),g3,g4,g5⟩ hSx
     exact (hx.ext (X':=b2 :: X) hT (fun c hc=>by simp at hc;simp [hc]) (fun c hc=>.inl hc)).wk (fun c hc=>by simp [hc])
 rw [if_neg c6] at h
 repeat'(first|refine W1 ?_|omega|refine VG ?_ ?_<;>intro hg|refine VC ?_ ?_<;>intro hc)
 all_goals try exact absurd (by assumption) c5
 all_goals try exact absurd (by assumption) c6
 refine CL rfl (Z9 rfl rfl) rfl (Z3G Zd2 Z0S Ze3 (cur l i).text m _ hm Ze4 (hL.tl i) (fun h=>Zgh h (hL.sp i))) ?_
 rintro _ w6 ⟨rfl,hT⟩
 replace hp:=hp.up hT;replace e2:=e2.up hT;replace e3:=e3.up hT
 replace hm:=hT.cell (by simp) hm
 replace hS:=hS.trans (hT.mono (by simp))
 clear hT
 by_cases c7:(cur l i).text∈Z0S
 · rw [if_pos c7] at h
   rw [decide_eq_true c7]
   refine W ?_
   have l2:=e2.lt
   have hXa:∀ c∈b2 :: X,c<w6.heap.size:=fun c hc=>by
    rcases Xf.1 hc with rfl|hc
    exact l2
    have:=hX c hc;have:=hS.size;omega
   have hsub:=Zpe f IH l hL m i o r c7 h (b2 :: X) b tv _ hb1 (by simp [hbX]) hXa hm hp
   cases r with
   | err a c=>
     refine ZB rfl (Zp rfl) (PC.falls hsub rfl hS) rfl ?_
     intro wz hwz
     repeat'(first|refine Za ?_|refine Z8 ?_)
     refine Zx ?_
     exact PC.err hwz
   | ok x i3 o3=>
     refine CL rfl (Zp rfl) rfl (PC.goes hsub rfl) ?_
     rintro _ wE ⟨⟨kx,rfl,hx⟩,hp7,hT⟩
     replace e2:=e2.ext hT (by simpa using n2)
     replace hS:=hS.trans hT
     clear hT hp
     refine Z0 (Z1 (us:=ndC x kx) rfl rfl rfl rfl (Zk hx) e2 rfl) ?_
     rintro _ wz ⟨hT,e2'⟩
     refine W ?_
     refine Zu rfl rfl rfl e2' rfl ?_
     obtain ⟨g1,g2,g3,g4,g5⟩:=hp7
     have hSx:=hS.own hT (fun c hc=>by simp at hc;subst hc;exact .inr hb2w)
     refine PC.ok ⟨_,rfl,?_⟩ ⟨g1.ext hT (by simpa using n2.symm),hs0.ext hSx (fun c hc=>hc) (fun c hc=>.inl hc),g3,g4,g5⟩ hSx
     exact (hx.ext (X':=b2 :: X) hT (fun c hc=>by simp at hc;simp [hc]) (fun c hc=>.inl hc)).wk (fun c hc=>by simp [hc])
 rw [if_neg c7] at h
 rw [decide_eq_false c7]
 refine W ?_
 refine CL rfl (Z9 rfl rfl) rfl (Z3G Z9s Z0U Z7B (cur l i).text m _ hm Zc6 (hL.tl i) (fun h=>Ze1 h (hL.sp i))) ?_
 rintro _ w7 ⟨rfl,hT⟩
 replace hp:=hp.up hT;replace e2:=e2.up hT;replace e3:=e3.up hT
 replace hm:=hT.cell (by simp) hm
 replace hS:=hS.trans (hT.mono (by simp))
 clear hT
 by_cases c8:(cur l i).text∈Z0U
 rw [if_pos c8] at h
 simp only [Xj] at h
 subst h
 rw [decide_eq_true c8]
 obtain ⟨hpb,hps,hpi,hpl,hpo⟩:=id hp
 have hi1:=hL.end_of hp.i_lt (fun e=>Z7B (e ▸ c8))
 refine W ?_
 refine Z0 (Zj (u:=.int .i64 ((i+1:Nat):Int)) rfl (by show some _=some _;simp) rfl rfl hpb (by simp)) ?_
 rintro _ w8 ⟨hT,hpb9⟩
 replace hps:=hps.ext (X':=[b]) hT (fun c hc=>hc) (fun c hc=>.inl hc)
 replace e2:=e2.ext hT (by simpa using n2)
 replace e3:=e3.ext hT (by simpa using n3)
 replace hS:=hS.trans hT
 replace hp:Pd w8 b tv l (i+1) o:=⟨hpb9,hps,hi1,hpl,hpo⟩
 clear hT hpb9 hpb hps
 refine W ?_
 apply Ze (vs:=[(0,.int .i64 4),(2,str (cur l i).text)]) rfl (Zig _ _) rfl
 refine Z0 (Z1 (us:=ndC (.mk 4 0 (cur l i).text []) (.slice none 0 0)) rfl rfl rfl rfl (Zk (x:=(.mk 4 0 (cur l i).text [])) (Z0n [] w)) e2 rfl) ?_
 rintro _ w9 ⟨hT,e2'⟩
 refine W ?_
 refine Zu rfl rfl rfl e2' rfl ?_
 exact fin _ _ _ _ _ _ rfl rfl hp hS hT
 rw [if_neg c8] at h
 simp only [Xj] at h
 subst h
 rw [decide_eq_false c8]
 refine W ?_
 refine ZB rfl (Z9 rfl rfl) (Z6u b tv l i o 20 _ w hp hS) rfl ?_
 intro wz hwz
 repeat'(first|refine Za ?_|refine Z8 ?_)
 refine Zx ?_
 exact PC.fail hwz
theorem Zpg {l:List Tkn} {m:Int} {i o:Nat} {r:Out Nd} (IH:∀ (X:List Nat) (b:Nat) (tv:Value) (w:World),b≠2→b∈X→(∀ c∈X,c<w.heap.size)→w.cell? ⟨2,0,none⟩=some (.int .i64 m)→Pd w b tv l i o→
 Calls Tryz.prog 213 #[.pointer (some ⟨b,0,none⟩)] w (PC b w tv l r (fun x v w'=>NdV X w' v x))) (X:List Nat) (b:Nat) (tv:Value) (w:World) (hb1:b≠2) (hbX:b∈X) (hX:∀ c∈X,c<w.heap.size) (hm:w.cell? ⟨2,0,none⟩=some (.int .i64 m)) (hp:Pd w b tv l i o) :
 Calls Tryz.prog 120 #[.pointer (some ⟨b,0,none⟩),.int .i64 ((8:Nat):Int)] w (PC b w tv l r (fun x v w'=>NdV X w' v x)):=by
 have hs0:=hp.2.1
 refine cW2 98 Tryz.func120 ?_
 refine W ?_
 refine Z3 Z6 rfl ?_
 rintro _ w1 ⟨b4,rfl,hb4,e4,hS⟩
 have n4:b4≠b:=by have:=hp.lt;omega
 have hb4w:w.heap.size≤b4:=hb4
 replace hm:=hS.cell (by simp) hm
 replace hp:=hp.up hS
 have l4:=e4.lt
 have hX1:∀ c∈b4 :: X,c<w1.heap.size:=fun c hc=>by
  rcases Xf.1 hc with rfl|hc
  exact l4
  have:=hX c hc;have:=hS.size;omega
 repeat'(first|refine W1 ?_|omega|refine VG ?_ ?_<;>intro hg|refine VC ?_ ?_<;>intro hc)
 have hsub:=IH (b4 :: X) b tv _ hb1 (by simp [hbX]) hX1 hm hp
 cases r with
 | err a c=>
   refine ZB rfl (Zp rfl) (PC.falls hsub rfl (hS.mono (by simp))) rfl ?_
   intro wz hwz
   repeat'(first|refine Za ?_|refine Z8 ?_)
   refine Zx ?_
   exact PC.err hwz
 | ok x i3 o3=>
   refine CL rfl (Zp rfl) rfl (PC.goes hsub rfl) ?_
   rintro _ wE ⟨⟨kx,rfl,hx⟩,hp7,hT⟩
   replace e4:=e4.ext hT (by simpa using n4)
   replace hS:=(hS.mono (S':=[b]) (by simp)).trans hT
   clear hT hp
   refine Z0 (Z1 (us:=ndC x kx) rfl rfl rfl rfl (Zk hx) e4 rfl) ?_
   rintro _ wz ⟨hT,e4'⟩
   refine W ?_
   refine Zu rfl rfl rfl e4' rfl ?_
   obtain ⟨g1,g2,g3,g4,g5⟩:=hp7
   have hSx:=hS.own hT (fun c hc=>by simp at hc;subst hc;exact .inr hb4w)
   refine PC.ok ⟨_,rfl,?_⟩ ⟨g1.ext hT (by simpa using n4.symm),hs0.ext hSx (fun c hc=>hc) (fun c hc=>.inl hc),g3,g4,g5⟩ hSx
   exact (hx.ext (X':=b4 :: X) hT (fun c hc=>by simp at hc;simp [hc]) (fun c hc=>.inl hc)).wk (fun c hc=>by simp [hc])
theorem Ze5:∀ f,Z8I f:=by
 intro f
 induction f using Nat.strongRecOn with
 | _ f ih=>
   intro l hL m c i o r h X b tv w hb1 hbX hX hm hp
   cases f with
   | zero=>simp [Zz] at h
   | succ f=>
     have IH:=ih f (Ya5 f)
     cases c with
     | loop k x=>trivial
     | prim=>exact Zpf f IH l hL m i o r h X b tv w hb1 hbX hX hm hp
     | expr k=>
       intro hk1 hk8
       rw [Zz] at h
       split at h
       rename_i hsp
       exact Zpc f IH l hL m k i o r hk8 hsp h X b tv w hb1 hbX hX hm hp
       rename_i hsp
       split at h
       rename_i h8
       subst h8
       exact Zpg (IH l hL m .prim i o r h) X b tv w hb1 hbX hX hm hp
       exact Zpd f (fun f' hf'=>ih f' (by omega)) l hL m k i o r hk1 (by omega) hsp h X b tv w hb1 hbX hX hm hp
end Go.Proofs.YtjdjdoefppebkaaGreatDoor
namespace Go.Eng
open Go Go.RowKit Go.Proofs
section
variable {P:Program} {n:Nat} {Q:Exit→Act→World→Prop} {e:Env} {w:World} {ops:Array Oper} {rest:List Oper} {ty:TypeId} {pos:String} {af:Array Edge}
theorem ZaS {d:Option Nat} {g:Option (Nat×Bool)} {f:Nat} {fn:Func} {xs:Array Operand} {ts:Array TypeId} {vs bd cap us:Array Value} {G:Value→World→Prop} {c:Operand} [hf:Fun P f fn] (hc:ev e c=some (.func (.func f) bd cap))
 (hv:∀ a,Has n e a→xs.map a.eval=vs) (hu:bd++vs++cap=us) (h:Calls P f us w (Ret G)) :
 OE P n ⟨d,.call { callee:=.value c,args:=xs,argTypes:=ts },ty,pos,af,g⟩ e w G:=
 ⟨fun a ha Q => by
   have he:(execOp a.eval ⟨d,.call { callee:=.value c,args:=xs,argTypes:=ts },ty,pos,af,g⟩).run P w=.ok (.enter f us) w:=by
    simp only [execOp,resolve,ha.ev hc,Deferred.ofValue,hv a ha]
    simp [invoke]
    rw [← Array.append_assoc,hu]
    exact hf.enters us w
   unfold Oper.wp
   rw [he]
   simp only [Oper.upon]
   refine h.mono ?_
   rintro r w' ⟨v,rfl,hg⟩
   exact ⟨v,rfl,hg⟩⟩
theorem Z8L {d:Nat} {f:Nat} {fn:Func} {xs:Array Operand} {ts:Array TypeId} {vs bd cap us:Array Value} {c:Operand} {ch:List PanicEntry} {F:World→Prop} [hf:Fun P f fn]
 (hc:ev e c=some (.func (.func f) bd cap)) (hv:∀ a,Has n e a→xs.map a.eval=vs) (hu:bd++vs++cap=us) (h:Calls P f us w (fun e w'=>e=.panicked ch∧F w')) (hd:Nat.blt d n=true) (k:∀ w',F w'→WQ n Q (.panic ch) [] w') :
 WL P n ops Q (⟨some d,.call { callee:=.value c,args:=xs,argTypes:=ts },ty,pos,af,none⟩ :: rest) e w:=
 Z9j (G:=fun _ _=>False) (F:=fun ch' w'=>ch'=ch∧F w') (ZdO hc hv hu (h.mono fun e w' ⟨h1,h2⟩=>by rw [h1];exact .pan ⟨rfl,h2⟩)) hd (fun ch' w' ⟨h1,h2⟩=>by subst h1;exact Z8u (k w' h2)) (fun _ _ h=>h.elim)
theorem Z10 {d:Option Nat} {g:Option (Nat×Bool)} {f:Nat} {x:Operand} {v:Value} (hx:ev e x=some v):PR P n ⟨d,.makeFunc (.func f) #[x] #[],ty,pos,af,g⟩ e w (.func (.func f) #[v] #[]):=
 ⟨fun a ha=>by simp [execOp,Instr.makeFunc,ha.ev hx]⟩
end
end Go.Eng
namespace Go.Proofs.YtjdjdoefppebkaaGreatDoor
open Go Go.Eng Go.RowKit Go.Proofs
def _root_.Go.Eng.RuleM.rul (r:RuleM):Rul:=⟨r.name,r.frm,r.on,r.cond,r.due,r.unl,r.els⟩
instance:Zf Rul where
 k:=13
 rep:=fun X w r cs=>∃ ki kd,cs=rlC r ki kd∧SlV X w ki r.cnd.kids∧SlV X w kd r.due.kids
 len:=by rintro X w r cs ⟨ki,kd,rfl,_⟩;rfl
 one:=by
  rintro X w r cs ⟨ki,kd,rfl,h1,h2⟩ c hc
  have e1:=h1.one
  have e2:=h2.one
  simp only [rlC,Xf,Xk,or_false] at hc
  rcases hc with rfl|rfl|rfl|rfl|rfl|rfl|rfl|rfl|rfl|rfl|rfl|rfl|rfl<;>first|rfl|exact e1|exact e2
 ext:=by
  rintro X S X' w w' r cs ⟨ki,kd,rfl,h1,h2⟩ hS g1 g2
  exact ⟨ki,kd,rfl,h1.ext hS g1 g2,h2.ext hS g1 g2⟩
theorem Zgk (r:Rul) {X Y:List Nat} {w w':World} {ki kd:Value} (h1:SlV X w ki r.cnd.kids) (h2:SlV Y w' kd r.due.kids):∀ c∈rlC r ki kd,c.oneCell'=true:=by
 intro c hc
 have e1:=h1.one
 have e2:=h2.one
 simp only [rlC,Xf,Xk,or_false] at hc
 rcases hc with rfl|rfl|rfl|rfl|rfl|rfl|rfl|rfl|rfl|rfl|rfl|rfl|rfl<;>first|rfl|exact e1|exact e2
theorem Z8M (X:List Nat) (b:Nat) (tv:Value) (l:List Tkn) (hL:Z2A l) (m:Int) (i o:Nat) (w:World) (hb1:b≠2) (hbX:b∈X) (hX:∀ c∈X,c<w.heap.size) (hm:w.cell? ⟨2,0,none⟩=some (.int .i64 m)) (hp:Pd w b tv l i o) :
 Calls Tryz.prog 64 #[.pointer (some ⟨b,0,none⟩)] w (PC b w tv l (Z0u l i o) (fun x v w'=>NdV X w' v x)):=by
 have hs0:=hp.2.1
 have hE:=Z5U l i o
 generalize Z0u l i o=r at *
 refine cW1 5 Tryz.func64 ?_
 refine W ?_
 refine Z3 Z6 rfl ?_
 rintro _ w1 ⟨b2,rfl,hb2,e2,hS⟩
 have n2:b2≠b:=by have:=hp.lt;omega
 have hb2w:w.heap.size≤b2:=hb2
 replace hm:=hS.cell (by simp) hm
 replace hp:=hp.up hS
 have l2:=e2.lt
 have hX1:∀ c∈b2 :: X,c<w1.heap.size:=fun c hc=>by
  rcases Xf.1 hc with rfl|hc
  exact l2
  have:=hX c hc;have:=hS.size;omega
 refine W ?_
 have hsub:=Ze5 _ l hL m (.expr 1) i o r hE (b2 :: X) b tv _ hb1 (by simp [hbX]) hX1 hm hp (by omega) (by omega)
 cases r with
 | err a c=>
   refine ZB rfl (Z9 rfl rfl) (PC.falls hsub rfl (hS.mono (by simp))) rfl ?_
   intro wz hwz
   repeat'(first|refine Za ?_|refine Z8 ?_)
   refine Zx ?_
   exact PC.err hwz
 | ok x i3 o3=>
   refine CL rfl (Z9 rfl rfl) rfl (PC.goes hsub rfl) ?_
   rintro _ wE ⟨⟨kx,rfl,hx⟩,hp7,hT⟩
   replace e2:=e2.ext hT (by simpa using n2)
   replace hS:=(hS.mono (S':=[b]) (by simp)).trans hT
   clear hT hp
   refine Z0 (Z1 (us:=ndC x kx) rfl rfl rfl rfl (Zk hx) e2 rfl) ?_
   rintro _ wz ⟨hT,e2'⟩
   refine W ?_
   refine Zu rfl rfl rfl e2' rfl ?_
   obtain ⟨g1,g2,g3,g4,g5⟩:=hp7
   have hSx:=hS.own hT (fun c hc=>by simp at hc;subst hc;exact .inr hb2w)
   refine PC.ok ⟨_,rfl,?_⟩ ⟨g1.ext hT (by simpa using n2.symm),hs0.ext hSx (fun c hc=>hc) (fun c hc=>.inl hc),g3,g4,g5⟩ hSx
   exact (hx.ext (X':=b2 :: X) hT (fun c hc=>by simp at hc;simp [hc]) (fun c hc=>.inl hc)).wk (fun c hc=>by simp [hc])
theorem Z2d (b:Nat) (tv:Value) (l:List Tkn) (hL:Z2A l) (wd:Str) (hwd:wd≠[]) (m:Int) (i o:Nat) (w:World) (hb1:b≠2) (hm:w.cell? ⟨2,0,none⟩=some (.int .i64 m)) (hp:Pd w b tv l i o) :
 Calls Tryz.prog 169 #[.pointer (some ⟨b,0,none⟩),str wd,.func (.func 166) #[.pointer (some ⟨b,0,none⟩)] #[]] w (PC b w tv l (Z0J l wd [] (Z1X l) i o) (fun s v _=>v=str s)):=by
 unfold Z0J
 refine cW3 19 Tryz.func169 ?_
 refine W ?_
 refine CL rfl (Z9 rfl rfl) rfl (Z4b b tv l wd i o _ hp (fun h=>hL.end_of hp.i_lt (by rw [h];exact hwd))) ?_
 rintro _ w4 ⟨rfl,hp4,hS⟩
 replace hm:=ZS hm hb1 hS
 by_cases c3:(cur l i).text=wd
 rw [if_pos c3] at hp4 ⊢
 rw [decide_eq_true c3]
 refine W ?_
 rcases hN:Z1X l (i+1) o with ⟨a,c⟩|⟨s,i1,o1⟩
 refine Z8L rfl Z4O rfl (PC.falls (Z5u b tv l hL _ _ m _ hm hp4) hN hS) rfl ?_
 intro wz hwz
 focus repeat'(first|refine Za ?_|refine Z8 ?_)
 refine Zx ?_
 exact PC.err hwz
 refine Z3 (ZaS rfl Z4O rfl (PC.goes (Z5u b tv l hL _ _ m _ hm hp4) hN)) rfl ?_
 rintro _ w5 ⟨rfl,hp5,hT⟩
 replace hS:=hS.trans hT
 refine W ?_
 simp only [Out.bind]
 rcases hU:Jy l [59] i1 o1 with ⟨a,c⟩|⟨u,i2,o2⟩
 refine ZB rfl (Z9 rfl rfl) (PC.falls (Jc b tv l hL _ (by decide) i1 o1 _ hp5) hU hS) rfl ?_
 intro wz hwz
 focus repeat'(first|refine Za ?_|refine Z8 ?_)
 refine Zx ?_
 exact PC.err hwz
 refine CL rfl (Z9 rfl rfl) rfl (PC.goes (Jc b tv l hL _ (by decide) i1 o1 _ hp5) hU) ?_
 rintro _ w6 ⟨rfl,hp6,hT⟩
 replace hS:=hS.trans hT
 refine W ?_
 refine WR ?_
 exact PC.ok rfl hp6 hS
 rw [if_neg c3] at hp4 ⊢
 rw [decide_eq_false c3]
 refine W ?_
 refine WR ?_
 exact PC.ok rfl hp4 hS
theorem Z4y (X:List Nat) (b:Nat) (tv:Value) (l:List Tkn) (hL:Z2A l) (wd:Str) (hwd:wd≠[]) (m:Int) (i o:Nat) (w:World) (hb1:b≠2) (hbX:b∈X) (hX:∀ c∈X,c<w.heap.size) (hm:w.cell? ⟨2,0,none⟩=some (.int .i64 m)) (hp:Pd w b tv l i o) :
 Calls Tryz.prog 170 #[.pointer (some ⟨b,0,none⟩),str wd,.func (.func 64) #[.pointer (some ⟨b,0,none⟩)] #[]] w (PC b w tv l (Z0J l wd Jz (Z0u l) i o) (fun x v w'=>NdV X w' v x)):=by
 have hs0:=hp.2.1
 unfold Z0J
 refine cW3 19 Tryz.func170 ?_
 refine W ?_
 refine Z3 Z6 rfl ?_
 rintro _ w1 ⟨b6,rfl,hb6,e6,hS⟩
 have n6:b6≠b:=by have:=hp.lt;omega
 have hb6w:w.heap.size≤b6:=hb6
 refine W ?_
 refine Z3 Z6 rfl ?_
 rintro _ w2 ⟨b7,rfl,hb7,e7,hT⟩
 have n7:b7≠b:=by have:=hp.lt;have:=hS.size;omega
 have n76:b7≠b6:=by have:=e6.lt;omega
 replace e6:=e6.up hT
 replace hS:=hS.trans hT
 clear hT
 replace hm:=hS.cell (by simp) hm
 replace hp:=hp.up hS
 refine W ?_
 refine CL rfl (Z9 rfl rfl) rfl (Z4b b tv l wd i o _ hp (fun h=>hL.end_of hp.i_lt (by rw [h];exact hwd))) ?_
 rintro _ w4 ⟨rfl,hp4,hT⟩
 replace hm:=ZS hm hb1 hT
 replace e6:=e6.ext hT (by simpa using n6)
 replace e7:=e7.ext hT (by simpa using n7)
 replace hS:=(hS.mono (S':=[b]) (by simp)).trans hT
 clear hT hp
 by_cases c3:(cur l i).text=wd
 rw [if_pos c3] at hp4 ⊢
 rw [decide_eq_true c3]
 refine W ?_
 have l6:=e6.lt
 have hX4:∀ c∈b6 :: X,c<w4.heap.size:=fun c hc=>by
  rcases Xf.1 hc with rfl|hc
  exact l6
  have:=hX c hc;have:=hS.size;omega
 have hsub:=Z8M (b6 :: X) b tv l hL m (i+1) o w4 hb1 (by simp [hbX]) hX4 hm hp4
 rcases hN:Z0u l (i+1) o with ⟨a,c⟩|⟨x,i1,o1⟩
 refine Z8L rfl Z4O rfl (PC.falls hsub hN hS) rfl ?_
 intro wz hwz
 focus repeat'(first|refine Za ?_|refine Z8 ?_)
 refine Zx ?_
 exact PC.err hwz
 refine Z3 (ZaS rfl Z4O rfl (PC.goes hsub hN)) rfl ?_
 rintro _ w5 ⟨⟨kx,rfl,hx⟩,hp5,hT⟩
 replace e6:=e6.ext hT (by simpa using n6)
 replace hS:=hS.trans hT
 have hX5:∀ c∈b6 :: X,c<w5.heap.size:=fun c hc=>Xa (hX4 c hc) hT.size
 clear hT hp4 hX4 l6 hsub
 refine Z3 Z6 rfl ?_
 rintro _ w6 ⟨b8,rfl,hb8,e8,hT⟩
 have n86:b8≠b6:=by have:=e6.lt;omega
 have n8:b8≠b:=by have:=hp5.lt;omega
 refine Z0 (Z1 (us:=ndC x kx) rfl rfl rfl rfl (Zk hx) e8 rfl) ?_
 rintro _ w7 ⟨hT2,e8'⟩
 replace hT:=hT.own hT2 (fun c hc=>.inr (by simp at hc;omega))
 clear hT2 e8
 replace hp5:=hp5.up hT;replace e6:=e6.up hT;replace hx:=hx.up hT
 replace hS:=hS.trans (hT.mono (by simp))
 clear hT
 refine W ?_
 simp only [Out.bind]
 rcases hU:Jy l [59] i1 o1 with ⟨a,c⟩|⟨u,i2,o2⟩
 refine ZB rfl (Z9 rfl rfl) (PC.falls (Jc b tv l hL _ (by decide) i1 o1 _ hp5) hU hS) rfl ?_
 intro wz hwz
 focus repeat'(first|refine Za ?_|refine Z8 ?_)
 refine Zx ?_
 exact PC.err hwz
 refine CL rfl (Z9 rfl rfl) rfl (PC.goes (Jc b tv l hL _ (by decide) i1 o1 _ hp5) hU) ?_
 rintro _ w8 ⟨rfl,hp6,hT⟩
 replace e6:=e6.ext hT (by simpa using n6)
 replace e8':=e8'.ext hT (by simpa using n8)
 replace hx:=hx.ext (X':=b6 :: X) hT (fun c hc=>by simp at hc;subst hc;simp [hbX]) (fun c hc=>.inl hc)
 replace hS:=hS.trans hT
 clear hT hp5
 refine W ?_
 refine Z0 (Z1 (us:=ndC x kx) rfl rfl rfl rfl (Zk hx) e6 rfl) ?_
 rintro _ wz ⟨hT,e6'⟩
 refine W ?_
 refine Zu rfl rfl rfl e6' rfl ?_
 obtain ⟨g1,g2,g3,g4,g5⟩:=hp6
 have hSx:=hS.own hT (fun c hc=>by simp at hc;subst hc;exact .inr hb6w)
 refine PC.ok ⟨_,rfl,?_⟩ ⟨g1.ext hT (by simpa using n6.symm),hs0.ext hSx (fun c hc=>hc) (fun c hc=>.inl hc),g3,g4,g5⟩ hSx
 exact (hx.ext (X':=b6 :: X) hT (fun c hc=>by simp at hc;simp [hc]) (fun c hc=>.inl hc)).wk (fun c hc=>by simp [hc])
 rw [if_neg c3] at hp4 ⊢
 rw [decide_eq_false c3]
 refine W ?_
 refine Z0 (Z1 (us:=ndC Jz (.slice none 0 0)) rfl rfl rfl rfl (Zk (x:=Jz) (Z0n [] w)) e6 rfl) ?_
 rintro _ wz ⟨hT,e6'⟩
 refine W ?_
 refine Zu rfl rfl rfl e6' rfl ?_
 obtain ⟨g1,g2,g3,g4,g5⟩:=hp4
 have hSx:=hS.own hT (fun c hc=>by simp at hc;subst hc;exact .inr hb6w)
 refine PC.ok ⟨_,rfl,?_⟩ ⟨g1.ext hT (by simpa using n6.symm),hs0.ext hSx (fun c hc=>hc) (fun c hc=>.inl hc),g3,g4,g5⟩ hSx
 exact Z0n _ _
theorem Zih (s:Str) (w:World):(Instr.build 97 #[(0,str s)]).run Tryz.prog w=.ok (.agg (rlC ⟨s,0,[],Jz,Jz,[],[]⟩ (.slice none 0 0) (.slice none 0 0)).toArray) w:=by kernel_rfl
set_option maxHeartbeats 4000000 in
theorem Zgl (X:List Nat) (b:Nat) (tv:Value) (l:List Tkn) (hL:Z2A l) (m:Int) (i o:Nat) (w:World) (hb1:b≠2) (hbX:b∈X) (hX:∀ c∈X,c<w.heap.size) (hm:w.cell? ⟨2,0,none⟩=some (.int .i64 m)) (hp:Pd w b tv l i o) :
 Calls Tryz.prog 86 #[.pointer (some ⟨b,0,none⟩)] w (PC b w tv l (Z6s l i o) (fun r v w'=>ZhT X w' v r.rul)):=by
 have hs0:=hp.2.1
 unfold Z6s
 refine cW1 61 Tryz.func86 ?_
 refine W ?_
 refine Z3 Z6 rfl ?_
 rintro _ w1 ⟨b2,rfl,hb2,e2,hS⟩
 have n2:b2≠b:=by have:=hp.lt;omega
 have hb2w:w.heap.size≤b2:=hb2
 replace hm:=hS.cell (by simp) hm
 replace hp:=hp.up hS
 replace hS:=hS.mono (S':=[b]) (by simp)
 refine W ?_
 rcases hU:Jy l [114,117,108,101] i o with ⟨a,c⟩|⟨u1,i1,o1⟩
 refine ZB rfl (Z9 rfl rfl) (PC.falls (Jc b tv l hL [114,117,108,101] (by decide) i o _ hp) hU hS) rfl ?_
 intro wz hwz
 focus repeat'(first|refine Za ?_|refine Z8 ?_)
 refine Zx ?_
 exact PC.err hwz
 refine CL rfl (Z9 rfl rfl) rfl (PC.goes (Jc b tv l hL [114,117,108,101] (by decide) i o _ hp) hU) ?_
 rintro _ wn1 ⟨rfl,hpn,hT⟩
 replace hm:=ZS hm hb1 hT
 replace e2:=e2.ext hT (by simpa using n2)
 replace hS:=hS.trans hT
 clear hT hp
 have hp:=hpn
 clear hpn hU
 refine W ?_
 simp only [Out.bind]
 rcases hU:Z1X l i1 o1 with ⟨a,c⟩|⟨u2,i2,o2⟩
 refine ZB rfl (Zp rfl) (PC.falls (Z5u b tv l hL i1 o1 m _ hm hp) hU hS) rfl ?_
 intro wz hwz
 focus repeat'(first|refine Za ?_|refine Z8 ?_)
 refine Zx ?_
 exact PC.err hwz
 refine CL rfl (Zp rfl) rfl (PC.goes (Z5u b tv l hL i1 o1 m _ hm hp) hU) ?_
 rintro _ wn2 ⟨rfl,hpn,hT⟩
 replace hm:=ZS hm hb1 hT
 replace e2:=e2.ext hT (by simpa using n2)
 replace hS:=hS.trans hT
 clear hT hp
 have hp:=hpn
 clear hpn hU
 apply Ze (vs:=[(0,str u2)]) rfl (Zih _) rfl
 refine Z3 Z6 rfl ?_
 rintro _ wa ⟨b3,rfl,hb3,e3,hT⟩
 have n32:b3≠b2:=by have:=e2.lt;omega
 have n3:b3≠b:=by have:=hp.lt;omega
 have n31:b3≠2:=by have:=block_lt_of_cell hm;simp at this;omega
 have hb3w:w.heap.size≤b3:=Xh hS.size hb3
 refine Z0 (Z1 (us:=rlC ⟨u2,0,[],Jz,Jz,[],[]⟩ (.slice none 0 0) (.slice none 0 0)) rfl rfl rfl rfl (Zgk ⟨u2,0,[],Jz,Jz,[],[]⟩ (Z0n [] w) (Z0n [] w)) e3 rfl) ?_
 rintro _ wb ⟨hT2,e3'⟩
 replace hT:=hT.own hT2 (fun c hc=>.inr (by simp at hc;omega))
 clear hT2 e3
 have e3:=e3'
 clear e3'
 replace hp:=hp.up hT;replace e2:=e2.up hT
 replace hm:=hT.cell (by simp) hm
 replace hS:=hS.trans (hT.mono (by simp))
 clear hT
 have hXs:∀ c∈b3 :: b2 :: X,c<wb.heap.size:=fun c hc=>by
  rcases Xf.1 hc with rfl|hc
  exact e3.lt
  rcases Xf.1 hc with rfl|hc
  exact e2.lt
  have:=hX c hc;have:=hS.size;omega
 have hci:SlV (α:=Nd) (b3 :: b2 :: X) wb (.slice none 0 0) Jz.kids:=Z0n _ _
 have hdi:SlV (α:=Nd) (b3 :: b2 :: X) wb (.slice none 0 0) Jz.kids:=Z0n _ _
 refine W ?_
 simp only
 rcases hU:Jy l [102,114,111,109] i2 o2 with ⟨a,c⟩|⟨u3,i3,o3⟩
 refine ZB rfl (Z9 rfl rfl) (PC.falls (Jc b tv l hL [102,114,111,109] (by decide) i2 o2 _ hp) hU hS) rfl ?_
 intro wz hwz
 focus repeat'(first|refine Za ?_|refine Z8 ?_)
 refine Zx ?_
 exact PC.err hwz
 refine CL rfl (Z9 rfl rfl) rfl (PC.goes (Jc b tv l hL [102,114,111,109] (by decide) i2 o2 _ hp) hU) ?_
 rintro _ wn3 ⟨rfl,hpn,hT⟩
 replace hm:=ZS hm hb1 hT
 replace e2:=e2.ext hT (by simpa using n2)
 replace e3:=e3.ext hT (by simpa using n3)
 replace hci:=hci.ext (X':=b3 :: b2 :: X) hT (fun c hc=>by simp at hc;subst hc;simp [hbX]) (fun c hc=>.inl hc)
 replace hdi:=hdi.ext (X':=b3 :: b2 :: X) hT (fun c hc=>by simp at hc;subst hc;simp [hbX]) (fun c hc=>.inl hc)
 replace hS:=hS.trans hT
 replace hXs:=fun c hc=>Xa (hXs c hc) hT.size
 clear hT hp
 have hp:=hpn
 clear hpn hU
 refine W ?_
 simp only
 rcases hU:Z0H l 3 i3 o3 with ⟨a,c⟩|⟨u4,i4,o4⟩
 refine ZB rfl (Z9 rfl rfl) (PC.falls (Z2c b tv l hL 3 (by decide) i3 o3 _ hp) hU hS) rfl ?_
 intro wz hwz
 focus repeat'(first|refine Za ?_|refine Z8 ?_)
 refine Zx ?_
 exact PC.err hwz
 refine CL rfl (Z9 rfl rfl) rfl (PC.goes (Z2c b tv l hL 3 (by decide) i3 o3 _ hp) hU) ?_
 rintro _ wn4 ⟨rfl,hpn,hT⟩
 replace hm:=ZS hm hb1 hT
 replace e2:=e2.ext hT (by simpa using n2)
 replace e3:=e3.ext hT (by simpa using n3)
 replace hci:=hci.ext (X':=b3 :: b2 :: X) hT (fun c hc=>by simp at hc;subst hc;simp [hbX]) (fun c hc=>.inl hc)
 replace hdi:=hdi.ext (X':=b3 :: b2 :: X) hT (fun c hc=>by simp at hc;subst hc;simp [hbX]) (fun c hc=>.inl hc)
 replace hS:=hS.trans hT
 replace hXs:=fun c hc=>Xa (hXs c hc) hT.size
 clear hT hp
 have hp:=hpn
 clear hpn hU
 refine Z7 (Z7m rfl (ZmO _)) rfl ?_
 refine W ?_
 refine Z0 (Zj (u:=.int .i64 u4.num) rfl rfl rfl rfl e3 (by simp)) ?_
 rintro _ ws4 ⟨hT,e3'⟩
 replace e3:Blk ws4 b3 97 (rlC ⟨u2,u4.num,[],Jz,Jz,[],[]⟩ (.slice none 0 0) (.slice none 0 0)):=e3'
 clear e3'
 replace e2:=e2.ext hT (by simpa using n32.symm)
 replace hm:=hT.cell (by simpa using n31.symm) hm
 replace hS:=hS.own hT (fun c hc=>by simp at hc;subst hc;exact .inr hb3w)
 replace hp:Pd ws4 b tv l i4 o4:=by
  obtain ⟨g1,g2,g3,g4,g5⟩:=hp
  exact ⟨g1.ext hT (by simpa using n3.symm),hs0.ext hS (fun c hc=>hc) (fun c hc=>.inl hc),g3,g4,g5⟩
 replace hXs:=fun c hc=>Xa (hXs c hc) hT.size
 replace hci:=hci.ext (X':=b3 :: b2 :: X) hT (fun c hc=>by simp at hc;simp [hc]) (fun c hc=>.inl hc)
 replace hdi:=hdi.ext (X':=b3 :: b2 :: X) hT (fun c hc=>by simp at hc;simp [hc]) (fun c hc=>.inl hc)
 refine W ?_
 simp only
 rcases hU:Jy l [123] i4 o4 with ⟨a,c⟩|⟨u5,i5,o5⟩
 refine ZB rfl (Z9 rfl rfl) (PC.falls (Jc b tv l hL [123] (by decide) i4 o4 _ hp) hU hS) rfl ?_
 intro wz hwz
 focus repeat'(first|refine Za ?_|refine Z8 ?_)
 refine Zx ?_
 exact PC.err hwz
 refine CL rfl (Z9 rfl rfl) rfl (PC.goes (Jc b tv l hL [123] (by decide) i4 o4 _ hp) hU) ?_
 rintro _ wn5 ⟨rfl,hpn,hT⟩
 replace hm:=ZS hm hb1 hT
 replace e2:=e2.ext hT (by simpa using n2)
 replace e3:=e3.ext hT (by simpa using n3)
 replace hci:=hci.ext (X':=b3 :: b2 :: X) hT (fun c hc=>by simp at hc;subst hc;simp [hbX]) (fun c hc=>.inl hc)
 replace hdi:=hdi.ext (X':=b3 :: b2 :: X) hT (fun c hc=>by simp at hc;subst hc;simp [hbX]) (fun c hc=>.inl hc)
 replace hS:=hS.trans hT
 replace hXs:=fun c hc=>Xa (hXs c hc) hT.size
 clear hT hp
 have hp:=hpn
 clear hpn hU
 refine W ?_
 refine CL rfl (Zp rfl) rfl (JO b tv l i5 o5 _ hp) ?_
 rintro _ wx5 ⟨rfl,hT⟩
 replace hp:=hp.up hT;replace e2:=e2.up hT;replace e3:=e3.up hT;replace hci:=hci.up hT;replace hdi:=hdi.up hT
 replace hm:=hT.cell (by simp) hm
 replace hS:=hS.trans (hT.mono (by simp))
 replace hXs:=fun c hc=>Xa (hXs c hc) hT.size
 clear hT
 simp only
 by_cases hon:(cur l i5).text=[111,110]
 rotate_left
 · rw [if_neg hon]
   repeat'(first|refine W1 ?_|omega|refine VG ?_ ?_<;>intro hg|refine VC ?_ ?_<;>intro hc)
   refine ZB rfl (Z9 rfl rfl) (Z6u b tv l i5 o5 20 _ w hp hS) rfl ?_
   intro wz hwz
   focus repeat'(first|refine Za ?_|refine Z8 ?_)
   refine Zx ?_
   exact PC.fail hwz
   all_goals exact absurd hon (by assumption)
 rw [if_pos hon]
 repeat'(first|refine W1 ?_|omega|refine VG ?_ ?_<;>intro hg|refine VC ?_ ?_<;>intro hc)
 exact absurd hon (by assumption)
 refine Z7 (Z10 rfl) rfl ?_
 rcases hU:Z0J l [111,110] [] (Z1X l) i5 o5 with ⟨a,c⟩|⟨u6,i6,o6⟩
 refine ZB rfl (ZH rfl rfl rfl) (PC.falls (Z2d b tv l hL [111,110] (by decide) m i5 o5 _ hb1 hm hp) hU hS) rfl ?_
 intro wz hwz
 focus repeat'(first|refine Za ?_|refine Z8 ?_)
 refine Zx ?_
 exact PC.err hwz
 refine CL rfl (ZH rfl rfl rfl) rfl (PC.goes (Z2d b tv l hL [111,110] (by decide) m i5 o5 _ hb1 hm hp) hU) ?_
 rintro _ wn6 ⟨rfl,hpn,hT⟩
 replace hm:=ZS hm hb1 hT
 replace e2:=e2.ext hT (by simpa using n2)
 replace e3:=e3.ext hT (by simpa using n3)
 replace hci:=hci.ext (X':=b3 :: b2 :: X) hT (fun c hc=>by simp at hc;subst hc;simp [hbX]) (fun c hc=>.inl hc)
 replace hdi:=hdi.ext (X':=b3 :: b2 :: X) hT (fun c hc=>by simp at hc;subst hc;simp [hbX]) (fun c hc=>.inl hc)
 replace hS:=hS.trans hT
 replace hXs:=fun c hc=>Xa (hXs c hc) hT.size
 clear hT hp
 have hp:=hpn
 clear hpn hU
 refine W ?_
 refine Z0 (Zj (u:=str u6) rfl rfl rfl rfl e3 (by simp)) ?_
 rintro _ ws6 ⟨hT,e3'⟩
 replace e3:Blk ws6 b3 97 (rlC ⟨u2,u4.num,u6,Jz,Jz,[],[]⟩ (.slice none 0 0) (.slice none 0 0)):=e3'
 clear e3'
 replace e2:=e2.ext hT (by simpa using n32.symm)
 replace hm:=hT.cell (by simpa using n31.symm) hm
 replace hS:=hS.own hT (fun c hc=>by simp at hc;subst hc;exact .inr hb3w)
 replace hp:Pd ws6 b tv l i6 o6:=by
  obtain ⟨g1,g2,g3,g4,g5⟩:=hp
  exact ⟨g1.ext hT (by simpa using n3.symm),hs0.ext hS (fun c hc=>hc) (fun c hc=>.inl hc),g3,g4,g5⟩
 replace hXs:=fun c hc=>Xa (hXs c hc) hT.size
 replace hci:=hci.ext (X':=b3 :: b2 :: X) hT (fun c hc=>by simp at hc;simp [hc]) (fun c hc=>.inl hc)
 replace hdi:=hdi.ext (X':=b3 :: b2 :: X) hT (fun c hc=>by simp at hc;simp [hc]) (fun c hc=>.inl hc)
 refine W ?_
 refine Z7 (Z10 rfl) rfl ?_
 simp only
 rcases hU:Z0J l [105,102] Jz (Z0u l) i6 o6 with ⟨a,c⟩|⟨u7,i7,o7⟩
 refine ZB rfl (ZH rfl rfl rfl) (PC.falls (Z4y (b3 :: b2 :: X) b tv l hL [105,102] (by decide) m i6 o6 _ hb1 (by simp [hbX]) hXs hm hp) hU hS) rfl ?_
 intro wz hwz
 focus repeat'(first|refine Za ?_|refine Z8 ?_)
 refine Zx ?_
 exact PC.err hwz
 refine CL rfl (ZH rfl rfl rfl) rfl (PC.goes (Z4y (b3 :: b2 :: X) b tv l hL [105,102] (by decide) m i6 o6 _ hb1 (by simp [hbX]) hXs hm hp) hU) ?_
 rintro _ wn7 ⟨⟨kx7,rfl,hx7⟩,hpn,hT⟩
 replace hm:=ZS hm hb1 hT
 replace e2:=e2.ext hT (by simpa using n2)
 replace e3:=e3.ext hT (by simpa using n3)
 replace hci:=hci.ext (X':=b3 :: b2 :: X) hT (fun c hc=>by simp at hc;subst hc;simp [hbX]) (fun c hc=>.inl hc)
 replace hdi:=hdi.ext (X':=b3 :: b2 :: X) hT (fun c hc=>by simp at hc;subst hc;simp [hbX]) (fun c hc=>.inl hc)
 replace hS:=hS.trans hT
 replace hXs:=fun c hc=>Xa (hXs c hc) hT.size
 clear hT hp
 have hp:=hpn
 clear hpn hU
 refine W ?_
 refine Z0 (Z1g (us:=ndC u7 kx7) rfl rfl rfl rfl (Zk hx7) e3 (by simp)) ?_
 rintro _ ws7 ⟨hT,e3'⟩
 replace e3:Blk ws7 b3 97 (rlC ⟨u2,u4.num,u6,u7,Jz,[],[]⟩ kx7 (.slice none 0 0)):=e3'
 clear e3'
 replace e2:=e2.ext hT (by simpa using n32.symm)
 replace hm:=hT.cell (by simpa using n31.symm) hm
 replace hS:=hS.own hT (fun c hc=>by simp at hc;subst hc;exact .inr hb3w)
 replace hp:Pd ws7 b tv l i7 o7:=by
  obtain ⟨g1,g2,g3,g4,g5⟩:=hp
  exact ⟨g1.ext hT (by simpa using n3.symm),hs0.ext hS (fun c hc=>hc) (fun c hc=>.inl hc),g3,g4,g5⟩
 replace hXs:=fun c hc=>Xa (hXs c hc) hT.size
 replace hx7:=hx7.ext (X':=b3 :: b2 :: X) hT (fun c hc=>by simp at hc;simp [hc]) (fun c hc=>.inl hc)
 replace hdi:=hdi.ext (X':=b3 :: b2 :: X) hT (fun c hc=>by simp at hc;simp [hc]) (fun c hc=>.inl hc)
 clear hT hci
 refine W ?_
 refine Z1J (σ:=Value) (fun _=>[(0,.pointer (some ⟨b,0,none⟩)),(2,.pointer (some ⟨b2,0,none⟩)),(3,.pointer (some ⟨b3,0,none⟩))])
  (fun q w'=>Blk w' b3 97 (rlC ⟨u2,u4.num,u6,if u7.kind=0 then .mk 2 1 [] [] else u7,Jz,[],[]⟩ q (.slice none 0 0))∧SlV (b3 :: b2 :: X) w' q (if u7.kind=0 then Nd.mk 2 1 [] [] else u7).kids∧Stp [b3] ws7 w') ?_ ?_
 by_cases k0:u7.kind=0
 · rw [if_pos k0]
   repeat'(first|refine W1 ?_|omega|refine VG ?_ ?_<;>intro hg|refine VC ?_ ?_<;>intro hc)
   all_goals try exact absurd k0 (by assumption)
   apply Ze (vs:=[(0,.int .i64 2),(1,.int .i64 1)]) rfl (Z6T _ _) rfl
   refine W ?_
   refine Z0 (Z1g (us:=ndC (.mk 2 1 [] []) (.slice none 0 0)) rfl rfl rfl rfl (Zk (x:=.mk 2 1 [] []) (Z0n [] w)) e3 (by simp)) ?_
   rintro _ wy ⟨hT,e3'⟩
   refine W ?_
   exact ZI (.slice none 0 0) ⟨rfl,rfl,rfl,trivial⟩ ⟨e3',Z0n _ _,hT⟩
 · rw [if_neg k0]
   repeat'(first|refine W1 ?_|omega|refine VG ?_ ?_<;>intro hg|refine VC ?_ ?_<;>intro hc)
   all_goals try exact absurd (by assumption) k0
   exact ZI kx7 ⟨rfl,rfl,rfl,trivial⟩ ⟨e3,hx7,Stp.refl _ _⟩
 clear e3 hx7
 generalize hcnd:(if u7.kind=0 then Nd.mk 2 1 [] [] else u7)=cnd
 rintro ki ws7 ⟨e3,hci,hT⟩
 replace e2:=e2.ext hT (by simpa using n32.symm)
 replace hm:=hT.cell (by simpa using n31.symm) hm
 replace hS:=hS.own hT (fun c hc=>by simp at hc;subst hc;exact .inr hb3w)
 replace hp:Pd ws7 b tv l i7 o7:=by
  obtain ⟨g1,g2,g3,g4,g5⟩:=hp
  exact ⟨g1.ext hT (by simpa using n3.symm),hs0.ext hS (fun c hc=>hc) (fun c hc=>.inl hc),g3,g4,g5⟩
 replace hXs:=fun c hc=>Xa (hXs c hc) hT.size
 replace hdi:=hdi.ext (X':=b3 :: b2 :: X) hT (fun c hc=>by simp at hc;simp [hc]) (fun c hc=>.inl hc)
 clear hT
 refine W ?_
 refine CL rfl (Zp rfl) rfl (JO b tv l i7 o7 _ hp) ?_
 rintro _ wx7 ⟨rfl,hT⟩
 replace hp:=hp.up hT;replace e2:=e2.up hT;replace e3:=e3.up hT;replace hci:=hci.up hT;replace hdi:=hdi.up hT
 replace hm:=hT.cell (by simp) hm
 replace hS:=hS.trans (hT.mono (by simp))
 replace hXs:=fun c hc=>Xa (hXs c hc) hT.size
 clear hT
 simp only
 by_cases hdue:(cur l i7).text=[100,117,101]
 rotate_left
 · rw [if_neg hdue]
   repeat'(first|refine W1 ?_|omega|refine VG ?_ ?_<;>intro hg|refine VC ?_ ?_<;>intro hc)
   refine ZB rfl (Z9 rfl rfl) (Z6u b tv l i7 o7 20 _ w hp hS) rfl ?_
   intro wz hwz
   focus repeat'(first|refine Za ?_|refine Z8 ?_)
   refine Zx ?_
   exact PC.fail hwz
   all_goals exact absurd hdue (by assumption)
 rw [if_pos hdue]
 repeat'(first|refine W1 ?_|omega|refine VG ?_ ?_<;>intro hg|refine VC ?_ ?_<;>intro hc)
 exact absurd hdue (by assumption)
 refine Z7 (Z10 rfl) rfl ?_
 rcases hU:Z0J l [100,117,101] Jz (Z0u l) i7 o7 with ⟨a,c⟩|⟨u8,i8,o8⟩
 refine ZB rfl (ZH rfl rfl rfl) (PC.falls (Z4y (b3 :: b2 :: X) b tv l hL [100,117,101] (by decide) m i7 o7 _ hb1 (by simp [hbX]) hXs hm hp) hU hS) rfl ?_
 intro wz hwz
 focus repeat'(first|refine Za ?_|refine Z8 ?_)
 refine Zx ?_
 exact PC.err hwz
 refine CL rfl (ZH rfl rfl rfl) rfl (PC.goes (Z4y (b3 :: b2 :: X) b tv l hL [100,117,101] (by decide) m i7 o7 _ hb1 (by simp [hbX]) hXs hm hp) hU) ?_
 rintro _ wn8 ⟨⟨kx8,rfl,hx8⟩,hpn,hT⟩
 replace hm:=ZS hm hb1 hT
 replace e2:=e2.ext hT (by simpa using n2)
 replace e3:=e3.ext hT (by simpa using n3)
 replace hci:=hci.ext (X':=b3 :: b2 :: X) hT (fun c hc=>by simp at hc;subst hc;simp [hbX]) (fun c hc=>.inl hc)
 replace hdi:=hdi.ext (X':=b3 :: b2 :: X) hT (fun c hc=>by simp at hc;subst hc;simp [hbX]) (fun c hc=>.inl hc)
 replace hS:=hS.trans hT
 replace hXs:=fun c hc=>Xa (hXs c hc) hT.size
 clear hT hp
 have hp:=hpn
 clear hpn hU
 refine W ?_
 refine Z0 (Z1g (us:=ndC u8 kx8) rfl rfl rfl rfl (Zk hx8) e3 (by simp)) ?_
 rintro _ ws8 ⟨hT,e3'⟩
 replace e3:Blk ws8 b3 97 (rlC ⟨u2,u4.num,u6,cnd,u8,[],[]⟩ ki kx8):=e3'
 clear e3'
 replace e2:=e2.ext hT (by simpa using n32.symm)
 replace hm:=hT.cell (by simpa using n31.symm) hm
 replace hS:=hS.own hT (fun c hc=>by simp at hc;subst hc;exact .inr hb3w)
 replace hp:Pd ws8 b tv l i8 o8:=by
  obtain ⟨g1,g2,g3,g4,g5⟩:=hp
  exact ⟨g1.ext hT (by simpa using n3.symm),hs0.ext hS (fun c hc=>hc) (fun c hc=>.inl hc),g3,g4,g5⟩
 replace hXs:=fun c hc=>Xa (hXs c hc) hT.size
 clear hdi
 have hdi:=hx8.ext (X':=b3 :: b2 :: X) hT (fun c hc=>by simp at hc;simp [hc]) (fun c hc=>.inl hc)
 replace hci:=hci.ext (X':=b3 :: b2 :: X) hT (fun c hc=>by simp at hc;simp [hc]) (fun c hc=>.inl hc)
 clear hT hx8
 refine W ?_
 refine Z7 (Z10 rfl) rfl ?_
 simp only
 rcases hU:Z0J l [117,110,108,101,115,115] [] (Z1X l) i8 o8 with ⟨a,c⟩|⟨u9,i9,o9⟩
 refine ZB rfl (ZH rfl rfl rfl) (PC.falls (Z2d b tv l hL [117,110,108,101,115,115] (by decide) m i8 o8 _ hb1 hm hp) hU hS) rfl ?_
 intro wz hwz
 focus repeat'(first|refine Za ?_|refine Z8 ?_)
 refine Zx ?_
 exact PC.err hwz
 refine CL rfl (ZH rfl rfl rfl) rfl (PC.goes (Z2d b tv l hL [117,110,108,101,115,115] (by decide) m i8 o8 _ hb1 hm hp) hU) ?_
 rintro _ wn9 ⟨rfl,hpn,hT⟩
 replace hm:=ZS hm hb1 hT
 replace e2:=e2.ext hT (by simpa using n2)
 replace e3:=e3.ext hT (by simpa using n3)
 replace hci:=hci.ext (X':=b3 :: b2 :: X) hT (fun c hc=>by simp at hc;subst hc;simp [hbX]) (fun c hc=>.inl hc)
 replace hdi:=hdi.ext (X':=b3 :: b2 :: X) hT (fun c hc=>by simp at hc;subst hc;simp [hbX]) (fun c hc=>.inl hc)
 replace hS:=hS.trans hT
 replace hXs:=fun c hc=>Xa (hXs c hc) hT.size
 clear hT hp
 have hp:=hpn
 clear hpn hU
 refine W ?_
 refine Z0 (Zj (u:=str u9) rfl rfl rfl rfl e3 (by simp)) ?_
 rintro _ ws9 ⟨hT,e3'⟩
 replace e3:Blk ws9 b3 97 (rlC ⟨u2,u4.num,u6,cnd,u8,u9,[]⟩ ki kx8):=e3'
 clear e3'
 replace e2:=e2.ext hT (by simpa using n32.symm)
 replace hm:=hT.cell (by simpa using n31.symm) hm
 replace hS:=hS.own hT (fun c hc=>by simp at hc;subst hc;exact .inr hb3w)
 replace hp:Pd ws9 b tv l i9 o9:=by
  obtain ⟨g1,g2,g3,g4,g5⟩:=hp
  exact ⟨g1.ext hT (by simpa using n3.symm),hs0.ext hS (fun c hc=>hc) (fun c hc=>.inl hc),g3,g4,g5⟩
 replace hXs:=fun c hc=>Xa (hXs c hc) hT.size
 replace hci:=hci.ext (X':=b3 :: b2 :: X) hT (fun c hc=>by simp at hc;simp [hc]) (fun c hc=>.inl hc)
 replace hdi:=hdi.ext (X':=b3 :: b2 :: X) hT (fun c hc=>by simp at hc;simp [hc]) (fun c hc=>.inl hc)
 refine W ?_
 refine Z7 (Z10 rfl) rfl ?_
 simp only
 rcases hU:Z0J l [101,108,115,101] [] (Z1X l) i9 o9 with ⟨a,c⟩|⟨u10,i10,o10⟩
 refine ZB rfl (ZH rfl rfl rfl) (PC.falls (Z2d b tv l hL [101,108,115,101] (by decide) m i9 o9 _ hb1 hm hp) hU hS) rfl ?_
 intro wz hwz
 focus repeat'(first|refine Za ?_|refine Z8 ?_)
 refine Zx ?_
 exact PC.err hwz
 refine CL rfl (ZH rfl rfl rfl) rfl (PC.goes (Z2d b tv l hL [101,108,115,101] (by decide) m i9 o9 _ hb1 hm hp) hU) ?_
 rintro _ wn10 ⟨rfl,hpn,hT⟩
 replace hm:=ZS hm hb1 hT
 replace e2:=e2.ext hT (by simpa using n2)
 replace e3:=e3.ext hT (by simpa using n3)
 replace hci:=hci.ext (X':=b3 :: b2 :: X) hT (fun c hc=>by simp at hc;subst hc;simp [hbX]) (fun c hc=>.inl hc)
 replace hdi:=hdi.ext (X':=b3 :: b2 :: X) hT (fun c hc=>by simp at hc;subst hc;simp [hbX]) (fun c hc=>.inl hc)
 replace hS:=hS.trans hT
 replace hXs:=fun c hc=>Xa (hXs c hc) hT.size
 clear hT hp
 have hp:=hpn
 clear hpn hU
 refine W ?_
 refine Z0 (Zj (u:=str u10) rfl rfl rfl rfl e3 (by simp)) ?_
 rintro _ ws10 ⟨hT,e3'⟩
 replace e3:Blk ws10 b3 97 (rlC ⟨u2,u4.num,u6,cnd,u8,u9,u10⟩ ki kx8):=e3'
 clear e3'
 replace e2:=e2.ext hT (by simpa using n32.symm)
 replace hm:=hT.cell (by simpa using n31.symm) hm
 replace hS:=hS.own hT (fun c hc=>by simp at hc;subst hc;exact .inr hb3w)
 replace hp:Pd ws10 b tv l i10 o10:=by
  obtain ⟨g1,g2,g3,g4,g5⟩:=hp
  exact ⟨g1.ext hT (by simpa using n3.symm),hs0.ext hS (fun c hc=>hc) (fun c hc=>.inl hc),g3,g4,g5⟩
 replace hXs:=fun c hc=>Xa (hXs c hc) hT.size
 replace hci:=hci.ext (X':=b3 :: b2 :: X) hT (fun c hc=>by simp at hc;simp [hc]) (fun c hc=>.inl hc)
 replace hdi:=hdi.ext (X':=b3 :: b2 :: X) hT (fun c hc=>by simp at hc;simp [hc]) (fun c hc=>.inl hc)
 refine W ?_
 simp only
 rcases hU:Jy l [125] i10 o10 with ⟨a,c⟩|⟨u11,i11,o11⟩
 refine ZB rfl (Z9 rfl rfl) (PC.falls (Jc b tv l hL [125] (by decide) i10 o10 _ hp) hU hS) rfl ?_
 intro wz hwz
 focus repeat'(first|refine Za ?_|refine Z8 ?_)
 refine Zx ?_
 exact PC.err hwz
 refine CL rfl (Z9 rfl rfl) rfl (PC.goes (Jc b tv l hL [125] (by decide) i10 o10 _ hp) hU) ?_
 rintro _ wn11 ⟨rfl,hpn,hT⟩
 replace hm:=ZS hm hb1 hT
 replace e2:=e2.ext hT (by simpa using n2)
 replace e3:=e3.ext hT (by simpa using n3)
 replace hci:=hci.ext (X':=b3 :: b2 :: X) hT (fun c hc=>by simp at hc;subst hc;simp [hbX]) (fun c hc=>.inl hc)
 replace hdi:=hdi.ext (X':=b3 :: b2 :: X) hT (fun c hc=>by simp at hc;subst hc;simp [hbX]) (fun c hc=>.inl hc)
 replace hS:=hS.trans hT
 replace hXs:=fun c hc=>Xa (hXs c hc) hT.size
 clear hT hp
 have hp:=hpn
 clear hpn hU
 refine W ?_
 simp only
 refine Z0 (Z1 (us:=rlC ⟨u2,u4.num,u6,cnd,u8,u9,u10⟩ ki kx8) rfl rfl rfl rfl (Zgk ⟨u2,u4.num,u6,cnd,u8,u9,u10⟩ hci hdi) e2 rfl) ?_
 rintro _ wz ⟨hT,e2'⟩
 refine W ?_
 rw [hcnd]
 refine Zu rfl rfl rfl e2' rfl ?_
 obtain ⟨g1,g2,g3,g4,g5⟩:=hp
 have hSx:=hS.own hT (fun c hc=>by simp at hc;subst hc;exact .inr hb2w)
 refine PC.ok ⟨ki,kx8,rfl,?_,?_⟩ ⟨g1.ext hT (by simpa using n2.symm),hs0.ext hSx (fun c hc=>hc) (fun c hc=>.inl hc),g3,g4,g5⟩ hSx
 exact (hci.ext (X':=b3 :: b2 :: X) hT (fun c hc=>by simp at hc;simp [hc]) (fun c hc=>.inl hc)).wk (fun c hc=>by simp [hc])
 exact (hdi.ext (X':=b3 :: b2 :: X) hT (fun c hc=>by simp at hc;simp [hc]) (fun c hc=>.inl hc)).wk (fun c hc=>by simp [hc])
end Go.Proofs.YtjdjdoefppebkaaGreatDoor
namespace Go.Eng
open Go Go.RowKit Go.Proofs
def Z3f (ds:List Deferred) (a:Act):Act:={ a with defers:=a.defers++ds }
def Z9t (ds:List Deferred) (Q:Exit→Act→World→Prop):Exit→Act→World→Prop:=fun x a w=>Q x (Z3f ds a) w
theorem Z2s (ds:List Deferred) (a:Act) (d:Option Nat) (v:Value):Z3f ds (a.put d v)=(Z3f ds a).put d v:=by cases d<;>rfl
theorem Z65 (ds:List Deferred) (a:Act):(Z3f ds a).eval=a.eval:=by funext x;cases x<;>rfl
theorem Z4c {ds:List Deferred} {Q:Exit→Act→World→Prop} (h:LetsOut (Z9t ds Q)):LetsOut Q:=let ⟨a,w,h⟩:=h;⟨_,w,h⟩
theorem ZaT {P:Program} {ds:List Deferred} {Q:Exit→Act→World→Prop} {o:Oper} {a:Act} {w:World} {K K':Act→World→Prop} (hK:∀ a w,K' a w→K (Z3f ds a) w) (h:o.wp P a w K' (Z9t ds Q)):o.wp P (Z3f ds a) w K Q:=by
 unfold Oper.wp at *
 rw [Z65]
 generalize (execOp a.eval o).run P w=r at *
 cases r with
 | ok x w'=>
   cases x<;>simp only [Oper.upon] at h ⊢
   case value v=>have:=hK _ _ h;rw [Z2s] at this;exact this
   case skip=>have:=hK _ _ h;rw [Z2s] at this;exact this
   case defer d=>have:=hK _ _ h;rw [Z2s] at this;exact this
   case enter f args=>
    refine Calls.mono h fun e w'' he=>?_
    cases e with
    | returned v=>have:=hK _ _ he;rw [Z2s] at this;exact this
    | panicked c=>exact he
    | outgrown=>exact Z4c he
   case row row args=>exact Rows.mono h fun v w'' he=>by have:=hK _ _ he;rw [Z2s] at this;exact this
 | halt x w'=>cases x<;>simp only [Oper.upon] at h ⊢;exact h
theorem ZaU {P:Program} {ds:List Deferred} {o:Oper} {a:Act} {w:World} (h:o.asks P a w):o.asks P (Z3f ds a) w:=by
 unfold Oper.asks at *
 rw [Z65]
 exact h
theorem Z54 {P:Program} {ds:List Deferred} {Q:Exit→Act→World→Prop} {ops:Array Oper}:∀ (l:List Oper) (a:Act) (w:World),wpList P ops (Z9t ds Q) l a w→wpList P ops Q l (Z3f ds a) w
 | [],a,w,h=>h
 | o :: rest, a, w, h => by
   unfold wpList at *
   split at h
   rename_i hw
   rw [if_pos (show Region.wanted o (yielded ops (Z3f ds a).tmps)=true from hw)]
   rcases h with h|⟨h1,h2⟩
   exact .inl (ZaT (fun a w h=>Z54 rest a w h) h)
   exact .inr ⟨ZaU h1,Z4c h2⟩
   rename_i hw
   rw [if_neg (show ¬ Region.wanted o (yielded ops (Z3f ds a).tmps)=true from hw)]
   rw [← Z2s]
   exact Z54 rest _ w h
theorem Zgm {P:Program} {ds:List Deferred} {Q:Exit→Act→World→Prop} {ops:Array Oper} {i:Nat} {a:Act} {w:World} {K K':Act→World→Prop} (hK:∀ a w,K' a w→K (Z3f ds a) w) (h:wpOp P ops (Z9t ds Q) i K' a w):wpOp P ops Q i K (Z3f ds a) w:=by
 unfold wpOp at *
 cases ho:ops[i]? with
 | none=>simp only [ho] at h ⊢;exact hK _ _ h
 | some o=>
   simp only [ho] at h ⊢
   split at h
   rename_i hw
   rw [if_pos (show Region.wanted o (yielded ops (Z3f ds a).tmps)=true from hw)]
   rcases h with h|⟨h1,h2⟩
   exact .inl (ZaT hK h)
   exact .inr ⟨ZaU h1,Z4c h2⟩
   rename_i hw
   rw [if_neg (show ¬ Region.wanted o (yielded ops (Z3f ds a).tmps)=true from hw)]
   rw [← Z2s]
   exact hK _ _ h
theorem Z8N {P:Program} {ds:List Deferred} {Q:Exit→Act→World→Prop} {ops:Array Oper} {md:Region.Mode}:∀ (fuel:Nat) (listed:Array Bool) (a:Act) (w:World),wpAny P md ops (Z9t ds Q) fuel listed a w→wpAny P md ops Q fuel listed (Z3f ds a) w
 | 0,_,_,_,h=>h
 | fuel+1,_,_,_,h=>⟨h.1,fun i hi=>Zgm (fun a w h=>Z8N fuel _ a w h) (h.2 i hi)⟩
structure WQD (ds:List Deferred) (n:Nat) (Q:Exit→Act→World→Prop) (x:Exit) (e:Env) (w:World):Prop where
 h:∀ a,Has n e a→Q x (Z3f ds a) w
structure WCD (ds:List Deferred) (P:Program) (n:Nat) (c:Code) (Q:Exit→Act→World→Prop) (e:Env) (w:World):Prop where
 h:∀ a,Has n e a→c.wp P Q (Z3f ds a) w
section rules
variable {P:Program} {n:Nat} {ds:List Deferred} {Q:Exit→Act→World→Prop} {e:Env} {w:World}
theorem Z2t {x:Exit} (h:WQD ds n Q x e w):WQ n (Z9t ds Q) x e w:=⟨fun a ha=>h.h a ha⟩
theorem Z1O {x y:Code} (h:WCD ds P n x (Exit.then (fun a w=>y.wp P Q a w) Q) e w):WCD ds P n (x.seq y) Q e w:=⟨fun a ha=>wp_seq (h.h a ha)⟩
theorem Z11 {y:Code} (h:WCD ds P n y Q e w):WQD ds n (Exit.then (fun a w=>y.wp P Q a w) Q) .normal e w:=⟨fun a ha=>h.h a ha⟩
theorem Z2u {N:Act→World→Prop} {ch:List PanicEntry} (h:WQD ds n Q (.panic ch) e w):WQD ds n (Exit.then N Q) (.panic ch) e w:=⟨fun a ha=>h.h a ha⟩
theorem ZaV (h:WQD ds n Q .normal e w):WCD ds P n .skip Q e w:=⟨fun a ha=>wp_skip (h.h a ha)⟩
theorem Zd5 (h:WQD ds n Q .ret e w):WCD ds P n .ret Q e w:=⟨fun a ha=>wp_ret (h.h a ha)⟩
theorem HasD.ev {a:Act} (ha:Has n e a) {x:Operand} {v:Value} (hx:ev e x=some v):(Z3f ds a).eval x=v:=by rw [Z65];exact ha.ev hx
theorem Z8c {c:Operand} {x y:Code} (hc:ev e c=some (.bool true)) (h:WCD ds P n x Q e w):WCD ds P n (.cond c x y) Q e w:=⟨fun a ha=>wp_cond_true (HasD.ev ha hc) (h.h a ha)⟩
theorem Z4d {c:Operand} {x y:Code} (hc:ev e c=some (.bool false)) (h:WCD ds P n y Q e w):WCD ds P n (.cond c x y) Q e w:=⟨fun a ha=>wp_cond_false (HasD.ev ha hc) (h.h a ha)⟩
theorem Z1a {id:Nat} {l:List Oper} (h:WL P n l.toArray (Z9t ds Q) l e w):WCD ds P n (.region id l.toArray false) Q e w:=⟨fun a ha=>wp_region_lit (Z54 _ _ _ (h.h a ha))⟩
theorem Z8O {id:Nat} {l:List Oper} (m:Nat) (S:List Nat) (Lt:List Nat) (ord:List (Nat×Nat)) (hlm:l.length=m) (hm:P.follows .mixedOrders=true) (hs:Region.noSelect l.toArray=true) (hl:Nat.beq (wt ord) l.length=true)
 (hB:Z06 l.toArray Lt ord (Array.replicate m false)=true)
 (h:∀ w',Stp [] w w'→WD P n l.toArray S Lt (Z9t ds Q) ord e w'):WCD ds P n (.region id l.toArray true) Q e w:=by
 subst hlm
 refine ⟨fun a ha=>wp_region_any hm (Z8N _ _ _ _ ?_)⟩
 have h1:=(h { w with drawn:=w.drawn+1 } (Stp.drew [] w)).h _ hs hB a ha
 have h2:=Z3o (Q:=Z9t ds Q) (fun a w hz=>hz) _ _ _ _ h1
 rw [Yab hl] at h2
 simpa using h2
end rules
theorem Z6v:∀ {e:Env} {t:Nat} {v:Value},look e t=some v→(t,v)∈e
 | (k, u) :: r, t, v, h => by
   rw [Z28] at h
   by_cases hk:k=t
   subst hk;simp at h;subst h;simp
   rw [if_neg hk] at h;exact XK _ (Z6v h)
theorem Has.of {n:Nat} {e:Env} {a:Act} (h1:a.defers=[]) (h2:a.tmps.size=n) (h3:∀ p∈e,a.tmps.getD p.1 undef=p.2):Has n e a:=⟨h1,h2,fun t v h=>h3 (t,v) (Z6v h)⟩
section
variable {P:Program} {n:Nat} {Q:Exit→Act→World→Prop} {e:Env} {w:World} {ops:Array Oper} {rest:List Oper} {ty:TypeId} {pos:String} {af:Array Edge} {ds:List Deferred}
theorem Z4z {fn:Func} {c₀:Frame} {cs:List Frame} {u':FrameMode} {R:Ending→FrameMode→World→Prop} {c:Code} {a:Act} (ha:Has n e a) (h:WC P n c (bodyPost P fn (fun x w=>R x u' w)) e w) :
 c.wpS P (bodyPostS P fn c₀ cs R) a ({ c₀ with mode:=u' } :: cs) w:=by
 refine wpS_of_wp (wp_mono (h.h a ha) fun ex a' w' hq=>?_)
 cases ex with
 | normal=>obtain ⟨hd,v,hr,hR⟩:=hq;exact ⟨hd,u',rfl,v,hr,hR⟩
 | ret=>obtain ⟨hd,v,hr,hR⟩:=hq;exact ⟨hd,u',rfl,v,hr,hR⟩
 | panic ch=>obtain ⟨hd,hR⟩:=hq;exact ⟨hd,u',rfl,hR⟩
 | exit i=>exact hq.elim
 | goto l=>exact hq.elim
 | outgrown=>exact ⟨u',hq⟩
theorem Z9u {f:FuncId} {fn:Func} {c:Code} {args:Array Value} {w:World} {R:Ending→World→Prop} {n:Nat} (hf:P.funcs[f]?=some fn) (hb:fn.body=some c)
 (hn:fn.ntmps=n) (hs:Nat.ble args.size n=true) (h:WC P n c (bodyPostD P fn R) (Z5N args.toList 0) w):Calls P f args w R:=by
 refine calls_of_wp_defers hf hb (h.h _ ?_)
 rw [hn]
 have hle:args.size≤n:=XU hs
 refine ⟨rfl,by simp;omega,fun t v hv=>?_⟩
 obtain ⟨_,h2⟩:=Z6g _ _ _ _ hv
 simp only [Nat.sub_zero] at h2
 have hlt:t<args.size:=by
  have:=(XC.1 h2).1
  simpa using this
 have:args[t]?=some v:=by simpa using h2
 have h3:(args++Array.replicate (n - args.size) undef)[t]?=some v:=by
  rw [Yal hlt];exact this
 simp [Xw,h3]
theorem Z4K {f:FuncId} {fn:Func} {c:Code} {a0 a1:Value} {w:World} {R:Ending→World→Prop} {n:Nat} (hf:P.funcs[f]?=some fn) (hb:fn.body=some c)
 (hn:fn.ntmps=n) (hs:Nat.ble 2 n=true) (h:WC P n c (bodyPostD P fn R) [(0,a0),(1,a1)] w):Calls P f #[a0,a1] w R:=Z9u hf hb hn hs h
theorem ZaW {y:Code} {t:Operand} {fv:Fn} {cap:Array Value} (hc:ev e t=some (.func fv #[] cap)) {ts:Array TypeId}
 (h:WCD [{ target:=.fn fv cap,args:=#[] }] P n y Q e w) :
 WL P n ops (Exit.then (fun a w=>y.wp P Q a w) Q) [⟨none,.defer { callee:=.value t,args:=#[],argTypes:=ts },ty,pos,af,none⟩] e w:=by
 refine ⟨fun a ha=>?_⟩
 refine wpList_plain rfl (fun K hK=>?_)
 unfold Oper.wp
 have he:(execOp a.eval ⟨none,.defer { callee:=.value t,args:=#[],argTypes:=ts },ty,pos,af,none⟩).run P w=.ok (.defer { target:=.fn fv cap,args:=#[] }) w:=by
  simp [execOp,resolve,ha.ev hc,Deferred.ofValue]
 rw [he]
 simp only [Oper.upon]
 refine hK _ _ ?_
 have hd:({ a with defers:={ target:=.fn fv cap,args:=#[] } :: a.defers }:Act)=Z3f [{ target:=.fn fv cap,args:=#[] }] a:=by
  unfold Z3f
  rw [ha.defers]
  rfl
 show wpList P ops _ [] (Act.put { a with defers:=_ } none undef) w
 rw [hd]
 exact wpList_nil (h.h a ha)
theorem Z66 {d:Nat} {f:Nat} {fn:Func} {xs:Array Operand} {ts:Array TypeId} {vs:Array Value} {c:Operand} {ch:List PanicEntry} {F:World→Prop} [hf:Fun P f fn]
 (hc:ev e c=some (.func (.func f) #[] #[])) (hv:∀ a,Has n e a→xs.map a.eval=vs) (h:Calls P f vs w (fun e w'=>e=.panicked ch∧F w')) (hd:Nat.blt d n=true) (k:∀ w',F w'→WQ n Q (.panic ch) e w') :
 WL P n ops Q (⟨some d,.call { callee:=.value c,args:=xs,argTypes:=ts },ty,pos,af,none⟩ :: rest) e w:=
 Z9j (G:=fun _ _=>False) (F:=fun ch' w'=>ch'=ch∧F w') (Z7h hc hv (h.mono fun e w' ⟨h1,h2⟩=>by rw [h1];exact .pan ⟨rfl,h2⟩)) hd (fun ch' w' ⟨h1,h2⟩=>by subst h1;exact k w' h2) (fun _ _ h=>h.elim)
theorem Z3g {t b T:Nat} {D:TypeDesc} {v:Value} [hu:Und P t D] (hA:JX D=false) (hb:Blk w b T [v]):(loadVar t ⟨b,0,none⟩).run P w=.ok v w:=by
 have:=hb.cell (j:=0) rfl
 simp [loadVar,Und.isAgg,hA,this]
theorem Z67 {fn:Func} {a:Act} {t1 t2 t3 T1 T2 T3 b1 b2 b3 S1 S2 S3:Nat} {D1 D2 D3:TypeDesc} {v1 v2 v3:Value} (hr:fn.results=#[.cell t1 T1,.cell t2 T2,.cell t3 T3]) [hu1:Und P T1 D1] [hu2:Und P T2 D2] [hu3:Und P T3 D3] (hA1:JX D1=false) (hA2:JX D2=false) (hA3:JX D3=false)
 (h1:a.tmps.getD t1 undef=.pointer (some ⟨b1,0,none⟩)) (h2:a.tmps.getD t2 undef=.pointer (some ⟨b2,0,none⟩)) (h3:a.tmps.getD t3 undef=.pointer (some ⟨b3,0,none⟩))
 (e1:Blk w b1 S1 [v1]) (e2:Blk w b2 S2 [v2]) (e3:Blk w b3 S3 [v3]):(results fn a.tmps).run P w=.ok (.tuple #[v1,v2,v3]) w:=by
 rw [Xw] at h1 h2 h3
 simp [results,hr,h1,h2,h3,asAddr,Z3g hA1 e1,Z3g hA2 e2,Z3g hA3 e3]
theorem Z2v {fn fn':Func} {tmps:Array Value} {R:Ending→World→Prop} {f:FuncId} {cap:Array Value} {u:FrameMode} (hu:u≠.run) [hf:Fun P f fn'] {G:Value→FrameMode→World→Prop}
 (h:CallsD P f cap u w fun e u' w'=>∃ v,e=.returned v∧G v u' w') (hk:∀ v u' w',G v u' w'→settle u'=.returning∧∃ r,(results fn tmps).run P w'=.ok r w'∧R (.returned r) w') :
 Leaves P fn tmps R [{ target:=.fn (.func f) cap,args:=#[] }] u w:=by
 refine leaves_cons (f:=f) (args:=cap) hu ?_ (h.mono fun e u' w' ⟨v,h1,h2⟩=>?_)
 simp [invoke]
 exact hf.enters cap w
 subst h1
 obtain ⟨h3,r,h4,h5⟩:=hk v u' w' h2
 show Leaves P fn tmps R [] (settle u') w'
 rw [h3]
 exact ⟨r,h4,h5⟩
theorem Z1P {d:Option Nat} {g:Option (Nat×Bool)} {x:Operand} {t s:TypeId} {u v:Value} (hx:ev e x=some u) (hb:∀ w,(Instr.typeAssert u t s true).run P w=.ok v w):PR P n ⟨d,.typeAssert x t s true,ty,pos,af,g⟩ e w v:=
 ⟨fun a ha=>by simp [execOp,ha.ev hx,hb]⟩
theorem Z5w {d:Option Nat} {g:Option (Nat×Bool)} {f:Nat} {x y z r:Operand} {v u s q:Value} (hx:ev e x=some v) (hy:ev e y=some u) (hz:ev e z=some s) (hr:ev e r=some q):PR P n ⟨d,.makeFunc (.func f) #[] #[x,y,z,r],ty,pos,af,g⟩ e w (.func (.func f) #[] #[v,u,s,q]):=
 ⟨fun a ha=>by simp [execOp,Instr.makeFunc,ha.ev hx,ha.ev hy,ha.ev hz,ha.ev hr]⟩
end
theorem Z0o {α β:Type} {x:Out α} {k:α→Nat→Nat→Out β} {y:β} {i o:Nat} (h:x.bind k=.ok y i o):∃ a i1 o1,x=.ok a i1 o1∧k a i1 o1=.ok y i o:=by
 cases x with
 | err a c=>simp [Out.bind] at h
 | ok a i1 o1=>exact ⟨a,i1,o1,rfl,h⟩
theorem Z5x {l:List Tkn} {i o:Nat} {s:Str} {i' o':Nat} (h:Z1X l i o=.ok s i' o'):i<i':=by
 unfold Z1X at h
 split at h
 simp [Z1q] at h
 obtain ⟨a,i1,o1,h1,h2⟩:=Z0o h
 have:=Z1d h1
 simp only [Out.ok.injEq] at h2
 omega
theorem Z8P {l:List Tkn} {i o:Nat} {x:Nd} {i' o':Nat} (h:Z0u l i o=.ok x i' o'):i<i':=by
 have h1:=Z5U l i o
 rw [h] at h1
 have:=Z2m l _ _ _ _ _ _ _ h1
 simp only [Call.lo] at this
 omega
theorem Z4e {α:Type} {l:List Tkn} {wd:Str} {z:α} {rd:Nat→Nat→Out α} {i o:Nat} {x:α} {i' o':Nat} (hr:∀ i o x i' o',rd i o=.ok x i' o'→i<i') (h:Z0J l wd z rd i o=.ok x i' o'):i≤i':=by
 unfold Z0J at h
 split at h
 obtain ⟨a,i1,o1,h1,h2⟩:=Z0o h
 obtain ⟨a2,i2,o2,h3,h4⟩:=Z0o h2
 have:=hr _ _ _ _ _ h1
 have:=(Z2G h3).1
 simp only [Out.ok.injEq] at h4
 omega
 simp only [Out.ok.injEq] at h
 omega
theorem ZaX {l:List Tkn} {i o:Nat} {r:RuleM} {i' o':Nat} (h:Z6s l i o=.ok r i' o'):i<i':=by
 unfold Z6s at h
 obtain ⟨a1,i1,o1,h1,h⟩:=Z0o h
 obtain ⟨a2,i2,o2,h2,h⟩:=Z0o h
 obtain ⟨a3,i3,o3,h3,h⟩:=Z0o h
 obtain ⟨a4,i4,o4,h4,h⟩:=Z0o h
 obtain ⟨a5,i5,o5,h5,h⟩:=Z0o h
 split at h
 obtain ⟨a6,i6,o6,h6,h⟩:=Z0o h
 obtain ⟨a7,i7,o7,h7,h⟩:=Z0o h
 split at h
 obtain ⟨a8,i8,o8,h8,h⟩:=Z0o h
 obtain ⟨a9,i9,o9,h9,h⟩:=Z0o h
 obtain ⟨a10,i10,o10,h10,h⟩:=Z0o h
 obtain ⟨a11,i11,o11,h11,h⟩:=Z0o h
 have:=(Z2G h1).1
 have:=Z5x h2
 have:=(Z2G h3).1
 have:=(Z1d h4).2.1
 have:=(Z2G h5).1
 have:=Z4e (fun _ _ _ _ _ h=>Z5x h) h6
 have:=Z4e (fun _ _ _ _ _ h=>Z8P h) h7
 have:=Z4e (fun _ _ _ _ _ h=>Z8P h) h8
 have:=Z4e (fun _ _ _ _ _ h=>Z5x h) h9
 have:=Z4e (fun _ _ _ _ _ h=>Z5x h) h10
 have:=(Z2G h11).1
 simp only [Out.ok.injEq] at h
 omega
 simp [Z1q] at h
 simp [Z1q] at h
end Go.Eng
namespace Go.Proofs.YtjdjdoefppebkaaGreatDoor
open Go Go.Eng Go.RowKit Go.Proofs
theorem ZaY (r:Rul) (p:Option Addr) (a c:Nat) (p':Option Addr) (a' c':Nat) (w:World):(Instr.buildSlice 88 1 #[(0,.agg (rlC r (.slice p a c) (.slice p' a' c')).toArray)]).run Tryz.prog w=.ok (.slice (some ⟨w.heap.size,0,none⟩) 1 1) (w.alloc (.cells (rlC r (.slice p a c) (.slice p' a' c')).toArray 97)):=by kernel_rfl
theorem Zgn {X:List Nat} {w:World} {r:Rul} {cs:List Value} (h:Zf.rep X w r cs):∀ i (hi:i < [r].length) (hi':i < [cs].length),Zf.rep X w [r][i] [cs][i]
 | 0,_,_=>h
set_option maxHeartbeats 2000000 in
theorem Zc7 (X:List Nat) (b:Nat) (tv:Value) (l:List Tkn) (hL:Z2A l) (m:Int) (i o f:Nat) (w:World) (hb1:b≠2) (hbX:b∈X) (hX:∀ c∈X,c<w.heap.size) (hm:w.cell? ⟨2,0,none⟩=some (.int .i64 m)) (hp:Pd w b tv l i o) (hf:l.length≤i+f) :
 Calls Tryz.prog 85 #[.pointer (some ⟨b,0,none⟩)] w (PC b w tv l (Z1C l f [] i o) (fun rs v w'=>SlV X w' v (rs.map RuleM.rul))):=by
 have hs0:=hp.2.1
 have hm0:=hm
 have hbw:=hp.lt
 have hll:=hp.2.2.2.1
 generalize hR:Z1C l f [] i o=R
 refine cW1 22 Tryz.func85 ?_
 refine W ?_
 refine ZD (σ:=Nat×List RuleM×Value×Nat×Nat) (fun q=>[(0,.pointer (some ⟨b,0,none⟩)),(3,q.2.2.1)])
  (fun q w'=>Z1C l q.1 q.2.1 q.2.2.2.1 q.2.2.2.2=R∧l.length≤q.2.2.2.1+q.1∧q.2.1.length≤q.2.2.2.1∧Pd w' b tv l q.2.2.2.1 q.2.2.2.2∧Row X w' w.heap.size 97 q.2.2.1 (q.2.1.map RuleM.rul)∧w'.cell? ⟨2,0,none⟩=some (.int .i64 m)∧Stp [b] w w')
  (fun q=>q.1) (f,[],.slice none 0 0,i,o) ⟨rfl,rfl,trivial⟩ ⟨hR,hf,Xy _,hp,Row.nil,hm,Stp.refl _ _⟩ ?_
 clear hR hp hm hf
 rintro ⟨f1,rs,rv,i1,o1⟩ w1 ⟨hR,hf,hrl,hp,hrow,hm,hS⟩
 dsimp only at hR hf hrl hp hrow ⊢
 have hi1:=hp.i_lt
 obtain ⟨f1,rfl⟩:∃ f',f1=f'+1:=⟨f1 - 1,by omega⟩
 simp only [Z1C] at hR
 refine W ?_
 refine ZDr 12 [] [] [(0,0),(1,0),(2,0),(3,1),(4,0),(5,0),(6,0),(7,1),(8,0),(9,0),(10,1),(11,0)] (fun w1 hS1=>?_)
 replace hS1':=hS1
 replace hp:=hp.up hS1;replace hrow:=hrow.up hS1
 replace hm:=hS1.cell (by simp) hm
 replace hS:=hS.trans (hS1.mono (by simp))
 clear hS1 hS1'
 obtain ⟨hpb,hps,hpi,hpl,hpo⟩:=id hp
 have hcur:=Z4a hpi
 refine D ?_
 by_cases hk:(cur l i1).kind=0
 rw [if_pos hk] at hR
 subst hR
 rw [hcur] at hk
 focus repeat'(first|refine W1 ?_|omega|refine VG ?_ ?_<;>intro hg|refine VC ?_ ?_<;>intro hc)
 refine WR ?_
 refine PC.ok ?_ hp hS
 exact hrow.slv hX
 rw [if_neg hk] at hR
 rw [hcur] at hk
 focus repeat'(first|refine W1 ?_|omega|refine VG ?_ ?_<;>intro hg|refine VC ?_ ?_<;>intro hc)
 have hXk:∀ c∈ob rv++X,c<w1.heap.size:=fun c hc=>by
  rcases Xt.1 hc with h|h
  exact (hrow.ob_le c h).2
  exact Xa (hX c h) hS.size
 have hsub:=Zgl (ob rv++X) b tv l hL m i1 o1 _ hb1 (by simp [hbX]) hXk hm hp
 rcases hU:Z6s l i1 o1 with ⟨a,c⟩|⟨r,i2,o2⟩
 rw [hU] at hR
 simp only [Out.bind] at hR
 subst hR
 refine ZB rfl (Zp rfl) (PC.falls hsub hU hS) rfl ?_
 intro wz hwz
 focus repeat'(first|refine Za ?_|refine Z8 ?_)
 refine Zx ?_
 exact PC.err hwz
 rw [hU] at hR
 simp only [Out.bind] at hR
 have hlt:=ZaX hU
 refine CL rfl (Zp rfl) rfl (PC.goes hsub hU) ?_
 rintro _ w3 ⟨⟨ki,kd,rfl,hki,hkd⟩,hp3,hT⟩
 replace hrow:=hrow.ext (X':=X) hT (fun c hc=>by
  simp only [Xq] at hc
  subst hc
  exact ⟨hbX,fun h=>by have:=(hrow.ob_le c h).1;omega⟩) (fun c hc=>.inl hc)
 replace hm:=ZS hm hb1 hT
 replace hS:=hS.trans hT
 have hXk3:∀ c∈ob rv++X,c<w3.heap.size:=fun c hc=>Xa (hXk c hc) hT.size
 clear hT hp hXk hsub hpb hps
 obtain ⟨p1,c1,rfl,-⟩:=id hki
 obtain ⟨p2,c2,rfl,-⟩:=id hkd
 refine Z3 (Z2 (vs:=[(0,.agg (rlC r.rul (.slice p1 r.rul.cnd.kids.length c1) (.slice p2 r.rul.due.kids.length c2)).toArray)]) rfl (ZaY _ _ _ _ _ _ _)) rfl ?_
 intro bv w4 hN
 have hbv:SlV (ob rv++X) w4 bv [r.rul]:=hN.slvG (css:=[rlC r.rul _ _]) hXk3 rfl rfl (by simp) (Zgn ⟨_,_,rfl,hki,hkd⟩) (by simp [maxLen])
 have hT:=Zc.stp hN
 replace hp3:=hp3.up hT;replace hrow:=hrow.up hT
 replace hm:=hT.cell (by simp) hm
 replace hS:=hS.trans (hT.mono (by simp))
 clear hT hN hki hkd
 have hls:=hS.size
 refine Z3 (Z05 (X:=X) (base:=w.heap.size) rfl (by decide) rfl rfl hrow hbv (by simp only [Xc,Xe,XM];omega) (by simp only [Xc,Xe,XM,maxLen];omega) hls) rfl ?_
 rintro rv' w5 ⟨hrow',hT,hown⟩
 have hown1:∀ c∈ob rv,w.heap.size≤c:=fun c hc=>(hrow.ob_le c hc).1
 have hn1:(2:Nat)∉ob rv:=fun h=>by have:=hown1 _ h;have:=block_lt_of_cell hm0;simp at this;omega
 replace hm:=hT.cell hn1 hm
 replace hS:=hS.own hT (fun c hc=>.inr (hown1 c hc))
 replace hp3:Pd w5 b tv l i2 o2:=by
  obtain ⟨g1,g2,g3,g4,g5⟩:=hp3
  exact ⟨g1.ext hT (fun h=>by have:=hown1 b h;omega),hs0.ext hS (fun c hc=>hc) (fun c hc=>.inl hc),g3,g4,g5⟩
 clear hT
 refine W ?_
 refine Zr (f1,rs++[r],rv',i2,o2) ⟨rfl,rfl,trivial⟩ ⟨hR,by dsimp only;omega,by simp;omega,hp3,?_,hm,hS⟩ (by dsimp only;omega)
 rw [Yaq]
 exact hrow'
end Go.Proofs.YtjdjdoefppebkaaGreatDoor
