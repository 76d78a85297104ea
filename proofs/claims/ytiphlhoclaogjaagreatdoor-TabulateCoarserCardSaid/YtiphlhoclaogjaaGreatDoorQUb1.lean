/- Chapter 17: drawn expressions are right; less than what is needed does not do. -/
import Derived.Test.YtiphlhoclaogjaaGreatDoorQB15
import Derived.Test.YtiphlhoclaogjaaGreatDoorQQn0
import Derived.Test.YtiphlhoclaogjaaGreatDoorQF5
import Derived.Test.YtiphlhoclaogjaaGreatDoorQTx0
import Derived.Test.YtiphlhoclaogjaaGreatDoorQTx6
import Derived.Test.YtiphlhoclaogjaaGreatDoorQTb1
set_option linter.unusedVariables false
set_option linter.unnecessarySimpa false
set_option linter.unusedSimpArgs false
set_option maxHeartbeats 64000000
namespace Go.Proofs.YtiphlhoclaogjaaGreatDoor
open Go Go.Av
attribute [local irreducible] C7 B1 D1 C8 DQ D0 C6 St.le A3 B8
set_option maxRecDepth 100000
theorem PO:∀(l:List Nat) (lo hi:Nat),List.Pairwise (fun a b:Nat=>a<b) l→(∀x∈l,lo≤x∧x<hi)→lo≤hi→l.length≤hi-lo
 |[],_,_,_,_,_=>Nat.zero_le _
 |x::r,lo,hi,hp,hm,_=>by
  obtain⟨h1,h2⟩:=hm x (by simp)
  have:=PO r (x+1) hi (List.pairwise_cons.1 hp).2 (fun y hy=>⟨(List.pairwise_cons.1 hp).1 y hy,(hm y (by simp[hy])).2⟩) h2
  rw[List.length_cons];omega
theorem Fw(s:A4)(kind:Int)(k:Nat):List.Pairwise (fun a b:Nat=>a<b) (G4 s kind k):=List.Pairwise.filter _ List.pairwise_lt_range
theorem C3.cnt{s:A4}(hd:C3 s):(G4 s 2 s.cols.length).length≤3∧(G4 s 3 s.cols.length).length≤3:=by
 obtain⟨b,ms,h1,h2,h3,h4⟩:=hd.cs
 have hb:(M9 b).length≤3:=by cases b<;>decide
 have hl:s.cols.length=(M9 b).length+ms.length:=by rw[h1,List.length_append]
 have key:∀i,i<s.cols.length→(i<(M9 b).length∧(B4 s i).kind≠3)∨((M9 b).length≤i∧(B4 s i).kind=3):=by
  intro i hi
  have hg:s.cols[i]?=some (s.cols[i]'hi):=List.getElem?_eq_getElem hi
  rw[show B4 s (i:Int)=s.cols[i]'hi from C0 (by simpa using hg)]
  generalize s.cols[i]'hi=c at *
  rw[h1,List.getElem?_append]at hg
  split at hg
  ·rename_i h5
   refine .inl ⟨h5,?_⟩
   have hm:=List.mem_of_getElem? hg
   cases b
   ·have hm:c∈[Lt,Cg]:=hm
    simp only[List.mem_cons,List.not_mem_nil,or_false]at hm
    rcases hm with rfl|rfl<;>decide
   ·have hm:c∈[Lt,Cg,JV]:=hm
    simp only[List.mem_cons,List.not_mem_nil,or_false]at hm
    rcases hm with rfl|rfl|rfl<;>decide
  ·rename_i h5
   exact .inr ⟨by omega,(h4 _ c hg).kind⟩
 constructor
 ·have:=PO (G4 s 2 s.cols.length) 0 (M9 b).length (Fw s 2 _) (fun x hx=>by
   obtain⟨p1,p2⟩:=u3.1 hx
   rcases key x p1 with h|h
   ·exact⟨Nat.zero_le _,h.1⟩
   ·rw[p2]at h;exact absurd h.2 (by decide)) (by omega)
  omega
 ·have:=PO (G4 s 3 s.cols.length) (M9 b).length s.cols.length (Fw s 3 _) (fun x hx=>by
   obtain⟨p1,p2⟩:=u3.1 hx
   rcases key x p1 with h|h
   ·exact absurd p2 h.2
   ·exact⟨h.1,p1⟩) (by omega)
  omega
theorem ly(l:List UInt8)(a:Nat){s:A4}(hd:C3 s){c:Nat}(h:c∈G4 s 2 s.cols.length):j3 s ⟨c,(B7 l a (A8 s c+1)).1⟩=0:=by
 obtain⟨h1,h2⟩:=u3.1 h
 have hf:=UT hd h
 have nf:=G1 l a (n:=A8 s c+1) (by omega)
 have hc:1≤(c:Int):=by
  rcases Nat.eq_zero_or_pos c with hz|hz
  ·exfalso
   subst hz
   have hc:s.cols[0]?=some (s.cols[0]'h1):=List.getElem?_eq_getElem h1
   rw[show B4 s ((0:Nat):Int)=s.cols[0]'h1 from C0 (by simpa using hc)]at h2
   rcases hd.col hc with ⟨_,e⟩|⟨h,_⟩|⟨h,_⟩
   ·rw[e]at h2;cases h2
   ·omega
   ·omega
  ·omega
 exact XD hd hc (by dsimp only;omega) (by dsimp only;omega) (by dsimp only;omega)
structure Ui(s:A4)(x:List Pk):Prop where
 ok:∀q∈x,j3 s q=0∧(B4 s q.col).kind=2
 asc:List.Pairwise (fun p q:Pk=>p.col<q.col) x
theorem PQ(l:List UInt8){s:A4}(hd:C3 s):∀(cs:List Nat) (x:List Pk×Nat),(∀c∈cs,c∈G4 s 2 s.cols.length)→List.Pairwise (fun a b:Nat=>a<b) cs→Ui s x.1→(∀q∈x.1,∀c∈cs,q.col<(c:Int))→Ui s (Cy l s cs x).1∧(Cy l s cs x).1.length=x.1.length+cs.length
 |[],x,_,_,h,_=>⟨h,rfl⟩
 |c::r,x,hm,hp,h,hx=>by
  have hc:=hm c (by simp)
  have hk:=ly l x.2 hd hc
  obtain⟨h1,h2⟩:=PQ l hd r (x.1++[⟨c,(B7 l x.2 (A8 s c+1)).1⟩],(B7 l x.2 (A8 s c+1)).2) (fun c' ut=>hm c' (by simp[ut])) (List.pairwise_cons.1 hp).2 ⟨fun q hq=>by
    rcases List.mem_append.1 hq with hq|hq
    ·exact h.ok q hq
    ·simp only[List.mem_singleton]at hq
     subst hq
     exact⟨hk,(u3.1 hc).2⟩,List.pairwise_append.2 ⟨h.asc,List.pairwise_singleton _ _,fun p hp q hq=>by
      simp only[List.mem_singleton]at hq
      subst hq
      exact hx p hp c (by simp)⟩⟩ (fun q hq c' ut=>by
    rcases List.mem_append.1 hq with hq|hq
    ·exact hx q hq c' (by simp[ut])
    ·simp only[List.mem_singleton]at hq
     subst hq
     have:=(List.pairwise_cons.1 hp).1 c' ut
     dsimp only;omega)
  refine⟨h1,?_⟩
  show (Cy l s r _).1.length=_
  rw[h2,List.length_append,List.length_cons,List.length_cons,List.length_nil];omega
theorem XH(l:List UInt8)(a:Nat){s:A4}(hd:C3 s):J4 s (W6 l a s).1=0:=by
 have h2:=hd.two.1
 have h3:=hd.cnt.1
 have key:Ui s (W6 l a s).1∧1≤(W6 l a s).1.length∧(W6 l a s).1.length≤3:=by
  unfold W6
  split
  ·have nf:=G1 l (B7 l a 2).2 (n:=(G4 s 2 s.cols.length).length) (by omega)
   obtain⟨q1,q2⟩:=PQ l hd ((G4 s 2 s.cols.length).drop (B7 l (B7 l a 2).2 (G4 s 2 s.cols.length).length).1) ([],(B7 l (B7 l a 2).2 (G4 s 2 s.cols.length).length).2) (fun c hc=>List.mem_of_mem_drop hc) ((Fw s 2 _).drop) ⟨fun q hq=>absurd hq (List.not_mem_nil),.nil⟩ (fun q hq=>absurd hq (List.not_mem_nil))
   refine⟨q1,?_⟩
   rw[q2,List.length_drop,List.length_nil];omega
  ·obtain⟨q1,q2⟩:=PQ l hd (G4 s 2 s.cols.length) ([],(B7 l a 2).2) (fun c hc=>hc) (Fw s 2 _) ⟨fun q hq=>absurd hq (List.not_mem_nil),.nil⟩ (fun q hq=>absurd hq (List.not_mem_nil))
   refine⟨q1,?_⟩
   rw[q2,List.length_nil];omega
 generalize (W6 l a s).1=x at *
 obtain⟨hx,hl⟩:=key
 unfold J4
 rw[if_neg (by omega)]
 refine v6 fun i d hi=>?_
 rw[Nat.zero_add]
 obtain⟨o1,o2⟩:=hx.ok d (List.mem_of_getElem? hi)
 have op:I4 s d=0:=by unfold I4;rw[if_pos hd.ok];exact o1
 have oV:((x.take i).any fun y=>decide (y.col=d.col))=false:=List.any_eq_false.2 fun y hy=>by
  obtain⟨j,hj,rfl⟩:=List.getElem_of_mem hy
  rw[List.length_take]at hj
  rw[List.getElem_take]
  have nf:=D4 hi
  have:=List.pairwise_iff_getElem.1 hx.asc j i (by omega) nf (by omega)
  have e:x[i]'nf=d:=by rw[List.getElem?_eq_getElem nf]at hi;exact Option.some.inj hi
  rw[e]at this
  simp only[decide_eq_true_eq];omega
 unfold Q0
 rw[if_neg (by omega),if_neg (by omega),oV,if_neg (by decide)]
def EK:B0:=.mk 1 0 0 0 0 []
theorem OK{s:A4}(hr:C5 s=0){q:W2}(h1:D5 q.name=true)(h2:q.kind=1)(h3:H0 s q.flt=0)(h4:J4 s q.dims=0)(h5:q.mea=-1∨P6 s q.mea 3=true)(h6:q.trms=[])(h7:q.evt=zC):O3 s q=0:=by
 unfold O3 Hy
 rw[if_neg (by omega),h1,if_neg (by simp),if_neg (by omega),if_neg (by omega),if_pos h2,if_neg (by omega),if_neg,if_neg]
 ·rintro (h|h)
  ·rw[h6]at h;exact absurd h (by simp)
  ·rw[h7]at h;exact h lm
 ·rintro ⟨h8,h9⟩
  rcases h5 with h|h
  ·exact h8 h
  ·rw[Nx _ _ _ (by decide)]at h
   exact h9 (of_decide_eq_true h)
theorem Dt{s:A4}(hr:C5 s=0):H0 s EK=0:=by
 unfold H0
 rw[if_pos hr,if_neg (by decide),if_neg (by decide)]
 rfl
abbrev Bq(l:List (List Int)):Prop:=l.Pairwise fun a b=>a.headD 0<b.headD 0
theorem IH{l:List (List Int)}{x:List Int}(h:Bq l)(hx:∀y∈l,y.headD 0<x.headD 0):Bq (l++[x]):=by
 refine List.pairwise_append.2 ⟨h,List.pairwise_singleton ..,fun a ha b hb=>?_⟩
 rw[List.mem_singleton]at hb
 subst hb
 exact hx a ha
theorem Kc{row:List Int}:∀(l:List (List Int)) (out:List (List Int)) (done:Bool),Bq out→Bq l→(∀x∈out,∀y∈l,x.headD 0<y.headD 0)→(done=false→∀x∈out,x.headD 0<row.headD 0)→(done=true→∀y∈l,row.headD 0<y.headD 0) →
  Bq (l.foldl (o3 row) (out,done)).1∧((l.foldl (o3 row) (out,done)).2=false→∀x∈(l.foldl (o3 row) (out,done)).1,x.headD 0<row.headD 0)
 |[],out,done,h1,_,_,h4,_=>⟨h1,h4⟩
 |x::r,out,done,h1,h2,h3,h4,h5=>by
  obtain⟨h6,h7⟩:=List.pairwise_cons.1 h2
  have h3x:=fun y hy=>h3 y hy x (List.mem_cons_self ..)
  have zU:=fun y hy z hz=>h3 y hy z (List.mem_cons_of_mem _ hz)
  rw[List.foldl_cons,o3]
  by_cases c1:x.headD 0=row.headD 0
  ·rw[if_pos c1]
   exact Kc r out done h1 h7 zU h4 fun hd y hy=>h5 hd y (List.mem_cons_of_mem _ hy)
  ·rw[if_neg c1]
   by_cases c2:row.headD 0<x.headD 0∧done=false
   ·rw[if_pos c2]
    have h8:=h4 c2.2
    refine Kc r _ true (IH (IH h1 h8) fun y hy=>?_) h7 (fun y hy z hz=>?_) (fun h=>by cases h) fun _ y hy=>Int.lt_trans c2.1 (h6 y hy)
    ·rcases List.mem_append.1 hy with hy|hy
     ·exact h3x y hy
     ·rw[List.mem_singleton]at hy;subst hy;exact c2.1
    ·have h9:=h6 z hz
     rcases List.mem_append.1 hy with hy|hy
     ·rcases List.mem_append.1 hy with hy|hy
      ·exact zU y hy z hz
      ·rw[List.mem_singleton]at hy;subst hy;exact Int.lt_trans c2.1 h9
     ·rw[List.mem_singleton]at hy;subst hy;exact h9
   ·rw[if_neg c2]
    refine Kc r _ done (IH h1 h3x) h7 (fun y hy z hz=>?_) (fun hd y hy=>?_) fun hd y hy=>h5 hd y (List.mem_cons_of_mem _ hy)
    ·rcases List.mem_append.1 hy with hy|hy
     ·exact zU y hy z hz
     ·rw[List.mem_singleton]at hy;subst hy;exact h6 z hz
    ·rcases List.mem_append.1 hy with hy|hy
     ·exact h4 hd y hy
     ·rw[List.mem_singleton]at hy
      rw[hy]
      have:¬row.headD 0<x.headD 0:=fun h=>c2 ⟨h,hd⟩
      omega
theorem Uj{l:List (List Int)}(h:Bq l)(row:List Int):Bq (o4 l row):=by
 obtain⟨h1,h2⟩:=Kc (row:=row) l [] false List.Pairwise.nil h (fun x hx=>by cases hx) (fun _ x hx=>by cases hx) (fun hd=>by cases hd)
 unfold o4
 dsimp only
 split
 ·exact h1
 ·rename_i hf
  exact IH h1 (h2 (by simpa using hf))
theorem Uk{l:List (List Int)}{row x:List Int}(h:x∈o4 l row):x=row∨x∈l:=by
 have key:∀(l:List (List Int)) (q:List (List Int)×Bool),x∈(l.foldl (o3 row) q).1→x=row∨x∈l∨x∈q.1:=by
  intro l
  induction l with
  |nil=>intro q hq;exact .inr (.inr hq)
  |cons a r ih =>
   rintro ⟨out,done⟩ hq
   rw[List.foldl_cons,o3]at hq
   rcases ih _ hq with h|h|h
   ·exact .inl h
   ·exact .inr (.inl (List.mem_cons_of_mem _ h))
   ·split at h
    ·exact .inr (.inr h)
    ·split at h
     ·dsimp only at h
      simp only[List.mem_append,List.mem_singleton]at h
      rcases h with (h|h)|h
      ·exact .inr (.inr h)
      ·exact .inl h
      ·exact .inr (.inl (by rw[h];exact List.mem_cons_self ..))
     ·dsimp only at h
      simp only[List.mem_append,List.mem_singleton]at h
      rcases h with h|h
      ·exact .inr (.inr h)
      ·exact .inr (.inl (by rw[h];exact List.mem_cons_self ..))
 unfold o4 at h
 dsimp only at h
 split at h
 ·rcases key l _ h with h|h|h
  ·exact .inl h
  ·exact .inr h
  ·cases h
 ·rcases List.mem_append.1 h with h|h
  ·rcases key l _ h with h|h|h
   ·exact .inl h
   ·exact .inr h
   ·cases h
  ·exact .inl (by simpa using h)
structure OL(s:A4)(n:Nat)(rows:List (List Int)):Prop where
 asc:Bq rows
 ok:∀r∈rows,p7 s r
 len:rows.length≤n
theorem OM{s:A4}(hd:C3 s)(l:List UInt8):∀(n m:Nat) (x:List (List Int)×Nat),OL s m x.1→OL s (m+n) (CH l s n x).1
 |0,m,x,h=>h
 |n+1,m,x,h=>by
  have:=OM hd l n (m+1) (o4 x.1 (j7 l x.2 s).1,(j7 l x.2 s).2) ⟨Uj h.asc _,fun r hr=>?_,?_⟩
  ·rw[show m+(n+1)=m+1+n by omega]
   exact this
  ·rcases Uk hr with rfl|hr
   ·exact il hd l x.2
   ·exact h.ok r hr
  ·have h1:=Hn x.1 (j7 l x.2 s).1
   have h2:=h.len
   dsimp only
   omega
theorem XI(l:List UInt8)(a:Nat){most:Int}(h0:0≤most):C3 (Ab l a most).1.1∧OL (Ab l a most).1.1 most.toNat (Ab l a most).1.2:=by
 have hd:=Ng l a
 have hn:=G1 l (Bh l a).2 (n:=most+1) (by omega)
 have h:=OM hd l (B7 l (Bh l a).2 (most+1)).1 0 ([],(B7 l (Bh l a).2 (most+1)).2) ⟨List.Pairwise.nil,(fun r hr=>by cases hr),Nat.le_refl _⟩
 refine⟨hd,h.asc,h.ok,Nat.le_trans h.len ?_⟩
 omega
theorem Kd{l:List (List Int)}(h:Bq l){i j:Nat}{x y:List Int}(hx:l[i]?=some x)(hy:l[j]?=some y)(sb:i<j):x.headD 0<y.headD 0:=by
 have h1:=D4 hx
 have h2:=D4 hy
 have:=List.pairwise_iff_getElem.1 h i j h1 h2 sb
 rw[List.getElem?_eq_getElem h1]at hx
 rw[List.getElem?_eq_getElem h2]at hy
 rw[Option.some.inj hx,Option.some.inj hy]at this
 exact this
theorem jm{s:A4}(hd:C3 s){n:Nat}{rows:List (List Int)}(h:OL s n rows)(hn:n≤200):EF s rows=true:=by
 refine decide_eq_true ⟨hd.ok,Nat.le_trans h.len hn,v6 fun i r hr=>?_⟩
 rw[Nat.zero_add]
 unfold Js
 rw[if_neg (by have:=io hd.ok (h.ok r (List.mem_of_getElem? hr));omega),if_neg]
 rintro ⟨h0,h1⟩
 obtain⟨q,hq⟩:∃q,rows[i-1]?=some q:=⟨_,List.getElem?_eq_getElem (by have:=D4 hr;omega)⟩
 rw[D2 hq]at h1
 have:=Kd h.asc hq hr (by omega)
 omega
theorem lz{s:A4}(hd:C3 s){r:List Int}(h:p7 s r):1≤r.headD 0∧r.headD 0≤60:=by
 have hl:=hd.lens
 obtain⟨c,hc⟩:∃c,s.cols[0]?=some c:=⟨_,List.getElem?_eq_getElem (by omega)⟩
 have h1:=h.2 0 c hc
 have hk:c.kind=1:=by
  rcases hd.col hc with ⟨_,rfl⟩|⟨h,_⟩|⟨h,_⟩
  ·rfl
  ·omega
  ·omega
 have h2:r.getD 0 0=r.headD 0:=by cases r<;>rfl
 rw[h2]at h1
 rcases h1 with ⟨_,h3,h4⟩|⟨h3,_⟩|⟨h3,_⟩
 ·exact⟨h3,h4⟩
 ·omega
 ·omega
def V9:Cq:=⟨[97,108,108,95,114,111,119,115],[115,114,99],EK,1,1,0,[⟨[113],1,EK,[⟨1,0⟩],-1,[],zC⟩]⟩
theorem jn:NL gU (Jj V9):=Do ⟨.refl _,.refl _,.refl _,.refl _,.refl _,.refl _,.refl _,.nil 6,.refl _,.refl _,.refl _,gQ ⟨⟨.refl _,.refl _,.refl _,.refl _,.refl _,.refl _,.refl _,.nil 6,.refl _,.refl _,.nil 1,.refl _,.refl _,.refl _,.refl _,.refl _,.nil 6,trivial⟩,trivial⟩,trivial⟩
theorem ON{s:A4}(hd:C3 s):O3 s ⟨[113],1,EK,[⟨1,0⟩],-1,[],zC⟩=0:=by
 have hl:=hd.lens
 obtain⟨c,hc⟩:∃c,s.cols[1]?=some c:=⟨_,List.getElem?_eq_getElem (by omega)⟩
 obtain⟨b,ms,hb,_⟩:=hd.cs
 have hk:c.kind=2:=by
  rw[hb]at hc
  cases b<;>(simp[M9]at hc;subst hc;rfl)
 refine OK hd.ok (by decide) rfl (Dt hd.ok) ?_ (.inl rfl) rfl rfl
 unfold J4
 rw[if_neg (by simp)]
 unfold E4
 have hf:=hd.fin (c:=1) (by omega) (by omega)
 have hp:I4 s ⟨1,0⟩=0:=by
  unfold I4 j3
  rw[if_pos hd.ok]
  dsimp only
  rw[if_neg (by omega),if_neg (by omega)]
 have hx:Q0 s [⟨1,0⟩] 0 ⟨1,0⟩=0:=by
  unfold Q0
  rw[if_neg (fun h=>h hp),if_neg (by rw[C0 (by simpa using hc)];omega),if_neg (by simp)]
 rw[if_pos hx]
 rfl
theorem Zb{s:A4}(hd:C3 s):DS s V9=0:=by
 unfold DS V9
 dsimp only
 rw[if_neg (by have:=hd.ok;omega),if_neg (by decide),if_neg (by have:=Dt hd.ok;omega),if_neg (by omega),if_neg (by simp)]
 unfold E4
 have hx:Ny s [⟨[113],1,EK,[⟨1,0⟩],-1,[],zC⟩] 0 ⟨[113],1,EK,[⟨1,0⟩],-1,[],zC⟩=0:=by
  unfold Ny
  rw[if_neg (by have:=ON hd;omega),if_neg (by simp)]
 rw[if_pos hx]
 rfl
theorem jo{s:A4}(hd:C3 s):p9 s V9 (K9 s)=0:=by
 have hl:=hd.lens
 have hp:=Qm hd
 have hq:=ON hd
 unfold p9
 rw[if_neg (by have:=Zb hd;omega),if_neg (by omega),if_pos]
 unfold V9
 rw[List.all_cons,List.all_nil,Bool.and_true]
 unfold UZ
 rw[decide_eq_true hq,decide_eq_true hp,Bool.true_and,Bool.true_and]
 have hz:ID s ⟨[113],1,EK,[⟨1,0⟩],-1,[],zC⟩=[]:=by
  have hu:∀(k:Nat),x5 s ⟨[113],1,EK,[⟨1,0⟩],-1,[],zC⟩ [] k=[]:=by
   intro k
   induction k with
   |zero=>rfl
   |succ k ih =>
    unfold x5
    rw[if_neg,ih]
    unfold Jp
    rw[decide_eq_false (by dsimp only;omega)]
    simp
  have hn:L3 s EK=[]:=by
   unfold L3
   rw[if_pos (Dt hd.ok),show X5 EK=[]from rfl,Wh]
   exact JU _ _
  have pF:I1 s 1 0≤0:=by
   unfold I1
   split
   ·omega
   ·obtain⟨c,hc⟩:∃c,s.cols[1]?=some c:=⟨_,List.getElem?_eq_getElem (by omega)⟩
    obtain⟨n,hB⟩:=hd.blk (by omega) hc
    have:=(GM hB 0 (Nat.zero_le _)).1
    rw[C0 (by simpa using hc)]
    show ((Q6 s c 0:Nat):Int)≤0
    omega
  unfold ID
  rw[if_pos hq]
  have:ZQ s ⟨[113],1,EK,[⟨1,0⟩],-1,[],zC⟩=[]:=by
   unfold ZQ ZP M8
   dsimp only
   rw[hn,if_neg (by omega)]
   show e9 [] 1 (I1 s 1 0)=[]
   unfold e9 N4
   rw[decide_eq_true pF,if_pos rfl]
  rw[this,hu]
 rw[hz]
 exact Nj fun n hn=>by cases hn
structure V0(s:A4)(x:H6):Prop where
 prj:D5 x.prj=true
 ver:x.ver=0
 picks:x.picks=K9 s
 asc:Bq x.rows
 row:∀r∈x.rows,∃q,p7 s q∧r=r.headD 0::q.tail∧0≤r.headD 0∧r.headD 0≤1048575
 len:x.rows.length≤200
theorem Jv{l:List Int}(k:Nat):l.tail[k]?=l[k+1]?:=by cases l<;>simp
theorem p7.get{s:A4}{q:List Int}(h:p7 s q){i:Nat}(hi:i<s.cols.length):∃v c,q[i]?=some v∧s.cols[i]?=some c∧i8 s c v:=by
 obtain⟨h1,h2⟩:=h
 obtain⟨v,hv⟩:∃v,q[i]?=some v:=⟨_,List.getElem?_eq_getElem (by omega)⟩
 obtain⟨c,hc⟩:∃c,s.cols[i]?=some c:=⟨_,List.getElem?_eq_getElem hi⟩
 have:=h2 i c hc
 rw[D2 hv]at this
 exact⟨v,c,hv,hc,this⟩
theorem ff{s:A4}(hd:C3 s){q:List Int}(h:p7 s q):((K9 s).map fun p=>F9 s p.col p.lev (q.getD p.col.toNat 0))=q.tail:=by
 have hl:=hd.lens
 have tA:=Bo s (s.cols.length-1)
 refine List.ext_getElem? fun i=>?_
 rw[List.getElem?_map,Jv]
 by_cases hi:i<s.cols.length-1
 ·unfold K9
  rw[Aa s hi]
  obtain⟨v,c,hv,hc,wJ⟩:=h.get (i:=i+1) (by omega)
  obtain⟨n,hn,_,ul⟩:=hd.chain (i:=i+1) (by omega) hc
  rw[hv]
  show some (F9 s ((i:Int)+1) (A8 s ((i:Int)+1)) (q.getD ((i:Int)+1).toNat 0))=some v
  rw[show ((i:Int)+1)=((i+1:Nat):Int) by omega,Int.toNat_natCast,D2 hv,hn,(ul v wJ).1]
 ·rw[List.getElem?_eq_none (by unfold K9;omega),List.getElem?_eq_none (by have:=h.1;omega)]
  rfl
theorem fg{s:A4}(hd:C3 s){n:Nat}{rows:List (List Int)}(h:OL s n rows)(hn:n≤200){secret:Int}(hs:0≤secret∧secret<1152921504606846976):
  FU s rows secret (p9 s V9 (K9 s))=0∧V0 s (Jt s rows V9 (K9 s) secret (p9 s V9 (K9 s))):=by
 have hv:=jm hd h hn
 have hE:FU s rows secret (p9 s V9 (K9 s))=0:=by
  unfold FU
  rw[if_neg (by rw[hv];decide),if_neg (by have:=jo hd;omega),if_neg (by omega)]
 refine⟨hE,?_⟩
 have hX:Jt s rows V9 (K9 s) secret (p9 s V9 (K9 s))=⟨V9.prj,0,K9 s,V8 s rows (K9 s) secret (Ac s rows V9)⟩:=if_pos hE
 rw[hX]
 have nh:∀id∈Ac s rows V9,id∈DB s V9 rows:=fun id hid=>by
  unfold Ac at hid
  split at hid
  ·exact hid
  ·cases hid
 have hne:∀(k:Nat) r,rows[k]?=some r→∃z,r[0]?=some z:=fun k r hk=>by
  have:=(h.ok r (List.mem_of_getElem? hk)).1
  have:=hd.lens
  exact⟨_,List.getElem?_eq_getElem (by omega)⟩
 have nl:∀id∈DB s V9 rows,∃q,p7 s q∧o8 s rows (K9 s) secret id=FS secret id::q.tail∧0≤FS secret id∧FS secret id≤1048575:=fun id hid=>by
  obtain⟨j,r,h1,h2⟩:=Uh hne hid
  have h3:=h.ok r (List.mem_of_getElem? h2)
  have hb:Jq secret id=true:=by
   unfold DB at hid
   rw[List.mem_map]at hid
   obtain⟨r0,h4,rfl⟩:=hid
   have:=lz hd (h.ok r0 (List.mem_filter.1 h4).1)
   exact decide_eq_true ⟨hs.1,hs.2,by omega,by omega⟩
  refine⟨r,h3,?_,jg hb⟩
  unfold o8
  rw[h1,Int.toNat_natCast,D2 h2,ff hd h3]
 have key:∀(ids:List Int) (pm:List (List Int)),(∀id∈ids,id∈DB s V9 rows)→Bq pm→(∀r∈pm,∃q,p7 s q∧r=r.headD 0::q.tail∧0≤r.headD 0∧r.headD 0≤1048575) →
   Bq (ids.foldl (fun pm id=>o4 pm (o8 s rows (K9 s) secret id)) pm)∧(∀r∈ids.foldl (fun pm id=>o4 pm (o8 s rows (K9 s) secret id)) pm,∃q,p7 s q∧r=r.headD 0::q.tail∧0≤r.headD 0∧r.headD 0≤1048575) ∧
    (ids.foldl (fun pm id=>o4 pm (o8 s rows (K9 s) secret id)) pm).length≤pm.length+ids.length:=by
  intro ids
  induction ids with
  |nil=>intro pm _ h1 h2;exact⟨h1,h2,Nat.le_refl _⟩
  |cons id r ih =>
   intro pm h0 h1 h2
   rw[List.foldl_cons]
   obtain⟨g1,g2,g3⟩:=ih (o4 pm (o8 s rows (K9 s) secret id)) (fun i hi=>h0 i (List.mem_cons_of_mem _ hi)) (Uj h1 _) fun y hy=>by
    rcases Uk hy with rfl|hy
    ·obtain⟨q,q1,q2,q3⟩:=nl id (h0 id (List.mem_cons_self ..))
     refine⟨q,q1,?_,?_⟩
     ·rw[q2];rfl
     ·rw[q2];exact q3
    ·exact h2 y hy
   refine⟨g1,g2,?_⟩
   have:=Hn pm (o8 s rows (K9 s) secret id)
   rw[List.length_cons]
   omega
 obtain⟨k1,k2,k3⟩:=key (Ac s rows V9) [] nh List.Pairwise.nil (fun r hr=>by cases hr)
 refine⟨(show D5 V9.prj=true by decide),rfl,rfl,k1,k2,?_⟩
 have rp:(Ac s rows V9).length≤rows.length:=by
  unfold Ac
  split
  ·exact MR s V9 rows
  ·exact Nat.zero_le _
 have:=h.len
 refine Nat.le_trans k3 ?_
 rw[List.length_nil]
 omega
theorem Jw{s:A4}{q:List Int}{k:Int}{i:Nat}{v:Int}(hi:i+1<s.cols.length)(hv:q[i+1]?=some v):((K9 s).zip (k::q.tail).tail)[i]?=some (⟨(i:Int)+1,A8 s ((i:Int)+1)⟩,v):=by
 rw[List.getElem?_zip_eq_some]
 refine⟨?_,?_⟩
 ·unfold K9
  rw[Aa s (by omega)]
 ·show q.tail[i]?=some v
  rw[Jv,hv]
theorem Dh{s:A4}(hd:C3 s){x:H6}(h:V0 s x):R2 s x=0:=by
 have hp:=Qm hd
 have hl:=hd.lens
 have tA:=Bo s (s.cols.length-1)
 unfold R2
 rw[if_neg (by have:=hd.ok;omega),if_neg (by rw[h.prj];decide),if_neg (by have:=h.ver;omega),if_neg (by rw[h.picks];omega),if_neg (by have:=h.len;omega)]
 refine v6 fun i r hr=>?_
 rw[Nat.zero_add]
 obtain⟨q,h1,h2,h3,h4⟩:=h.row r (List.mem_of_getElem? hr)
 have hf:j8 s x.picks r=true:=by
  unfold j8
  rw[h.picks,decide_eq_true,Bool.true_and]
  ·unfold p8
   rw[List.all_eq_true]
   rintro ⟨p,v⟩ hm
   obtain⟨j,hj⟩:=List.mem_iff_getElem?.1 hm
   have re:j+1<s.cols.length:=by
    have:=D4 hj
    rw[List.length_zip]at this
    unfold K9 at this
    omega
   obtain⟨w,c,hw,hc,wL⟩:=h1.get (i:=j+1) re
   rw[h2,Jw re hw]at hj
   cases hj
   obtain⟨n,hn,_,ul⟩:=hd.chain (i:=j+1) (by omega) hc
   have:=(jc hd (i:=j+1) (by omega) hc hn wL (m:=n) (Nat.le_refl _)).1
   rw[(ul _ wL).1]at this
   dsimp only
   rw[show ((j:Int)+1)=((j+1:Nat):Int) by omega,hn]
   exact this
  ·have nZ:r.length=q.length:=by
    rw[h2]
    have:=h1.1
    cases q with
    |nil=>simp at this;omega
    |cons a t=>simp
   refine⟨?_,h3,h4⟩
   have:=h1.1
   unfold K9
   omega
 unfold w5
 rw[if_neg (by rw[hf];decide),if_neg]
 rintro ⟨h0,h5⟩
 obtain⟨y,hy⟩:∃y,x.rows[i-1]?=some y:=⟨_,List.getElem?_eq_getElem (by have:=D4 hr;omega)⟩
 rw[D2 hy]at h5
 have:=Kd h.asc hy hr (by omega)
 omega
theorem XJ{s:A4}{col lev:Int}:∀{pv:List (Pk×Int)} {i:Nat} {p:Pk} {v:Int},pv[i]?=some (p,v)→p.col=col→(∀(j:Nat) y,j<i→pv[j]?=some y→y.1.col≠col)→V6 s col lev pv=d7 s col p.lev v lev
 |[],i,p,v,h,_,_=>by simp at h
 |(a,b)::r,0,p,v,h,hc,_=>by
  simp at h
  obtain⟨rfl,rfl⟩:=h
  rw[V6,if_pos hc]
 |(a,b)::r,i+1,p,v,h,hc,hn=>by
  rw[V6,if_neg (hn 0 (a,b) (by omega) rfl)]
  exact XJ (by simpa using h) hc fun j y hj hy=>hn (j+1) y (by omega) (by simpa using hy)
theorem Qr{s:A4}(hd:C3 s){q:List Int}(h:p7 s q)(k:Int){i:Nat}(hi:0<i)(oW:i<s.cols.length){v:Int}(hv:q[i]?=some v){lev:Int}(h0:0≤lev)(h1:lev≤A8 s i):
  V6 s i lev ((K9 s).zip (k::q.tail).tail)=(F9 s i lev v,true):=by
 obtain⟨j,rfl⟩:∃j,i=j+1:=⟨i-1,by omega⟩
 obtain⟨w,c,hw,hc,wL⟩:=h.get oW
 rw[hv]at hw
 cases hw
 obtain⟨n,hn,_,ul⟩:=hd.chain (i:=j+1) (by omega) hc
 obtain⟨h2,_,h3⟩:=ul v wL
 obtain⟨m,rfl⟩:=Int.eq_ofNat_of_zero_le h0
 have h4:=h3 n m (by omega) (Nat.le_refl _)
 unfold YL at h4
 rw[if_pos hd.ok,h2]at h4
 rw[XJ (Jw oW hv) (by dsimp only;omega) fun a y ha hy=>?_]
 ·dsimp only
  rw[show ((j:Int)+1)=((j+1:Nat):Int) by omega,hn]
  exact h4
 ·obtain⟨u,_,hu,_⟩:=h.get (i:=a+1) (by omega)
  rw[Jw (by omega) hu]at hy
  cases hy
  dsimp only
  omega
end Go.Proofs.YtiphlhoclaogjaaGreatDoor
