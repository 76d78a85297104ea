/- Chapter 18: a drawn source is valid, and the extract of all its columns and rows is right: plain. -/
import Derived.Test.YtiphlhoclaogjaaGreatDoorJQd0
import Derived.Lib.LaidTab
import Derived.Stop.LaidErr
import Derived.MakeChecks
import Derived.Shelf.Vars
set_option linter.unusedVariables false
set_option linter.unnecessarySimpa false
set_option linter.unusedSimpArgs false
set_option maxHeartbeats 64000000
namespace Go.Proofs.YtiphlhoclaogjaaGreatDoor
open Go Go.Av
attribute [local irreducible] C9 B3 C8 D1 DQ D0 C7 St.le A3 B8
set_option maxRecDepth 100000
abbrev Kh(l:List (List Int)):Prop:=l.Pairwise fun a b=>a.headD 0<b.headD 0
theorem JD{l:List (List Int)}{x:List Int}(h:Kh l)(hx:∀y∈l,y.headD 0<x.headD 0):Kh (l++[x]):=by
 refine List.pairwise_append.2 ⟨h,List.pairwise_singleton ..,fun a ha b hb=>?_⟩
 rw[List.mem_singleton]at hb
 subst hb
 exact hx a ha
theorem LL{row:List Int}:∀(l:List (List Int)) (out:List (List Int)) (done:Bool),Kh out→Kh l→(∀x∈out,∀y∈l,x.headD 0<y.headD 0)→(done=false→∀x∈out,x.headD 0<row.headD 0)→(done=true→∀y∈l,row.headD 0<y.headD 0) →
  Kh (l.foldl (z6 row) (out,done)).1∧((l.foldl (z6 row) (out,done)).2=false→∀x∈(l.foldl (z6 row) (out,done)).1,x.headD 0<row.headD 0)
 |[],out,done,h1,_,_,h4,_=>⟨h1,h4⟩
 |x::r,out,done,h1,h2,h3,h4,h5=>by
  obtain⟨h6,h7⟩:=List.pairwise_cons.1 h2
  have h3x:=fun y hy=>h3 y hy x (List.mem_cons_self ..)
  have zP:=fun y hy z hz=>h3 y hy z (List.mem_cons_of_mem _ hz)
  rw[List.foldl_cons,z6]
  by_cases c1:x.headD 0=row.headD 0
  ·rw[if_pos c1]
   exact LL r out done h1 h7 zP h4 fun hd y hy=>h5 hd y (List.mem_cons_of_mem _ hy)
  ·rw[if_neg c1]
   by_cases c2:row.headD 0<x.headD 0∧done=false
   ·rw[if_pos c2]
    have h8:=h4 c2.2
    refine LL r _ true (JD (JD h1 h8) fun y hy=>?_) h7 (fun y hy z hz=>?_) (fun h=>by cases h) fun _ y hy=>Int.lt_trans c2.1 (h6 y hy)
    ·rcases List.mem_append.1 hy with hy|hy
     ·exact h3x y hy
     ·rw[List.mem_singleton]at hy;subst hy;exact c2.1
    ·have h9:=h6 z hz
     rcases List.mem_append.1 hy with hy|hy
     ·rcases List.mem_append.1 hy with hy|hy
      ·exact zP y hy z hz
      ·rw[List.mem_singleton]at hy;subst hy;exact Int.lt_trans c2.1 h9
     ·rw[List.mem_singleton]at hy;subst hy;exact h9
   ·rw[if_neg c2]
    refine LL r _ done (JD h1 h3x) h7 (fun y hy z hz=>?_) (fun hd y hy=>?_) fun hd y hy=>h5 hd y (List.mem_cons_of_mem _ hy)
    ·rcases List.mem_append.1 hy with hy|hy
     ·exact zP y hy z hz
     ·rw[List.mem_singleton]at hy;subst hy;exact h6 z hz
    ·rcases List.mem_append.1 hy with hy|hy
     ·exact h4 hd y hy
     ·rw[List.mem_singleton]at hy
      rw[hy]
      have:¬row.headD 0<x.headD 0:=fun h=>c2 ⟨h,hd⟩
      omega
theorem fb{l:List (List Int)}(h:Kh l)(row:List Int):Kh (Bo l row):=by
 obtain⟨h1,h2⟩:=LL (row:=row) l [] false List.Pairwise.nil h (fun x hx=>by cases hx) (fun _ x hx=>by cases hx) (fun hd=>by cases hd)
 unfold Bo
 dsimp only
 split
 ·exact h1
 ·rename_i hf
  exact JD h1 (h2 (by simpa using hf))
theorem fc{l:List (List Int)}{row x:List Int}(h:x∈Bo l row):x=row∨x∈l:=by
 have key:∀(l:List (List Int)) (q:List (List Int)×Bool),x∈(l.foldl (z6 row) q).1→x=row∨x∈l∨x∈q.1:=by
  intro l
  induction l with
  |nil=>intro q hq;exact .inr (.inr hq)
  |cons a r ih =>
   rintro ⟨out,done⟩ hq
   rw[List.foldl_cons,z6]at hq
   rcases ih _ hq with h|h|h
   ·exact .inl h
   ·exact .inr (.inl (List.mem_cons_of_mem _ h))
   ·split at h
    ·exact .inr (.inr h)
    ·split at h
     ·dsimp only at h
      simp only[List.mem_append,List.mem_singleton]at h
      rcases h with (h|h)|h
      ·exact .inr (.inr h)
      ·exact .inl h
      ·exact .inr (.inl (by rw[h];exact List.mem_cons_self ..))
     ·dsimp only at h
      simp only[List.mem_append,List.mem_singleton]at h
      rcases h with h|h
      ·exact .inr (.inr h)
      ·exact .inr (.inl (by rw[h];exact List.mem_cons_self ..))
 unfold Bo at h
 dsimp only at h
 split at h
 ·rcases key l _ h with h|h|h
  ·exact .inl h
  ·exact .inr h
  ·cases h
 ·rcases List.mem_append.1 h with h|h
  ·rcases key l _ h with h|h|h
   ·exact .inl h
   ·exact .inr h
   ·cases h
  ·exact .inl (by simpa using h)
structure Zh(s:A4)(n:Nat)(rows:List (List Int)):Prop where
 asc:Kh rows
 ok:∀r∈rows,Yg s r
 len:rows.length≤n
theorem PD{s:A4}(hd:E4 s)(l:List UInt8):∀(n m:Nat) (x:List (List Int)×Nat),Zh s m x.1→Zh s (m+n) (DL l s n x).1
 |0,m,x,h=>h
 |n+1,m,x,h=>by
  have:=PD hd l n (m+1) (Bo x.1 (o7 l x.2 s).1,(o7 l x.2 s).2) ⟨fb h.asc _,fun r hr=>?_,?_⟩
  ·rw[show m+(n+1)=m+1+n by omega]
   exact this
  ·rcases fc hr with rfl|hr
   ·exact Wz hd l x.2
   ·exact h.ok r hr
  ·have h1:=Mi x.1 (o7 l x.2 s).1
   have h2:=h.len
   dsimp only
   omega
theorem XV(l:List UInt8)(a:Nat){most:Int}(h0:0≤most):E4 (Bt l a most).1.1∧Zh (Bt l a most).1.1 most.toNat (Bt l a most).1.2:=by
 have hd:=OT l a
 have hn:=I4 l (Cp l a).2 (n:=most+1) (by omega)
 have h:=PD hd l (C1 l (Cp l a).2 (most+1)).1 0 ([],(C1 l (Cp l a).2 (most+1)).2) ⟨List.Pairwise.nil,(fun r hr=>by cases hr),Nat.le_refl _⟩
 refine⟨hd,h.asc,h.ok,Nat.le_trans h.len ?_⟩
 omega
def ND:Dm:=⟨[97,108,108,95,114,111,119,115],[115,114,99],mW,1,1,0,[⟨[113],1,mW,[⟨1,0⟩],-1,[],zC⟩]⟩
theorem jo:NL gR (KO ND):=CX ⟨.refl _,.refl _,.refl _,.refl _,.refl _,.refl _,.refl _,.nil 6,.refl _,.refl _,.refl _,gM ⟨⟨.refl _,.refl _,.refl _,.refl _,.refl _,.refl _,.refl _,.nil 6,.refl _,.refl _,.nil 1,.refl _,.refl _,.refl _,.refl _,.refl _,.nil 6,trivial⟩,trivial⟩,trivial⟩
theorem fe{s:A4}{d:Dm}{picks:List Pk}(h:Eb s d picks=0):∀p∈picks,0≤p.col∧p.col<s.cols.length:=by
 intro p hp
 unfold Eb at h
 split at h
 ·contradiction
 ·split at h
  ·contradiction
  ·rename_i h2
   obtain⟨k,hk⟩:=List.getElem?_of_mem hp
   have:=Aa (Decidable.of_not_not h2) k p hk
   omega
theorem cS(s:A4)(hd:E4 s)(rows:List (List Int))(d:Dm)(picks:List Pk)(hl:picks.length≤1000)(secret:Int):A3 Tryz.prog 38 [.agg (R2 s rows),KO d,.sl 2 (picks.map A8),.i secret] (.tup [X9 (QC s rows d picks secret (Eb s d picks)),.i (Kf s rows secret (Eb s d picks))]) :=
 WR s rows d picks secret (Eb s d picks) hl (WO s hd d picks) fe
abbrev nI:Nat:=26
abbrev ff:List AV:=[.v (.slice none 0 0),.v (.slice none 0 0),.v (.slice none 0 0),.v (.slice none 0 0),.i 0]
abbrev ll:List AV:=[.str [],.i 0,.v (.slice none 0 0),.v (.slice none 0 0)]
abbrev gS:List AV:=[.str [97,108,108,95,114,111,119,115],.str [115,114,99],.i 1,.i 0,.i 0,.i 0,.i 0,BM,.i 1,.i 1,.i 0,.sl 17 [[.str [113],.i 1,.i 1,.i 0,.i 0,.i 0,.i 0,BM,.sl 2 [[.i 1,.i 0]],.i (-1),BM,.i 0,.i 0,.i 0,.i 0,.i 0,BM]]]
def NE(l:List UInt8)(a:Nat)(most:Int):(A4×List (List Int)×J9)×Nat :=
 (((Bt l a most).1.1,(Bt l a most).1.2,QC (Bt l a most).1.1 (Bt l a most).1.2 ND (Ey (Bt l a most).1.1) (QE l (Bt l a most).2).1 (Eb (Bt l a most).1.1 ND (Ey (Bt l a most).1.1))),(QE l (Bt l a most).2).2)
theorem Zi(l:List UInt8)(a:Nat)(most:Int)(hl:l.length≤400)(hm:0≤most)(sH:most≤1000):B8 Tryz.prog 13 1 (X7 l a) [.ref 0 0,.i most] 1 (X7 l (NE l a most).2) (.tup [.agg (R2 (NE l a most).1.1 (NE l a most).1.2.1),X9 (NE l a most).1.2.2]):=by
 have h1:=fZ l a most hl hm sH
 have hd:=(XV l a hm).1
 unfold NE
 dsimp only
 generalize Bt l a most=q at *
 obtain⟨⟨s,rows⟩,b⟩:=q
 dsimp only at *
 have h2:=fQ s hd
 have h3:=WS l b hl
 have sk:(Ey s).length≤1000:=by
  have:=hd.lens
  have:=Mw s (s.cols.length-1)
  unfold Ey
  omega
 generalize QE l b=z at *
 obtain⟨zI,b2⟩:=z
 dsimp only at *
 have h4:=z1 (l':=[.agg (R2 s rows),.agg gS,.sl 2 ((Ey s).map A8),.i zI]) (cS s hd rows ND (Ey s) sk zI) ⟨.refl _,jo,.refl _,.refl _,trivial⟩
 generalize QC s rows ND (Ey s) zI (Eb s ND (Ey s))=X at *
 generalize Kf s rows zI (Eb s ND (Ey s))=xe at *
 generalize Ey s=P at *
 clear hd sk
 refine c9 Tryz.func13 31 fun E h0=>?_
 repeat'((first|refine nc [0] [0] h1 rfl rfl rfl ⟨rfl,trivial⟩ ?_|(refine E7 3 ?_;refine R6 (id:=3) (σ':=⟨[(0,.ref 0 0),(4,.ref 1 0),(5,.ref 2 0),(6,.iptr (R2 s rows)),(7,.iptr gS),(8,.sl 2 (P.map A8))],5,[(0,some (.box [.sl 1 (l.map P9),.i b])),(1,some (.box ff)),(2,some (.box ll))]⟩) (A6 h0) ?_;refine F5 (id:=3) ⟨[(4,.ref 1 0),(5,.ref 2 0),(6,.iptr (R2 s rows)),(9,.ref 5 0)],6,[(0,some (.box [.sl 1 (l.map P9),.i b2])),(1,some (.box ff)),(2,some (.box ll)),(5,some (.box (RF X)))]⟩ ?_ ?_)|(refine E7 4 ?_;refine R6 (id:=4) (σ':=⟨[(4,.ref 1 0),(5,.ref 2 0),(6,.iptr (R2 s rows)),(9,.iptr (RF X))],6,[(0,some (.box [.sl 1 (l.map P9),.i b2])),(1,some (.box ff)),(2,some (.box ll))]⟩) (A6 h0) ?_;refine F5 (id:=4) ⟨[(4,.ref 1 0),(5,.ref 2 0)],6,[(0,some (.box [.sl 1 (l.map P9),.i b2])),(1,some (.box (R2 s rows))),(2,some (.box (RF X)))]⟩ ?_ ?_) |refine S2 ?_|(refine T6 ?_ ?_<;>intro h<;>try exact V1 h)|intro el nJ nK|intro el nJ|exact T4|refine T5 ?_ ?_|intro ex|refine A0 h2 ?_|refine nc [0] [0] h3 rfl rfl rfl ⟨rfl,trivial⟩ ?_|refine A0 h4 ?_)<;>try conv=>whnf)
 all_goals first
  |(exfalso;omega)
  |exact A7 h0 rfl ⟨rfl,rfl,rfl,rfl,trivial⟩ ⟨rfl,rfl,rfl,rfl,trivial⟩ rfl rfl rfl
  |exact A7 h0 rfl ⟨rfl,rfl,trivial⟩ ⟨rfl,rfl,rfl,trivial⟩ rfl rfl rfl
  |exact M0 (rvs:=[.cell 4 lk,.cell 5 nI]) (vs:=[.agg (R2 s rows),X9 X]) ⟨1,_,_,rfl,rfl,inferInstance,rfl,rfl,2,_,_,rfl,rfl,inferInstance,rfl,rfl,trivial⟩ rfl rfl (A6 h0) rfl
def QF(l:List UInt8)(s:A4)(a:Nat):Int×Nat:=if (C1 l a 2).1=1 then (((b6 l (C1 l a 2).2 s 3).1:Int),(b6 l (C1 l a 2).2 s 3).2)else (-1,(C1 l a 2).2)
def QG(l:List UInt8)(s:A4)(a:Nat):(List Pk×Int×B7)×Nat :=
 (((Cf l (QF l s a).2 s).1,(QF l s a).1,(BT l s 2 (Cf l (QF l s a).2 s).2).1),(BT l s 2 (Cf l (QF l s a).2 s).2).2)
theorem Zj(l:List UInt8)(a:Nat)(s:A4)(hd:E4 s)(hl:l.length≤400):B8 Tryz.prog 14 1 (X7 l a) [.ref 0 0,sA s] 1 (X7 l (QG l s a).2) (.tup [.sl 2 ((QG l s a).1.1.map A8),.i (QG l s a).1.2.1,D5 (QG l s a).1.2.2]):=by
 have h1:=Co l a 2 hl (by decide)
 have h2:=fun a=>Es l a s hd hl
 have h3:=fun a=>ZY l a s hd hl
 have h4:=fun a=>bS l s hd hl 2 a (by decide)
 unfold QG
 dsimp only
 by_cases ho:(C1 l a 2).1=1
 ·have hm:QF l s a=(((b6 l (C1 l a 2).2 s 3).1:Int),(b6 l (C1 l a 2).2 s 3).2):=if_pos ho
  rw[hm]
  have h2:=h2 (C1 l a 2).2
  have h3:=h3 (b6 l (C1 l a 2).2 s 3).2
  have h4:=h4 (Cf l (b6 l (C1 l a 2).2 s 3).2 s).2
  dsimp only
  generalize BT l s 2 (Cf l (b6 l (C1 l a 2).2 s 3).2 s).2=K at *
  generalize Cf l (b6 l (C1 l a 2).2 s 3).2 s=D at *
  generalize b6 l (C1 l a 2).2 s 3=M at *
  generalize C1 l a 2=o at *
  obtain⟨K,k2⟩:=K
  obtain⟨D,d2⟩:=D
  obtain⟨M,m2⟩:=M
  obtain⟨o,o2⟩:=o
  dsimp only at *
  refine c9 Tryz.func14 20 fun E h0=>?_
  repeat'((first|refine nc [0] [0] h1 rfl rfl rfl ⟨rfl,trivial⟩ ?_|refine nc [0] [0] h2 rfl rfl rfl ⟨rfl,trivial⟩ ?_|(refine E7 4 ?_;refine R6 (id:=4) (σ':=⟨[(0,.ref 0 0),(3,.iptr (sL s)),(6,.ref 2 0),(7,.i M)],3,[(0,some (.box [.sl 1 (l.map P9),.i m2])),(2,some (.box [.i 0,.i 0,.i 0,.i 0,.i 0,.v (.slice none 0 0)]))]⟩) (A6 h0) ?_;refine F5 (id:=4) ⟨[(4,.sl 2 (D.map A8)),(5,.i M),(6,.ref 2 0)],3,[(0,some (.box [.sl 1 (l.map P9),.i k2])),(2,some (.box (K0 K)))]⟩ ?_ ?_)|refine nc [0] [0] h3 rfl rfl rfl ⟨rfl,trivial⟩ ?_|refine nc [0] [0] h4 rfl rfl rfl ⟨rfl,trivial⟩ ?_ |refine S2 ?_|(refine T6 ?_ ?_<;>intro h<;>try exact V1 h)|intro el nJ nK|intro el nJ|exact T4|refine T5 ?_ ?_|intro ex)<;>try conv=>whnf)
  all_goals first
   |(exfalso;omega)
   |exact A7 h0 rfl ⟨rfl,rfl,rfl,trivial⟩ ⟨rfl,rfl,trivial⟩ rfl rfl rfl
   |exact M0 (rvs:=[.tmp 4,.tmp 5,.cell 6 29]) (vs:=[.sl 2 (D.map A8),.i M,D5 K]) ⟨2,_,_,rfl,rfl,inferInstance,rfl,rfl,trivial⟩ rfl rfl (A6 h0) rfl
 ·have hm:QF l s a=(-1,(C1 l a 2).2):=if_neg ho
  rw[hm]
  have h3:=h3 (C1 l a 2).2
  have h4:=h4 (Cf l (C1 l a 2).2 s).2
  dsimp only
  generalize BT l s 2 (Cf l (C1 l a 2).2 s).2=K at *
  generalize Cf l (C1 l a 2).2 s=D at *
  generalize C1 l a 2=o at *
  obtain⟨K,k2⟩:=K
  obtain⟨D,d2⟩:=D
  obtain⟨o,o2⟩:=o
  dsimp only at *
  refine c9 Tryz.func14 20 fun E h0=>?_
  repeat'((first|refine nc [0] [0] h1 rfl rfl rfl ⟨rfl,trivial⟩ ?_|(refine E7 4 ?_;refine R6 (id:=4) (σ':=⟨[(0,.ref 0 0),(3,.iptr (sL s)),(6,.ref 2 0),(7,.i (-1))],3,[(0,some (.box [.sl 1 (l.map P9),.i o2])),(2,some (.box [.i 0,.i 0,.i 0,.i 0,.i 0,.v (.slice none 0 0)]))]⟩) (A6 h0) ?_;refine F5 (id:=4) ⟨[(4,.sl 2 (D.map A8)),(5,.i (-1)),(6,.ref 2 0)],3,[(0,some (.box [.sl 1 (l.map P9),.i k2])),(2,some (.box (K0 K)))]⟩ ?_ ?_)|refine nc [0] [0] h3 rfl rfl rfl ⟨rfl,trivial⟩ ?_|refine nc [0] [0] h4 rfl rfl rfl ⟨rfl,trivial⟩ ?_ |refine S2 ?_|(refine T6 ?_ ?_<;>intro h<;>try exact V1 h)|intro el nJ nK|intro el nJ|exact T4|refine T5 ?_ ?_|intro ex)<;>try conv=>whnf)
  all_goals first
   |(exfalso;omega)
   |exact A7 h0 rfl ⟨rfl,rfl,rfl,trivial⟩ ⟨rfl,rfl,trivial⟩ rfl rfl rfl
   |exact M0 (rvs:=[.tmp 4,.tmp 5,.cell 6 29]) (vs:=[.sl 2 (D.map A8),.i (-1),D5 K]) ⟨2,_,_,rfl,rfl,inferInstance,rfl,rfl,trivial⟩ rfl rfl (A6 h0) rfl
theorem XW{f:Nat}{l:List AV}(h:Sh Tryz.prog f 37 l):∃ws:List Int,ws.length≤maxLen∧l=[.sl 1 (ws.map wA)]:=by
 obtain⟨f2,ls,hl,np,rfl,_⟩:=IQ (c:=1) Tryz.underlying37 (by kernel_rfl) h
 obtain⟨ws,rfl,_⟩:=EA (F:=wA) (R:=gH) (fun x hx=>Gy (np x hx))
 exact⟨ws,by rw[List.length_map]at hl;exact hl,rfl⟩
theorem fg{a:AV}(h:s7 Tryz.prog 37 a):∃ws:List Int,ws.length≤maxLen∧a=.sl 1 (ws.map wA):=by
 obtain⟨f2,ls,hl,np,rfl⟩:=Qi (c:=1) Tryz.underlying37 (by kernel_rfl) h
 obtain⟨ws,rfl,_⟩:=EA (F:=wA) (R:=gH) (fun x hx=>Gy (np x hx))
 exact⟨ws,by rw[List.length_map]at hl;exact hl,rfl⟩
theorem jp{f:Nat}{l:List AV}(h:Sh Tryz.prog f 81 l):∃p:Pk,True∧l=A8 p:=by
 obtain⟨f',hs,_⟩:=Jp (ts:=[3,3]) Tryz.underlying81 (by kernel_rfl) h
 obtain⟨x1,r1,h1,⟨x2,r2,h2,h3,rfl⟩,rfl⟩:=hs
 obtain⟨y1,_,rfl⟩:=Gy h1
 obtain⟨y2,_,rfl⟩:=Gy h2
 cases h3
 exact⟨⟨y1,y2⟩,trivial,rfl⟩
theorem jq{f:Nat}{l:List AV}(h:Sh Tryz.prog f 72 l):∃c:G2,True∧l=O8 c:=by
 obtain⟨f',hs,_⟩:=Jp (ts:=[37,3,3,3,3,3,37]) Tryz.underlying72 (by kernel_rfl) h
 obtain⟨x1,r1,h1,⟨x2,r2,h2,⟨x3,r3,h3,⟨x4,r4,h4,⟨x5,r5,h5,⟨x6,r6,h6,⟨x7,r7,h7,h8,rfl⟩,rfl⟩,rfl⟩,rfl⟩,rfl⟩,rfl⟩,rfl⟩:=hs
 obtain⟨y1,_,rfl⟩:=XW h1
 obtain⟨y2,_,rfl⟩:=Gy h2
 obtain⟨y3,_,rfl⟩:=Gy h3
 obtain⟨y4,_,rfl⟩:=Gy h4
 obtain⟨y5,_,rfl⟩:=Gy h5
 obtain⟨y6,_,rfl⟩:=Gy h6
 obtain⟨y7,_,rfl⟩:=XW h7
 cases h8
 exact⟨⟨y1,y2,y3,y4,y5,y6,y7⟩,trivial,rfl⟩
theorem jr{a:AV}(h:s7 Tryz.prog 48 a):∃t:Ez,t.cells.length≤maxLen∧a=S3 t:=by
 obtain⟨f,l,rfl,qy⟩:=gx (by kernel_rfl) h
 obtain⟨f',hs,_⟩:=Jp (ts:=[23,3,46]) Tryz.underlying48 (by kernel_rfl) qy
 obtain⟨x1,r1,h1,⟨x2,r2,h2,⟨x3,r3,h3,h4,rfl⟩,rfl⟩,rfl⟩:=hs
 obtain⟨f1,l1,_,xn,rfl,_⟩:=IQ (c:=2) Tryz.underlying23 (by kernel_rfl) h1
 obtain⟨y1,rfl,_⟩:=EA (F:=A8) (R:=fun _=>True) (fun x hx=>jp (xn x hx))
 obtain⟨y2,_,rfl⟩:=Gy h2
 obtain⟨f3,l3,pU,xL,rfl,_⟩:=IQ (c:=7) Tryz.underlying46 (by kernel_rfl) h3
 obtain⟨y3,rfl,_⟩:=EA (F:=O8) (R:=fun _=>True) (fun x hx=>jq (xL x hx))
 cases h4
 exact⟨⟨y1,y2,y3⟩,by simpa using pU,rfl⟩
theorem fh(s:A4)(x:J9)(dims:List Pk)(mea:Int)(cnd:B7):(GJ s x dims mea cnd).cells.length≤2000:=by
 unfold GJ
 split
 ·rename_i hE
  show (V8 s x dims mea ((U9 s dims [[]]).getD []) (b7 s x cnd (V0 mea))).length≤2000
  rw[VF,List.length_map]
  cases hL:U9 s dims [[]]with
  |none=>exact Nat.zero_le _
  |some L=>exact It hL (by simp)
 ·exact Nat.zero_le _
theorem Rr(l:List UInt8)(raw:Ez)(ls:List Int)(a b:Int)(hl:l.length≤maxLen)(hrw:raw.cells.length≤maxLen):A3 Tryz.prog 5 [.sl 1 (l.map P9),S3 raw,.sl 1 (ls.map wA),.i a,.i b] (.b true):=by
 unfold maxLen at hl hrw
 have hL:(l.take 400).length≤400:=List.length_take_le _ _
 have sO:=dr l (by omega)
 generalize l.take 400=t at *
 have zo:=Zi t 0 5 hL (by omega) (by omega)
 have hd:E4 (NE t 0 5).1.1:=(XV t 0 (most:=5) (by omega)).1
 generalize NE t 0 5=W at *
 obtain⟨⟨s,rows,X⟩,a1⟩:=W
 dsimp only at zo hd
 have vh:=Zj t a1 s hd hL
 generalize QG t s a1=K at *
 obtain⟨⟨D,M,C⟩,a2⟩:=K
 dsimp only at vh
 have h1:=VI s hd X D M C
 have hTl:=fh s X D M C
 generalize GJ s X D M C=T at *
 generalize k0 s X D M C=e at *
 have vl:=fun k n h=>dt k n h
 have xa:=fun k (n:Int) (h:1≤n)=>@Jq k n h
 have xd:=fun y z=>Lx y z
 have xP:=fun y z=>VG y z
 have tW:=fun y p q=>Ev s y p q
 have oI:=fun y p q=>Py y p q
 refine B5 Tryz.func5 136 fun nL E h0=>?_
 have ry:ls.length≤9223372036854775807:=by
  have:=(nL (.sl 1 (ls.map wA)) (by simp)).sl
  simpa using this
 clear nL
 repeat'((first|refine A0 KY ?_|refine l4 [] [] sO rfl rfl rfl rfl rfl trivial rfl rfl rfl rfl rfl ?_|refine nc [1] [0] zo rfl rfl rfl ⟨rfl,trivial⟩ ?_|refine nc [1] [0] vh rfl rfl rfl ⟨rfl,trivial⟩ ?_|refine A0 h1 ?_ |refine S2 ?_|(refine T6 ?_ ?_<;>intro h<;>try exact V1 h)|intro el nJ nK|intro el nJ|exact T4|refine T5 ?_ ?_|intro ex)<;>try conv=>whnf)
 all_goals first
  |(exfalso;omega)
  |exact A1 rfl rfl
  |skip
 obtain⟨PR,ym⟩:∃PR:List Ez,PR=[T,raw]:=⟨_,rfl⟩
 have hPl:PR.length=2:=by rw[ym];rfl
 have hPc:∀y∈PR,y.cells.length≤140737488355328:=by
  rw[ym]
  intro y hy
  simp only[List.mem_cons,List.not_mem_nil,or_false]at hy
  rcases hy with rfl|rfl<;>omega
 clear sO zo vh h1
 refine B0 (ι:=Nat) (fun k=>⟨[(2,.sl 1 (ls.map wA)),(3,.i a),(4,.i b),(12,.iptr (R2 s rows)),(61,.sl 3 (PR.map fA)),(62,.i 2),(63,.i k)],0,[]⟩) (fun k=>k≤2) (fun k=>2-k) 0 (by omega)
  (A7 h0 rfl ⟨rfl,rfl,rfl,rfl,by rw[ym];rfl,rfl,rfl,trivial⟩ trivial rfl rfl rfl) (fun k hk=>?_)
 clear ym
 by_cases nN:k<2
 ·obtain⟨y,hy⟩:∃y,PR[k]?=some y:=⟨_,List.getElem?_eq_getElem (by omega)⟩
  have we:PR[((k:Nat):Int).toNat]?=some y:=hy
  have hyc:=hPc y (List.mem_of_getElem? hy)
  have m1:=vl a ((y.cells.length:Int)+1) (by omega)
  have m2:=vl b ((y.cells.length:Int)+1) (by omega)
  have b1:=xa a ((y.cells.length:Int)+1) (by omega)
  have b2:=xa b ((y.cells.length:Int)+1) (by omega)
  generalize IU a ((y.cells.length:Int)+1)=p at *
  generalize IU b ((y.cells.length:Int)+1)=q at *
  have f1:=xd y ls
  have f2:=xP y ls
  have i1:=tW y p q
  have i2:=oI y p q
  have j1:=tW y a b
  have j2:=oI y a b
  by_cases hp:p<y.cells.length
  ·obtain⟨x,hx⟩:∃x,y.cells[p.toNat]?=some x:=⟨_,List.getElem?_eq_getElem (by omega)⟩
   have g1:=xd y x.codes
   have g2:=xP y x.codes
   obtain⟨dd,dm,dc⟩:=y
   dsimp only at *
   have hX:fA ⟨dd,dm,dc⟩=[.sl 2 (dd.map A8),.i dm,.sl 7 (dc.map O8)]:=rfl
   generalize D9 (fun c:G2=>decide (c.codes=ls)) dc 0=F at *
   generalize D9 (fun c:G2=>decide (c.codes=x.codes)) dc 0=G at *
   generalize KR ⟨dd,dm,dc⟩ p q=I1 at *
   generalize KR ⟨dd,dm,dc⟩ a b=I2 at *
   clear xd xP tW oI vl xa hPc
   repeat'((first|(refine A2 (x:=(⟨dd,dm,dc⟩:Ez)) we (by omega) ?_)|(refine A2 (x:=x) hx (by omega) ?_)|refine A0 m1 ?_|refine A0 m2 ?_|refine A0 f1 ?_|refine A0 f2 ?_|refine A0 i1 ?_|refine A0 i2 ?_|refine A0 j1 ?_|refine A0 j2 ?_|refine A0 g1 ?_|refine A0 g2 ?_|(refine A9 ?_ ?_;kernel_rfl) |refine S2 ?_|(refine T6 ?_ ?_<;>intro h<;>try exact V1 h)|intro el nJ nK|intro el nJ|exact T4|refine T5 ?_ ?_|intro ex)<;>try conv=>whnf)
   all_goals first
    |(exfalso;omega)
    |(exfalso;simp_all;done)
    |exact⟨k+1,by omega,by omega,A6 h0⟩
  ·obtain⟨dd,dm,dc⟩:=y
   dsimp only at *
   generalize D9 (fun c:G2=>decide (c.codes=ls)) dc 0=F at *
   generalize KR ⟨dd,dm,dc⟩ p q=I1 at *
   generalize KR ⟨dd,dm,dc⟩ a b=I2 at *
   clear xd xP tW oI vl xa hPc
   repeat'((first|(refine A2 (x:=(⟨dd,dm,dc⟩:Ez)) we (by omega) ?_)|refine A0 m1 ?_|refine A0 m2 ?_|refine A0 f1 ?_|refine A0 f2 ?_|refine A0 i1 ?_|refine A0 i2 ?_|refine A0 j1 ?_|refine A0 j2 ?_|(refine A9 ?_ ?_;kernel_rfl) |refine S2 ?_|(refine T6 ?_ ?_<;>intro h<;>try exact V1 h)|intro el nJ nK|intro el nJ|exact T4|refine T5 ?_ ?_|intro ex)<;>try conv=>whnf)
   all_goals first
    |(exfalso;omega)
    |(exfalso;simp_all;done)
    |exact⟨k+1,by omega,by omega,A6 h0⟩
 ·repeat'((first|refine A0 KY ?_ |refine S2 ?_|(refine T6 ?_ ?_<;>intro h<;>try exact V1 h)|intro el nJ nK|intro el nJ|exact T4|refine T5 ?_ ?_|intro ex)<;>try conv=>whnf)
  all_goals first
   |exact A1 rfl rfl
   |(exfalso;omega)
theorem VQ(l:List AV)(h:Kp Tryz.prog Tryz.f5.params.toList l):A3 Tryz.prog 5 l (.b true):=by
 obtain⟨a1,r1,rfl,h1,a2,r2,rfl,h2,a3,r3,rfl,h3,a4,r4,rfl,h4,a5,r5,rfl,h5,rfl⟩:=h
 obtain⟨l,hl,rfl⟩:=kZ h1
 obtain⟨raw,hr,rfl⟩:=jr h2
 obtain⟨ls,_,rfl⟩:=fg h3
 obtain⟨a,_,rfl⟩:=gI h4
 obtain⟨b,_,rfl⟩:=gI h5
 exact Rr l raw ls a b hl hr
end Go.Proofs.YtiphlhoclaogjaaGreatDoor
