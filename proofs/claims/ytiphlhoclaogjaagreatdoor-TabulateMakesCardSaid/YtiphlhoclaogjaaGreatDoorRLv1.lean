/- Chapter 18: a drawn source is valid, and the extract of all its columns and rows is right: plain. -/
import Derived.Test.YtiphlhoclaogjaaGreatDoorRQd0
set_option linter.unusedVariables false
set_option linter.unnecessarySimpa false
set_option linter.unusedSimpArgs false
set_option maxHeartbeats 64000000
namespace Go.Proofs.YtiphlhoclaogjaaGreatDoor
open Go Go.Av
attribute [local irreducible] C9 B3 C7 D1 DQ D0 C6 St.le A3 B7
set_option maxRecDepth 100000
abbrev KO(l:List (List Int)):Prop:=l.Pairwise fun a b=>a.headD 0<b.headD 0
theorem Jk{l:List (List Int)}{x:List Int}(h:KO l)(hx:∀y∈l,y.headD 0<x.headD 0):KO (l++[x]):=by
 refine List.pairwise_append.2 ⟨h,List.pairwise_singleton ..,fun a ha b hb=>?_⟩
 rw[List.mem_singleton]at hb
 subst hb
 exact hx a ha
theorem LF{row:List Int}:∀(l:List (List Int)) (out:List (List Int)) (done:Bool),KO out→KO l→(∀x∈out,∀y∈l,x.headD 0<y.headD 0)→(done=false→∀x∈out,x.headD 0<row.headD 0)→(done=true→∀y∈l,row.headD 0<y.headD 0) →
  KO (l.foldl (s6 row) (out,done)).1∧((l.foldl (s6 row) (out,done)).2=false→∀x∈(l.foldl (s6 row) (out,done)).1,x.headD 0<row.headD 0)
 |[],out,done,h1,_,_,h4,_=>⟨h1,h4⟩
 |x::r,out,done,h1,h2,h3,h4,h5=>by
  obtain⟨h6,h7⟩:=List.pairwise_cons.1 h2
  have h3x:=fun y hy=>h3 y hy x (List.mem_cons_self ..)
  have yg:=fun y hy z hz=>h3 y hy z (List.mem_cons_of_mem _ hz)
  rw[List.foldl_cons,s6]
  by_cases c1:x.headD 0=row.headD 0
  ·rw[if_pos c1]
   exact LF r out done h1 h7 yg h4 fun hd y hy=>h5 hd y (List.mem_cons_of_mem _ hy)
  ·rw[if_neg c1]
   by_cases c2:row.headD 0<x.headD 0∧done=false
   ·rw[if_pos c2]
    have h8:=h4 c2.2
    refine LF r _ true (Jk (Jk h1 h8) fun y hy=>?_) h7 (fun y hy z hz=>?_) (fun h=>by cases h) fun _ y hy=>Int.lt_trans c2.1 (h6 y hy)
    ·rcases List.mem_append.1 hy with hy|hy
     ·exact h3x y hy
     ·rw[List.mem_singleton]at hy;subst hy;exact c2.1
    ·have h9:=h6 z hz
     rcases List.mem_append.1 hy with hy|hy
     ·rcases List.mem_append.1 hy with hy|hy
      ·exact yg y hy z hz
      ·rw[List.mem_singleton]at hy;subst hy;exact Int.lt_trans c2.1 h9
     ·rw[List.mem_singleton]at hy;subst hy;exact h9
   ·rw[if_neg c2]
    refine LF r _ done (Jk h1 h3x) h7 (fun y hy z hz=>?_) (fun hd y hy=>?_) fun hd y hy=>h5 hd y (List.mem_cons_of_mem _ hy)
    ·rcases List.mem_append.1 hy with hy|hy
     ·exact yg y hy z hz
     ·rw[List.mem_singleton]at hy;subst hy;exact h6 z hz
    ·rcases List.mem_append.1 hy with hy|hy
     ·exact h4 hd y hy
     ·rw[List.mem_singleton]at hy
      rw[hy]
      have:¬row.headD 0<x.headD 0:=fun h=>c2 ⟨h,hd⟩
      omega
theorem eS{l:List (List Int)}(h:KO l)(row:List Int):KO (At l row):=by
 obtain⟨h1,h2⟩:=LF (row:=row) l [] false List.Pairwise.nil h (fun x hx=>by cases hx) (fun _ x hx=>by cases hx) (fun hd=>by cases hd)
 unfold At
 dsimp only
 split
 ·exact h1
 ·rename_i hf
  exact Jk h1 (h2 (by simpa using hf))
theorem eT{l:List (List Int)}{row x:List Int}(h:x∈At l row):x=row∨x∈l:=by
 have key:∀(l:List (List Int)) (q:List (List Int)×Bool),x∈(l.foldl (s6 row) q).1→x=row∨x∈l∨x∈q.1:=by
  intro l
  induction l with
  |nil=>intro q hq;exact .inr (.inr hq)
  |cons a r ih =>
   rintro ⟨out,done⟩ hq
   rw[List.foldl_cons,s6]at hq
   rcases ih _ hq with h|h|h
   ·exact .inl h
   ·exact .inr (.inl (List.mem_cons_of_mem _ h))
   ·split at h
    ·exact .inr (.inr h)
    ·split at h
     ·dsimp only at h
      simp only[List.mem_append,List.mem_singleton]at h
      rcases h with (h|h)|h
      ·exact .inr (.inr h)
      ·exact .inl h
      ·exact .inr (.inl (by rw[h];exact List.mem_cons_self ..))
     ·dsimp only at h
      simp only[List.mem_append,List.mem_singleton]at h
      rcases h with h|h
      ·exact .inr (.inr h)
      ·exact .inr (.inl (by rw[h];exact List.mem_cons_self ..))
 unfold At at h
 dsimp only at h
 split at h
 ·rcases key l _ h with h|h|h
  ·exact .inl h
  ·exact .inr h
  ·cases h
 ·rcases List.mem_append.1 h with h|h
  ·rcases key l _ h with h|h|h
   ·exact .inl h
   ·exact .inr h
   ·cases h
  ·exact .inl (by simpa using h)
structure Ys(s:A4)(n:Nat)(rows:List (List Int)):Prop where
 asc:KO rows
 ok:∀r∈rows,Xo s r
 len:rows.length≤n
theorem PA{s:A4}(hd:D9 s)(l:List UInt8):∀(n m:Nat) (x:List (List Int)×Nat),Ys s m x.1→Ys s (m+n) (Cw l s n x).1
 |0,m,x,h=>h
 |n+1,m,x,h=>by
  have:=PA hd l n (m+1) (At x.1 (k5 l x.2 s).1,(k5 l x.2 s).2) ⟨eS h.asc _,fun r hr=>?_,?_⟩
  ·rw[show m+(n+1)=m+1+n by omega]
   exact this
  ·rcases eT hr with rfl|hr
   ·exact WH hd l x.2
   ·exact h.ok r hr
  ·have h1:=Lk x.1 (k5 l x.2 s).1
   have h2:=h.len
   dsimp only
   omega
theorem Yg(l:List UInt8)(a:Nat){most:Int}(h0:0≤most):D9 (Bz l a most).1.1∧Ys (Bz l a most).1.1 most.toNat (Bz l a most).1.2:=by
 have hd:=NU l a
 have hn:=I2 l (Bt l a).2 (n:=most+1) (by omega)
 have h:=PA hd l (C0 l (Bt l a).2 (most+1)).1 0 ([],(C0 l (Bt l a).2 (most+1)).2) ⟨List.Pairwise.nil,(fun r hr=>by cases hr),Nat.le_refl _⟩
 refine⟨hd,h.asc,h.ok,Nat.le_trans h.len ?_⟩
 omega
def Nx:Ct:=⟨[97,108,108,95,114,111,119,115],[115,114,99],oD,1,1,0,[⟨[113],1,oD,[⟨1,0⟩],-1,[],zC⟩]⟩
theorem il:NL fK (JW Nx):=Bb ⟨.refl _,.refl _,.refl _,.refl _,.refl _,.refl _,.refl _,.nil 6,.refl _,.refl _,.refl _,Xl ⟨⟨.refl _,.refl _,.refl _,.refl _,.refl _,.refl _,.refl _,.nil 6,.refl _,.refl _,.nil 1,.refl _,.refl _,.refl _,.refl _,.refl _,.nil 6,trivial⟩,trivial⟩,trivial⟩
theorem fL{s:A4}{d:Ct}{picks:List Pk}(h:Dw s d picks=0):∀p∈picks,0≤p.col∧p.col<s.cols.length:=by
 intro p hp
 unfold Dw at h
 split at h
 ·contradiction
 ·split at h
  ·contradiction
  ·rename_i h2
   obtain⟨k,hk⟩:=List.getElem?_of_mem hp
   have:=w5 (Decidable.of_not_not h2) k p hk
   omega
theorem eB(s:A4)(hd:D9 s)(rows:List (List Int))(d:Ct)(picks:List Pk)(hl:picks.length≤1000)(secret:Int):A3 Tryz.prog 38 [.agg (R7 s rows),JW d,.sl 2 (picks.map A8),.i secret] (.tup [T8 (PD s rows d picks secret (Dw s d picks)),.i (Jl s rows secret (Dw s d picks))]) :=
 VZ s rows d picks secret (Dw s d picks) hl (VV s hd d picks) fL
abbrev rV:Nat:=26
abbrev iY:List AV:=[.v (.slice none 0 0),.v (.slice none 0 0),.v (.slice none 0 0),.v (.slice none 0 0),.i 0]
abbrev lU:List AV:=[.str [],.i 0,.v (.slice none 0 0),.v (.slice none 0 0)]
abbrev iZ:List AV:=[.str [97,108,108,95,114,111,119,115],.str [115,114,99],.i 1,.i 0,.i 0,.i 0,.i 0,AR,.i 1,.i 1,.i 0,.sl 17 [[.str [113],.i 1,.i 1,.i 0,.i 0,.i 0,.i 0,AR,.sl 2 [[.i 1,.i 0]],.i (-1),AR,.i 0,.i 0,.i 0,.i 0,.i 0,AR]]]
def Ny(l:List UInt8)(a:Nat)(most:Int):(A4×List (List Int)×J7)×Nat :=
 (((Bz l a most).1.1,(Bz l a most).1.2,PD (Bz l a most).1.1 (Bz l a most).1.2 Nx (EH (Bz l a most).1.1) (PF l (Bz l a most).2).1 (Dw (Bz l a most).1.1 Nx (EH (Bz l a most).1.1))),(PF l (Bz l a most).2).2)
theorem Yt(l:List UInt8)(a:Nat)(most:Int)(hl:l.length≤400)(hm:0≤most)(qt:most≤1000):B7 Tryz.prog 13 1 (U4 l a) [.ref 0 0,.i most] 1 (U4 l (Ny l a most).2) (.tup [.agg (R7 (Ny l a most).1.1 (Ny l a most).1.2.1),T8 (Ny l a most).1.2.2]):=by
 have h1:=eQ l a most hl hm qt
 have hd:=(Yg l a hm).1
 unfold Ny
 dsimp only
 generalize Bz l a most=q at *
 obtain⟨⟨s,rows⟩,b⟩:=q
 dsimp only at *
 have h2:=eF s hd
 have h3:=Wa l b hl
 have rQ:(EH s).length≤1000:=by
  have:=hd.lens
  have:=Ly s (s.cols.length-1)
  unfold EH
  omega
 generalize PF l b=z at *
 obtain⟨yX,b2⟩:=z
 dsimp only at *
 have h4:=s5 (l':=[.agg (R7 s rows),.agg iZ,.sl 2 ((EH s).map A8),.i yX]) (eB s hd rows Nx (EH s) rQ yX) ⟨.refl _,il,.refl _,.refl _,trivial⟩
 generalize PD s rows Nx (EH s) yX (Dw s Nx (EH s))=X at *
 generalize Jl s rows yX (Dw s Nx (EH s))=xe at *
 generalize EH s=P at *
 clear hd rQ
 refine Y6 Tryz.func13 31 fun E h0=>?_
 repeat'((first|refine nc [0] [0] h1 rfl rfl rfl ⟨rfl,trivial⟩ ?_|(refine E6 3 ?_;refine R2 (id:=3) (σ':=⟨[(0,.ref 0 0),(4,.ref 1 0),(5,.ref 2 0),(6,.iptr (R7 s rows)),(7,.iptr iZ),(8,.sl 2 (P.map A8))],5,[(0,some (.box [.sl 1 (l.map O3),.i b])),(1,some (.box iY)),(2,some (.box lU))]⟩) (A6 h0) ?_;refine F3 (id:=3) ⟨[(4,.ref 1 0),(5,.ref 2 0),(6,.iptr (R7 s rows)),(9,.ref 5 0)],6,[(0,some (.box [.sl 1 (l.map O3),.i b2])),(1,some (.box iY)),(2,some (.box lU)),(5,some (.box (IJ X)))]⟩ ?_ ?_)|(refine E6 4 ?_;refine R2 (id:=4) (σ':=⟨[(4,.ref 1 0),(5,.ref 2 0),(6,.iptr (R7 s rows)),(9,.iptr (IJ X))],6,[(0,some (.box [.sl 1 (l.map O3),.i b2])),(1,some (.box iY)),(2,some (.box lU))]⟩) (A6 h0) ?_;refine F3 (id:=4) ⟨[(4,.ref 1 0),(5,.ref 2 0)],6,[(0,some (.box [.sl 1 (l.map O3),.i b2])),(1,some (.box (R7 s rows))),(2,some (.box (IJ X)))]⟩ ?_ ?_) |refine S2 ?_|(refine T6 ?_ ?_<;>intro h<;>try exact V1 h)|intro el mI mJ|intro el mI|exact T4|refine T5 ?_ ?_|intro ex|refine A0 h2 ?_|refine nc [0] [0] h3 rfl rfl rfl ⟨rfl,trivial⟩ ?_|refine A0 h4 ?_)<;>try conv=>whnf)
 all_goals first
  |(exfalso;omega)
  |exact A7 h0 rfl ⟨rfl,rfl,rfl,rfl,trivial⟩ ⟨rfl,rfl,rfl,rfl,trivial⟩ rfl rfl rfl
  |exact A7 h0 rfl ⟨rfl,rfl,trivial⟩ ⟨rfl,rfl,rfl,trivial⟩ rfl rfl rfl
  |exact L9 (rvs:=[.cell 4 lR,.cell 5 rV]) (vs:=[.agg (R7 s rows),T8 X]) ⟨1,_,_,rfl,rfl,inferInstance,rfl,rfl,2,_,_,rfl,rfl,inferInstance,rfl,rfl,trivial⟩ rfl rfl (A6 h0) rfl
def Qd(l:List UInt8)(s:A4)(a:Nat):Int×Nat:=if (C0 l a 2).1=1 then (((a9 l (C0 l a 2).2 s 3).1:Int),(a9 l (C0 l a 2).2 s 3).2)else (-1,(C0 l a 2).2)
def Qe(l:List UInt8)(s:A4)(a:Nat):(List Pk×Int×B6)×Nat :=
 (((Bj l (Qd l s a).2 s).1,(Qd l s a).1,(Aa l s 2 (Bj l (Qd l s a).2 s).2).1),(Aa l s 2 (Bj l (Qd l s a).2 s).2).2)
theorem bJ(l:List UInt8)(a:Nat)(s:A4)(hd:D9 s)(hl:l.length≤400):B7 Tryz.prog 14 1 (U4 l a) [.ref 0 0,sA s] 1 (U4 l (Qe l s a).2) (.tup [.sl 2 ((Qe l s a).1.1.map A8),.i (Qe l s a).1.2.1,D5 (Qe l s a).1.2.2]):=by
 have h1:=Bs l a 2 hl (by decide)
 have h2:=fun a=>EB l a s hd hl
 have h3:=fun a=>Yh l a s hd hl
 have h4:=fun a=>aR l s hd hl 2 a (by decide)
 unfold Qe
 dsimp only
 by_cases ho:(C0 l a 2).1=1
 ·have hm:Qd l s a=(((a9 l (C0 l a 2).2 s 3).1:Int),(a9 l (C0 l a 2).2 s 3).2):=if_pos ho
  rw[hm]
  have h2:=h2 (C0 l a 2).2
  have h3:=h3 (a9 l (C0 l a 2).2 s 3).2
  have h4:=h4 (Bj l (a9 l (C0 l a 2).2 s 3).2 s).2
  dsimp only
  generalize Aa l s 2 (Bj l (a9 l (C0 l a 2).2 s 3).2 s).2=K at *
  generalize Bj l (a9 l (C0 l a 2).2 s 3).2 s=D at *
  generalize a9 l (C0 l a 2).2 s 3=M at *
  generalize C0 l a 2=o at *
  obtain⟨K,k2⟩:=K
  obtain⟨D,d2⟩:=D
  obtain⟨M,m2⟩:=M
  obtain⟨o,o2⟩:=o
  dsimp only at *
  refine Y6 Tryz.func14 20 fun E h0=>?_
  repeat'((first|refine nc [0] [0] h1 rfl rfl rfl ⟨rfl,trivial⟩ ?_|refine nc [0] [0] h2 rfl rfl rfl ⟨rfl,trivial⟩ ?_|(refine E6 4 ?_;refine R2 (id:=4) (σ':=⟨[(0,.ref 0 0),(3,.iptr (sL s)),(6,.ref 2 0),(7,.i M)],3,[(0,some (.box [.sl 1 (l.map O3),.i m2])),(2,some (.box [.i 0,.i 0,.i 0,.i 0,.i 0,.v (.slice none 0 0)]))]⟩) (A6 h0) ?_;refine F3 (id:=4) ⟨[(4,.sl 2 (D.map A8)),(5,.i M),(6,.ref 2 0)],3,[(0,some (.box [.sl 1 (l.map O3),.i k2])),(2,some (.box (I8 K)))]⟩ ?_ ?_)|refine nc [0] [0] h3 rfl rfl rfl ⟨rfl,trivial⟩ ?_|refine nc [0] [0] h4 rfl rfl rfl ⟨rfl,trivial⟩ ?_ |refine S2 ?_|(refine T6 ?_ ?_<;>intro h<;>try exact V1 h)|intro el mI mJ|intro el mI|exact T4|refine T5 ?_ ?_|intro ex)<;>try conv=>whnf)
  all_goals first
   |(exfalso;omega)
   |exact A7 h0 rfl ⟨rfl,rfl,rfl,trivial⟩ ⟨rfl,rfl,trivial⟩ rfl rfl rfl
   |exact L9 (rvs:=[.tmp 4,.tmp 5,.cell 6 29]) (vs:=[.sl 2 (D.map A8),.i M,D5 K]) ⟨2,_,_,rfl,rfl,inferInstance,rfl,rfl,trivial⟩ rfl rfl (A6 h0) rfl
 ·have hm:Qd l s a=(-1,(C0 l a 2).2):=if_neg ho
  rw[hm]
  have h3:=h3 (C0 l a 2).2
  have h4:=h4 (Bj l (C0 l a 2).2 s).2
  dsimp only
  generalize Aa l s 2 (Bj l (C0 l a 2).2 s).2=K at *
  generalize Bj l (C0 l a 2).2 s=D at *
  generalize C0 l a 2=o at *
  obtain⟨K,k2⟩:=K
  obtain⟨D,d2⟩:=D
  obtain⟨o,o2⟩:=o
  dsimp only at *
  refine Y6 Tryz.func14 20 fun E h0=>?_
  repeat'((first|refine nc [0] [0] h1 rfl rfl rfl ⟨rfl,trivial⟩ ?_|(refine E6 4 ?_;refine R2 (id:=4) (σ':=⟨[(0,.ref 0 0),(3,.iptr (sL s)),(6,.ref 2 0),(7,.i (-1))],3,[(0,some (.box [.sl 1 (l.map O3),.i o2])),(2,some (.box [.i 0,.i 0,.i 0,.i 0,.i 0,.v (.slice none 0 0)]))]⟩) (A6 h0) ?_;refine F3 (id:=4) ⟨[(4,.sl 2 (D.map A8)),(5,.i (-1)),(6,.ref 2 0)],3,[(0,some (.box [.sl 1 (l.map O3),.i k2])),(2,some (.box (I8 K)))]⟩ ?_ ?_)|refine nc [0] [0] h3 rfl rfl rfl ⟨rfl,trivial⟩ ?_|refine nc [0] [0] h4 rfl rfl rfl ⟨rfl,trivial⟩ ?_ |refine S2 ?_|(refine T6 ?_ ?_<;>intro h<;>try exact V1 h)|intro el mI mJ|intro el mI|exact T4|refine T5 ?_ ?_|intro ex)<;>try conv=>whnf)
  all_goals first
   |(exfalso;omega)
   |exact A7 h0 rfl ⟨rfl,rfl,rfl,trivial⟩ ⟨rfl,rfl,trivial⟩ rfl rfl rfl
   |exact L9 (rvs:=[.tmp 4,.tmp 5,.cell 6 29]) (vs:=[.sl 2 (D.map A8),.i (-1),D5 K]) ⟨2,_,_,rfl,rfl,inferInstance,rfl,rfl,trivial⟩ rfl rfl (A6 h0) rfl
theorem io{f:Nat}{l:List AV}(h:Sh Tryz.prog f 37 l):∃ws:List Int,ws.length≤maxLen∧l=[.sl 1 (ws.map wA)]:=by
 obtain⟨f2,ls,hl,mh,rfl,_⟩:=Ex (c:=1) Tryz.underlying37 (by kernel_rfl) h
 obtain⟨ws,rfl,_⟩:=Bo (F:=wA) (R:=ja) (fun x hx=>HV (mh x hx))
 exact⟨ws,by rw[List.length_map]at hl;exact hl,rfl⟩
theorem mG:∀(n f:Nat),f<n→∀{l:List AV},Sh Tryz.prog f 29 l→∃c:B6,l=I8 c:=by
 intro n
 induction n with
 |zero=>intro f hf;omega
 |succ n ih =>
  intro f hf l h
  obtain⟨f',hs,e0⟩:=Ix (ts:=[3,3,3,3,3,27]) Tryz.underlying29 (by kernel_rfl) h
  obtain⟨x1,r1,h1,⟨x2,r2,h2,⟨x3,r3,h3,⟨x4,r4,h4,⟨x5,r5,h5,⟨x6,r6,h6,h7,rfl⟩,rfl⟩,rfl⟩,rfl⟩,rfl⟩,rfl⟩:=hs
  obtain⟨y1,_,rfl⟩:=HV h1
  obtain⟨y2,_,rfl⟩:=HV h2
  obtain⟨y3,_,rfl⟩:=HV h3
  obtain⟨y4,_,rfl⟩:=HV h4
  obtain⟨y5,_,rfl⟩:=HV h5
  obtain⟨f2,ls,_,mh,rfl,e⟩:=Ex (c:=6) Tryz.underlying27 (by kernel_rfl) h6
  obtain⟨ks,rfl,_⟩:=Bo (F:=P9) (R:=fun _=>True) (fun x hx=>by
   obtain⟨c,hc⟩:=ih f2 (by omega) (mh x hx)
   exact⟨c,trivial,by rw[hc,Gh]⟩)
  cases h7
  exact⟨.mk y1 y2 y3 y4 y5 ks,rfl⟩
theorem kT{a:AV}(h:i7 Tryz.prog 29 a):∃c:B6,a=D5 c:=by
 obtain⟨f,l,rfl,hs⟩:=Vp (by kernel_rfl) h
 obtain⟨c,rfl⟩:=mG (f+1) f (by omega) hs
 exact⟨c,rfl⟩
theorem Yk{f:Nat}{l:List AV}(h:Sh Tryz.prog f 81 l):∃p:Pk,True∧l=A8 p:=by
 obtain⟨f',hs,_⟩:=Ix (ts:=[3,3]) Tryz.underlying81 (by kernel_rfl) h
 obtain⟨x1,r1,h1,⟨x2,r2,h2,h3,rfl⟩,rfl⟩:=hs
 obtain⟨y1,_,rfl⟩:=HV h1
 obtain⟨y2,_,rfl⟩:=HV h2
 cases h3
 exact⟨⟨y1,y2⟩,trivial,rfl⟩
theorem eC{a:AV}(h:i7 Tryz.prog 23 a):∃ps:List Pk,a=.sl 2 (ps.map A8):=by
 obtain⟨f2,ls,hl,mh,rfl⟩:=Pl (c:=2) Tryz.underlying23 (by kernel_rfl) h
 obtain⟨ps,rfl,_⟩:=Bo (F:=A8) (R:=fun _=>True) (fun x hx=>Yk (mh x hx))
 exact⟨ps,rfl⟩
theorem kU{f:Nat}{l:List AV}(h:Sh Tryz.prog f 37 l):∃r:List Int,True∧l=D2 r:=by
 obtain⟨r,_,rfl⟩:=io h
 exact⟨r,trivial,rfl⟩
theorem kX{a:AV}(h:i7 Tryz.prog 26 a):∃x:J7,a=T8 x:=by
 obtain⟨f,l,rfl,qJ⟩:=Vp (by kernel_rfl) h
 obtain⟨f',hs,_⟩:=Ix (ts:=[9,3,23,24]) Tryz.underlying26 (by kernel_rfl) qJ
 obtain⟨x1,r1,h1,⟨x2,r2,h2,⟨x3,r3,h3,⟨x4,r4,h4,h5,rfl⟩,rfl⟩,rfl⟩,rfl⟩:=hs
 obtain⟨y1,_,rfl⟩:=lg h1
 obtain⟨y2,_,rfl⟩:=HV h2
 obtain⟨f3,l3,_,wu,rfl,_⟩:=Ex (c:=2) Tryz.underlying23 (by kernel_rfl) h3
 obtain⟨y3,rfl,_⟩:=Bo (F:=A8) (R:=fun _=>True) (fun x hx=>Yk (wu x hx))
 obtain⟨f4,l4,_,wt,rfl,_⟩:=Ex (c:=1) Tryz.underlying24 (by kernel_rfl) h4
 obtain⟨y4,rfl,_⟩:=Bo (F:=D2) (R:=fun _=>True) (fun x hx=>kU (wt x hx))
 cases h5
 exact⟨⟨y1,y2,y3,y4⟩,rfl⟩
theorem bK(l:List UInt8)(a:Nat)(s:A4)(hd:D9 s)(hl:l.length≤400):B7 Tryz.prog 15 1 (U4 l a) [.ref 0 0,sA s] 2 [(0,some (.box [.sl 1 (l.map O3),.i (Du l a s).2])),(1,some (.row 81 2 0 ((Du l a s).1.map A8)))] (.row 1 0 (Du l a s).1.length):=by
 have qV:=hd.lens
 refine Y6 Tryz.func15 29 fun E h0=>?_
 repeat'((first|refine S2 ?_|(refine T6 ?_ ?_<;>intro h<;>try exact V1 h)|intro el mI mJ|intro el mI|exact T4|refine T5 ?_ ?_|intro ex)<;>try conv=>whnf)
 refine A9 (ι:=Nat×List Pk×Nat) (fun x=>⟨[(0,.ref 0 0),(3,.ref 1 0),(5,.row 2 0 x.2.1.length),(6,.i x.1)],3,[(0,some (.box [.sl 1 (l.map O3),.i x.2.2])),(1,some (.box (sL s))),(2,some (.row 81 2 0 (x.2.1.map A8)))]⟩)
  (fun x=>(1≤x.1∧x.1≤s.cols.length)∧x.2.1.length≤x.1∧Du l a s=Gm l s x.1 x.2 (s.cols.length-x.1)) (fun x=>s.cols.length-x.1) (1,[],a) ⟨by dsimp only;omega,by dsimp only;simp,rfl⟩
  (B9 (H7 (d:=5) (e:=81) (sz:=2) rfl) (A7 h0 rfl ⟨rfl,rfl,rfl,rfl,trivial⟩ ⟨rfl,rfl,⟨0,rfl⟩,trivial⟩ rfl rfl rfl)) (fun x hI=>?_)
 obtain⟨k,out,b⟩:=x
 obtain⟨hk,mL,hI⟩:=hI
 dsimp only at hk mL hI ⊢
 have r1:=I5 l b 4 hl
 have r2:=I5 l (C0 l b 4).2 (B4 s k+1) hl
 have hf:=L5 s k
 have tB:(k:Int)<s.cols.length→0≤B4 s k∧B4 s k≤4:=by
  intro h
  obtain⟨n,h1,h2,_⟩:=hd.chain (i:=k) (by omega) (List.getElem?_eq_getElem (show k<s.cols.length by omega))
  omega
 repeat'((first|refine⟨F7 [0] [0] r1 rfl rfl rfl rfl rfl ⟨rfl,trivial⟩ rfl rfl rfl rfl rfl ?_⟩|refine⟨F7 [0] [0] r2 rfl rfl rfl rfl rfl ⟨rfl,trivial⟩ rfl rfl rfl rfl rfl ?_⟩|refine A0 hf ?_|(refine I6 ?_ ?_;(have:=tB (by assumption);omega)) |refine S2 ?_|(refine T6 ?_ ?_<;>intro h<;>try exact V1 h)|intro el mI mJ|intro el mI|exact T4|refine T5 ?_ ?_|intro ex)<;>try conv=>whnf)
 all_goals first
  |exact⟨(k+1,out++[⟨k,((C0 l (C0 l b 4).2 (B4 s k+1)).1:Int)⟩],(C0 l (C0 l b 4).2 (B4 s k+1)).2),⟨by dsimp only;omega,by dsimp only;rw[List.length_append,List.length_singleton];omega,by rw[hI,show s.cols.length-k=(s.cols.length-(k+1))+1 by omega,Gm,if_pos (by assumption)]⟩,by dsimp only;omega,A7 h0 rfl ⟨rfl,rfl,congrArg (fun z:Nat=>some (AV.row 2 0 z)) (by rw[List.length_append];rfl),rfl,trivial⟩ ⟨rfl,rfl,⟨_,congrArg (C4.row 81 2 _) (by rw[List.map_append];rfl)⟩,trivial⟩ rfl rfl rfl⟩
  |exact⟨(k+1,out,(C0 l b 4).2),⟨by dsimp only;omega,by dsimp only;omega,by rw[hI,show s.cols.length-k=(s.cols.length-(k+1))+1 by omega,Gm,if_neg (by assumption)]⟩,by dsimp only;omega,A7 h0 rfl ⟨rfl,rfl,rfl,rfl,trivial⟩ ⟨rfl,rfl,⟨_,rfl⟩,trivial⟩ rfl rfl rfl⟩
  |(have e:Du l a s=(out,b):=by rw[hI,show s.cols.length-k=0 by omega];rfl
    rw[e]
    exact H4 (B9 (Aj 1 2 h0 rfl rfl) (A6 h0)))
theorem Wb(l:List UInt8)(a:Nat)(s:A4)(hd:D9 s)(hl:l.length≤400):B7 Tryz.prog 15 1 (U4 l a) [.ref 0 0,sA s] 1 (U4 l (Du l a s).2) (.sl 2 ((Du l a s).1.map A8)) :=
 Hh (bK l a s hd hl) rfl fun E h0=>A6 h0
theorem UJ(l:List UInt8)(raw:J7)(dims:List Pk)(mea:Int)(cnd:B6)(hl:l.length≤maxLen):A3 Tryz.prog 3 [.sl 1 (l.map O3),T8 raw,.sl 2 (dims.map A8),.i mea,D5 cnd] (.b true):=by
 unfold maxLen at hl
 have hL:(l.take 400).length≤400:=List.length_take_le _ _
 have rJ:=cq l (by omega)
 generalize l.take 400=t at *
 have zZ:=Yt t 0 9 hL (by omega) (by omega)
 have hd:D9 (Ny t 0 9).1.1:=(Yg t 0 (most:=9) (by omega)).1
 generalize Ny t 0 9=W at *
 obtain⟨⟨s,rows,X⟩,a1⟩:=W
 dsimp only at zZ hd
 have vY:=bJ t a1 s hd hL
 generalize Qe t s a1=K at *
 obtain⟨⟨D,M,C⟩,a2⟩:=K
 dsimp only at vY
 have oY:=Wb t a2 s hd hL
 generalize Du t a2 s=p0 at *
 obtain⟨p,a3⟩:=p0
 dsimp only at oY
 have xv:=cr mea 8 (by omega)
 have hmb:=Iz (k:=mea) (n:=8) (by omega)
 generalize Iy mea 8=m8 at *
 have h1:=fun y D M C=>LD s y D M C
 have h2:=fun y D M C=>UP s hd y D M C
 have h3:=fun T=>VT T
 have sx:=h1 X dims (m8-2) cnd
 have pD:=h2 X dims (m8-2) cnd
 have hx3:=h3 (EF s X dims (m8-2) cnd)
 generalize EF s X dims (m8-2) cnd=TX at *
 generalize b7 s X dims (m8-2) cnd=eX at *
 refine B5 Tryz.func3 141 fun mK E h0=>?_
 have ql:raw.rows.length≤9223372036854775807:=by
  have:=((mK (T8 raw) (by simp)).agg (.sl 1 (raw.rows.map D2)) (by simp)).sl
  simpa using this
 have ob:raw.picks.length≤9223372036854775807:=by
  have:=((mK (T8 raw) (by simp)).agg (.sl 2 (raw.picks.map A8)) (by simp)).sl
  simpa using this
 have pB:dims.length≤9223372036854775807:=by
  have:=(mK (.sl 2 (dims.map A8)) (by simp)).sl
  simpa using this
 have mT:cnd.kids.length≤9223372036854775807:=by
  have:=((mK (D5 cnd) (by simp)).agg (.sl 6 (cnd.kids.map P9)) (by simp[I8])).sl
  simpa using this
 clear mK
 repeat'((first|refine A0 Jd ?_|refine f9 [] [] rJ rfl rfl rfl rfl rfl trivial rfl rfl rfl rfl rfl ?_|refine nc [2] [0] zZ rfl rfl rfl ⟨rfl,trivial⟩ ?_|refine nc [2] [0] vY rfl rfl rfl ⟨rfl,trivial⟩ ?_|refine nc [2] [0] oY rfl rfl rfl ⟨rfl,trivial⟩ ?_ |refine S2 ?_|(refine T6 ?_ ?_<;>intro h<;>try exact V1 h)|intro el mI mJ|intro el mI|exact T4|refine T5 ?_ ?_|intro ex)<;>try conv=>whnf)
 all_goals first
  |(exfalso;omega)
  |exact A1 rfl rfl
  |skip
 obtain⟨PR,zR⟩:∃PR:List J7,PR=[X,raw,⟨[112],0,p,[]⟩]:=⟨_,rfl⟩
 have hPl:PR.length=3:=by rw[zR];rfl
 clear rJ zZ vY oY
 refine A9 (ι:=Nat) (fun k=>⟨[(2,.sl 2 (dims.map A8)),(3,.i mea),(9,.iptr (I8 cnd)),(13,.iptr (IJ X)),(14,.iptr (sL s)),(15,.sl 2 (D.map A8)),(16,.i M),(17,.iptr (I8 C)),(74,.sl 4 (PR.map IJ)),(75,.i 3),(76,.i k)],0,[]⟩) (fun k=>k≤3) (fun k=>3-k) 0 (by omega)
  (B9 (U0 74 (.sl 4 (PR.map IJ)) rfl (by rw[zR];exact Xl ⟨FI.refl _,FI.refl _,⟨.refl _,.refl _,.refl _,.nil 1,trivial⟩,trivial⟩)) (A6 h0)) (fun k hk=>?_)
 clear zR
 by_cases mM:k<3
 ·obtain⟨y,hy⟩:∃y,PR[k]?=some y:=⟨_,List.getElem?_eq_getElem (by omega)⟩
  have xC:PR[((k:Nat):Int).toNat]?=some y:=hy
  have c1:=h1 y D M C
  have c2:=h2 y D M C
  have c3:=h3 (EF s y D M C)
  generalize EF s y D M C=T at *
  generalize b7 s y D M C=e at *
  clear h1 h2 h3 sx pD hx3
  repeat'((first|(refine A2 (x:=y) xC (by omega) ?_)|refine A0 c1 ?_|refine A0 c2 ?_|refine A0 c3 ?_ |refine S2 ?_|(refine T6 ?_ ?_<;>intro h<;>try exact V1 h)|intro el mI mJ|intro el mI|exact T4|refine T5 ?_ ?_|intro ex)<;>try conv=>whnf)
  all_goals first
   |(exfalso;omega)
   |exact⟨k+1,by omega,by omega,A6 h0⟩
 ·clear h1 h2 h3
  repeat'((first|(refine F3 (id:=16) ⟨[(3,.i mea),(2,.sl 2 (dims.map A8)),(9,.iptr (I8 cnd)),(13,.iptr (IJ X)),(14,.iptr (sL s)),(25,.ref 0 0),(26,.i eX)],1,[(0,some (.box (YP TX)))]⟩ ?_ ?_)|(refine F3 (id:=17) ⟨[(25,.ref 0 0),(26,.i eX),(27,.ref 1 0),(28,.i eX)],2,[(0,some (.box (YP TX))),(1,some (.box (YP TX)))]⟩ ?_ ?_) |refine S2 ?_|(refine T6 ?_ ?_<;>intro h<;>try exact V1 h)|intro el mI mJ|intro el mI|exact T4|refine T5 ?_ ?_|intro ex|refine A0 xv ?_|refine A0 sx ?_|refine A0 pD ?_|refine A0 hx3 ?_|refine A0 Jd ?_)<;>try conv=>whnf)
  all_goals first
   |(exfalso;omega)
   |exact A7 h0 rfl ⟨rfl,rfl,rfl,rfl,rfl,rfl,rfl,trivial⟩ ⟨rfl,trivial⟩ rfl rfl rfl
   |exact A7 h0 rfl ⟨rfl,rfl,rfl,rfl,trivial⟩ ⟨rfl,rfl,trivial⟩ rfl rfl rfl
   |exact A1 rfl rfl
theorem VS(l:List AV)(h:Jv Tryz.prog Tryz.f3.params.toList l):A3 Tryz.prog 3 l (.b true):=by
 obtain⟨a1,r1,rfl,h1,a2,r2,rfl,h2,a3,r3,rfl,h3,a4,r4,rfl,h4,a5,r5,rfl,h5,rfl⟩:=h
 obtain⟨l,hl,rfl⟩:=jb h1
 obtain⟨raw,rfl⟩:=kX h2
 obtain⟨ds,rfl⟩:=eC h3
 obtain⟨m,_,rfl⟩:=lE h4
 obtain⟨c,rfl⟩:=kT h5
 exact UJ l raw ds m c hl
end Go.Proofs.YtiphlhoclaogjaaGreatDoor
