/- Chapter 5: the program's check of a condition. Chapter 5: the program's check of a condition and of all in it. Chapter 5: truth values, the conditions about one column, and which picks cover others. Chapter 5: which picks cover others. Chapter 5: the first error of one condition, case by case. -/
import Derived.Test.YtiphlhoclaogjaaGreatDoorSCd1
set_option linter.unusedVariables false
set_option linter.unnecessarySimpa false
set_option linter.unusedSimpArgs false
set_option maxHeartbeats 64000000
namespace Go.Proofs.YtiphlhoclaogjaaGreatDoor
open Go Go.Av
attribute [local irreducible] C7 B2 D3 C9 DQ D0 C8 St.le A3 B9
set_option maxRecDepth 100000
def H9(s:A4)(c:B1):Int :=
 if c.op<1∨7<c.op then 4 else if (c.kids.length:Int)≠p9 c.op∨¬(¬(c.op≠2∧c.op≠3∧c.op≠4∧c.col≠0)∧¬(c.op≠2∧c.code≠0)∧(c.op=3∨c.lo=0∧c.hi=0))then 11 else if c.op≠2∧c.op≠3∧c.op≠4 then 0 else
 if c.col<0∨(s.cols.length:Int)≤c.col then 7 else
 if c.op=2 then (if (C0 s c.col).kind≠2 then 7 else if c.code<0∨((C2 s (C0 s c.col)).2.length:Int)≤c.code then 6 else 0)
 else if c.op=3 then (if (C0 s c.col).kind≠3 then 7 else if c.hi<c.lo∨c.lo < -1000000∨1000000<c.hi then 2 else 0)
 else (if (C0 s c.col).kind≠3∨(C0 s c.col).opt=false then 7 else 0)
theorem Qr(s:A4)(c:B1)(hr:C3 s=0):A3 Tryz.prog 219 [sA s,E0 c] (.i (H9 s c)):=by
 have hk:=Xe c.op
 have hu:=Sr c
 rw[F7]
 refine B6 Tryz.func219 113 fun lW E h0=>?_
 have lX:c.kids.length≤9223372036854775807:=by
  have:=((lW _ (List.mem_cons_of_mem _ (List.mem_cons_self ..))).agg (.sl 6 (c.kids.map I6)) (by simp)).sl
  simpa using this
 clear lW
 rw[F7]at hu
 have nS:∀x,s.cols[c.col.toNat]?=some x→x.kind=2→0≤x.lst∧x.lst<s.lists.length:=fun x hx h2=>by
  have:=AY.lst hr (List.mem_of_getElem? hx) h2
  omega
 repeat'((first|refine A1 hk ?_|refine A1 hu ?_|(refine o8 ?_ ?_ (fun lx mZ=>?_);(have:=nS _ (by assumption) (by omega);omega);(have:=nS _ (by assumption) (by omega);omega))|(refine B3 ?_ ?_;kernel_rfl) |refine S2 ?_|(refine T6 ?_ ?_<;>intro h<;>try exact V1 h)|intro el lU lV|intro el lU|exact T4|refine T5 ?_ ?_|intro ex)<;>try conv=>whnf)
 all_goals first
  |(refine A0 rfl (congrArg AV.i ?_);unfold H9;(repeat' split)<;>omega)
  |(refine A0 rfl (congrArg AV.i ?_);unfold H9;rw[C1 lU];(repeat' split)<;>omega)
  |(refine A0 rfl (congrArg AV.i ?_);unfold H9;rw[C1 lU,H8 mZ];(repeat' split)<;>omega)
  |(refine A0 rfl (congrArg AV.i ?_);unfold H9;rw[C1 lU];(repeat' split)<;>first|rfl|(exfalso;omega)|(exfalso;simp_all;done))
mutual
def Z0:B1→Nat
 |.mk _ _ _ _ _ ks=>v7 ks+1
def v7:List B1→Nat
 |[]=>0
 |x::r=>Z0 x+v7 r
end
theorem Eo(c:B1):Z0 c=v7 c.kids+1:=by cases c;rfl
theorem WA:∀(l:List B1) (m n:Int),n≤Al l m n
 |[],m,n=>by unfold Al;omega
 |x::r,m,n=>by
  unfold Al
  split
  ·omega
  ·have h1:=KP x (m-n)
   have h2:=WA r m (n+Ak x (m-n))
   omega
theorem fi(c:B1):∀m:Int,(Ak c m≤m→(Z0 c:Int)=Ak c m)∧((Z0 c:Int)≤m→Ak c m=Z0 c):=by
 refine N1 (p:=fun c=>∀m:Int,(Ak c m≤m→(Z0 c:Int)=Ak c m)∧((Z0 c:Int)≤m→Ak c m=Z0 c)) (fun c ih m=>?_) c
 have key:∀(l:List B1),(∀k∈l,k∈c.kids)→∀n:Int,(Al l m n≤m→Al l m n=n+v7 l)∧(n+v7 l≤m→Al l m n=n+v7 l):=by
  intro l
  induction l with
  |nil=>intro _ n;unfold Al v7;exact⟨fun _=>by omega,fun _=>by omega⟩
  |cons x r qZ =>
   intro hl n
   obtain⟨i1,i2⟩:=ih x (hl x (by simp)) (m-n)
   obtain⟨j1,j2⟩:=qZ (fun k hk=>hl k (by simp[hk])) (n+Ak x (m-n))
   have oM:=WA r m (n+Ak x (m-n))
   have qY:=KP x (m-n)
   unfold Al v7
   by_cases h:m<n
   ·rw[if_pos h]
    exact⟨fun h2=>by omega,fun h2=>by omega⟩
   ·rw[if_neg h]
    refine⟨fun h2=>?_,fun h2=>?_⟩
    ·rw[j1 h2]
     have:=i1 (by omega)
     omega
    ·have:=i2 (by omega)
     rw[this]at j2 ⊢
     rw[j2 (by omega)]
     omega
 obtain⟨k1,k2⟩:=key c.kids (fun k hk=>hk) 1
 rw[Oj,Eo]
 exact⟨fun h=>by have:=k1 h;omega,fun h=>by have:=k2 (by omega);omega⟩
theorem WB(c:B1):Y9 c≤Z0 c:=by
 refine N1 (p:=fun c=>Y9 c≤Z0 c) (fun c ih=>?_) c
 have key:∀(l:List B1),(∀k∈l,k∈c.kids)→∀n:Nat,p8 l n≤max n (v7 l):=by
  intro l
  induction l with
  |nil=>intro _ n;unfold p8;omega
  |cons x r qZ =>
   intro hl n
   have h1:=ih x (hl x (by simp))
   have h2:=qZ (fun k hk=>hl k (by simp[hk])) (max n (Y9 x))
   unfold p8 v7
   omega
 have:=key c.kids (fun k hk=>hk) 0
 rw[KQ,Eo]
 omega
mutual
def X4(s:A4):B1→Int
 |.mk o c k l h ks=>if H9 s (.mk o c k l h ks)=0 then v8 s ks else H9 s (.mk o c k l h ks)
def v8(s:A4):List B1→Int
 |[]=>0
 |x::r=>if X4 s x=0 then v8 s r else X4 s x
end
theorem Ol(s:A4)(c:B1):X4 s c=if H9 s c=0 then v8 s c.kids else H9 s c:=by cases c;rfl
theorem Qs(s:A4)(hr:C3 s=0)(c:B1):A3 Tryz.prog 179 [sA s,E0 c] (.i (X4 s c)):=by
 refine N1 (p:=fun c=>A3 Tryz.prog 179 [sA s,E0 c] (.i (X4 s c))) (fun c ih=>?_) c
 have h1:=Qr s c hr
 rw[F7]at h1 ⊢
 rw[Ol]
 refine B6 Tryz.func179 29 fun lW E h0=>?_
 have lX:c.kids.length≤9223372036854775807:=by
  have:=((lW _ (List.mem_cons_of_mem _ (List.mem_cons_self ..))).agg (.sl 6 (c.kids.map I6)) (by simp)).sl
  simpa using this
 clear lW
 repeat'((first|refine A1 h1 ?_ |refine S2 ?_|(refine T6 ?_ ?_<;>intro h<;>try exact V1 h)|intro el lU lV|intro el lU|exact T4|refine T5 ?_ ?_|intro ex)<;>try conv=>whnf)
 all_goals first
  |exact A0 rfl (congrArg AV.i (by rw[if_neg (by assumption)]))
  |skip
 rw[if_pos (Decidable.of_not_not (by assumption))]
 refine B0 (ι:=Nat) (fun k=>⟨[(2,.ref 0 0),(16,.sl 6 (c.kids.map I6)),(17,.i c.kids.length),(18,.i k)],2,[(0,some (.box (sL s))),(1,some (.box (M8 c)))]⟩) (fun k=>k≤c.kids.length∧v8 s c.kids=v8 s (c.kids.drop k)) (fun k=>c.kids.length-k) 0 ⟨Nat.zero_le _,rfl⟩
  (A6 h0) (fun k hI=>?_)
 obtain⟨hk,hI⟩:=hI
 repeat'((first|(refine A1 (ih _ (List.mem_of_getElem? (by assumption))) ?_) |refine S2 ?_|(refine T6 ?_ ?_<;>intro h<;>try exact V1 h)|intro el lU lV|intro el lU|exact T4|refine T5 ?_ ?_|intro ex)<;>try conv=>whnf)
 all_goals first
  |exact A0 rfl (congrArg AV.i (by rw[hI,G3 lU,v8,if_neg (by assumption)]))
  |exact A0 rfl (congrArg AV.i (by rw[hI,S6 (by assumption)];rfl))
  |exact⟨k+1,⟨by omega,by rw[hI,G3 lU,v8,if_pos (Decidable.of_not_not (by assumption))]⟩,by omega,A6 h0⟩
def K7(s:A4)(c:B1):Int:=if C3 s=0 then (if 40<Z0 c then 1 else if 10<Y9 c then 22 else X4 s c)else C3 s
theorem Ae(s:A4)(c:B1):A3 Tryz.prog 128 [sA s,E0 c] (.i (K7 s c)):=by
 have h1:=a6 s
 have h2:=Ux c 40 (by omega) (by omega)
 have h3:(Z0 c:Int)≤40→A3 Tryz.prog 178 [E0 c] (.i (Y9 c)):=fun h=>Xd c (by have:=WB c;omega)
 have h4:=fun hr=>Qs s hr c
 obtain⟨t1,t2⟩:=fi c 40
 rw[F7]at *
 refine B6 Tryz.func128 23 fun lW E h0=>?_
 clear lW
 unfold K7
 repeat'((first|refine A1 h1 ?_|refine A1 h2 ?_|refine A1 (h3 (by omega)) ?_|refine A1 (h4 (Decidable.of_not_not (by assumption))) ?_ |refine S2 ?_|(refine T6 ?_ ?_<;>intro h<;>try exact V1 h)|intro el lU lV|intro el lU|exact T4|refine T5 ?_ ?_|intro ex)<;>try conv=>whnf)
 all_goals first
  |exact A0 rfl (congrArg AV.i (by rw[if_neg (by assumption)]))
  |exact A0 rfl (congrArg AV.i (by rw[if_pos (Decidable.of_not_not (by assumption)),if_pos (by omega)]))
  |exact A0 rfl (congrArg AV.i (by rw[if_pos (Decidable.of_not_not (by assumption)),if_neg (by omega),if_pos (by omega)]))
  |exact A0 rfl (congrArg AV.i (by rw[if_pos (Decidable.of_not_not (by assumption)),if_neg (by omega),if_neg (by omega)]))
def GR(b:Bool):Int:=if b=true then 1 else -1
theorem Kz(b:Bool):A3 Tryz.prog 241 [.b b] (.i (GR b)):=by
 refine B6 Tryz.func241 4 fun lW E h0=>?_
 clear lW
 repeat'((first|refine S2 ?_|(refine T6 ?_ ?_<;>intro h<;>try exact V1 h)|intro el lU lV|intro el lU|exact T4|refine T5 ?_ ?_|intro ex)<;>try conv=>whnf)
 all_goals exact A0 rfl (congrArg AV.i (by rw[h];rfl))
def M1(s:A4)(c:B1)(v:Int):Int :=
 if c.op=2 then GR (u9 (C2 s (C0 s c.col)).1 (C2 s (C0 s c.col)).2 v c.code)else if c.op=4 then GR (decide (v=(-1099511627776)))else if v=(-1099511627776)then 0 else GR (decide (c.lo≤v∧v≤c.hi))
theorem Na(s:A4)(c:B1)(v:Int)(h2:c.op=2→∃x lx,0≤c.col∧s.cols[c.col.toNat]?=some x∧0≤x.lst∧s.lists[x.lst.toNat]?=some lx):A3 Tryz.prog 220 [sA s,E0 c,.i v] (.i (M1 s c v)):=by
 rw[F7]
 refine B6 Tryz.func220 48 fun lW E h0=>?_
 obtain⟨nL,mO,nk⟩:=X3 (s:=s) (lW _ (by simp))
 clear lW
 unfold M1
 by_cases oU:c.op=2
 ·obtain⟨x,lx,g0,g1,g2,g3⟩:=h2 oU
  rw[if_pos oU,C1 g1,H8 g3]
  have wT:=XT lx.1 lx.2 v c.code (nk lx (List.mem_of_getElem? g3))
  have vF:=Kz (u9 lx.1 lx.2 v c.code)
  repeat'((first|(refine A2 (x:=x) g1 (by omega) ?_)|(refine A2 (x:=lx) g3 (by omega) ?_)|refine A1 wT ?_|refine A1 vF ?_|(refine B3 ?_ ?_;kernel_rfl) |refine S2 ?_|(refine T6 ?_ ?_<;>intro h<;>try exact V1 h)|intro el lU lV|intro el lU|exact T4|refine T5 ?_ ?_|intro ex)<;>try conv=>whnf)
  all_goals first
   |exact A0 rfl rfl
 ·rw[if_neg oU]
  have vF:=Kz
  repeat'((first|refine A1 (vF _) ?_|(refine B3 ?_ ?_;kernel_rfl) |refine S2 ?_|(refine T6 ?_ ?_<;>intro h<;>try exact V1 h)|intro el lU lV|intro el lU|exact T4|refine T5 ?_ ?_|intro ex)<;>try conv=>whnf)
  all_goals first
   |(rw[if_pos (by assumption)];exact A0 rfl rfl)
   |(rw[if_neg (by assumption),if_pos (by assumption)];exact A0 rfl rfl)
   |(rw[if_neg (by assumption),if_neg (by assumption)];refine A0 rfl (congrArg (fun z=>AV.i (GR z)) ?_);first|(rw[decide_eq_decide];omega)|(rw[eq_comm,decide_eq_false_iff_not];omega))
mutual
def k0:B1→List B1
 |.mk o c k l h ks=>if o=2∨o=3∨o=4 then [.mk o c k l h ks]else X5 ks
def X5:List B1→List B1
 |[]=>[]
 |x::r=>k0 x++X5 r
end
theorem Dc(c:B1):k0 c=if c.op=2∨c.op=3∨c.op=4 then [c]else X5 c.kids:=by
 cases c;rfl
theorem Fs(l:List B1)(k:Nat){x:B1}(h:l[k]?=some x):X5 (l.take (k+1))=X5 (l.take k)++k0 x:=by
 rw[H6 h]
 generalize l.take k=m
 induction m with
 |nil=>simp[X5]
 |cons a r ih=>simp only[List.cons_append,X5,ih,List.append_assoc]
theorem Gr(c:B1):(k0 c).length≤Z0 c:=by
 refine N1 (p:=fun c=>(k0 c).length≤Z0 c) (fun c ih=>?_) c
 have key:∀(l:List B1),(∀k∈l,k∈c.kids)→(X5 l).length≤v7 l:=by
  intro l
  induction l with
  |nil=>intro _;simp[X5,v7]
  |cons x r qZ =>
   intro hl
   have h1:=ih x (hl x (by simp))
   have h2:=qZ (fun k hk=>hl k (by simp[hk]))
   unfold X5 v7
   rw[List.length_append];omega
 rw[Dc,Eo]
 split
 ·simp
 ·have:=key c.kids (fun k hk=>hk);omega
theorem Hc{l:List B1}:∀k∈l,Z0 k≤v7 l:=by
 induction l with
 |nil=>intro k hk;cases hk
 |cons x r ih =>
  intro k hk
  unfold v7
  rcases List.mem_cons.1 hk with rfl|hk
  ·omega
  ·have:=ih k hk;omega
theorem JM(l:List B1)(k:Nat):(X5 (l.take k)).length≤v7 l:=by
 induction l generalizing k with
 |nil=>simp[X5]
 |cons x r ih =>
  cases k with
  |zero=>simp[X5]
  |succ k =>
   have h1:=ih k
   have h2:=Gr x
   simp only[List.take_succ_cons,X5,v7,List.length_append]
   omega
theorem Uy(c:B1):Z0 c≤100000→A3 Tryz.prog 180 [E0 c] (.sl 6 ((k0 c).map I6)):=by
 refine N1 (p:=fun c=>Z0 c≤100000→A3 Tryz.prog 180 [E0 c] (.sl 6 ((k0 c).map I6))) (fun c ih ht=>?_) c
 rw[Eo]at ht
 rw[F7,Dc]
 refine B6 Tryz.func180 34 fun lW E h0=>?_
 have lX:c.kids.length≤9223372036854775807:=by
  have:=((lW _ (List.mem_cons_self ..)).agg (.sl 6 (c.kids.map I6)) (by simp)).sl
  simpa using this
 clear lW
 repeat'((first|refine S2 ?_|(refine T6 ?_ ?_<;>intro h<;>try exact V1 h)|intro el lU lV|intro el lU|exact T4|refine T5 ?_ ?_|intro ex)<;>try conv=>whnf)
 all_goals first
  |(rw[if_pos (by omega)];refine A0 rfl ?_;rw[List.map_cons,I6,Oi];rfl)
  |skip
 rw[if_neg (by omega)]
 refine B0 (ι:=Nat) (fun k=>⟨[(3,.row 1 0 (X5 (c.kids.take k)).length),(22,.sl 6 (c.kids.map I6)),(23,.i c.kids.length),(24,.i k)],2,[(0,some (.box (M8 c))),(1,some (.row 29 6 0 ((X5 (c.kids.take k)).map I6)))]⟩) (fun k=>k≤c.kids.length) (fun k=>c.kids.length-k) 0 (Nat.zero_le _)
  (B5 (I9 (d:=3) (e:=29) (sz:=6) rfl) (A9 h0 rfl ⟨rfl,rfl,rfl,rfl,trivial⟩ ⟨rfl,⟨0,rfl⟩,trivial⟩ rfl rfl rfl)) (fun k hk=>?_)
 have mX:=JM c.kids k
 repeat'((first|(refine A1 (ih _ (List.mem_of_getElem? (by assumption)) (by have:=Hc el (List.mem_of_getElem? lU);omega)) ?_)|(refine I4 ?_ ?_;(have q1:=Gr el;have q2:=Hc el (List.mem_of_getElem? lU);simp only[List.length_map];omega)) |refine S2 ?_|(refine T6 ?_ ?_<;>intro h<;>try exact V1 h)|intro el lU lV|intro el lU|exact T4|refine T5 ?_ ?_|intro ex)<;>try conv=>whnf)
 all_goals first
  |exact⟨k+1,by omega,by omega,A9 h0 rfl ⟨congrArg (fun z:Nat=>some (AV.row 1 0 z)) (by rw[Fs _ _ lU,List.length_append,List.length_map]),rfl,rfl,rfl,trivial⟩ ⟨rfl,⟨_,congrArg (C6.row 29 6 _) (by rw[Fs _ _ lU,List.map_append])⟩,trivial⟩ rfl rfl rfl⟩
  |exact A0 rfl (congrArg (fun z=>AV.sl 6 ((X5 z).map I6)) (DZ (by assumption)))
abbrev Am(n p:Pk):Bool:=decide (p.col=n.col∧n.lev≤p.lev)
def q8(l pb:List Pk):Bool:=!(pb.any fun n=>!(l.any (Am n)))
theorem Zz(l:List (Pk))(f:Nat)(caps:List AV)(p:(Pk)→Bool)(hf:∀x∈l,A3 Tryz.prog f ((fun x=>.agg (B4 x)) x::caps) (.b (p x))):A3 Tryz.prog 110 [.sl 2 (l.map B4),.fn f caps] (.i (F4 p l 0)):=by
 refine B6 Tryz.func110 19 fun lW E h0=>?_
 have lX:l.length≤9223372036854775807:=by have:=(lW (.sl 2 (l.map B4)) (by simp)).sl;simpa using this
 repeat'((first|refine S2 ?_|(refine T6 ?_ ?_<;>intro h<;>try exact V1 h)|intro el lU lV|intro el lU|exact T4|refine T5 ?_ ?_|intro ex)<;>try conv=>whnf)
 refine B0 (ι:=Nat) (fun k=>⟨[(0,.sl 2 (l.map B4)),(1,.fn f caps),(7,.i l.length),(8,.i k)],0,[]⟩) (fun k=>k≤l.length∧F4 p l 0=F4 p (l.drop k) k) (fun k=>l.length-k) 0 ⟨Nat.zero_le _,rfl⟩ (A6 h0) (fun k hI=>?_)
 obtain⟨hk,hI⟩:=hI
 repeat'((first|refine A1 (hf _ (List.mem_of_getElem? lU)) ?_ |refine S2 ?_|(refine T6 ?_ ?_<;>intro h<;>try exact V1 h)|intro el lU lV|intro el lU|exact T4|refine T5 ?_ ?_|intro ex)<;>try conv=>whnf)
 all_goals first
  |exact⟨k+1,⟨by omega,by rw[hI,G3 lU,F4,if_neg (by simp[h])];rfl⟩,by omega,A6 h0⟩
  |exact A0 rfl (congrArg AV.i (by rw[hI,G3 lU,F4,if_pos (by simp[h])]))
  |exact A0 rfl (congrArg AV.i (by rw[hI,show k=l.length by omega,List.drop_length];rfl))
theorem Nb(l:List (Pk))(f:Nat)(caps:List AV)(p:(Pk)→Bool)(hf:∀x∈l,A3 Tryz.prog f ((fun x=>.agg (B4 x)) x::caps) (.b (p x))):A3 Tryz.prog 103 [.sl 2 (l.map B4),.fn f caps] (.b (l.any p)):=by
 refine B6 Tryz.func103 9 fun lW E h0=>?_
 have mh:=Zz l f caps p hf
 repeat'((first|refine A1 mh ?_ |refine S2 ?_|(refine T6 ?_ ?_<;>intro h<;>try exact V1 h)|intro el lU lV|intro el lU|exact T4|refine T5 ?_ ?_|intro ex)<;>try conv=>whnf)
 all_goals first
  |exact A0 rfl (congrArg AV.b (CJ p l 0 (by omega)))
theorem Xg(n p:Pk):A3 Tryz.prog 105 [QB p,.iptr (B4 n)] (.b (Am n p)):=by
 refine B6 Tryz.func105 16 fun lW E h0=>?_
 clear lW
 repeat'((first|refine S2 ?_|(refine T6 ?_ ?_<;>intro h<;>try exact V1 h)|intro el lU lV|intro el lU|exact T4|refine T5 ?_ ?_|intro ex)<;>try conv=>whnf)
 all_goals first
  |exact A0 rfl (congrArg AV.b (by unfold Am;rw[decide_eq_decide];omega))
  |exact A0 rfl (congrArg AV.b (by unfold Am;rw[decide_eq_false (by omega)]))
theorem aA(n:Pk)(l:List Pk):A3 Tryz.prog 104 [QB n,.iptr [.sl 2 (l.map B4)]] (.b (!(l.any (Am n)))):=by
 have me:=Nb l 105 [.iptr (B4 n)] (Am n) (fun x _=>Xg n x)
 refine B6 Tryz.func104 8 fun lW E h0=>?_
 clear lW
 repeat'((first|refine J1 0 ?_|refine A1 me ?_ |refine S2 ?_|(refine T6 ?_ ?_<;>intro h<;>try exact V1 h)|intro el lU lV|intro el lU|exact T4|refine T5 ?_ ?_|intro ex)<;>try conv=>whnf)
 all_goals exact A0 rfl rfl
theorem Bu(l pb:List Pk):A3 Tryz.prog 45 [.sl 2 (l.map B4),.sl 2 (pb.map B4)] (.b (q8 l pb)):=by
 have me:=Nb pb 104 [.iptr [.sl 2 (l.map B4)]] (fun n=>!(l.any (Am n))) (fun x _=>aA x l)
 refine B6 Tryz.func45 9 fun lW E h0=>?_
 clear lW
 repeat'((first|refine J1 0 ?_|refine A1 me ?_ |refine S2 ?_|(refine T6 ?_ ?_<;>intro h<;>try exact V1 h)|intro el lU lV|intro el lU|exact T4|refine T5 ?_ ?_|intro ex)<;>try conv=>whnf)
 all_goals exact A0 rfl rfl
theorem Gs(op:Int):(op=5∨op=6→p9 op=2)∧(op=7→p9 op=1)∧(op≠5→op≠6→op≠7→p9 op=0):=by
 unfold p9
 refine⟨fun h=>by rw[if_pos h],fun h=>by rw[if_neg (by omega),if_pos h],fun h1 h2 h3=>by rw[if_neg (by omega),if_neg h3]⟩
theorem jG{s:A4}{c:B1}(h:c.op<1∨7<c.op):H9 s c=4:=by unfold H9;rw[if_pos h]
theorem fj{s:A4}{c:B1}(h0:1≤c.op∧c.op≤7)(h:(c.kids.length:Int)≠p9 c.op∨¬(¬(c.op≠2∧c.op≠3∧c.op≠4∧c.col≠0)∧¬(c.op≠2∧c.code≠0)∧(c.op=3∨c.lo=0∧c.hi=0))):H9 s c=11:=by unfold H9;rw[if_neg (by omega),if_pos h]
theorem fk{s:A4}{c:B1}(hp:(1≤c.op∧c.op≤7)∧(c.kids.length:Int)=p9 c.op∧¬(c.op≠2∧c.op≠3∧c.op≠4∧c.col≠0)∧¬(c.op≠2∧c.code≠0)∧(c.op=3∨c.lo=0∧c.hi=0))(h2:c.op=2)(h:¬(0≤c.col∧c.col<s.cols.length∧(C0 s c.col).kind=2)):H9 s c=7:=by
 unfold H9
 rw[if_neg (by omega),if_neg (by omega),if_neg (by omega)]
 by_cases h3:c.col<0∨(s.cols.length:Int)≤c.col
 ·rw[if_pos h3]
 ·rw[if_neg h3,if_pos h2,if_pos (by omega)]
theorem fq{s:A4}{c:B1}(hp:(1≤c.op∧c.op≤7)∧(c.kids.length:Int)=p9 c.op∧¬(c.op≠2∧c.op≠3∧c.op≠4∧c.col≠0)∧¬(c.op≠2∧c.code≠0)∧(c.op=3∨c.lo=0∧c.hi=0))(h2:c.op=3)(h:¬(0≤c.col∧c.col<s.cols.length∧(C0 s c.col).kind=3)):H9 s c=7:=by
 unfold H9
 rw[if_neg (by omega),if_neg (by omega),if_neg (by omega)]
 by_cases h3:c.col<0∨(s.cols.length:Int)≤c.col
 ·rw[if_pos h3]
 ·rw[if_neg h3,if_neg (by omega),if_pos h2,if_pos (by omega)]
theorem ft{s:A4}{c:B1}(hp:(1≤c.op∧c.op≤7)∧(c.kids.length:Int)=p9 c.op∧¬(c.op≠2∧c.op≠3∧c.op≠4∧c.col≠0)∧¬(c.op≠2∧c.code≠0)∧(c.op=3∨c.lo=0∧c.hi=0))(h2:c.op=4)(h:¬(0≤c.col∧c.col<s.cols.length∧(C0 s c.col).kind=3)):H9 s c=7:=by
 unfold H9
 rw[if_neg (by omega),if_neg (by omega),if_neg (by omega)]
 by_cases h3:c.col<0∨(s.cols.length:Int)≤c.col
 ·rw[if_pos h3]
 ·rw[if_neg h3,if_neg (by omega),if_neg (by omega),if_pos (by omega)]
theorem ck{s:A4}{c:B1}(hp:(1≤c.op∧c.op≤7)∧(c.kids.length:Int)=p9 c.op∧¬(c.op≠2∧c.op≠3∧c.op≠4∧c.col≠0)∧¬(c.op≠2∧c.code≠0)∧(c.op=3∨c.lo=0∧c.hi=0))(h2:c.op=4){x:D4}(hx:s.cols[c.col.toNat]?=some x)(h:x.opt=false):H9 s c=7:=by
 unfold H9
 rw[if_neg (by omega),if_neg (by omega),if_neg (by omega),C1 hx]
 by_cases h3:c.col<0∨(s.cols.length:Int)≤c.col
 ·rw[if_pos h3]
 ·rw[if_neg h3,if_neg (by omega),if_neg (by omega),if_pos (.inr h)]
theorem aB{s:A4}{c:B1}(hp:(1≤c.op∧c.op≤7)∧(c.kids.length:Int)=p9 c.op∧¬(c.op≠2∧c.op≠3∧c.op≠4∧c.col≠0)∧¬(c.op≠2∧c.code≠0)∧(c.op=3∨c.lo=0∧c.hi=0))(h2:c.op=2)(h:0≤c.col∧c.col<s.cols.length∧(C0 s c.col).kind=2)(h3:c.code<0∨((C2 s (C0 s c.col)).2.length:Int)≤c.code):H9 s c=6:=by
 unfold H9
 rw[if_neg (by omega),if_neg (by omega),if_neg (by omega),if_neg (by omega),if_pos h2,if_neg (by omega),if_pos h3]
theorem jH{s:A4}{c:B1}(hp:(1≤c.op∧c.op≤7)∧(c.kids.length:Int)=p9 c.op∧¬(c.op≠2∧c.op≠3∧c.op≠4∧c.col≠0)∧¬(c.op≠2∧c.code≠0)∧(c.op=3∨c.lo=0∧c.hi=0))(h2:c.op=3)(h:0≤c.col∧c.col<s.cols.length∧(C0 s c.col).kind=3)(h3:c.hi<c.lo∨c.lo < -1000000∨1000000<c.hi):H9 s c=2:=by
 unfold H9
 rw[if_neg (by omega),if_neg (by omega),if_neg (by omega),if_neg (by omega),if_neg (by omega),if_pos h2,if_neg (by omega),if_pos h3]
theorem fu{s:A4}{c:B1}(hp:(1≤c.op∧c.op≤7)∧(c.kids.length:Int)=p9 c.op∧¬(c.op≠2∧c.op≠3∧c.op≠4∧c.col≠0)∧¬(c.op≠2∧c.code≠0)∧(c.op=3∨c.lo=0∧c.hi=0))(h2:c.op≠2∧c.op≠3∧c.op≠4):H9 s c=0:=by
 unfold H9
 rw[if_neg (by omega),if_neg (by omega),if_pos h2]
theorem fv{s:A4}{c:B1}(hp:(1≤c.op∧c.op≤7)∧(c.kids.length:Int)=p9 c.op∧¬(c.op≠2∧c.op≠3∧c.op≠4∧c.col≠0)∧¬(c.op≠2∧c.code≠0)∧(c.op=3∨c.lo=0∧c.hi=0))(h2:c.op=2)(h:0≤c.col∧c.col<s.cols.length∧(C0 s c.col).kind=2)(h3:¬(c.code<0∨((C2 s (C0 s c.col)).2.length:Int)≤c.code)):H9 s c=0:=by
 unfold H9
 rw[if_neg (by omega),if_neg (by omega),if_neg (by omega),if_neg (by omega),if_pos h2,if_neg (by omega),if_neg h3]
theorem fw{s:A4}{c:B1}(hp:(1≤c.op∧c.op≤7)∧(c.kids.length:Int)=p9 c.op∧¬(c.op≠2∧c.op≠3∧c.op≠4∧c.col≠0)∧¬(c.op≠2∧c.code≠0)∧(c.op=3∨c.lo=0∧c.hi=0))(h2:c.op=3)(h:0≤c.col∧c.col<s.cols.length∧(C0 s c.col).kind=3)(h3:¬(c.hi<c.lo∨c.lo < -1000000∨1000000<c.hi)):H9 s c=0:=by
 unfold H9
 rw[if_neg (by omega),if_neg (by omega),if_neg (by omega),if_neg (by omega),if_neg (by omega),if_pos h2,if_neg (by omega),if_neg h3]
theorem fx{s:A4}{c:B1}(hp:(1≤c.op∧c.op≤7)∧(c.kids.length:Int)=p9 c.op∧¬(c.op≠2∧c.op≠3∧c.op≠4∧c.col≠0)∧¬(c.op≠2∧c.code≠0)∧(c.op=3∨c.lo=0∧c.hi=0))(h2:c.op=4)(h:0≤c.col∧c.col<s.cols.length∧(C0 s c.col).kind=3){x:D4}(hx:s.cols[c.col.toNat]?=some x)(ho:x.opt=true):H9 s c=0:=by
 unfold H9
 rw[C1 hx]at *
 rw[if_neg (by omega),if_neg (by omega),if_neg (by omega),if_neg (by omega),if_neg (by omega),if_neg (by omega),if_neg (by rw[ho];intro h9;rcases h9 with h9|h9;exact h9 h.2.2;cases h9)]
end Go.Proofs.YtiphlhoclaogjaaGreatDoor
