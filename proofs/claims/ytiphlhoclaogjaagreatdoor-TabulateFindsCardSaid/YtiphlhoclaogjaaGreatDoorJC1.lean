/- Chapter 5: the program's check of a condition. Chapter 5: the program's check of a condition and of all in it. Chapter 5: truth values, the conditions about one column, and which picks cover others. Chapter 5: which picks cover others. Chapter 5: the first error of one condition, case by case. -/
import Derived.Test.YtiphlhoclaogjaaGreatDoorJCd1
set_option linter.unusedVariables false
set_option linter.unnecessarySimpa false
set_option linter.unusedSimpArgs false
set_option maxHeartbeats 64000000
namespace Go.Proofs.YtiphlhoclaogjaaGreatDoor
open Go Go.Av
attribute [local irreducible] C9 B3 C8 D1 DQ D0 C7 St.le A3 B8
set_option maxRecDepth 100000
def H9(s:A4)(c:B7):Int :=
 if c.op<1∨7<c.op then 4 else if (c.kids.length:Int)≠x8 c.op∨¬(¬(c.op≠2∧c.op≠3∧c.op≠4∧c.col≠0)∧¬(c.op≠2∧c.code≠0)∧(c.op=3∨c.lo=0∧c.hi=0))then 11 else if c.op≠2∧c.op≠3∧c.op≠4 then 0 else
 if c.col<0∨(s.cols.length:Int)≤c.col then 7 else
 if c.op=2 then (if (B6 s c.col).kind≠2 then 7 else if c.code<0∨((C2 s (B6 s c.col)).2.length:Int)≤c.code then 6 else 0)
 else if c.op=3 then (if (B6 s c.col).kind≠3 then 7 else if c.hi<c.lo∨c.lo < -1000000∨1000000<c.hi then 2 else 0)
 else (if (B6 s c.col).kind≠3∨(B6 s c.col).opt=false then 7 else 0)
theorem Rj(s:A4)(c:B7)(hr:C3 s=0):A3 Tryz.prog 219 [sA s,D5 c] (.i (H9 s c)):=by
 have hk:=YU c.op
 have hu:=Tk c
 rw[F8]
 refine B5 Tryz.func219 113 fun nL E h0=>?_
 have nM:c.kids.length≤9223372036854775807:=by
  have:=((nL _ (List.mem_cons_of_mem _ (List.mem_cons_self ..))).agg (.sl 6 (c.kids.map K0)) (by simp)).sl
  simpa using this
 clear nL
 rw[F8]at hu
 have pO:∀x,s.cols[c.col.toNat]?=some x→x.kind=2→0≤x.lst∧x.lst<s.lists.length:=fun x hx h2=>by
  have:=At.lst hr (List.mem_of_getElem? hx) h2
  omega
 repeat'((first|refine A0 hk ?_|refine A0 hu ?_|(refine w6 ?_ ?_ (fun lx oD=>?_);(have:=pO _ (by assumption) (by omega);omega);(have:=pO _ (by assumption) (by omega);omega))|(refine A9 ?_ ?_;kernel_rfl) |refine S2 ?_|(refine T6 ?_ ?_<;>intro h<;>try exact V1 h)|intro el nJ nK|intro el nJ|exact T4|refine T5 ?_ ?_|intro ex)<;>try conv=>whnf)
 all_goals first
  |(refine A1 rfl (congrArg AV.i ?_);unfold H9;(repeat' split)<;>omega)
  |(refine A1 rfl (congrArg AV.i ?_);unfold H9;rw[B9 nJ];(repeat' split)<;>omega)
  |(refine A1 rfl (congrArg AV.i ?_);unfold H9;rw[B9 nJ,H5 oD];(repeat' split)<;>omega)
  |(refine A1 rfl (congrArg AV.i ?_);unfold H9;rw[B9 nJ];(repeat' split)<;>first|rfl|(exfalso;omega)|(exfalso;simp_all;done))
mutual
def j7:B7→Nat
 |.mk _ _ _ _ _ ks=>AJ ks+1
def AJ:List B7→Nat
 |[]=>0
 |x::r=>j7 x+AJ r
end
theorem Ff(c:B7):j7 c=AJ c.kids+1:=by cases c;rfl
theorem Wq:∀(l:List B7) (m n:Int),n≤BF l m n
 |[],m,n=>by unfold BF;omega
 |x::r,m,n=>by
  unfold BF
  split
  ·omega
  ·have h1:=Ky x (m-n)
   have h2:=Wq r m (n+BE x (m-n))
   omega
theorem iL(c:B7):∀m:Int,(BE c m≤m→(j7 c:Int)=BE c m)∧((j7 c:Int)≤m→BE c m=j7 c):=by
 refine N6 (p:=fun c=>∀m:Int,(BE c m≤m→(j7 c:Int)=BE c m)∧((j7 c:Int)≤m→BE c m=j7 c)) (fun c ih m=>?_) c
 have key:∀(l:List B7),(∀k∈l,k∈c.kids)→∀n:Int,(BF l m n≤m→BF l m n=n+AJ l)∧(n+AJ l≤m→BF l m n=n+AJ l):=by
  intro l
  induction l with
  |nil=>intro _ n;unfold BF AJ;exact⟨fun _=>by omega,fun _=>by omega⟩
  |cons x r su =>
   intro hl n
   obtain⟨i1,i2⟩:=ih x (hl x (by simp)) (m-n)
   obtain⟨j1,j2⟩:=su (fun k hk=>hl k (by simp[hk])) (n+BE x (m-n))
   have qN:=Wq r m (n+BE x (m-n))
   have st:=Ky x (m-n)
   unfold BF AJ
   by_cases h:m<n
   ·rw[if_pos h]
    exact⟨fun h2=>by omega,fun h2=>by omega⟩
   ·rw[if_neg h]
    refine⟨fun h2=>?_,fun h2=>?_⟩
    ·rw[j1 h2]
     have:=i1 (by omega)
     omega
    ·have:=i2 (by omega)
     rw[this]at j2 ⊢
     rw[j2 (by omega)]
     omega
 obtain⟨k1,k2⟩:=key c.kids (fun k hk=>hk) 1
 rw[Pd,Ff]
 exact⟨fun h=>by have:=k1 h;omega,fun h=>by have:=k2 (by omega);omega⟩
theorem Wr(c:B7):j6 c≤j7 c:=by
 refine N6 (p:=fun c=>j6 c≤j7 c) (fun c ih=>?_) c
 have key:∀(l:List B7),(∀k∈l,k∈c.kids)→∀n:Nat,w9 l n≤max n (AJ l):=by
  intro l
  induction l with
  |nil=>intro _ n;unfold w9;omega
  |cons x r su =>
   intro hl n
   have h1:=ih x (hl x (by simp))
   have h2:=su (fun k hk=>hl k (by simp[hk])) (max n (j6 x))
   unfold w9 AJ
   omega
 have:=key c.kids (fun k hk=>hk) 0
 rw[Kz,Ff]
 omega
mutual
def a6(s:A4):B7→Int
 |.mk o c k l h ks=>if H9 s (.mk o c k l h ks)=0 then AK s ks else H9 s (.mk o c k l h ks)
def AK(s:A4):List B7→Int
 |[]=>0
 |x::r=>if a6 s x=0 then AK s r else a6 s x
end
theorem Pf(s:A4)(c:B7):a6 s c=if H9 s c=0 then AK s c.kids else H9 s c:=by cases c;rfl
theorem Rk(s:A4)(hr:C3 s=0)(c:B7):A3 Tryz.prog 179 [sA s,D5 c] (.i (a6 s c)):=by
 refine N6 (p:=fun c=>A3 Tryz.prog 179 [sA s,D5 c] (.i (a6 s c))) (fun c ih=>?_) c
 have h1:=Rj s c hr
 rw[F8]at h1 ⊢
 rw[Pf]
 refine B5 Tryz.func179 29 fun nL E h0=>?_
 have nM:c.kids.length≤9223372036854775807:=by
  have:=((nL _ (List.mem_cons_of_mem _ (List.mem_cons_self ..))).agg (.sl 6 (c.kids.map K0)) (by simp)).sl
  simpa using this
 clear nL
 repeat'((first|refine A0 h1 ?_ |refine S2 ?_|(refine T6 ?_ ?_<;>intro h<;>try exact V1 h)|intro el nJ nK|intro el nJ|exact T4|refine T5 ?_ ?_|intro ex)<;>try conv=>whnf)
 all_goals first
  |exact A1 rfl (congrArg AV.i (by rw[if_neg (by assumption)]))
  |skip
 rw[if_pos (Decidable.of_not_not (by assumption))]
 refine B0 (ι:=Nat) (fun k=>⟨[(2,.ref 0 0),(16,.sl 6 (c.kids.map K0)),(17,.i c.kids.length),(18,.i k)],2,[(0,some (.box (sL s))),(1,some (.box (M9 c)))]⟩) (fun k=>k≤c.kids.length∧AK s c.kids=AK s (c.kids.drop k)) (fun k=>c.kids.length-k) 0 ⟨Nat.zero_le _,rfl⟩
  (A6 h0) (fun k hI=>?_)
 obtain⟨hk,hI⟩:=hI
 repeat'((first|(refine A0 (ih _ (List.mem_of_getElem? (by assumption))) ?_) |refine S2 ?_|(refine T6 ?_ ?_<;>intro h<;>try exact V1 h)|intro el nJ nK|intro el nJ|exact T4|refine T5 ?_ ?_|intro ex)<;>try conv=>whnf)
 all_goals first
  |exact A1 rfl (congrArg AV.i (by rw[hI,F7 nJ,AK,if_neg (by assumption)]))
  |exact A1 rfl (congrArg AV.i (by rw[hI,T8 (by assumption)];rfl))
  |exact⟨k+1,⟨by omega,by rw[hI,F7 nJ,AK,if_pos (Decidable.of_not_not (by assumption))]⟩,by omega,A6 h0⟩
def J6(s:A4)(c:B7):Int:=if C3 s=0 then (if 40<j7 c then 1 else if 10<j6 c then 22 else a6 s c)else C3 s
theorem BA(s:A4)(c:B7):A3 Tryz.prog 128 [sA s,D5 c] (.i (J6 s c)):=by
 have h1:=k6 s
 have h2:=Vp c 40 (by omega) (by omega)
 have h3:(j7 c:Int)≤40→A3 Tryz.prog 178 [D5 c] (.i (j6 c)):=fun h=>YT c (by have:=Wr c;omega)
 have h4:=fun hr=>Rk s hr c
 obtain⟨t1,t2⟩:=iL c 40
 rw[F8]at *
 refine B5 Tryz.func128 23 fun nL E h0=>?_
 clear nL
 unfold J6
 repeat'((first|refine A0 h1 ?_|refine A0 h2 ?_|refine A0 (h3 (by omega)) ?_|refine A0 (h4 (Decidable.of_not_not (by assumption))) ?_ |refine S2 ?_|(refine T6 ?_ ?_<;>intro h<;>try exact V1 h)|intro el nJ nK|intro el nJ|exact T4|refine T5 ?_ ?_|intro ex)<;>try conv=>whnf)
 all_goals first
  |exact A1 rfl (congrArg AV.i (by rw[if_neg (by assumption)]))
  |exact A1 rfl (congrArg AV.i (by rw[if_pos (Decidable.of_not_not (by assumption)),if_pos (by omega)]))
  |exact A1 rfl (congrArg AV.i (by rw[if_pos (Decidable.of_not_not (by assumption)),if_neg (by omega),if_pos (by omega)]))
  |exact A1 rfl (congrArg AV.i (by rw[if_pos (Decidable.of_not_not (by assumption)),if_neg (by omega),if_neg (by omega)]))
def HB(b:Bool):Int:=if b=true then 1 else -1
theorem Lk(b:Bool):A3 Tryz.prog 241 [.b b] (.i (HB b)):=by
 refine B5 Tryz.func241 4 fun nL E h0=>?_
 clear nL
 repeat'((first|refine S2 ?_|(refine T6 ?_ ?_<;>intro h<;>try exact V1 h)|intro el nJ nK|intro el nJ|exact T4|refine T5 ?_ ?_|intro ex)<;>try conv=>whnf)
 all_goals exact A1 rfl (congrArg AV.i (by rw[h];rfl))
def M3(s:A4)(c:B7)(v:Int):Int :=
 if c.op=2 then HB (AH (C2 s (B6 s c.col)).1 (C2 s (B6 s c.col)).2 v c.code)else if c.op=4 then HB (decide (v=(-1099511627776)))else if v=(-1099511627776)then 0 else HB (decide (c.lo≤v∧v≤c.hi))
theorem OO(s:A4)(c:B7)(v:Int)(h2:c.op=2→∃x lx,0≤c.col∧s.cols[c.col.toNat]?=some x∧0≤x.lst∧s.lists[x.lst.toNat]?=some lx):A3 Tryz.prog 220 [sA s,D5 c,.i v] (.i (M3 s c v)):=by
 rw[F8]
 refine B5 Tryz.func220 48 fun nL E h0=>?_
 obtain⟨pL,nv,pU⟩:=Z9 (s:=s) (nL _ (by simp))
 clear nL
 unfold M3
 by_cases qK:c.op=2
 ·obtain⟨x,lx,g0,g1,g2,g3⟩:=h2 qK
  rw[if_pos qK,B9 g1,H5 g3]
  have yt:=YK lx.1 lx.2 v c.code (pU lx (List.mem_of_getElem? g3))
  have xW:=Lk (AH lx.1 lx.2 v c.code)
  repeat'((first|(refine A2 (x:=x) g1 (by omega) ?_)|(refine A2 (x:=lx) g3 (by omega) ?_)|refine A0 yt ?_|refine A0 xW ?_|(refine A9 ?_ ?_;kernel_rfl) |refine S2 ?_|(refine T6 ?_ ?_<;>intro h<;>try exact V1 h)|intro el nJ nK|intro el nJ|exact T4|refine T5 ?_ ?_|intro ex)<;>try conv=>whnf)
  all_goals first
   |exact A1 rfl rfl
 ·rw[if_neg qK]
  have xW:=Lk
  repeat'((first|refine A0 (xW _) ?_|(refine A9 ?_ ?_;kernel_rfl) |refine S2 ?_|(refine T6 ?_ ?_<;>intro h<;>try exact V1 h)|intro el nJ nK|intro el nJ|exact T4|refine T5 ?_ ?_|intro ex)<;>try conv=>whnf)
  all_goals first
   |(rw[if_pos (by assumption)];exact A1 rfl rfl)
   |(rw[if_neg (by assumption),if_pos (by assumption)];exact A1 rfl rfl)
   |(rw[if_neg (by assumption),if_neg (by assumption)];refine A1 rfl (congrArg (fun z=>AV.i (HB z)) ?_);first|(rw[decide_eq_decide];omega)|(rw[eq_comm,decide_eq_false_iff_not];omega))
mutual
def o6:B7→List B7
 |.mk o c k l h ks=>if o=2∨o=3∨o=4 then [.mk o c k l h ks]else a7 ks
def a7:List B7→List B7
 |[]=>[]
 |x::r=>o6 x++a7 r
end
theorem EE(c:B7):o6 c=if c.op=2∨c.op=3∨c.op=4 then [c]else a7 c.kids:=by
 cases c;rfl
theorem Gd(l:List B7)(k:Nat){x:B7}(h:l[k]?=some x):a7 (l.take (k+1))=a7 (l.take k)++o6 x:=by
 rw[F1 h]
 generalize l.take k=m
 induction m with
 |nil=>simp[a7]
 |cons a r ih=>simp only[List.cons_append,a7,ih,List.append_assoc]
theorem Hc(c:B7):(o6 c).length≤j7 c:=by
 refine N6 (p:=fun c=>(o6 c).length≤j7 c) (fun c ih=>?_) c
 have key:∀(l:List B7),(∀k∈l,k∈c.kids)→(a7 l).length≤AJ l:=by
  intro l
  induction l with
  |nil=>intro _;simp[a7,AJ]
  |cons x r su =>
   intro hl
   have h1:=ih x (hl x (by simp))
   have h2:=su (fun k hk=>hl k (by simp[hk]))
   unfold a7 AJ
   rw[List.length_append];omega
 rw[EE,Ff]
 split
 ·simp
 ·have:=key c.kids (fun k hk=>hk);omega
theorem IW{l:List B7}:∀k∈l,j7 k≤AJ l:=by
 induction l with
 |nil=>intro k hk;cases hk
 |cons x r ih =>
  intro k hk
  unfold AJ
  rcases List.mem_cons.1 hk with rfl|hk
  ·omega
  ·have:=ih k hk;omega
theorem Js(l:List B7)(k:Nat):(a7 (l.take k)).length≤AJ l:=by
 induction l generalizing k with
 |nil=>simp[a7]
 |cons x r ih =>
  cases k with
  |zero=>simp[a7]
  |succ k =>
   have h1:=ih k
   have h2:=Hc x
   simp only[List.take_succ_cons,a7,AJ,List.length_append]
   omega
theorem Vq(c:B7):j7 c≤100000→A3 Tryz.prog 180 [D5 c] (.sl 6 ((o6 c).map K0)):=by
 refine N6 (p:=fun c=>j7 c≤100000→A3 Tryz.prog 180 [D5 c] (.sl 6 ((o6 c).map K0))) (fun c ih ht=>?_) c
 rw[Ff]at ht
 rw[F8,EE]
 refine B5 Tryz.func180 34 fun nL E h0=>?_
 have nM:c.kids.length≤9223372036854775807:=by
  have:=((nL _ (List.mem_cons_self ..)).agg (.sl 6 (c.kids.map K0)) (by simp)).sl
  simpa using this
 clear nL
 repeat'((first|refine S2 ?_|(refine T6 ?_ ?_<;>intro h<;>try exact V1 h)|intro el nJ nK|intro el nJ|exact T4|refine T5 ?_ ?_|intro ex)<;>try conv=>whnf)
 all_goals first
  |(rw[if_pos (by omega)];refine A1 rfl ?_;rw[List.map_cons,K0,Pc];rfl)
  |skip
 rw[if_neg (by omega)]
 refine B0 (ι:=Nat) (fun k=>⟨[(3,.row 1 0 (a7 (c.kids.take k)).length),(22,.sl 6 (c.kids.map K0)),(23,.i c.kids.length),(24,.i k)],2,[(0,some (.box (M9 c))),(1,some (.row 29 6 0 ((a7 (c.kids.take k)).map K0)))]⟩) (fun k=>k≤c.kids.length) (fun k=>c.kids.length-k) 0 (Nat.zero_le _)
  (C0 (I0 (d:=3) (e:=29) (sz:=6) rfl) (A7 h0 rfl ⟨rfl,rfl,rfl,rfl,trivial⟩ ⟨rfl,⟨0,rfl⟩,trivial⟩ rfl rfl rfl)) (fun k hk=>?_)
 have oW:=Js c.kids k
 repeat'((first|(refine A0 (ih _ (List.mem_of_getElem? (by assumption)) (by have:=IW el (List.mem_of_getElem? nJ);omega)) ?_)|(refine J0 ?_ ?_;(have q1:=Hc el;have q2:=IW el (List.mem_of_getElem? nJ);simp only[List.length_map];omega)) |refine S2 ?_|(refine T6 ?_ ?_<;>intro h<;>try exact V1 h)|intro el nJ nK|intro el nJ|exact T4|refine T5 ?_ ?_|intro ex)<;>try conv=>whnf)
 all_goals first
  |exact⟨k+1,by omega,by omega,A7 h0 rfl ⟨congrArg (fun z:Nat=>some (AV.row 1 0 z)) (by rw[Gd _ _ nJ,List.length_append,List.length_map]),rfl,rfl,rfl,trivial⟩ ⟨rfl,⟨_,congrArg (C4.row 29 6 _) (by rw[Gd _ _ nJ,List.map_append])⟩,trivial⟩ rfl rfl rfl⟩
  |exact A1 rfl (congrArg (fun z=>AV.sl 6 ((a7 z).map K0)) (EB (by assumption)))
abbrev BG(n p:Pk):Bool:=decide (p.col=n.col∧n.lev≤p.lev)
def X8(l rk:List Pk):Bool:=!(rk.any fun n=>!(l.any (BG n)))
theorem az(l:List (Pk))(f:Nat)(caps:List AV)(p:(Pk)→Bool)(hf:∀x∈l,A3 Tryz.prog f ((fun x=>.agg (A8 x)) x::caps) (.b (p x))):A3 Tryz.prog 110 [.sl 2 (l.map A8),.fn f caps] (.i (D9 p l 0)):=by
 refine B5 Tryz.func110 19 fun nL E h0=>?_
 have nM:l.length≤9223372036854775807:=by have:=(nL (.sl 2 (l.map A8)) (by simp)).sl;simpa using this
 repeat'((first|refine S2 ?_|(refine T6 ?_ ?_<;>intro h<;>try exact V1 h)|intro el nJ nK|intro el nJ|exact T4|refine T5 ?_ ?_|intro ex)<;>try conv=>whnf)
 refine B0 (ι:=Nat) (fun k=>⟨[(0,.sl 2 (l.map A8)),(1,.fn f caps),(7,.i l.length),(8,.i k)],0,[]⟩) (fun k=>k≤l.length∧D9 p l 0=D9 p (l.drop k) k) (fun k=>l.length-k) 0 ⟨Nat.zero_le _,rfl⟩ (A6 h0) (fun k hI=>?_)
 obtain⟨hk,hI⟩:=hI
 repeat'((first|refine A0 (hf _ (List.mem_of_getElem? nJ)) ?_ |refine S2 ?_|(refine T6 ?_ ?_<;>intro h<;>try exact V1 h)|intro el nJ nK|intro el nJ|exact T4|refine T5 ?_ ?_|intro ex)<;>try conv=>whnf)
 all_goals first
  |exact⟨k+1,⟨by omega,by rw[hI,F7 nJ,D9,if_neg (by simp[h])];rfl⟩,by omega,A6 h0⟩
  |exact A1 rfl (congrArg AV.i (by rw[hI,F7 nJ,D9,if_pos (by simp[h])]))
  |exact A1 rfl (congrArg AV.i (by rw[hI,show k=l.length by omega,List.drop_length];rfl))
theorem OP(l:List (Pk))(f:Nat)(caps:List AV)(p:(Pk)→Bool)(hf:∀x∈l,A3 Tryz.prog f ((fun x=>.agg (A8 x)) x::caps) (.b (p x))):A3 Tryz.prog 103 [.sl 2 (l.map A8),.fn f caps] (.b (l.any p)):=by
 refine B5 Tryz.func103 9 fun nL E h0=>?_
 have oZ:=az l f caps p hf
 repeat'((first|refine A0 oZ ?_ |refine S2 ?_|(refine T6 ?_ ?_<;>intro h<;>try exact V1 h)|intro el nJ nK|intro el nJ|exact T4|refine T5 ?_ ?_|intro ex)<;>try conv=>whnf)
 all_goals first
  |exact A1 rfl (congrArg AV.b (Bf p l 0 (by omega)))
theorem YW(n p:Pk):A3 Tryz.prog 105 [Qs p,.iptr (A8 n)] (.b (BG n p)):=by
 refine B5 Tryz.func105 16 fun nL E h0=>?_
 clear nL
 repeat'((first|refine S2 ?_|(refine T6 ?_ ?_<;>intro h<;>try exact V1 h)|intro el nJ nK|intro el nJ|exact T4|refine T5 ?_ ?_|intro ex)<;>try conv=>whnf)
 all_goals first
  |exact A1 rfl (congrArg AV.b (by unfold BG;rw[decide_eq_decide];omega))
  |exact A1 rfl (congrArg AV.b (by unfold BG;rw[decide_eq_false (by omega)]))
theorem bB(n:Pk)(l:List Pk):A3 Tryz.prog 104 [Qs n,.iptr [.sl 2 (l.map A8)]] (.b (!(l.any (BG n)))):=by
 have oV:=OP l 105 [.iptr (A8 n)] (BG n) (fun x _=>YW n x)
 refine B5 Tryz.func104 8 fun nL E h0=>?_
 clear nL
 repeat'((first|refine I6 0 ?_|refine A0 oV ?_ |refine S2 ?_|(refine T6 ?_ ?_<;>intro h<;>try exact V1 h)|intro el nJ nK|intro el nJ|exact T4|refine T5 ?_ ?_|intro ex)<;>try conv=>whnf)
 all_goals exact A1 rfl rfl
theorem CW(l rk:List Pk):A3 Tryz.prog 45 [.sl 2 (l.map A8),.sl 2 (rk.map A8)] (.b (X8 l rk)):=by
 have oV:=OP rk 104 [.iptr [.sl 2 (l.map A8)]] (fun n=>!(l.any (BG n))) (fun x _=>bB x l)
 refine B5 Tryz.func45 9 fun nL E h0=>?_
 clear nL
 repeat'((first|refine I6 0 ?_|refine A0 oV ?_ |refine S2 ?_|(refine T6 ?_ ?_<;>intro h<;>try exact V1 h)|intro el nJ nK|intro el nJ|exact T4|refine T5 ?_ ?_|intro ex)<;>try conv=>whnf)
 all_goals exact A1 rfl rfl
theorem Hd(op:Int):(op=5∨op=6→x8 op=2)∧(op=7→x8 op=1)∧(op≠5→op≠6→op≠7→x8 op=0):=by
 unfold x8
 refine⟨fun h=>by rw[if_pos h],fun h=>by rw[if_neg (by omega),if_pos h],fun h1 h2 h3=>by rw[if_neg (by omega),if_neg h3]⟩
theorem kf{s:A4}{c:B7}(h:c.op<1∨7<c.op):H9 s c=4:=by unfold H9;rw[if_pos h]
theorem iM{s:A4}{c:B7}(h0:1≤c.op∧c.op≤7)(h:(c.kids.length:Int)≠x8 c.op∨¬(¬(c.op≠2∧c.op≠3∧c.op≠4∧c.col≠0)∧¬(c.op≠2∧c.code≠0)∧(c.op=3∨c.lo=0∧c.hi=0))):H9 s c=11:=by unfold H9;rw[if_neg (by omega),if_pos h]
theorem iN{s:A4}{c:B7}(hp:(1≤c.op∧c.op≤7)∧(c.kids.length:Int)=x8 c.op∧¬(c.op≠2∧c.op≠3∧c.op≠4∧c.col≠0)∧¬(c.op≠2∧c.code≠0)∧(c.op=3∨c.lo=0∧c.hi=0))(h2:c.op=2)(h:¬(0≤c.col∧c.col<s.cols.length∧(B6 s c.col).kind=2)):H9 s c=7:=by
 unfold H9
 rw[if_neg (by omega),if_neg (by omega),if_neg (by omega)]
 by_cases h3:c.col<0∨(s.cols.length:Int)≤c.col
 ·rw[if_pos h3]
 ·rw[if_neg h3,if_pos h2,if_pos (by omega)]
theorem iO{s:A4}{c:B7}(hp:(1≤c.op∧c.op≤7)∧(c.kids.length:Int)=x8 c.op∧¬(c.op≠2∧c.op≠3∧c.op≠4∧c.col≠0)∧¬(c.op≠2∧c.code≠0)∧(c.op=3∨c.lo=0∧c.hi=0))(h2:c.op=3)(h:¬(0≤c.col∧c.col<s.cols.length∧(B6 s c.col).kind=3)):H9 s c=7:=by
 unfold H9
 rw[if_neg (by omega),if_neg (by omega),if_neg (by omega)]
 by_cases h3:c.col<0∨(s.cols.length:Int)≤c.col
 ·rw[if_pos h3]
 ·rw[if_neg h3,if_neg (by omega),if_pos h2,if_pos (by omega)]
theorem iP{s:A4}{c:B7}(hp:(1≤c.op∧c.op≤7)∧(c.kids.length:Int)=x8 c.op∧¬(c.op≠2∧c.op≠3∧c.op≠4∧c.col≠0)∧¬(c.op≠2∧c.code≠0)∧(c.op=3∨c.lo=0∧c.hi=0))(h2:c.op=4)(h:¬(0≤c.col∧c.col<s.cols.length∧(B6 s c.col).kind=3)):H9 s c=7:=by
 unfold H9
 rw[if_neg (by omega),if_neg (by omega),if_neg (by omega)]
 by_cases h3:c.col<0∨(s.cols.length:Int)≤c.col
 ·rw[if_pos h3]
 ·rw[if_neg h3,if_neg (by omega),if_neg (by omega),if_pos (by omega)]
theorem du{s:A4}{c:B7}(hp:(1≤c.op∧c.op≤7)∧(c.kids.length:Int)=x8 c.op∧¬(c.op≠2∧c.op≠3∧c.op≠4∧c.col≠0)∧¬(c.op≠2∧c.code≠0)∧(c.op=3∨c.lo=0∧c.hi=0))(h2:c.op=4){x:D3}(hx:s.cols[c.col.toNat]?=some x)(h:x.opt=false):H9 s c=7:=by
 unfold H9
 rw[if_neg (by omega),if_neg (by omega),if_neg (by omega),B9 hx]
 by_cases h3:c.col<0∨(s.cols.length:Int)≤c.col
 ·rw[if_pos h3]
 ·rw[if_neg h3,if_neg (by omega),if_neg (by omega),if_pos (.inr h)]
theorem bC{s:A4}{c:B7}(hp:(1≤c.op∧c.op≤7)∧(c.kids.length:Int)=x8 c.op∧¬(c.op≠2∧c.op≠3∧c.op≠4∧c.col≠0)∧¬(c.op≠2∧c.code≠0)∧(c.op=3∨c.lo=0∧c.hi=0))(h2:c.op=2)(h:0≤c.col∧c.col<s.cols.length∧(B6 s c.col).kind=2)(h3:c.code<0∨((C2 s (B6 s c.col)).2.length:Int)≤c.code):H9 s c=6:=by
 unfold H9
 rw[if_neg (by omega),if_neg (by omega),if_neg (by omega),if_neg (by omega),if_pos h2,if_neg (by omega),if_pos h3]
theorem kg{s:A4}{c:B7}(hp:(1≤c.op∧c.op≤7)∧(c.kids.length:Int)=x8 c.op∧¬(c.op≠2∧c.op≠3∧c.op≠4∧c.col≠0)∧¬(c.op≠2∧c.code≠0)∧(c.op=3∨c.lo=0∧c.hi=0))(h2:c.op=3)(h:0≤c.col∧c.col<s.cols.length∧(B6 s c.col).kind=3)(h3:c.hi<c.lo∨c.lo < -1000000∨1000000<c.hi):H9 s c=2:=by
 unfold H9
 rw[if_neg (by omega),if_neg (by omega),if_neg (by omega),if_neg (by omega),if_neg (by omega),if_pos h2,if_neg (by omega),if_pos h3]
theorem iQ{s:A4}{c:B7}(hp:(1≤c.op∧c.op≤7)∧(c.kids.length:Int)=x8 c.op∧¬(c.op≠2∧c.op≠3∧c.op≠4∧c.col≠0)∧¬(c.op≠2∧c.code≠0)∧(c.op=3∨c.lo=0∧c.hi=0))(h2:c.op≠2∧c.op≠3∧c.op≠4):H9 s c=0:=by
 unfold H9
 rw[if_neg (by omega),if_neg (by omega),if_pos h2]
theorem iR{s:A4}{c:B7}(hp:(1≤c.op∧c.op≤7)∧(c.kids.length:Int)=x8 c.op∧¬(c.op≠2∧c.op≠3∧c.op≠4∧c.col≠0)∧¬(c.op≠2∧c.code≠0)∧(c.op=3∨c.lo=0∧c.hi=0))(h2:c.op=2)(h:0≤c.col∧c.col<s.cols.length∧(B6 s c.col).kind=2)(h3:¬(c.code<0∨((C2 s (B6 s c.col)).2.length:Int)≤c.code)):H9 s c=0:=by
 unfold H9
 rw[if_neg (by omega),if_neg (by omega),if_neg (by omega),if_neg (by omega),if_pos h2,if_neg (by omega),if_neg h3]
theorem iS{s:A4}{c:B7}(hp:(1≤c.op∧c.op≤7)∧(c.kids.length:Int)=x8 c.op∧¬(c.op≠2∧c.op≠3∧c.op≠4∧c.col≠0)∧¬(c.op≠2∧c.code≠0)∧(c.op=3∨c.lo=0∧c.hi=0))(h2:c.op=3)(h:0≤c.col∧c.col<s.cols.length∧(B6 s c.col).kind=3)(h3:¬(c.hi<c.lo∨c.lo < -1000000∨1000000<c.hi)):H9 s c=0:=by
 unfold H9
 rw[if_neg (by omega),if_neg (by omega),if_neg (by omega),if_neg (by omega),if_neg (by omega),if_pos h2,if_neg (by omega),if_neg h3]
theorem iT{s:A4}{c:B7}(hp:(1≤c.op∧c.op≤7)∧(c.kids.length:Int)=x8 c.op∧¬(c.op≠2∧c.op≠3∧c.op≠4∧c.col≠0)∧¬(c.op≠2∧c.code≠0)∧(c.op=3∨c.lo=0∧c.hi=0))(h2:c.op=4)(h:0≤c.col∧c.col<s.cols.length∧(B6 s c.col).kind=3){x:D3}(hx:s.cols[c.col.toNat]?=some x)(ho:x.opt=true):H9 s c=0:=by
 unfold H9
 rw[B9 hx]at *
 rw[if_neg (by omega),if_neg (by omega),if_neg (by omega),if_neg (by omega),if_neg (by omega),if_neg (by omega),if_neg (by rw[ho];intro h9;rcases h9 with h9|h9;exact h9 h.2.2;cases h9)]
end Go.Proofs.YtiphlhoclaogjaaGreatDoor
