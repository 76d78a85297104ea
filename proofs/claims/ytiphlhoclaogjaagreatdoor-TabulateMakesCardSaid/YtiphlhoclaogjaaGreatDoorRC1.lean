/- Chapter 5: the program's check of a condition. Chapter 5: the program's check of a condition and of all in it. Chapter 5: truth values, the conditions about one column, and which picks cover others. Chapter 5: which picks cover others. Chapter 5: the first error of one condition, case by case. -/
import Derived.Test.YtiphlhoclaogjaaGreatDoorRCd1
set_option linter.unusedVariables false
set_option linter.unnecessarySimpa false
set_option linter.unusedSimpArgs false
set_option maxHeartbeats 64000000
namespace Go.Proofs.YtiphlhoclaogjaaGreatDoor
open Go Go.Av
attribute [local irreducible] C9 B3 C7 D1 DQ D0 C6 St.le A3 B7
set_option maxRecDepth 100000
def I0(s:A4)(c:B6):Int :=
 if c.op<1∨7<c.op then 4 else if (c.kids.length:Int)≠q8 c.op∨¬(¬(c.op≠2∧c.op≠3∧c.op≠4∧c.col≠0)∧¬(c.op≠2∧c.code≠0)∧(c.op=3∨c.lo=0∧c.hi=0))then 11 else if c.op≠2∧c.op≠3∧c.op≠4 then 0 else
 if c.col<0∨(s.cols.length:Int)≤c.col then 7 else
 if c.op=2 then (if (B8 s c.col).kind≠2 then 7 else if c.code<0∨((C2 s (B8 s c.col)).2.length:Int)≤c.code then 6 else 0)
 else if c.op=3 then (if (B8 s c.col).kind≠3 then 7 else if c.hi<c.lo∨c.lo < -1000000∨1000000<c.hi then 2 else 0)
 else (if (B8 s c.col).kind≠3∨(B8 s c.col).opt=false then 7 else 0)
theorem Qm(s:A4)(c:B6)(hr:C3 s=0):A3 Tryz.prog 219 [sA s,D5 c] (.i (I0 s c)):=by
 have hk:=Xb c.op
 have hu:=Sn c
 rw[F8]
 refine B5 Tryz.func219 113 fun mK E h0=>?_
 have mL:c.kids.length≤9223372036854775807:=by
  have:=((mK _ (List.mem_cons_of_mem _ (List.mem_cons_self ..))).agg (.sl 6 (c.kids.map I8)) (by simp)).sl
  simpa using this
 clear mK
 rw[F8]at hu
 have oJ:∀x,s.cols[c.col.toNat]?=some x→x.kind=2→0≤x.lst∧x.lst<s.lists.length:=fun x hx h2=>by
  have:=z8.lst hr (List.mem_of_getElem? hx) h2
  omega
 repeat'((first|refine A0 hk ?_|refine A0 hu ?_|(refine o9 ?_ ?_ (fun lx nA=>?_);(have:=oJ _ (by assumption) (by omega);omega);(have:=oJ _ (by assumption) (by omega);omega))|(refine B0 ?_ ?_;kernel_rfl) |refine S2 ?_|(refine T6 ?_ ?_<;>intro h<;>try exact V1 h)|intro el mI mJ|intro el mI|exact T4|refine T5 ?_ ?_|intro ex)<;>try conv=>whnf)
 all_goals first
  |(refine A1 rfl (congrArg AV.i ?_);unfold I0;(repeat' split)<;>omega)
  |(refine A1 rfl (congrArg AV.i ?_);unfold I0;rw[C1 mI];(repeat' split)<;>omega)
  |(refine A1 rfl (congrArg AV.i ?_);unfold I0;rw[C1 mI,H6 nA];(repeat' split)<;>omega)
  |(refine A1 rfl (congrArg AV.i ?_);unfold I0;rw[C1 mI];(repeat' split)<;>first|rfl|(exfalso;omega)|(exfalso;simp_all;done))
mutual
def d8:B6→Nat
 |.mk _ _ _ _ _ ks=>t9 ks+1
def t9:List B6→Nat
 |[]=>0
 |x::r=>d8 x+t9 r
end
theorem Ei(c:B6):d8 c=t9 c.kids+1:=by cases c;rfl
theorem Vy:∀(l:List B6) (m n:Int),n≤AK l m n
 |[],m,n=>by unfold AK;omega
 |x::r,m,n=>by
  unfold AK
  split
  ·omega
  ·have h1:=KD x (m-n)
   have h2:=Vy r m (n+AJ x (m-n))
   omega
theorem gE(c:B6):∀m:Int,(AJ c m≤m→(d8 c:Int)=AJ c m)∧((d8 c:Int)≤m→AJ c m=d8 c):=by
 refine N4 (p:=fun c=>∀m:Int,(AJ c m≤m→(d8 c:Int)=AJ c m)∧((d8 c:Int)≤m→AJ c m=d8 c)) (fun c ih m=>?_) c
 have key:∀(l:List B6),(∀k∈l,k∈c.kids)→∀n:Int,(AK l m n≤m→AK l m n=n+t9 l)∧(n+t9 l≤m→AK l m n=n+t9 l):=by
  intro l
  induction l with
  |nil=>intro _ n;unfold AK t9;exact⟨fun _=>by omega,fun _=>by omega⟩
  |cons x r rx =>
   intro hl n
   obtain⟨i1,i2⟩:=ih x (hl x (by simp)) (m-n)
   obtain⟨j1,j2⟩:=rx (fun k hk=>hl k (by simp[hk])) (n+AJ x (m-n))
   have pK:=Vy r m (n+AJ x (m-n))
   have rr:=KD x (m-n)
   unfold AK t9
   by_cases h:m<n
   ·rw[if_pos h]
    exact⟨fun h2=>by omega,fun h2=>by omega⟩
   ·rw[if_neg h]
    refine⟨fun h2=>?_,fun h2=>?_⟩
    ·rw[j1 h2]
     have:=i1 (by omega)
     omega
    ·have:=i2 (by omega)
     rw[this]at j2 ⊢
     rw[j2 (by omega)]
     omega
 obtain⟨k1,k2⟩:=key c.kids (fun k hk=>hk) 1
 rw[Oa,Ei]
 exact⟨fun h=>by have:=k1 h;omega,fun h=>by have:=k2 (by omega);omega⟩
theorem Vz(c:B6):d7 c≤d8 c:=by
 refine N4 (p:=fun c=>d7 c≤d8 c) (fun c ih=>?_) c
 have key:∀(l:List B6),(∀k∈l,k∈c.kids)→∀n:Nat,p9 l n≤max n (t9 l):=by
  intro l
  induction l with
  |nil=>intro _ n;unfold p9;omega
  |cons x r rx =>
   intro hl n
   have h1:=ih x (hl x (by simp))
   have h2:=rx (fun k hk=>hl k (by simp[hk])) (max n (d7 x))
   unfold p9 t9
   omega
 have:=key c.kids (fun k hk=>hk) 0
 rw[KE,Ei]
 omega
mutual
def Z9(s:A4):B6→Int
 |.mk o c k l h ks=>if I0 s (.mk o c k l h ks)=0 then u3 s ks else I0 s (.mk o c k l h ks)
def u3(s:A4):List B6→Int
 |[]=>0
 |x::r=>if Z9 s x=0 then u3 s r else Z9 s x
end
theorem Oc(s:A4)(c:B6):Z9 s c=if I0 s c=0 then u3 s c.kids else I0 s c:=by cases c;rfl
theorem Qn(s:A4)(hr:C3 s=0)(c:B6):A3 Tryz.prog 179 [sA s,D5 c] (.i (Z9 s c)):=by
 refine N4 (p:=fun c=>A3 Tryz.prog 179 [sA s,D5 c] (.i (Z9 s c))) (fun c ih=>?_) c
 have h1:=Qm s c hr
 rw[F8]at h1 ⊢
 rw[Oc]
 refine B5 Tryz.func179 29 fun mK E h0=>?_
 have mL:c.kids.length≤9223372036854775807:=by
  have:=((mK _ (List.mem_cons_of_mem _ (List.mem_cons_self ..))).agg (.sl 6 (c.kids.map I8)) (by simp)).sl
  simpa using this
 clear mK
 repeat'((first|refine A0 h1 ?_ |refine S2 ?_|(refine T6 ?_ ?_<;>intro h<;>try exact V1 h)|intro el mI mJ|intro el mI|exact T4|refine T5 ?_ ?_|intro ex)<;>try conv=>whnf)
 all_goals first
  |exact A1 rfl (congrArg AV.i (by rw[if_neg (by assumption)]))
  |skip
 rw[if_pos (Decidable.of_not_not (by assumption))]
 refine A9 (ι:=Nat) (fun k=>⟨[(2,.ref 0 0),(16,.sl 6 (c.kids.map I8)),(17,.i c.kids.length),(18,.i k)],2,[(0,some (.box (sL s))),(1,some (.box (M8 c)))]⟩) (fun k=>k≤c.kids.length∧u3 s c.kids=u3 s (c.kids.drop k)) (fun k=>c.kids.length-k) 0 ⟨Nat.zero_le _,rfl⟩
  (A6 h0) (fun k hI=>?_)
 obtain⟨hk,hI⟩:=hI
 repeat'((first|(refine A0 (ih _ (List.mem_of_getElem? (by assumption))) ?_) |refine S2 ?_|(refine T6 ?_ ?_<;>intro h<;>try exact V1 h)|intro el mI mJ|intro el mI|exact T4|refine T5 ?_ ?_|intro ex)<;>try conv=>whnf)
 all_goals first
  |exact A1 rfl (congrArg AV.i (by rw[hI,G1 mI,u3,if_neg (by assumption)]))
  |exact A1 rfl (congrArg AV.i (by rw[hI,T0 (by assumption)];rfl))
  |exact⟨k+1,⟨by omega,by rw[hI,G1 mI,u3,if_pos (Decidable.of_not_not (by assumption))]⟩,by omega,A6 h0⟩
def J6(s:A4)(c:B6):Int:=if C3 s=0 then (if 40<d8 c then 1 else if 10<d7 c then 22 else Z9 s c)else C3 s
theorem AE(s:A4)(c:B6):A3 Tryz.prog 128 [sA s,D5 c] (.i (J6 s c)):=by
 have h1:=f5 s
 have h2:=Ut c 40 (by omega) (by omega)
 have h3:(d8 c:Int)≤40→A3 Tryz.prog 178 [D5 c] (.i (d7 c)):=fun h=>Xa c (by have:=Vz c;omega)
 have h4:=fun hr=>Qn s hr c
 obtain⟨t1,t2⟩:=gE c 40
 rw[F8]at *
 refine B5 Tryz.func128 23 fun mK E h0=>?_
 clear mK
 unfold J6
 repeat'((first|refine A0 h1 ?_|refine A0 h2 ?_|refine A0 (h3 (by omega)) ?_|refine A0 (h4 (Decidable.of_not_not (by assumption))) ?_ |refine S2 ?_|(refine T6 ?_ ?_<;>intro h<;>try exact V1 h)|intro el mI mJ|intro el mI|exact T4|refine T5 ?_ ?_|intro ex)<;>try conv=>whnf)
 all_goals first
  |exact A1 rfl (congrArg AV.i (by rw[if_neg (by assumption)]))
  |exact A1 rfl (congrArg AV.i (by rw[if_pos (Decidable.of_not_not (by assumption)),if_pos (by omega)]))
  |exact A1 rfl (congrArg AV.i (by rw[if_pos (Decidable.of_not_not (by assumption)),if_neg (by omega),if_pos (by omega)]))
  |exact A1 rfl (congrArg AV.i (by rw[if_pos (Decidable.of_not_not (by assumption)),if_neg (by omega),if_neg (by omega)]))
def GH(b:Bool):Int:=if b=true then 1 else -1
theorem Kn(b:Bool):A3 Tryz.prog 241 [.b b] (.i (GH b)):=by
 refine B5 Tryz.func241 4 fun mK E h0=>?_
 clear mK
 repeat'((first|refine S2 ?_|(refine T6 ?_ ?_<;>intro h<;>try exact V1 h)|intro el mI mJ|intro el mI|exact T4|refine T5 ?_ ?_|intro ex)<;>try conv=>whnf)
 all_goals exact A1 rfl (congrArg AV.i (by rw[h];rfl))
def M2(s:A4)(c:B6)(v:Int):Int :=
 if c.op=2 then GH (t8 (C2 s (B8 s c.col)).1 (C2 s (B8 s c.col)).2 v c.code)else if c.op=4 then GH (decide (v=(-1099511627776)))else if v=(-1099511627776)then 0 else GH (decide (c.lo≤v∧v≤c.hi))
theorem NP(s:A4)(c:B6)(v:Int)(h2:c.op=2→∃x lx,0≤c.col∧s.cols[c.col.toNat]?=some x∧0≤x.lst∧s.lists[x.lst.toNat]?=some lx):A3 Tryz.prog 220 [sA s,D5 c,.i v] (.i (M2 s c v)):=by
 rw[F8]
 refine B5 Tryz.func220 48 fun mK E h0=>?_
 obtain⟨oH,mt,oc⟩:=Z8 (s:=s) (mK _ (by simp))
 clear mK
 unfold M2
 by_cases pJ:c.op=2
 ·obtain⟨x,lx,g0,g1,g2,g3⟩:=h2 pJ
  rw[if_pos pJ,C1 g1,H6 g3]
  have xn:=XR lx.1 lx.2 v c.code (oc lx (List.mem_of_getElem? g3))
  have vp:=Kn (t8 lx.1 lx.2 v c.code)
  repeat'((first|(refine A2 (x:=x) g1 (by omega) ?_)|(refine A2 (x:=lx) g3 (by omega) ?_)|refine A0 xn ?_|refine A0 vp ?_|(refine B0 ?_ ?_;kernel_rfl) |refine S2 ?_|(refine T6 ?_ ?_<;>intro h<;>try exact V1 h)|intro el mI mJ|intro el mI|exact T4|refine T5 ?_ ?_|intro ex)<;>try conv=>whnf)
  all_goals first
   |exact A1 rfl rfl
 ·rw[if_neg pJ]
  have vp:=Kn
  repeat'((first|refine A0 (vp _) ?_|(refine B0 ?_ ?_;kernel_rfl) |refine S2 ?_|(refine T6 ?_ ?_<;>intro h<;>try exact V1 h)|intro el mI mJ|intro el mI|exact T4|refine T5 ?_ ?_|intro ex)<;>try conv=>whnf)
  all_goals first
   |(rw[if_pos (by assumption)];exact A1 rfl rfl)
   |(rw[if_neg (by assumption),if_pos (by assumption)];exact A1 rfl rfl)
   |(rw[if_neg (by assumption),if_neg (by assumption)];refine A1 rfl (congrArg (fun z=>AV.i (GH z)) ?_);first|(rw[decide_eq_decide];omega)|(rw[eq_comm,decide_eq_false_iff_not];omega))
mutual
def k0:B6→List B6
 |.mk o c k l h ks=>if o=2∨o=3∨o=4 then [.mk o c k l h ks]else a6 ks
def a6:List B6→List B6
 |[]=>[]
 |x::r=>k0 x++a6 r
end
theorem DM(c:B6):k0 c=if c.op=2∨c.op=3∨c.op=4 then [c]else a6 c.kids:=by
 cases c;rfl
theorem Fk(l:List B6)(k:Nat){x:B6}(h:l[k]?=some x):a6 (l.take (k+1))=a6 (l.take k)++k0 x:=by
 rw[E7 h]
 generalize l.take k=m
 induction m with
 |nil=>simp[a6]
 |cons a r ih=>simp only[List.cons_append,a6,ih,List.append_assoc]
theorem Gi(c:B6):(k0 c).length≤d8 c:=by
 refine N4 (p:=fun c=>(k0 c).length≤d8 c) (fun c ih=>?_) c
 have key:∀(l:List B6),(∀k∈l,k∈c.kids)→(a6 l).length≤t9 l:=by
  intro l
  induction l with
  |nil=>intro _;simp[a6,t9]
  |cons x r rx =>
   intro hl
   have h1:=ih x (hl x (by simp))
   have h2:=rx (fun k hk=>hl k (by simp[hk]))
   unfold a6 t9
   rw[List.length_append];omega
 rw[DM,Ei]
 split
 ·simp
 ·have:=key c.kids (fun k hk=>hk);omega
theorem HX{l:List B6}:∀k∈l,d8 k≤t9 l:=by
 induction l with
 |nil=>intro k hk;cases hk
 |cons x r ih =>
  intro k hk
  unfold t9
  rcases List.mem_cons.1 hk with rfl|hk
  ·omega
  ·have:=ih k hk;omega
theorem JB(l:List B6)(k:Nat):(a6 (l.take k)).length≤t9 l:=by
 induction l generalizing k with
 |nil=>simp[a6]
 |cons x r ih =>
  cases k with
  |zero=>simp[a6]
  |succ k =>
   have h1:=ih k
   have h2:=Gi x
   simp only[List.take_succ_cons,a6,t9,List.length_append]
   omega
theorem Uu(c:B6):d8 c≤100000→A3 Tryz.prog 180 [D5 c] (.sl 6 ((k0 c).map I8)):=by
 refine N4 (p:=fun c=>d8 c≤100000→A3 Tryz.prog 180 [D5 c] (.sl 6 ((k0 c).map I8))) (fun c ih ht=>?_) c
 rw[Ei]at ht
 rw[F8,DM]
 refine B5 Tryz.func180 34 fun mK E h0=>?_
 have mL:c.kids.length≤9223372036854775807:=by
  have:=((mK _ (List.mem_cons_self ..)).agg (.sl 6 (c.kids.map I8)) (by simp)).sl
  simpa using this
 clear mK
 repeat'((first|refine S2 ?_|(refine T6 ?_ ?_<;>intro h<;>try exact V1 h)|intro el mI mJ|intro el mI|exact T4|refine T5 ?_ ?_|intro ex)<;>try conv=>whnf)
 all_goals first
  |(rw[if_pos (by omega)];refine A1 rfl ?_;rw[List.map_cons,I8,OZ];rfl)
  |skip
 rw[if_neg (by omega)]
 refine A9 (ι:=Nat) (fun k=>⟨[(3,.row 1 0 (a6 (c.kids.take k)).length),(22,.sl 6 (c.kids.map I8)),(23,.i c.kids.length),(24,.i k)],2,[(0,some (.box (M8 c))),(1,some (.row 29 6 0 ((a6 (c.kids.take k)).map I8)))]⟩) (fun k=>k≤c.kids.length) (fun k=>c.kids.length-k) 0 (Nat.zero_le _)
  (B9 (H7 (d:=3) (e:=29) (sz:=6) rfl) (A7 h0 rfl ⟨rfl,rfl,rfl,rfl,trivial⟩ ⟨rfl,⟨0,rfl⟩,trivial⟩ rfl rfl rfl)) (fun k hk=>?_)
 have nT:=JB c.kids k
 repeat'((first|(refine A0 (ih _ (List.mem_of_getElem? (by assumption)) (by have:=HX el (List.mem_of_getElem? mI);omega)) ?_)|(refine I6 ?_ ?_;(have q1:=Gi el;have q2:=HX el (List.mem_of_getElem? mI);simp only[List.length_map];omega)) |refine S2 ?_|(refine T6 ?_ ?_<;>intro h<;>try exact V1 h)|intro el mI mJ|intro el mI|exact T4|refine T5 ?_ ?_|intro ex)<;>try conv=>whnf)
 all_goals first
  |exact⟨k+1,by omega,by omega,A7 h0 rfl ⟨congrArg (fun z:Nat=>some (AV.row 1 0 z)) (by rw[Fk _ _ mI,List.length_append,List.length_map]),rfl,rfl,rfl,trivial⟩ ⟨rfl,⟨_,congrArg (C4.row 29 6 _) (by rw[Fk _ _ mI,List.map_append])⟩,trivial⟩ rfl rfl rfl⟩
  |exact A1 rfl (congrArg (fun z=>AV.sl 6 ((a6 z).map I8)) (DJ (by assumption)))
abbrev AL(n p:Pk):Bool:=decide (p.col=n.col∧n.lev≤p.lev)
def X5(l qU:List Pk):Bool:=!(qU.any fun n=>!(l.any (AL n)))
theorem Zz(l:List (Pk))(f:Nat)(caps:List AV)(p:(Pk)→Bool)(hf:∀x∈l,A3 Tryz.prog f ((fun x=>.agg (A8 x)) x::caps) (.b (p x))):A3 Tryz.prog 110 [.sl 2 (l.map A8),.fn f caps] (.i (E8 p l 0)):=by
 refine B5 Tryz.func110 19 fun mK E h0=>?_
 have mL:l.length≤9223372036854775807:=by have:=(mK (.sl 2 (l.map A8)) (by simp)).sl;simpa using this
 repeat'((first|refine S2 ?_|(refine T6 ?_ ?_<;>intro h<;>try exact V1 h)|intro el mI mJ|intro el mI|exact T4|refine T5 ?_ ?_|intro ex)<;>try conv=>whnf)
 refine A9 (ι:=Nat) (fun k=>⟨[(0,.sl 2 (l.map A8)),(1,.fn f caps),(7,.i l.length),(8,.i k)],0,[]⟩) (fun k=>k≤l.length∧E8 p l 0=E8 p (l.drop k) k) (fun k=>l.length-k) 0 ⟨Nat.zero_le _,rfl⟩ (A6 h0) (fun k hI=>?_)
 obtain⟨hk,hI⟩:=hI
 repeat'((first|refine A0 (hf _ (List.mem_of_getElem? mI)) ?_ |refine S2 ?_|(refine T6 ?_ ?_<;>intro h<;>try exact V1 h)|intro el mI mJ|intro el mI|exact T4|refine T5 ?_ ?_|intro ex)<;>try conv=>whnf)
 all_goals first
  |exact⟨k+1,⟨by omega,by rw[hI,G1 mI,E8,if_neg (by simp[h])];rfl⟩,by omega,A6 h0⟩
  |exact A1 rfl (congrArg AV.i (by rw[hI,G1 mI,E8,if_pos (by simp[h])]))
  |exact A1 rfl (congrArg AV.i (by rw[hI,show k=l.length by omega,List.drop_length];rfl))
theorem NQ(l:List (Pk))(f:Nat)(caps:List AV)(p:(Pk)→Bool)(hf:∀x∈l,A3 Tryz.prog f ((fun x=>.agg (A8 x)) x::caps) (.b (p x))):A3 Tryz.prog 103 [.sl 2 (l.map A8),.fn f caps] (.b (l.any p)):=by
 refine B5 Tryz.func103 9 fun mK E h0=>?_
 have nX:=Zz l f caps p hf
 repeat'((first|refine A0 nX ?_ |refine S2 ?_|(refine T6 ?_ ?_<;>intro h<;>try exact V1 h)|intro el mI mJ|intro el mI|exact T4|refine T5 ?_ ?_|intro ex)<;>try conv=>whnf)
 all_goals first
  |exact A1 rfl (congrArg AV.b (Ak p l 0 (by omega)))
theorem Xe(n p:Pk):A3 Tryz.prog 105 [Pv p,.iptr (A8 n)] (.b (AL n p)):=by
 refine B5 Tryz.func105 16 fun mK E h0=>?_
 clear mK
 repeat'((first|refine S2 ?_|(refine T6 ?_ ?_<;>intro h<;>try exact V1 h)|intro el mI mJ|intro el mI|exact T4|refine T5 ?_ ?_|intro ex)<;>try conv=>whnf)
 all_goals first
  |exact A1 rfl (congrArg AV.b (by unfold AL;rw[decide_eq_decide];omega))
  |exact A1 rfl (congrArg AV.b (by unfold AL;rw[decide_eq_false (by omega)]))
theorem aA(n:Pk)(l:List Pk):A3 Tryz.prog 104 [Pv n,.iptr [.sl 2 (l.map A8)]] (.b (!(l.any (AL n)))):=by
 have nR:=NQ l 105 [.iptr (A8 n)] (AL n) (fun x _=>Xe n x)
 refine B5 Tryz.func104 8 fun mK E h0=>?_
 clear mK
 repeat'((first|refine I4 0 ?_|refine A0 nR ?_ |refine S2 ?_|(refine T6 ?_ ?_<;>intro h<;>try exact V1 h)|intro el mI mJ|intro el mI|exact T4|refine T5 ?_ ?_|intro ex)<;>try conv=>whnf)
 all_goals exact A1 rfl rfl
theorem Ba(l qU:List Pk):A3 Tryz.prog 45 [.sl 2 (l.map A8),.sl 2 (qU.map A8)] (.b (X5 l qU)):=by
 have nR:=NQ qU 104 [.iptr [.sl 2 (l.map A8)]] (fun n=>!(l.any (AL n))) (fun x _=>aA x l)
 refine B5 Tryz.func45 9 fun mK E h0=>?_
 clear mK
 repeat'((first|refine I4 0 ?_|refine A0 nR ?_ |refine S2 ?_|(refine T6 ?_ ?_<;>intro h<;>try exact V1 h)|intro el mI mJ|intro el mI|exact T4|refine T5 ?_ ?_|intro ex)<;>try conv=>whnf)
 all_goals exact A1 rfl rfl
theorem Gj(op:Int):(op=5∨op=6→q8 op=2)∧(op=7→q8 op=1)∧(op≠5→op≠6→op≠7→q8 op=0):=by
 unfold q8
 refine⟨fun h=>by rw[if_pos h],fun h=>by rw[if_neg (by omega),if_pos h],fun h1 h2 h3=>by rw[if_neg (by omega),if_neg h3]⟩
theorem jf{s:A4}{c:B6}(h:c.op<1∨7<c.op):I0 s c=4:=by unfold I0;rw[if_pos h]
theorem gF{s:A4}{c:B6}(h0:1≤c.op∧c.op≤7)(h:(c.kids.length:Int)≠q8 c.op∨¬(¬(c.op≠2∧c.op≠3∧c.op≠4∧c.col≠0)∧¬(c.op≠2∧c.code≠0)∧(c.op=3∨c.lo=0∧c.hi=0))):I0 s c=11:=by unfold I0;rw[if_neg (by omega),if_pos h]
theorem gG{s:A4}{c:B6}(hp:(1≤c.op∧c.op≤7)∧(c.kids.length:Int)=q8 c.op∧¬(c.op≠2∧c.op≠3∧c.op≠4∧c.col≠0)∧¬(c.op≠2∧c.code≠0)∧(c.op=3∨c.lo=0∧c.hi=0))(h2:c.op=2)(h:¬(0≤c.col∧c.col<s.cols.length∧(B8 s c.col).kind=2)):I0 s c=7:=by
 unfold I0
 rw[if_neg (by omega),if_neg (by omega),if_neg (by omega)]
 by_cases h3:c.col<0∨(s.cols.length:Int)≤c.col
 ·rw[if_pos h3]
 ·rw[if_neg h3,if_pos h2,if_pos (by omega)]
theorem gH{s:A4}{c:B6}(hp:(1≤c.op∧c.op≤7)∧(c.kids.length:Int)=q8 c.op∧¬(c.op≠2∧c.op≠3∧c.op≠4∧c.col≠0)∧¬(c.op≠2∧c.code≠0)∧(c.op=3∨c.lo=0∧c.hi=0))(h2:c.op=3)(h:¬(0≤c.col∧c.col<s.cols.length∧(B8 s c.col).kind=3)):I0 s c=7:=by
 unfold I0
 rw[if_neg (by omega),if_neg (by omega),if_neg (by omega)]
 by_cases h3:c.col<0∨(s.cols.length:Int)≤c.col
 ·rw[if_pos h3]
 ·rw[if_neg h3,if_neg (by omega),if_pos h2,if_pos (by omega)]
theorem gI{s:A4}{c:B6}(hp:(1≤c.op∧c.op≤7)∧(c.kids.length:Int)=q8 c.op∧¬(c.op≠2∧c.op≠3∧c.op≠4∧c.col≠0)∧¬(c.op≠2∧c.code≠0)∧(c.op=3∨c.lo=0∧c.hi=0))(h2:c.op=4)(h:¬(0≤c.col∧c.col<s.cols.length∧(B8 s c.col).kind=3)):I0 s c=7:=by
 unfold I0
 rw[if_neg (by omega),if_neg (by omega),if_neg (by omega)]
 by_cases h3:c.col<0∨(s.cols.length:Int)≤c.col
 ·rw[if_pos h3]
 ·rw[if_neg h3,if_neg (by omega),if_neg (by omega),if_pos (by omega)]
theorem ct{s:A4}{c:B6}(hp:(1≤c.op∧c.op≤7)∧(c.kids.length:Int)=q8 c.op∧¬(c.op≠2∧c.op≠3∧c.op≠4∧c.col≠0)∧¬(c.op≠2∧c.code≠0)∧(c.op=3∨c.lo=0∧c.hi=0))(h2:c.op=4){x:D4}(hx:s.cols[c.col.toNat]?=some x)(h:x.opt=false):I0 s c=7:=by
 unfold I0
 rw[if_neg (by omega),if_neg (by omega),if_neg (by omega),C1 hx]
 by_cases h3:c.col<0∨(s.cols.length:Int)≤c.col
 ·rw[if_pos h3]
 ·rw[if_neg h3,if_neg (by omega),if_neg (by omega),if_pos (.inr h)]
theorem aB{s:A4}{c:B6}(hp:(1≤c.op∧c.op≤7)∧(c.kids.length:Int)=q8 c.op∧¬(c.op≠2∧c.op≠3∧c.op≠4∧c.col≠0)∧¬(c.op≠2∧c.code≠0)∧(c.op=3∨c.lo=0∧c.hi=0))(h2:c.op=2)(h:0≤c.col∧c.col<s.cols.length∧(B8 s c.col).kind=2)(h3:c.code<0∨((C2 s (B8 s c.col)).2.length:Int)≤c.code):I0 s c=6:=by
 unfold I0
 rw[if_neg (by omega),if_neg (by omega),if_neg (by omega),if_neg (by omega),if_pos h2,if_neg (by omega),if_pos h3]
theorem jg{s:A4}{c:B6}(hp:(1≤c.op∧c.op≤7)∧(c.kids.length:Int)=q8 c.op∧¬(c.op≠2∧c.op≠3∧c.op≠4∧c.col≠0)∧¬(c.op≠2∧c.code≠0)∧(c.op=3∨c.lo=0∧c.hi=0))(h2:c.op=3)(h:0≤c.col∧c.col<s.cols.length∧(B8 s c.col).kind=3)(h3:c.hi<c.lo∨c.lo < -1000000∨1000000<c.hi):I0 s c=2:=by
 unfold I0
 rw[if_neg (by omega),if_neg (by omega),if_neg (by omega),if_neg (by omega),if_neg (by omega),if_pos h2,if_neg (by omega),if_pos h3]
theorem gJ{s:A4}{c:B6}(hp:(1≤c.op∧c.op≤7)∧(c.kids.length:Int)=q8 c.op∧¬(c.op≠2∧c.op≠3∧c.op≠4∧c.col≠0)∧¬(c.op≠2∧c.code≠0)∧(c.op=3∨c.lo=0∧c.hi=0))(h2:c.op≠2∧c.op≠3∧c.op≠4):I0 s c=0:=by
 unfold I0
 rw[if_neg (by omega),if_neg (by omega),if_pos h2]
theorem gK{s:A4}{c:B6}(hp:(1≤c.op∧c.op≤7)∧(c.kids.length:Int)=q8 c.op∧¬(c.op≠2∧c.op≠3∧c.op≠4∧c.col≠0)∧¬(c.op≠2∧c.code≠0)∧(c.op=3∨c.lo=0∧c.hi=0))(h2:c.op=2)(h:0≤c.col∧c.col<s.cols.length∧(B8 s c.col).kind=2)(h3:¬(c.code<0∨((C2 s (B8 s c.col)).2.length:Int)≤c.code)):I0 s c=0:=by
 unfold I0
 rw[if_neg (by omega),if_neg (by omega),if_neg (by omega),if_neg (by omega),if_pos h2,if_neg (by omega),if_neg h3]
theorem gL{s:A4}{c:B6}(hp:(1≤c.op∧c.op≤7)∧(c.kids.length:Int)=q8 c.op∧¬(c.op≠2∧c.op≠3∧c.op≠4∧c.col≠0)∧¬(c.op≠2∧c.code≠0)∧(c.op=3∨c.lo=0∧c.hi=0))(h2:c.op=3)(h:0≤c.col∧c.col<s.cols.length∧(B8 s c.col).kind=3)(h3:¬(c.hi<c.lo∨c.lo < -1000000∨1000000<c.hi)):I0 s c=0:=by
 unfold I0
 rw[if_neg (by omega),if_neg (by omega),if_neg (by omega),if_neg (by omega),if_neg (by omega),if_pos h2,if_neg (by omega),if_neg h3]
theorem gM{s:A4}{c:B6}(hp:(1≤c.op∧c.op≤7)∧(c.kids.length:Int)=q8 c.op∧¬(c.op≠2∧c.op≠3∧c.op≠4∧c.col≠0)∧¬(c.op≠2∧c.code≠0)∧(c.op=3∨c.lo=0∧c.hi=0))(h2:c.op=4)(h:0≤c.col∧c.col<s.cols.length∧(B8 s c.col).kind=3){x:D4}(hx:s.cols[c.col.toNat]?=some x)(ho:x.opt=true):I0 s c=0:=by
 unfold I0
 rw[C1 hx]at *
 rw[if_neg (by omega),if_neg (by omega),if_neg (by omega),if_neg (by omega),if_neg (by omega),if_neg (by omega),if_neg (by rw[ho];intro h9;rcases h9 with h9|h9;exact h9 h.2.2;cases h9)]
end Go.Proofs.YtiphlhoclaogjaaGreatDoor
