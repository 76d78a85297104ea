/- Chapter 5: the program's check of a condition. Chapter 5: the program's check of a condition and of all in it. Chapter 5: truth values, the conditions about one column, and which picks cover others. Chapter 5: which picks cover others. Chapter 5: the first error of one condition, case by case. -/
import Derived.Test.YtiphlhoclaogjaaGreatDoorQCd1
set_option linter.unusedVariables false
set_option linter.unnecessarySimpa false
set_option linter.unusedSimpArgs false
set_option maxHeartbeats 64000000
namespace Go.Proofs.YtiphlhoclaogjaaGreatDoor
open Go Go.Av
attribute [local irreducible] C7 B1 D1 C8 DQ D0 C6 St.le A3 B8
set_option maxRecDepth 100000
def G7(s:A4)(c:B0):Int :=
 if c.op<1∨7<c.op then 4 else if (c.kids.length:Int)≠T8 c.op∨¬(¬(c.op≠2∧c.op≠3∧c.op≠4∧c.col≠0)∧¬(c.op≠2∧c.code≠0)∧(c.op=3∨c.lo=0∧c.hi=0))then 11 else if c.op≠2∧c.op≠3∧c.op≠4 then 0 else
 if c.col<0∨(s.cols.length:Int)≤c.col then 7 else
 if c.op=2 then (if (B4 s c.col).kind≠2 then 7 else if c.code<0∨((B9 s (B4 s c.col)).2.length:Int)≤c.code then 6 else 0)
 else if c.op=3 then (if (B4 s c.col).kind≠3 then 7 else if c.hi<c.lo∨c.lo < -1000000∨1000000<c.hi then 2 else 0)
 else (if (B4 s c.col).kind≠3∨(B4 s c.col).opt=false then 7 else 0)
theorem RD(s:A4)(c:B0)(hr:C5 s=0):A3 Tryz.prog 219 [sA s,E0 c] (.i (G7 s c)):=by
 have hk:=YP c.op
 have hu:=TF c
 rw[G0]
 refine C1 Tryz.func219 113 fun nd E h0=>?_
 have nZ:c.kids.length≤9223372036854775807:=by
  have:=((nd _ (List.mem_cons_of_mem _ (List.mem_cons_self ..))).agg (.sl 6 (c.kids.map J2)) (by simp)).sl
  simpa using this
 clear nd
 rw[G0]at hu
 have pF:∀x,s.cols[c.col.toNat]?=some x→x.kind=2→0≤x.lst∧x.lst<s.lists.length:=fun x hx h2=>by
  have:=AP.lst hr (List.mem_of_getElem? hx) h2
  omega
 repeat'((first|refine A1 hk ?_|refine A1 hu ?_|(refine m9 ?_ ?_ (fun lx ov=>?_);(have:=pF _ (by assumption) (by omega);omega);(have:=pF _ (by assumption) (by omega);omega))|(refine B5 ?_ ?_;kernel_rfl) |refine S2 ?_|(refine T6 ?_ ?_<;>intro h<;>try exact V1 h)|intro el nX nY|intro el nX|exact T4|refine T5 ?_ ?_|intro ex)<;>try conv=>whnf)
 all_goals first
  |(refine A0 rfl (congrArg AV.i ?_);unfold G7;(repeat' split)<;>omega)
  |(refine A0 rfl (congrArg AV.i ?_);unfold G7;rw[C0 nX];(repeat' split)<;>omega)
  |(refine A0 rfl (congrArg AV.i ?_);unfold G7;rw[C0 nX,I3 ov];(repeat' split)<;>omega)
  |(refine A0 rfl (congrArg AV.i ?_);unfold G7;rw[C0 nX];(repeat' split)<;>first|rfl|(exfalso;omega)|(exfalso;simp_all;done))
mutual
def P2:B0→Nat
 |.mk _ _ _ _ _ ks=>X3 ks+1
def X3:List B0→Nat
 |[]=>0
 |x::r=>P2 x+X3 r
end
theorem DN(c:B0):P2 c=X3 c.kids+1:=by cases c;rfl
theorem WW:∀(l:List B0) (m n:Int),n≤y9 l m n
 |[],m,n=>by unfold y9;omega
 |x::r,m,n=>by
  unfold y9
  split
  ·omega
  ·have h1:=KN x (m-n)
   have h2:=WW r m (n+y8 x (m-n))
   omega
theorem iM(c:B0):∀m:Int,(y8 c m≤m→(P2 c:Int)=y8 c m)∧((P2 c:Int)≤m→y8 c m=P2 c):=by
 refine O7 (p:=fun c=>∀m:Int,(y8 c m≤m→(P2 c:Int)=y8 c m)∧((P2 c:Int)≤m→y8 c m=P2 c)) (fun c ih m=>?_) c
 have key:∀(l:List B0),(∀k∈l,k∈c.kids)→∀n:Int,(y9 l m n≤m→y9 l m n=n+X3 l)∧(n+X3 l≤m→y9 l m n=n+X3 l):=by
  intro l
  induction l with
  |nil=>intro _ n;unfold y9 X3;exact⟨fun _=>by omega,fun _=>by omega⟩
  |cons x r sj =>
   intro hl n
   obtain⟨i1,i2⟩:=ih x (hl x (by simp)) (m-n)
   obtain⟨j1,j2⟩:=sj (fun k hk=>hl k (by simp[hk])) (n+y8 x (m-n))
   have qL:=WW r m (n+y8 x (m-n))
   have rq:=KN x (m-n)
   unfold y9 X3
   by_cases h:m<n
   ·rw[if_pos h]
    exact⟨fun h2=>by omega,fun h2=>by omega⟩
   ·rw[if_neg h]
    refine⟨fun h2=>?_,fun h2=>?_⟩
    ·rw[j1 h2]
     have:=i1 (by omega)
     omega
    ·have:=i2 (by omega)
     rw[this]at j2 ⊢
     rw[j2 (by omega)]
     omega
 obtain⟨k1,k2⟩:=key c.kids (fun k hk=>hk) 1
 rw[Ol,DN]
 exact⟨fun h=>by have:=k1 h;omega,fun h=>by have:=k2 (by omega);omega⟩
theorem WX(c:B0):P9 c≤P2 c:=by
 refine O7 (p:=fun c=>P9 c≤P2 c) (fun c ih=>?_) c
 have key:∀(l:List B0),(∀k∈l,k∈c.kids)→∀n:Nat,V4 l n≤max n (X3 l):=by
  intro l
  induction l with
  |nil=>intro _ n;unfold V4;omega
  |cons x r sj =>
   intro hl n
   have h1:=ih x (hl x (by simp))
   have h2:=sj (fun k hk=>hl k (by simp[hk])) (max n (P9 x))
   unfold V4 X3
   omega
 have:=key c.kids (fun k hk=>hk) 0
 rw[Gg,DN]
 omega
mutual
def T9(s:A4):B0→Int
 |.mk o c k l h ks=>if G7 s (.mk o c k l h ks)=0 then X4 s ks else G7 s (.mk o c k l h ks)
def X4(s:A4):List B0→Int
 |[]=>0
 |x::r=>if T9 s x=0 then X4 s r else T9 s x
end
theorem DO(s:A4)(c:B0):T9 s c=if G7 s c=0 then X4 s c.kids else G7 s c:=by cases c;rfl
theorem RE(s:A4)(hr:C5 s=0)(c:B0):A3 Tryz.prog 179 [sA s,E0 c] (.i (T9 s c)):=by
 refine O7 (p:=fun c=>A3 Tryz.prog 179 [sA s,E0 c] (.i (T9 s c))) (fun c ih=>?_) c
 have h1:=RD s c hr
 rw[G0]at h1 ⊢
 rw[DO]
 refine C1 Tryz.func179 29 fun nd E h0=>?_
 have nZ:c.kids.length≤9223372036854775807:=by
  have:=((nd _ (List.mem_cons_of_mem _ (List.mem_cons_self ..))).agg (.sl 6 (c.kids.map J2)) (by simp)).sl
  simpa using this
 clear nd
 repeat'((first|refine A1 h1 ?_ |refine S2 ?_|(refine T6 ?_ ?_<;>intro h<;>try exact V1 h)|intro el nX nY|intro el nX|exact T4|refine T5 ?_ ?_|intro ex)<;>try conv=>whnf)
 all_goals first
  |exact A0 rfl (congrArg AV.i (by rw[if_neg (by assumption)]))
  |skip
 rw[if_pos (Decidable.of_not_not (by assumption))]
 refine B2 (ι:=Nat) (fun k=>⟨[(2,.ref 0 0),(16,.sl 6 (c.kids.map J2)),(17,.i c.kids.length),(18,.i k)],2,[(0,some (.box (sL s))),(1,some (.box (P1 c)))]⟩) (fun k=>k≤c.kids.length∧X4 s c.kids=X4 s (c.kids.drop k)) (fun k=>c.kids.length-k) 0 ⟨Nat.zero_le _,rfl⟩
  (A6 h0) (fun k hI=>?_)
 obtain⟨hk,hI⟩:=hI
 repeat'((first|(refine A1 (ih _ (List.mem_of_getElem? (by assumption))) ?_) |refine S2 ?_|(refine T6 ?_ ?_<;>intro h<;>try exact V1 h)|intro el nX nY|intro el nX|exact T4|refine T5 ?_ ?_|intro ex)<;>try conv=>whnf)
 all_goals first
  |exact A0 rfl (congrArg AV.i (by rw[hI,H1 nX,X4,if_neg (by assumption)]))
  |exact A0 rfl (congrArg AV.i (by rw[hI,Z0 (by assumption)];rfl))
  |exact⟨k+1,⟨by omega,by rw[hI,H1 nX,X4,if_pos (Decidable.of_not_not (by assumption))]⟩,by omega,A6 h0⟩
def H0(s:A4)(c:B0):Int:=if C5 s=0 then (if 40<P2 c then 1 else if 10<P9 c then 22 else T9 s c)else C5 s
theorem y5(s:A4)(c:B0):A3 Tryz.prog 128 [sA s,E0 c] (.i (H0 s c)):=by
 have h1:=c8 s
 have h2:=VT c 40 (by omega) (by omega)
 have h3:(P2 c:Int)≤40→A3 Tryz.prog 178 [E0 c] (.i (P9 c)):=fun h=>YO c (by have:=WX c;omega)
 have h4:=fun hr=>RE s hr c
 obtain⟨t1,t2⟩:=iM c 40
 rw[G0]at *
 refine C1 Tryz.func128 23 fun nd E h0=>?_
 clear nd
 unfold H0
 repeat'((first|refine A1 h1 ?_|refine A1 h2 ?_|refine A1 (h3 (by omega)) ?_|refine A1 (h4 (Decidable.of_not_not (by assumption))) ?_ |refine S2 ?_|(refine T6 ?_ ?_<;>intro h<;>try exact V1 h)|intro el nX nY|intro el nX|exact T4|refine T5 ?_ ?_|intro ex)<;>try conv=>whnf)
 all_goals first
  |exact A0 rfl (congrArg AV.i (by rw[if_neg (by assumption)]))
  |exact A0 rfl (congrArg AV.i (by rw[if_pos (Decidable.of_not_not (by assumption)),if_pos (by omega)]))
  |exact A0 rfl (congrArg AV.i (by rw[if_pos (Decidable.of_not_not (by assumption)),if_neg (by omega),if_pos (by omega)]))
  |exact A0 rfl (congrArg AV.i (by rw[if_pos (Decidable.of_not_not (by assumption)),if_neg (by omega),if_neg (by omega)]))
def GJ(b:Bool):Int:=if b=true then 1 else -1
theorem LC(b:Bool):A3 Tryz.prog 241 [.b b] (.i (GJ b)):=by
 refine C1 Tryz.func241 4 fun nd E h0=>?_
 clear nd
 repeat'((first|refine S2 ?_|(refine T6 ?_ ?_<;>intro h<;>try exact V1 h)|intro el nX nY|intro el nX|exact T4|refine T5 ?_ ?_|intro ex)<;>try conv=>whnf)
 all_goals exact A0 rfl (congrArg AV.i (by rw[h];rfl))
def Q9(s:A4)(c:B0)(v:Int):Int :=
 if c.op=2 then GJ (M6 (B9 s (B4 s c.col)).1 (B9 s (B4 s c.col)).2 v c.code)else if c.op=4 then GJ (decide (v=(-1099511627776)))else if v=(-1099511627776)then 0 else GJ (decide (c.lo≤v∧v≤c.hi))
theorem NZ(s:A4)(c:B0)(v:Int)(h2:c.op=2→∃x lx,0≤c.col∧s.cols[c.col.toNat]?=some x∧0≤x.lst∧s.lists[x.lst.toNat]?=some lx):A3 Tryz.prog 220 [sA s,E0 c,.i v] (.i (Q9 s c v)):=by
 rw[G0]
 refine C1 Tryz.func220 48 fun nd E h0=>?_
 obtain⟨pH,oM,pT⟩:=Z7 (s:=s) (nd _ (by simp))
 clear nd
 unfold Q9
 by_cases qZ:c.op=2
 ·obtain⟨x,lx,g0,g1,g2,g3⟩:=h2 qZ
  rw[if_pos qZ,C0 g1,I3 g3]
  have wR:=YF lx.1 lx.2 v c.code (pT lx (List.mem_of_getElem? g3))
  have yC:=LC (M6 lx.1 lx.2 v c.code)
  repeat'((first|(refine A2 (x:=x) g1 (by omega) ?_)|(refine A2 (x:=lx) g3 (by omega) ?_)|refine A1 wR ?_|refine A1 yC ?_|(refine B5 ?_ ?_;kernel_rfl) |refine S2 ?_|(refine T6 ?_ ?_<;>intro h<;>try exact V1 h)|intro el nX nY|intro el nX|exact T4|refine T5 ?_ ?_|intro ex)<;>try conv=>whnf)
  all_goals first
   |exact A0 rfl rfl
 ·rw[if_neg qZ]
  have yC:=LC
  repeat'((first|refine A1 (yC _) ?_|(refine B5 ?_ ?_;kernel_rfl) |refine S2 ?_|(refine T6 ?_ ?_<;>intro h<;>try exact V1 h)|intro el nX nY|intro el nX|exact T4|refine T5 ?_ ?_|intro ex)<;>try conv=>whnf)
  all_goals first
   |(rw[if_pos (by assumption)];exact A0 rfl rfl)
   |(rw[if_neg (by assumption),if_pos (by assumption)];exact A0 rfl rfl)
   |(rw[if_neg (by assumption),if_neg (by assumption)];refine A0 rfl (congrArg (fun z=>AV.i (GJ z)) ?_);first|(rw[decide_eq_decide];omega)|(rw[eq_comm,decide_eq_false_iff_not];omega))
mutual
def X5:B0→List B0
 |.mk o c k l h ks=>if o=2∨o=3∨o=4 then [.mk o c k l h ks]else Z9 ks
def Z9:List B0→List B0
 |[]=>[]
 |x::r=>X5 x++Z9 r
end
theorem En(c:B0):X5 c=if c.op=2∨c.op=3∨c.op=4 then [c]else Z9 c.kids:=by
 cases c;rfl
theorem Fk(l:List B0)(k:Nat){x:B0}(h:l[k]?=some x):Z9 (l.take (k+1))=Z9 (l.take k)++X5 x:=by
 rw[I0 h]
 generalize l.take k=m
 induction m with
 |nil=>simp[Z9]
 |cons a r ih=>simp only[List.cons_append,Z9,ih,List.append_assoc]
theorem Gh(c:B0):(X5 c).length≤P2 c:=by
 refine O7 (p:=fun c=>(X5 c).length≤P2 c) (fun c ih=>?_) c
 have key:∀(l:List B0),(∀k∈l,k∈c.kids)→(Z9 l).length≤X3 l:=by
  intro l
  induction l with
  |nil=>intro _;simp[Z9,X3]
  |cons x r sj =>
   intro hl
   have h1:=ih x (hl x (by simp))
   have h2:=sj (fun k hk=>hl k (by simp[hk]))
   unfold Z9 X3
   rw[List.length_append];omega
 rw[En,DN]
 split
 ·simp
 ·have:=key c.kids (fun k hk=>hk);omega
theorem HZ{l:List B0}:∀k∈l,P2 k≤X3 l:=by
 induction l with
 |nil=>intro k hk;cases hk
 |cons x r ih =>
  intro k hk
  unfold X3
  rcases List.mem_cons.1 hk with rfl|hk
  ·omega
  ·have:=ih k hk;omega
theorem JM(l:List B0)(k:Nat):(Z9 (l.take k)).length≤X3 l:=by
 induction l generalizing k with
 |nil=>simp[Z9]
 |cons x r ih =>
  cases k with
  |zero=>simp[Z9]
  |succ k =>
   have h1:=ih k
   have h2:=Gh x
   simp only[List.take_succ_cons,Z9,X3,List.length_append]
   omega
theorem VU(c:B0):P2 c≤100000→A3 Tryz.prog 180 [E0 c] (.sl 6 ((X5 c).map J2)):=by
 refine O7 (p:=fun c=>P2 c≤100000→A3 Tryz.prog 180 [E0 c] (.sl 6 ((X5 c).map J2))) (fun c ih ht=>?_) c
 rw[DN]at ht
 rw[G0,En]
 refine C1 Tryz.func180 34 fun nd E h0=>?_
 have nZ:c.kids.length≤9223372036854775807:=by
  have:=((nd _ (List.mem_cons_self ..)).agg (.sl 6 (c.kids.map J2)) (by simp)).sl
  simpa using this
 clear nd
 repeat'((first|refine S2 ?_|(refine T6 ?_ ?_<;>intro h<;>try exact V1 h)|intro el nX nY|intro el nX|exact T4|refine T5 ?_ ?_|intro ex)<;>try conv=>whnf)
 all_goals first
  |(rw[if_pos (by omega)];refine A0 rfl ?_;rw[List.map_cons,J2,Ok];rfl)
  |skip
 rw[if_neg (by omega)]
 refine B2 (ι:=Nat) (fun k=>⟨[(3,.row 1 0 (Z9 (c.kids.take k)).length),(22,.sl 6 (c.kids.map J2)),(23,.i c.kids.length),(24,.i k)],2,[(0,some (.box (P1 c))),(1,some (.row 29 6 0 ((Z9 (c.kids.take k)).map J2)))]⟩) (fun k=>k≤c.kids.length) (fun k=>c.kids.length-k) 0 (Nat.zero_le _)
  (C2 (K7 (d:=3) (e:=29) (sz:=6) rfl) (B3 h0 rfl ⟨rfl,rfl,rfl,rfl,trivial⟩ ⟨rfl,⟨0,rfl⟩,trivial⟩ rfl rfl rfl)) (fun k hk=>?_)
 have ob:=JM c.kids k
 repeat'((first|(refine A1 (ih _ (List.mem_of_getElem? (by assumption)) (by have:=HZ el (List.mem_of_getElem? nX);omega)) ?_)|(refine J0 ?_ ?_;(have q1:=Gh el;have q2:=HZ el (List.mem_of_getElem? nX);simp only[List.length_map];omega)) |refine S2 ?_|(refine T6 ?_ ?_<;>intro h<;>try exact V1 h)|intro el nX nY|intro el nX|exact T4|refine T5 ?_ ?_|intro ex)<;>try conv=>whnf)
 all_goals first
  |exact⟨k+1,by omega,by omega,B3 h0 rfl ⟨congrArg (fun z:Nat=>some (AV.row 1 0 z)) (by rw[Fk _ _ nX,List.length_append,List.length_map]),rfl,rfl,rfl,trivial⟩ ⟨rfl,⟨_,congrArg (D3.row 29 6 _) (by rw[Fk _ _ nX,List.map_append])⟩,trivial⟩ rfl rfl rfl⟩
  |exact A0 rfl (congrArg (fun z=>AV.sl 6 ((Z9 z).map J2)) (DL (by assumption)))
abbrev z0(n p:Pk):Bool:=decide (p.col=n.col∧n.lev≤p.lev)
def z4(l qF:List Pk):Bool:=!(qF.any fun n=>!(l.any (z0 n)))
theorem bB(l:List (Pk))(f:Nat)(caps:List AV)(p:(Pk)→Bool)(hf:∀x∈l,A3 Tryz.prog f ((fun x=>.agg (B6 x)) x::caps) (.b (p x))):A3 Tryz.prog 110 [.sl 2 (l.map B6),.fn f caps] (.i (F3 p l 0)):=by
 refine C1 Tryz.func110 19 fun nd E h0=>?_
 have nZ:l.length≤9223372036854775807:=by have:=(nd (.sl 2 (l.map B6)) (by simp)).sl;simpa using this
 repeat'((first|refine S2 ?_|(refine T6 ?_ ?_<;>intro h<;>try exact V1 h)|intro el nX nY|intro el nX|exact T4|refine T5 ?_ ?_|intro ex)<;>try conv=>whnf)
 refine B2 (ι:=Nat) (fun k=>⟨[(0,.sl 2 (l.map B6)),(1,.fn f caps),(7,.i l.length),(8,.i k)],0,[]⟩) (fun k=>k≤l.length∧F3 p l 0=F3 p (l.drop k) k) (fun k=>l.length-k) 0 ⟨Nat.zero_le _,rfl⟩ (A6 h0) (fun k hI=>?_)
 obtain⟨hk,hI⟩:=hI
 repeat'((first|refine A1 (hf _ (List.mem_of_getElem? nX)) ?_ |refine S2 ?_|(refine T6 ?_ ?_<;>intro h<;>try exact V1 h)|intro el nX nY|intro el nX|exact T4|refine T5 ?_ ?_|intro ex)<;>try conv=>whnf)
 all_goals first
  |exact⟨k+1,⟨by omega,by rw[hI,H1 nX,F3,if_neg (by simp[h])];rfl⟩,by omega,A6 h0⟩
  |exact A0 rfl (congrArg AV.i (by rw[hI,H1 nX,F3,if_pos (by simp[h])]))
  |exact A0 rfl (congrArg AV.i (by rw[hI,show k=l.length by omega,List.drop_length];rfl))
theorem Na(l:List (Pk))(f:Nat)(caps:List AV)(p:(Pk)→Bool)(hf:∀x∈l,A3 Tryz.prog f ((fun x=>.agg (B6 x)) x::caps) (.b (p x))):A3 Tryz.prog 103 [.sl 2 (l.map B6),.fn f caps] (.b (l.any p)):=by
 refine C1 Tryz.func103 9 fun nd E h0=>?_
 have ol:=bB l f caps p hf
 repeat'((first|refine A1 ol ?_ |refine S2 ?_|(refine T6 ?_ ?_<;>intro h<;>try exact V1 h)|intro el nX nY|intro el nX|exact T4|refine T5 ?_ ?_|intro ex)<;>try conv=>whnf)
 all_goals first
  |exact A0 rfl (congrArg AV.b (Bc p l 0 (by omega)))
theorem YR(n p:Pk):A3 Tryz.prog 105 [QG p,.iptr (B6 n)] (.b (z0 n p)):=by
 refine C1 Tryz.func105 16 fun nd E h0=>?_
 clear nd
 repeat'((first|refine S2 ?_|(refine T6 ?_ ?_<;>intro h<;>try exact V1 h)|intro el nX nY|intro el nX|exact T4|refine T5 ?_ ?_|intro ex)<;>try conv=>whnf)
 all_goals first
  |exact A0 rfl (congrArg AV.b (by unfold z0;rw[decide_eq_decide];omega))
  |exact A0 rfl (congrArg AV.b (by unfold z0;rw[decide_eq_false (by omega)]))
theorem bC(n:Pk)(l:List Pk):A3 Tryz.prog 104 [QG n,.iptr [.sl 2 (l.map B6)]] (.b (!(l.any (z0 n)))):=by
 have oV:=Na l 105 [.iptr (B6 n)] (z0 n) (fun x _=>YR n x)
 refine C1 Tryz.func104 8 fun nd E h0=>?_
 clear nd
 repeat'((first|refine J9 0 ?_|refine A1 oV ?_ |refine S2 ?_|(refine T6 ?_ ?_<;>intro h<;>try exact V1 h)|intro el nX nY|intro el nX|exact T4|refine T5 ?_ ?_|intro ex)<;>try conv=>whnf)
 all_goals exact A0 rfl rfl
theorem BI(l qF:List Pk):A3 Tryz.prog 45 [.sl 2 (l.map B6),.sl 2 (qF.map B6)] (.b (z4 l qF)):=by
 have oV:=Na qF 104 [.iptr [.sl 2 (l.map B6)]] (fun n=>!(l.any (z0 n))) (fun x _=>bC x l)
 refine C1 Tryz.func45 9 fun nd E h0=>?_
 clear nd
 repeat'((first|refine J9 0 ?_|refine A1 oV ?_ |refine S2 ?_|(refine T6 ?_ ?_<;>intro h<;>try exact V1 h)|intro el nX nY|intro el nX|exact T4|refine T5 ?_ ?_|intro ex)<;>try conv=>whnf)
 all_goals exact A0 rfl rfl
theorem KO(op:Int):(op=5∨op=6→T8 op=2)∧(op=7→T8 op=1)∧(op≠5→op≠6→op≠7→T8 op=0):=by
 unfold T8
 refine⟨fun h=>by rw[if_pos h],fun h=>by rw[if_neg (by omega),if_pos h],fun h1 h2 h3=>by rw[if_neg (by omega),if_neg h3]⟩
theorem ku{s:A4}{c:B0}(h:c.op<1∨7<c.op):G7 s c=4:=by unfold G7;rw[if_pos h]
theorem iN{s:A4}{c:B0}(h0:1≤c.op∧c.op≤7)(h:(c.kids.length:Int)≠T8 c.op∨¬(¬(c.op≠2∧c.op≠3∧c.op≠4∧c.col≠0)∧¬(c.op≠2∧c.code≠0)∧(c.op=3∨c.lo=0∧c.hi=0))):G7 s c=11:=by unfold G7;rw[if_neg (by omega),if_pos h]
theorem iO{s:A4}{c:B0}(hp:(1≤c.op∧c.op≤7)∧(c.kids.length:Int)=T8 c.op∧¬(c.op≠2∧c.op≠3∧c.op≠4∧c.col≠0)∧¬(c.op≠2∧c.code≠0)∧(c.op=3∨c.lo=0∧c.hi=0))(h2:c.op=2)(h:¬(0≤c.col∧c.col<s.cols.length∧(B4 s c.col).kind=2)):G7 s c=7:=by
 unfold G7
 rw[if_neg (by omega),if_neg (by omega),if_neg (by omega)]
 by_cases h3:c.col<0∨(s.cols.length:Int)≤c.col
 ·rw[if_pos h3]
 ·rw[if_neg h3,if_pos h2,if_pos (by omega)]
theorem iP{s:A4}{c:B0}(hp:(1≤c.op∧c.op≤7)∧(c.kids.length:Int)=T8 c.op∧¬(c.op≠2∧c.op≠3∧c.op≠4∧c.col≠0)∧¬(c.op≠2∧c.code≠0)∧(c.op=3∨c.lo=0∧c.hi=0))(h2:c.op=3)(h:¬(0≤c.col∧c.col<s.cols.length∧(B4 s c.col).kind=3)):G7 s c=7:=by
 unfold G7
 rw[if_neg (by omega),if_neg (by omega),if_neg (by omega)]
 by_cases h3:c.col<0∨(s.cols.length:Int)≤c.col
 ·rw[if_pos h3]
 ·rw[if_neg h3,if_neg (by omega),if_pos h2,if_pos (by omega)]
theorem iQ{s:A4}{c:B0}(hp:(1≤c.op∧c.op≤7)∧(c.kids.length:Int)=T8 c.op∧¬(c.op≠2∧c.op≠3∧c.op≠4∧c.col≠0)∧¬(c.op≠2∧c.code≠0)∧(c.op=3∨c.lo=0∧c.hi=0))(h2:c.op=4)(h:¬(0≤c.col∧c.col<s.cols.length∧(B4 s c.col).kind=3)):G7 s c=7:=by
 unfold G7
 rw[if_neg (by omega),if_neg (by omega),if_neg (by omega)]
 by_cases h3:c.col<0∨(s.cols.length:Int)≤c.col
 ·rw[if_pos h3]
 ·rw[if_neg h3,if_neg (by omega),if_neg (by omega),if_pos (by omega)]
theorem eI{s:A4}{c:B0}(hp:(1≤c.op∧c.op≤7)∧(c.kids.length:Int)=T8 c.op∧¬(c.op≠2∧c.op≠3∧c.op≠4∧c.col≠0)∧¬(c.op≠2∧c.code≠0)∧(c.op=3∨c.lo=0∧c.hi=0))(h2:c.op=4){x:D6}(hx:s.cols[c.col.toNat]?=some x)(h:x.opt=false):G7 s c=7:=by
 unfold G7
 rw[if_neg (by omega),if_neg (by omega),if_neg (by omega),C0 hx]
 by_cases h3:c.col<0∨(s.cols.length:Int)≤c.col
 ·rw[if_pos h3]
 ·rw[if_neg h3,if_neg (by omega),if_neg (by omega),if_pos (.inr h)]
theorem bD{s:A4}{c:B0}(hp:(1≤c.op∧c.op≤7)∧(c.kids.length:Int)=T8 c.op∧¬(c.op≠2∧c.op≠3∧c.op≠4∧c.col≠0)∧¬(c.op≠2∧c.code≠0)∧(c.op=3∨c.lo=0∧c.hi=0))(h2:c.op=2)(h:0≤c.col∧c.col<s.cols.length∧(B4 s c.col).kind=2)(h3:c.code<0∨((B9 s (B4 s c.col)).2.length:Int)≤c.code):G7 s c=6:=by
 unfold G7
 rw[if_neg (by omega),if_neg (by omega),if_neg (by omega),if_neg (by omega),if_pos h2,if_neg (by omega),if_pos h3]
theorem kv{s:A4}{c:B0}(hp:(1≤c.op∧c.op≤7)∧(c.kids.length:Int)=T8 c.op∧¬(c.op≠2∧c.op≠3∧c.op≠4∧c.col≠0)∧¬(c.op≠2∧c.code≠0)∧(c.op=3∨c.lo=0∧c.hi=0))(h2:c.op=3)(h:0≤c.col∧c.col<s.cols.length∧(B4 s c.col).kind=3)(h3:c.hi<c.lo∨c.lo < -1000000∨1000000<c.hi):G7 s c=2:=by
 unfold G7
 rw[if_neg (by omega),if_neg (by omega),if_neg (by omega),if_neg (by omega),if_neg (by omega),if_pos h2,if_neg (by omega),if_pos h3]
theorem Gi{s:A4}{c:B0}(hp:(1≤c.op∧c.op≤7)∧(c.kids.length:Int)=T8 c.op∧¬(c.op≠2∧c.op≠3∧c.op≠4∧c.col≠0)∧¬(c.op≠2∧c.code≠0)∧(c.op=3∨c.lo=0∧c.hi=0))(h2:c.op≠2∧c.op≠3∧c.op≠4):G7 s c=0:=by
 unfold G7
 rw[if_neg (by omega),if_neg (by omega),if_pos h2]
theorem WY{s:A4}{c:B0}(hp:(1≤c.op∧c.op≤7)∧(c.kids.length:Int)=T8 c.op∧¬(c.op≠2∧c.op≠3∧c.op≠4∧c.col≠0)∧¬(c.op≠2∧c.code≠0)∧(c.op=3∨c.lo=0∧c.hi=0))(h2:c.op=2)(h:0≤c.col∧c.col<s.cols.length∧(B4 s c.col).kind=2)(h3:¬(c.code<0∨((B9 s (B4 s c.col)).2.length:Int)≤c.code)):G7 s c=0:=by
 unfold G7
 rw[if_neg (by omega),if_neg (by omega),if_neg (by omega),if_neg (by omega),if_pos h2,if_neg (by omega),if_neg h3]
theorem WZ{s:A4}{c:B0}(hp:(1≤c.op∧c.op≤7)∧(c.kids.length:Int)=T8 c.op∧¬(c.op≠2∧c.op≠3∧c.op≠4∧c.col≠0)∧¬(c.op≠2∧c.code≠0)∧(c.op=3∨c.lo=0∧c.hi=0))(h2:c.op=3)(h:0≤c.col∧c.col<s.cols.length∧(B4 s c.col).kind=3)(h3:¬(c.hi<c.lo∨c.lo < -1000000∨1000000<c.hi)):G7 s c=0:=by
 unfold G7
 rw[if_neg (by omega),if_neg (by omega),if_neg (by omega),if_neg (by omega),if_neg (by omega),if_pos h2,if_neg (by omega),if_neg h3]
theorem Wa{s:A4}{c:B0}(hp:(1≤c.op∧c.op≤7)∧(c.kids.length:Int)=T8 c.op∧¬(c.op≠2∧c.op≠3∧c.op≠4∧c.col≠0)∧¬(c.op≠2∧c.code≠0)∧(c.op=3∨c.lo=0∧c.hi=0))(h2:c.op=4)(h:0≤c.col∧c.col<s.cols.length∧(B4 s c.col).kind=3){x:D6}(hx:s.cols[c.col.toNat]?=some x)(ho:x.opt=true):G7 s c=0:=by
 unfold G7
 rw[C0 hx]at *
 rw[if_neg (by omega),if_neg (by omega),if_neg (by omega),if_neg (by omega),if_neg (by omega),if_neg (by omega),if_neg (by rw[ho];intro h9;rcases h9 with h9|h9;exact h9 h.2.2;cases h9)]
theorem Ce{s:A4}{c:B0}(h:G7 s c=0):(1≤c.op∧c.op≤7)∧(c.kids.length:Int)=T8 c.op∧(c.op=2∨c.op=3∨c.op=4→0≤c.col∧c.col<s.cols.length)∧(c.op=2→(B4 s c.col).kind=2∧0≤c.code∧c.code<(B9 s (B4 s c.col)).2.length)∧(c.op=3→(B4 s c.col).kind=3∧c.lo≤c.hi∧-1000000≤c.lo∧c.hi≤1000000)∧(c.op=4→(B4 s c.col).kind=3∧(B4 s c.col).opt=true):=by
 unfold G7 at h
 by_cases h1:c.op<1∨7<c.op
 ·rw[if_pos h1]at h;cases h
 rw[if_neg h1]at h
 split at h
 ·cases h
 rename_i h2
 by_cases h3:c.op≠2∧c.op≠3∧c.op≠4
 ·exact⟨by omega,by omega,fun _=>by omega,fun _=>by omega,fun _=>by omega,fun _=>by omega⟩
 rw[if_neg h3]at h
 by_cases h4:c.col<0∨(s.cols.length:Int)≤c.col
 ·rw[if_pos h4]at h;cases h
 rw[if_neg h4]at h
 by_cases h5:c.op=2
 ·rw[if_pos h5]at h
  split at h
  ·cases h
  split at h
  ·cases h
  exact⟨by omega,by omega,fun _=>by omega,fun _=>by omega,fun _=>by omega,fun _=>by omega⟩
 rw[if_neg h5]at h
 by_cases h6:c.op=3
 ·rw[if_pos h6]at h
  split at h
  ·cases h
  split at h
  ·cases h
  exact⟨by omega,by omega,fun _=>by omega,fun _=>by omega,fun _=>by omega,fun _=>by omega⟩
 rw[if_neg h6]at h
 split at h
 ·cases h
 rename_i h7
 refine⟨by omega,by omega,fun _=>by omega,fun _=>by omega,fun _=>by omega,fun _=>⟨?_,?_⟩⟩
 ·exact Decidable.of_not_not fun hh=>h7 (.inl hh)
 ·cases ho:(B4 s c.col).opt
  ·exact absurd (.inr ho) h7
  ·rfl
theorem TG{s:A4}:∀{l:List B0},X4 s l=0→∀k∈l,T9 s k=0
 |[],_,k,hk=>by cases hk
 |x::r,h,k,hk=>by
  unfold X4 at h
  by_cases hx:T9 s x=0
  ·rw[if_pos hx]at h
   rcases List.mem_cons.1 hk with rfl|hk
   ·exact hx
   ·exact TG h k hk
  ·rw[if_neg hx]at h;exact absurd h hx
theorem Ha{s:A4}{c:B0}(h:T9 s c=0):G7 s c=0∧∀k∈c.kids,T9 s k=0:=by
 rw[DO]at h
 by_cases h1:G7 s c=0
 ·rw[if_pos h1]at h
  exact⟨h1,TG h⟩
 ·rw[if_neg h1]at h;exact absurd h h1
theorem m6{s:A4}{c:B0}(h:H0 s c=0):C5 s=0∧P2 c≤40∧P9 c≤10∧T9 s c=0:=by
 unfold H0 at h
 by_cases h1:C5 s=0
 ·rw[if_pos h1]at h
  split at h
  ·cases h
  split at h
  ·cases h
  exact⟨h1,by omega,by omega,h⟩
 ·rw[if_neg h1]at h;exact absurd h h1
theorem TH{a k:B0}:∀{l:List B0},k∈l→a∈X5 k→a∈Z9 l
 |x::r,hk,ha=>by
  unfold Z9
  rcases List.mem_cons.1 hk with rfl|hk
  ·exact List.mem_append_left _ ha
  ·exact List.mem_append_right _ (TH hk ha)
theorem TI{a:B0}:∀{l:List B0},a∈Z9 l→∃k∈l,a∈X5 k
 |[],h=>by simp[Z9]at h
 |x::r,h=>by
  unfold Z9 at h
  rcases List.mem_append.1 h with h|h
  ·exact⟨x,by simp,h⟩
  ·obtain⟨k,hk,ha⟩:=TI h
   exact⟨k,by simp[hk],ha⟩
theorem iR{a c k:B0}(ho:¬(c.op=2∨c.op=3∨c.op=4))(hk:k∈c.kids)(ha:a∈X5 k):a∈X5 c:=by
 rw[En,if_neg ho]
 exact TH hk ha
theorem CB{s:A4}(c:B0):T9 s c=0→∀a∈X5 c,G7 s a=0∧(a.op=2∨a.op=3∨a.op=4):=by
 refine O7 (p:=fun c=>T9 s c=0→∀a∈X5 c,G7 s a=0∧(a.op=2∨a.op=3∨a.op=4)) (fun c ih h a ha=>?_) c
 obtain⟨h1,h2⟩:=Ha h
 rw[En]at ha
 split at ha
 ·rename_i ho
  rw[List.mem_singleton]at ha
  subst ha
  exact⟨h1,ho⟩
 ·obtain⟨k,hk,hak⟩:=TI ha
  exact ih k hk (h2 k hk) a hak
def i7(op:Int)(vs:List Int)(one:Int):Int:=if op=1 then 1 else if op=5 then min (vs.getD 0 0) (vs.getD 1 0)else if op=6 then max (vs.getD 0 0) (vs.getD 1 0)else if op=7 then -(vs.getD 0 0)else one
mutual
def v5(g:B0→Int):B0→Int
 |.mk o c k l h ks=>i7 o (YS g ks) (g (.mk o c k l h ks))
def YS(g:B0→Int):List B0→List Int
 |[]=>[]
 |x::r=>v5 g x::YS g r
end
theorem TJ(g:B0→Int):∀l,YS g l=l.map (v5 g)
 |[]=>rfl
 |x::r=>by rw[YS,TJ g r];rfl
theorem Eo(g:B0→Int)(c:B0):v5 g c=i7 c.op (c.kids.map (v5 g)) (g c):=by
 cases c
 rw[v5,TJ];rfl
theorem FJ{α:Type}{l:List α}{f:α→Int}{k:Nat}{x:α}(h:l[k]?=some x):(l.map f).getD k 0=f x:=by
 rw[List.getD_eq_getElem?_getD,List.getElem?_map,h];rfl
theorem Wb{l:List Int}(h:∀v∈l,-1≤v∧v≤1)(k:Nat):-1≤l.getD k 0∧l.getD k 0≤1:=by
 rw[List.getD_eq_getElem?_getD]
 cases hk:l[k]? with
 |none=>exact⟨by decide,by decide⟩
 |some v=>exact h v (List.mem_of_getElem? hk)
theorem eJ{op:Int}{vs:List Int}{one:Int}(h:∀v∈vs,-1≤v∧v≤1)(h1:-1≤one∧one≤1):-1≤i7 op vs one∧i7 op vs one≤1:=by
 have a0:=Wb h 0
 have a1:=Wb h 1
 unfold i7
 (repeat' split)<;>omega
theorem Wc{g:B0→Int}(hg:∀a,-1≤g a∧g a≤1)(c:B0):-1≤v5 g c∧v5 g c≤1:=by
 refine O7 (p:=fun c=>-1≤v5 g c∧v5 g c≤1) (fun c ih=>?_) c
 rw[Eo]
 refine eJ (fun v hv=>?_) (hg c)
 obtain⟨k,hk,rfl⟩:=List.mem_map.1 hv
 exact ih k hk
theorem iS(b:Bool):-1≤GJ b∧GJ b≤1:=by unfold GJ;split<;>omega
theorem TK(s:A4)(c:B0)(v:Int):-1≤Q9 s c v∧Q9 s c v≤1:=by
 unfold Q9
 (repeat' split)<;>first|exact iS _|omega
def BQ(s:A4)(c:B0)(row:List Int):Int:=v5 (fun a=>Q9 s a (row.getD a.col.toNat 0)) c
def TL(s:A4)(c:B0)(row:List Int):Int:=if H0 s c=0∧s8 s row=0 then BQ s c row else 0
theorem Hb{s:A4}{row:List Int}(h:s8 s row=0):C5 s=0∧row.length=s.cols.length:=by
 unfold s8 at h
 by_cases h1:C5 s=0
 ·rw[if_pos h1]at h
  by_cases h2:KM s row=true
  ·unfold KM at h2
   simp only[Bool.and_eq_true,decide_eq_true_eq]at h2
   exact⟨h1,h2.1⟩
  ·rw[if_neg h2]at h;cases h
 ·rw[if_neg h1]at h;exact absurd h h1
theorem Fl{s:A4}(hr:C5 s=0){a:B0}(h:G7 s a=0):a.op=2→∃x lx,0≤a.col∧s.cols[a.col.toNat]?=some x∧0≤x.lst∧s.lists[x.lst.toNat]?=some lx:=by
 intro h2
 obtain⟨_,_,p3,p4,_⟩:=Ce h
 have hc:=p3 (.inl h2)
 obtain⟨hk,_⟩:=p4 h2
 obtain⟨x,hx⟩:∃x,s.cols[a.col.toNat]?=some x:=⟨_,List.getElem?_eq_getElem (by omega)⟩
 rw[C0 hx]at hk
 have hl:=AP.lst hr (List.mem_of_getElem? hx) hk
 exact⟨x,_,hc.1,hx,hl.1,List.getElem?_eq_getElem (by omega)⟩
end Go.Proofs.YtiphlhoclaogjaaGreatDoor
