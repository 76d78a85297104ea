/- Chapter 5: the program's check of a condition. Chapter 5: the program's check of a condition and of all in it. Chapter 5: truth values, the conditions about one column, and which picks cover others. Chapter 5: which picks cover others. Chapter 5: the first error of one condition, case by case. -/
import Derived.Test.YtjkbhaaobhgkdabGreatDoorRCd1
set_option linter.unusedVariables false
set_option linter.unnecessarySimpa false
set_option linter.unusedSimpArgs false
set_option maxHeartbeats 64000000
namespace Go.Proofs.YtjkbhaaobhgkdabGreatDoor
open Go Go.Av
attribute [local irreducible] D0 B0 D2 C7 DQ D1 C8 St.le A3 B6
set_option maxRecDepth 100000
def G4(s:A4)(c:B1):Int :=
 if c.op<1∨7<c.op then 4 else if (c.kids.length:Int)≠U0 c.op∨¬(¬(c.op≠2∧c.op≠3∧c.op≠4∧c.col≠0)∧¬(c.op≠2∧c.code≠0)∧(c.op=3∨c.lo=0∧c.hi=0))then 11 else if c.op≠2∧c.op≠3∧c.op≠4 then 0 else
 if c.col<0∨(s.cols.length:Int)≤c.col then 7 else
 if c.op=2 then (if (B4 s c.col).kind≠2 then 7 else if c.code<0∨((C1 s (B4 s c.col)).2.length:Int)≤c.code then 6 else 0)
 else if c.op=3 then (if (B4 s c.col).kind≠3 then 7 else if c.hi<c.lo∨c.lo < -1000000∨1000000<c.hi then 2 else 0)
 else (if (B4 s c.col).kind≠3∨(B4 s c.col).opt=false then 7 else 0)
theorem RD(s:A4)(c:B1)(hr:C5 s=0):A3 Tryz.prog 174 [sA s,E7 c] (.i (G4 s c)):=by
 have hk:=YJ c.op
 have hu:=TD c
 rw[F8]
 refine C0 Tryz.func174 113 fun nQ E h0=>?_
 have nO:c.kids.length≤9223372036854775807:=by
  have:=((nQ _ (List.mem_cons_of_mem _ (List.mem_cons_self ..))).agg (.sl 6 (c.kids.map K2)) (by simp)).sl
  simpa using this
 clear nQ
 rw[F8]at hu
 have oq:∀x,s.cols[c.col.toNat]?=some x→x.kind=2→0≤x.lst∧x.lst<s.lists.length:=fun x hx h2=>by
  have:=Ap.lst hr (List.mem_of_getElem? hx) h2
  omega
 repeat'((first|refine A1 hk ?_|refine A1 hu ?_|(refine n9 ?_ ?_ (fun lx ol=>?_);(have:=oq _ (by assumption) (by omega);omega);(have:=oq _ (by assumption) (by omega);omega))|(refine B8 ?_ ?_;kernel_rfl) |refine S2 ?_|(refine T6 ?_ ?_<;>intro h<;>try exact V1 h)|intro el nN nP|intro el nN|exact T4|refine T5 ?_ ?_|intro ex)<;>try conv=>whnf)
 all_goals first
  |(refine A0 rfl (congrArg AV.i ?_);unfold G4;(repeat' split)<;>omega)
  |(refine A0 rfl (congrArg AV.i ?_);unfold G4;rw[B7 nN];(repeat' split)<;>omega)
  |(refine A0 rfl (congrArg AV.i ?_);unfold G4;rw[B7 nN,I7 ol];(repeat' split)<;>omega)
  |(refine A0 rfl (congrArg AV.i ?_);unfold G4;rw[B7 nN];(repeat' split)<;>first|rfl|(exfalso;omega)|(exfalso;simp_all;done))
mutual
def R2:B1→Nat
 |.mk _ _ _ _ _ ks=>Y3 ks+1
def Y3:List B1→Nat
 |[]=>0
 |x::r=>R2 x+Y3 r
end
theorem Db(c:B1):R2 c=Y3 c.kids+1:=by cases c;rfl
theorem WV:∀(l:List B1) (m n:Int),n≤AK l m n
 |[],m,n=>by unfold AK;omega
 |x::r,m,n=>by
  unfold AK
  split
  ·omega
  ·have h1:=Kb x (m-n)
   have h2:=WV r m (n+AJ x (m-n))
   omega
theorem iD(c:B1):∀m:Int,(AJ c m≤m→(R2 c:Int)=AJ c m)∧((R2 c:Int)≤m→AJ c m=R2 c):=by
 refine N9 (p:=fun c=>∀m:Int,(AJ c m≤m→(R2 c:Int)=AJ c m)∧((R2 c:Int)≤m→AJ c m=R2 c)) (fun c ih m=>?_) c
 have key:∀(l:List B1),(∀k∈l,k∈c.kids)→∀n:Int,(AK l m n≤m→AK l m n=n+Y3 l)∧(n+Y3 l≤m→AK l m n=n+Y3 l):=by
  intro l
  induction l with
  |nil=>intro _ n;unfold AK Y3;exact⟨fun _=>by omega,fun _=>by omega⟩
  |cons x r sJ =>
   intro hl n
   obtain⟨i1,i2⟩:=ih x (hl x (by simp)) (m-n)
   obtain⟨j1,j2⟩:=sJ (fun k hk=>hl k (by simp[hk])) (n+AJ x (m-n))
   have px:=WV r m (n+AJ x (m-n))
   have sI:=Kb x (m-n)
   unfold AK Y3
   by_cases h:m<n
   ·rw[if_pos h]
    exact⟨fun h2=>by omega,fun h2=>by omega⟩
   ·rw[if_neg h]
    refine⟨fun h2=>?_,fun h2=>?_⟩
    ·rw[j1 h2]
     have:=i1 (by omega)
     omega
    ·have:=i2 (by omega)
     rw[this]at j2 ⊢
     rw[j2 (by omega)]
     omega
 obtain⟨k1,k2⟩:=key c.kids (fun k hk=>hk) 1
 rw[Oo,Db]
 exact⟨fun h=>by have:=k1 h;omega,fun h=>by have:=k2 (by omega);omega⟩
theorem WW(c:B1):R7 c≤R2 c:=by
 refine N9 (p:=fun c=>R7 c≤R2 c) (fun c ih=>?_) c
 have key:∀(l:List B1),(∀k∈l,k∈c.kids)→∀n:Nat,W9 l n≤max n (Y3 l):=by
  intro l
  induction l with
  |nil=>intro _ n;unfold W9;omega
  |cons x r sJ =>
   intro hl n
   have h1:=ih x (hl x (by simp))
   have h2:=sJ (fun k hk=>hl k (by simp[hk])) (max n (R7 x))
   unfold W9 Y3
   omega
 have:=key c.kids (fun k hk=>hk) 0
 rw[Gt,Db]
 omega
mutual
def X0(s:A4):B1→Int
 |.mk o c k l h ks=>if G4 s (.mk o c k l h ks)=0 then Y4 s ks else G4 s (.mk o c k l h ks)
def Y4(s:A4):List B1→Int
 |[]=>0
 |x::r=>if X0 s x=0 then Y4 s r else X0 s x
end
theorem Ez(s:A4)(c:B1):X0 s c=if G4 s c=0 then Y4 s c.kids else G4 s c:=by cases c;rfl
theorem RE(s:A4)(hr:C5 s=0)(c:B1):A3 Tryz.prog 137 [sA s,E7 c] (.i (X0 s c)):=by
 refine N9 (p:=fun c=>A3 Tryz.prog 137 [sA s,E7 c] (.i (X0 s c))) (fun c ih=>?_) c
 have h1:=RD s c hr
 rw[F8]at h1 ⊢
 rw[Ez]
 refine C0 Tryz.func137 29 fun nQ E h0=>?_
 have nO:c.kids.length≤9223372036854775807:=by
  have:=((nQ _ (List.mem_cons_of_mem _ (List.mem_cons_self ..))).agg (.sl 6 (c.kids.map K2)) (by simp)).sl
  simpa using this
 clear nQ
 repeat'((first|refine A1 h1 ?_ |refine S2 ?_|(refine T6 ?_ ?_<;>intro h<;>try exact V1 h)|intro el nN nP|intro el nN|exact T4|refine T5 ?_ ?_|intro ex)<;>try conv=>whnf)
 all_goals first
  |exact A0 rfl (congrArg AV.i (by rw[if_neg (by assumption)]))
  |skip
 rw[if_pos (Decidable.of_not_not (by assumption))]
 refine B2 (ι:=Nat) (fun k=>⟨[(2,.ref 0 0),(16,.sl 6 (c.kids.map K2)),(17,.i c.kids.length),(18,.i k)],2,[(0,some (.box (sL s))),(1,some (.box (O4 c)))]⟩) (fun k=>k≤c.kids.length∧Y4 s c.kids=Y4 s (c.kids.drop k)) (fun k=>c.kids.length-k) 0 ⟨Nat.zero_le _,rfl⟩
  (A6 h0) (fun k hI=>?_)
 obtain⟨hk,hI⟩:=hI
 repeat'((first|(refine A1 (ih _ (List.mem_of_getElem? (by assumption))) ?_) |refine S2 ?_|(refine T6 ?_ ?_<;>intro h<;>try exact V1 h)|intro el nN nP|intro el nN|exact T4|refine T5 ?_ ?_|intro ex)<;>try conv=>whnf)
 all_goals first
  |exact A0 rfl (congrArg AV.i (by rw[hI,G6 nN,Y4,if_neg (by assumption)]))
  |exact A0 rfl (congrArg AV.i (by rw[hI,W4 (by assumption)];rfl))
  |exact⟨k+1,⟨by omega,by rw[hI,G6 nN,Y4,if_pos (Decidable.of_not_not (by assumption))]⟩,by omega,A6 h0⟩
def J6(s:A4)(c:B1):Int:=if C5 s=0 then (if 40<R2 c then 1 else if 10<R7 c then 22 else X0 s c)else C5 s
theorem AE(s:A4)(c:B1):A3 Tryz.prog 101 [sA s,E7 c] (.i (J6 s c)):=by
 have h1:=Y7 s
 have h2:=VR c 40 (by omega) (by omega)
 have h3:(R2 c:Int)≤40→A3 Tryz.prog 136 [E7 c] (.i (R7 c)):=fun h=>YI c (by have:=WW c;omega)
 have h4:=fun hr=>RE s hr c
 obtain⟨t1,t2⟩:=iD c 40
 rw[F8]at *
 refine C0 Tryz.func101 23 fun nQ E h0=>?_
 clear nQ
 unfold J6
 repeat'((first|refine A1 h1 ?_|refine A1 h2 ?_|refine A1 (h3 (by omega)) ?_|refine A1 (h4 (Decidable.of_not_not (by assumption))) ?_ |refine S2 ?_|(refine T6 ?_ ?_<;>intro h<;>try exact V1 h)|intro el nN nP|intro el nN|exact T4|refine T5 ?_ ?_|intro ex)<;>try conv=>whnf)
 all_goals first
  |exact A0 rfl (congrArg AV.i (by rw[if_neg (by assumption)]))
  |exact A0 rfl (congrArg AV.i (by rw[if_pos (Decidable.of_not_not (by assumption)),if_pos (by omega)]))
  |exact A0 rfl (congrArg AV.i (by rw[if_pos (Decidable.of_not_not (by assumption)),if_neg (by omega),if_pos (by omega)]))
  |exact A0 rfl (congrArg AV.i (by rw[if_pos (Decidable.of_not_not (by assumption)),if_neg (by omega),if_neg (by omega)]))
def GW(b:Bool):Int:=if b=true then 1 else -1
theorem LM(b:Bool):A3 Tryz.prog 204 [.b b] (.i (GW b)):=by
 refine C0 Tryz.func204 4 fun nQ E h0=>?_
 clear nQ
 repeat'((first|refine S2 ?_|(refine T6 ?_ ?_<;>intro h<;>try exact V1 h)|intro el nN nP|intro el nN|exact T4|refine T5 ?_ ?_|intro ex)<;>try conv=>whnf)
 all_goals exact A0 rfl (congrArg AV.i (by rw[h];rfl))
def R3(s:A4)(c:B1)(v:Int):Int :=
 if c.op=2 then GW (T0 (C1 s (B4 s c.col)).1 (C1 s (B4 s c.col)).2 v c.code)else if c.op=4 then GW (decide (v=(-1099511627776)))else if v=(-1099511627776)then 0 else GW (decide (c.lo≤v∧v≤c.hi))
theorem Nh(s:A4)(c:B1)(v:Int)(h2:c.op=2→∃x lx,0≤c.col∧s.cols[c.col.toNat]?=some x∧0≤x.lst∧s.lists[x.lst.toNat]?=some lx):A3 Tryz.prog 182 [sA s,E7 c,.i v] (.i (R3 s c v)):=by
 rw[F8]
 refine C0 Tryz.func182 48 fun nQ E h0=>?_
 obtain⟨om,oF,pV⟩:=W7 (s:=s) (nQ _ (by simp))
 clear nQ
 unfold R3
 by_cases pd:c.op=2
 ·obtain⟨x,lx,g0,g1,g2,g3⟩:=h2 pd
  rw[if_pos pd,B7 g1,I7 g3]
  have yL:=Xz lx.1 lx.2 v c.code (pV lx (List.mem_of_getElem? g3))
  have wv:=LM (T0 lx.1 lx.2 v c.code)
  repeat'((first|(refine A2 (x:=x) g1 (by omega) ?_)|(refine A2 (x:=lx) g3 (by omega) ?_)|refine A1 yL ?_|refine A1 wv ?_|(refine B8 ?_ ?_;kernel_rfl) |refine S2 ?_|(refine T6 ?_ ?_<;>intro h<;>try exact V1 h)|intro el nN nP|intro el nN|exact T4|refine T5 ?_ ?_|intro ex)<;>try conv=>whnf)
  all_goals first
   |exact A0 rfl rfl
 ·rw[if_neg pd]
  have wv:=LM
  repeat'((first|refine A1 (wv _) ?_|(refine B8 ?_ ?_;kernel_rfl) |refine S2 ?_|(refine T6 ?_ ?_<;>intro h<;>try exact V1 h)|intro el nN nP|intro el nN|exact T4|refine T5 ?_ ?_|intro ex)<;>try conv=>whnf)
  all_goals first
   |(rw[if_pos (by assumption)];exact A0 rfl rfl)
   |(rw[if_neg (by assumption),if_pos (by assumption)];exact A0 rfl rfl)
   |(rw[if_neg (by assumption),if_neg (by assumption)];refine A0 rfl (congrArg (fun z=>AV.i (GW z)) ?_);first|(rw[decide_eq_decide];omega)|(rw[eq_comm,decide_eq_false_iff_not];omega))
mutual
def Y5:B1→List B1
 |.mk o c k l h ks=>if o=2∨o=3∨o=4 then [.mk o c k l h ks]else X3 ks
def X3:List B1→List B1
 |[]=>[]
 |x::r=>Y5 x++X3 r
end
theorem FA(c:B1):Y5 c=if c.op=2∨c.op=3∨c.op=4 then [c]else X3 c.kids:=by
 cases c;rfl
theorem Fy(l:List B1)(k:Nat){x:B1}(h:l[k]?=some x):X3 (l.take (k+1))=X3 (l.take k)++Y5 x:=by
 rw[I3 h]
 generalize l.take k=m
 induction m with
 |nil=>simp[X3]
 |cons a r ih=>simp only[List.cons_append,X3,ih,List.append_assoc]
theorem Gu(c:B1):(Y5 c).length≤R2 c:=by
 refine N9 (p:=fun c=>(Y5 c).length≤R2 c) (fun c ih=>?_) c
 have key:∀(l:List B1),(∀k∈l,k∈c.kids)→(X3 l).length≤Y3 l:=by
  intro l
  induction l with
  |nil=>intro _;simp[X3,Y3]
  |cons x r sJ =>
   intro hl
   have h1:=ih x (hl x (by simp))
   have h2:=sJ (fun k hk=>hl k (by simp[hk]))
   unfold X3 Y3
   rw[List.length_append];omega
 rw[FA,Db]
 split
 ·simp
 ·have:=key c.kids (fun k hk=>hk);omega
theorem He{l:List B1}:∀k∈l,R2 k≤Y3 l:=by
 induction l with
 |nil=>intro k hk;cases hk
 |cons x r ih =>
  intro k hk
  unfold Y3
  rcases List.mem_cons.1 hk with rfl|hk
  ·omega
  ·have:=ih k hk;omega
theorem JS(l:List B1)(k:Nat):(X3 (l.take k)).length≤Y3 l:=by
 induction l generalizing k with
 |nil=>simp[X3]
 |cons x r ih =>
  cases k with
  |zero=>simp[X3]
  |succ k =>
   have h1:=ih k
   have h2:=Gu x
   simp only[List.take_succ_cons,X3,Y3,List.length_append]
   omega
theorem VS(c:B1):R2 c≤100000→A3 Tryz.prog 153 [E7 c] (.sl 6 ((Y5 c).map K2)):=by
 refine N9 (p:=fun c=>R2 c≤100000→A3 Tryz.prog 153 [E7 c] (.sl 6 ((Y5 c).map K2))) (fun c ih ht=>?_) c
 rw[Db]at ht
 rw[F8,FA]
 refine C0 Tryz.func153 34 fun nQ E h0=>?_
 have nO:c.kids.length≤9223372036854775807:=by
  have:=((nQ _ (List.mem_cons_self ..)).agg (.sl 6 (c.kids.map K2)) (by simp)).sl
  simpa using this
 clear nQ
 repeat'((first|refine S2 ?_|(refine T6 ?_ ?_<;>intro h<;>try exact V1 h)|intro el nN nP|intro el nN|exact T4|refine T5 ?_ ?_|intro ex)<;>try conv=>whnf)
 all_goals first
  |(rw[if_pos (by omega)];refine A0 rfl ?_;rw[List.map_cons,K2,On];rfl)
  |skip
 rw[if_neg (by omega)]
 refine B2 (ι:=Nat) (fun k=>⟨[(3,.row 1 0 (X3 (c.kids.take k)).length),(22,.sl 6 (c.kids.map K2)),(23,.i c.kids.length),(24,.i k)],2,[(0,some (.box (O4 c))),(1,some (.row 40 6 0 ((X3 (c.kids.take k)).map K2)))]⟩) (fun k=>k≤c.kids.length) (fun k=>c.kids.length-k) 0 (Nat.zero_le _)
  (C2 (K4 (d:=3) (e:=40) (sz:=6) rfl) (A8 h0 rfl ⟨rfl,rfl,rfl,rfl,trivial⟩ ⟨rfl,⟨0,rfl⟩,trivial⟩ rfl rfl rfl)) (fun k hk=>?_)
 have ob:=JS c.kids k
 repeat'((first|(refine A1 (ih _ (List.mem_of_getElem? (by assumption)) (by have:=He el (List.mem_of_getElem? nN);omega)) ?_)|(refine J4 ?_ ?_;(have q1:=Gu el;have q2:=He el (List.mem_of_getElem? nN);simp only[List.length_map];omega)) |refine S2 ?_|(refine T6 ?_ ?_<;>intro h<;>try exact V1 h)|intro el nN nP|intro el nN|exact T4|refine T5 ?_ ?_|intro ex)<;>try conv=>whnf)
 all_goals first
  |exact⟨k+1,by omega,by omega,A8 h0 rfl ⟨congrArg (fun z:Nat=>some (AV.row 1 0 z)) (by rw[Fy _ _ nN,List.length_append,List.length_map]),rfl,rfl,rfl,trivial⟩ ⟨rfl,⟨_,congrArg (C9.row 40 6 _) (by rw[Fy _ _ nN,List.map_append])⟩,trivial⟩ rfl rfl rfl⟩
  |exact A0 rfl (congrArg (fun z=>AV.sl 6 ((X3 z).map K2)) (DZ (by assumption)))
abbrev AL(n p:Pk):Bool:=decide (p.col=n.col∧n.lev≤p.lev)
def AM(l pu:List Pk):Bool:=!(pu.any fun n=>!(l.any (AL n)))
theorem af(l:List (Pk))(f:Nat)(caps:List AV)(p:(Pk)→Bool)(hf:∀x∈l,A3 Tryz.prog f ((fun x=>.agg (B5 x)) x::caps) (.b (p x))):A3 Tryz.prog 69 [.sl 2 (l.map B5),.fn f caps] (.i (E6 p l 0)):=by
 refine C0 Tryz.func69 19 fun nQ E h0=>?_
 have nO:l.length≤9223372036854775807:=by have:=(nQ (.sl 2 (l.map B5)) (by simp)).sl;simpa using this
 repeat'((first|refine S2 ?_|(refine T6 ?_ ?_<;>intro h<;>try exact V1 h)|intro el nN nP|intro el nN|exact T4|refine T5 ?_ ?_|intro ex)<;>try conv=>whnf)
 refine B2 (ι:=Nat) (fun k=>⟨[(0,.sl 2 (l.map B5)),(1,.fn f caps),(7,.i l.length),(8,.i k)],0,[]⟩) (fun k=>k≤l.length∧E6 p l 0=E6 p (l.drop k) k) (fun k=>l.length-k) 0 ⟨Nat.zero_le _,rfl⟩ (A6 h0) (fun k hI=>?_)
 obtain⟨hk,hI⟩:=hI
 repeat'((first|refine A1 (hf _ (List.mem_of_getElem? nN)) ?_ |refine S2 ?_|(refine T6 ?_ ?_<;>intro h<;>try exact V1 h)|intro el nN nP|intro el nN|exact T4|refine T5 ?_ ?_|intro ex)<;>try conv=>whnf)
 all_goals first
  |exact⟨k+1,⟨by omega,by rw[hI,G6 nN,E6,if_neg (by simp[h])];rfl⟩,by omega,A6 h0⟩
  |exact A0 rfl (congrArg AV.i (by rw[hI,G6 nN,E6,if_pos (by simp[h])]))
  |exact A0 rfl (congrArg AV.i (by rw[hI,show k=l.length by omega,List.drop_length];rfl))
theorem Ni(l:List (Pk))(f:Nat)(caps:List AV)(p:(Pk)→Bool)(hf:∀x∈l,A3 Tryz.prog f ((fun x=>.agg (B5 x)) x::caps) (.b (p x))):A3 Tryz.prog 56 [.sl 2 (l.map B5),.fn f caps] (.b (l.any p)):=by
 refine C0 Tryz.func56 9 fun nQ E h0=>?_
 have oV:=af l f caps p hf
 repeat'((first|refine A1 oV ?_ |refine S2 ?_|(refine T6 ?_ ?_<;>intro h<;>try exact V1 h)|intro el nN nP|intro el nN|exact T4|refine T5 ?_ ?_|intro ex)<;>try conv=>whnf)
 all_goals first
  |exact A0 rfl (congrArg AV.b (Bt p l 0 (by omega)))
theorem YL(n p:Pk):A3 Tryz.prog 58 [QJ p,.iptr (B5 n)] (.b (AL n p)):=by
 refine C0 Tryz.func58 16 fun nQ E h0=>?_
 clear nQ
 repeat'((first|refine S2 ?_|(refine T6 ?_ ?_<;>intro h<;>try exact V1 h)|intro el nN nP|intro el nN|exact T4|refine T5 ?_ ?_|intro ex)<;>try conv=>whnf)
 all_goals first
  |exact A0 rfl (congrArg AV.b (by unfold AL;rw[decide_eq_decide];omega))
  |exact A0 rfl (congrArg AV.b (by unfold AL;rw[decide_eq_false (by omega)]))
theorem ah(n:Pk)(l:List Pk):A3 Tryz.prog 57 [QJ n,.iptr [.sl 2 (l.map B5)]] (.b (!(l.any (AL n)))):=by
 have oJ:=Ni l 58 [.iptr (B5 n)] (AL n) (fun x _=>YL n x)
 refine C0 Tryz.func57 8 fun nQ E h0=>?_
 clear nQ
 repeat'((first|refine I6 0 ?_|refine A1 oJ ?_ |refine S2 ?_|(refine T6 ?_ ?_<;>intro h<;>try exact V1 h)|intro el nN nP|intro el nN|exact T4|refine T5 ?_ ?_|intro ex)<;>try conv=>whnf)
 all_goals exact A0 rfl rfl
theorem Be(l pu:List Pk):A3 Tryz.prog 21 [.sl 2 (l.map B5),.sl 2 (pu.map B5)] (.b (AM l pu)):=by
 have oJ:=Ni pu 57 [.iptr [.sl 2 (l.map B5)]] (fun n=>!(l.any (AL n))) (fun x _=>ah x l)
 refine C0 Tryz.func21 9 fun nQ E h0=>?_
 clear nQ
 repeat'((first|refine I6 0 ?_|refine A1 oJ ?_ |refine S2 ?_|(refine T6 ?_ ?_<;>intro h<;>try exact V1 h)|intro el nN nP|intro el nN|exact T4|refine T5 ?_ ?_|intro ex)<;>try conv=>whnf)
 all_goals exact A0 rfl rfl
theorem Ot(op:Int):(op=5∨op=6→U0 op=2)∧(op=7→U0 op=1)∧(op≠5→op≠6→op≠7→U0 op=0):=by
 unfold U0
 refine⟨fun h=>by rw[if_pos h],fun h=>by rw[if_neg (by omega),if_pos h],fun h1 h2 h3=>by rw[if_neg (by omega),if_neg h3]⟩
theorem kZ{s:A4}{c:B1}(h:c.op<1∨7<c.op):G4 s c=4:=by unfold G4;rw[if_pos h]
theorem iE{s:A4}{c:B1}(h0:1≤c.op∧c.op≤7)(h:(c.kids.length:Int)≠U0 c.op∨¬(¬(c.op≠2∧c.op≠3∧c.op≠4∧c.col≠0)∧¬(c.op≠2∧c.code≠0)∧(c.op=3∨c.lo=0∧c.hi=0))):G4 s c=11:=by unfold G4;rw[if_neg (by omega),if_pos h]
theorem iF{s:A4}{c:B1}(hp:(1≤c.op∧c.op≤7)∧(c.kids.length:Int)=U0 c.op∧¬(c.op≠2∧c.op≠3∧c.op≠4∧c.col≠0)∧¬(c.op≠2∧c.code≠0)∧(c.op=3∨c.lo=0∧c.hi=0))(h2:c.op=2)(h:¬(0≤c.col∧c.col<s.cols.length∧(B4 s c.col).kind=2)):G4 s c=7:=by
 unfold G4
 rw[if_neg (by omega),if_neg (by omega),if_neg (by omega)]
 by_cases h3:c.col<0∨(s.cols.length:Int)≤c.col
 ·rw[if_pos h3]
 ·rw[if_neg h3,if_pos h2,if_pos (by omega)]
theorem iG{s:A4}{c:B1}(hp:(1≤c.op∧c.op≤7)∧(c.kids.length:Int)=U0 c.op∧¬(c.op≠2∧c.op≠3∧c.op≠4∧c.col≠0)∧¬(c.op≠2∧c.code≠0)∧(c.op=3∨c.lo=0∧c.hi=0))(h2:c.op=3)(h:¬(0≤c.col∧c.col<s.cols.length∧(B4 s c.col).kind=3)):G4 s c=7:=by
 unfold G4
 rw[if_neg (by omega),if_neg (by omega),if_neg (by omega)]
 by_cases h3:c.col<0∨(s.cols.length:Int)≤c.col
 ·rw[if_pos h3]
 ·rw[if_neg h3,if_neg (by omega),if_pos h2,if_pos (by omega)]
theorem iH{s:A4}{c:B1}(hp:(1≤c.op∧c.op≤7)∧(c.kids.length:Int)=U0 c.op∧¬(c.op≠2∧c.op≠3∧c.op≠4∧c.col≠0)∧¬(c.op≠2∧c.code≠0)∧(c.op=3∨c.lo=0∧c.hi=0))(h2:c.op=4)(h:¬(0≤c.col∧c.col<s.cols.length∧(B4 s c.col).kind=3)):G4 s c=7:=by
 unfold G4
 rw[if_neg (by omega),if_neg (by omega),if_neg (by omega)]
 by_cases h3:c.col<0∨(s.cols.length:Int)≤c.col
 ·rw[if_pos h3]
 ·rw[if_neg h3,if_neg (by omega),if_neg (by omega),if_pos (by omega)]
theorem dl{s:A4}{c:B1}(hp:(1≤c.op∧c.op≤7)∧(c.kids.length:Int)=U0 c.op∧¬(c.op≠2∧c.op≠3∧c.op≠4∧c.col≠0)∧¬(c.op≠2∧c.code≠0)∧(c.op=3∨c.lo=0∧c.hi=0))(h2:c.op=4){x:D4}(hx:s.cols[c.col.toNat]?=some x)(h:x.opt=false):G4 s c=7:=by
 unfold G4
 rw[if_neg (by omega),if_neg (by omega),if_neg (by omega),B7 hx]
 by_cases h3:c.col<0∨(s.cols.length:Int)≤c.col
 ·rw[if_pos h3]
 ·rw[if_neg h3,if_neg (by omega),if_neg (by omega),if_pos (.inr h)]
theorem aj{s:A4}{c:B1}(hp:(1≤c.op∧c.op≤7)∧(c.kids.length:Int)=U0 c.op∧¬(c.op≠2∧c.op≠3∧c.op≠4∧c.col≠0)∧¬(c.op≠2∧c.code≠0)∧(c.op=3∨c.lo=0∧c.hi=0))(h2:c.op=2)(h:0≤c.col∧c.col<s.cols.length∧(B4 s c.col).kind=2)(h3:c.code<0∨((C1 s (B4 s c.col)).2.length:Int)≤c.code):G4 s c=6:=by
 unfold G4
 rw[if_neg (by omega),if_neg (by omega),if_neg (by omega),if_neg (by omega),if_pos h2,if_neg (by omega),if_pos h3]
theorem kc{s:A4}{c:B1}(hp:(1≤c.op∧c.op≤7)∧(c.kids.length:Int)=U0 c.op∧¬(c.op≠2∧c.op≠3∧c.op≠4∧c.col≠0)∧¬(c.op≠2∧c.code≠0)∧(c.op=3∨c.lo=0∧c.hi=0))(h2:c.op=3)(h:0≤c.col∧c.col<s.cols.length∧(B4 s c.col).kind=3)(h3:c.hi<c.lo∨c.lo < -1000000∨1000000<c.hi):G4 s c=2:=by
 unfold G4
 rw[if_neg (by omega),if_neg (by omega),if_neg (by omega),if_neg (by omega),if_neg (by omega),if_pos h2,if_neg (by omega),if_pos h3]
theorem Kc{s:A4}{c:B1}(hp:(1≤c.op∧c.op≤7)∧(c.kids.length:Int)=U0 c.op∧¬(c.op≠2∧c.op≠3∧c.op≠4∧c.col≠0)∧¬(c.op≠2∧c.code≠0)∧(c.op=3∨c.lo=0∧c.hi=0))(h2:c.op≠2∧c.op≠3∧c.op≠4):G4 s c=0:=by
 unfold G4
 rw[if_neg (by omega),if_neg (by omega),if_pos h2]
theorem WX{s:A4}{c:B1}(hp:(1≤c.op∧c.op≤7)∧(c.kids.length:Int)=U0 c.op∧¬(c.op≠2∧c.op≠3∧c.op≠4∧c.col≠0)∧¬(c.op≠2∧c.code≠0)∧(c.op=3∨c.lo=0∧c.hi=0))(h2:c.op=2)(h:0≤c.col∧c.col<s.cols.length∧(B4 s c.col).kind=2)(h3:¬(c.code<0∨((C1 s (B4 s c.col)).2.length:Int)≤c.code)):G4 s c=0:=by
 unfold G4
 rw[if_neg (by omega),if_neg (by omega),if_neg (by omega),if_neg (by omega),if_pos h2,if_neg (by omega),if_neg h3]
theorem WY{s:A4}{c:B1}(hp:(1≤c.op∧c.op≤7)∧(c.kids.length:Int)=U0 c.op∧¬(c.op≠2∧c.op≠3∧c.op≠4∧c.col≠0)∧¬(c.op≠2∧c.code≠0)∧(c.op=3∨c.lo=0∧c.hi=0))(h2:c.op=3)(h:0≤c.col∧c.col<s.cols.length∧(B4 s c.col).kind=3)(h3:¬(c.hi<c.lo∨c.lo < -1000000∨1000000<c.hi)):G4 s c=0:=by
 unfold G4
 rw[if_neg (by omega),if_neg (by omega),if_neg (by omega),if_neg (by omega),if_neg (by omega),if_pos h2,if_neg (by omega),if_neg h3]
theorem WZ{s:A4}{c:B1}(hp:(1≤c.op∧c.op≤7)∧(c.kids.length:Int)=U0 c.op∧¬(c.op≠2∧c.op≠3∧c.op≠4∧c.col≠0)∧¬(c.op≠2∧c.code≠0)∧(c.op=3∨c.lo=0∧c.hi=0))(h2:c.op=4)(h:0≤c.col∧c.col<s.cols.length∧(B4 s c.col).kind=3){x:D4}(hx:s.cols[c.col.toNat]?=some x)(ho:x.opt=true):G4 s c=0:=by
 unfold G4
 rw[B7 hx]at *
 rw[if_neg (by omega),if_neg (by omega),if_neg (by omega),if_neg (by omega),if_neg (by omega),if_neg (by omega),if_neg (by rw[ho];intro h9;rcases h9 with h9|h9;exact h9 h.2.2;cases h9)]
end Go.Proofs.YtjkbhaaobhgkdabGreatDoor
