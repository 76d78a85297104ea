/- Chapter 5: which level suffices for a condition about one column. Chapter 5: what a condition needs, as a list of picks; picks raised. Chapter 5: the program's needs of a condition. Chapter 5: the program's truth values for rows. -/
import Derived.Test.YtiphlhoclaogjaaGreatDoorSCm2
import Derived.Test.YtiphlhoclaogjaaGreatDoorSSx
set_option linter.unusedVariables false
set_option linter.unnecessarySimpa false
set_option linter.unusedSimpArgs false
set_option maxHeartbeats 64000000
namespace Go.Proofs.YtiphlhoclaogjaaGreatDoor
open Go Go.Av
attribute [local irreducible] C7 B2 D3 C9 DQ D0 C8 St.le A3 B9
set_option maxRecDepth 100000
theorem VA(c:D4)(level:Int)(h1:1≤level)(h2:level≤c.widths.length):A3 Tryz.prog 221 [S9 c,.i level] (.i (A7 c level)):=by
 refine B6 Tryz.func221 14 fun lW E h0=>?_
 have lX:c.widths.length≤9223372036854775807:=by
  have:=((lW (S9 c) (by simp)).agg (.sl 1 (c.widths.map wA)) (by simp)).sl
  simpa using this
 clear lW
 repeat'((first|refine S2 ?_|(refine T6 ?_ ?_<;>intro h<;>try exact V1 h)|intro el lU lV|intro el lU|exact T4|refine T5 ?_ ?_|intro ex)<;>try conv=>whnf)
 all_goals exact A0 rfl (congrArg AV.i (E4 lU).symm)
theorem Nd(n w:Int)(hw:1≤w)(vr:w≤1000000)(h1:-4000000000000≤n)(h2:n≤4000000000000):A3 Tryz.prog 222 [.i n,.i w] (.i (C5 n w)):=by
 refine B6 Tryz.func222 17 fun lW E h0=>?_
 have hm:=Fq n hw
 have hb:=Of n hw
 clear lW
 repeat'((first|refine S2 ?_|(refine T6 ?_ ?_<;>intro h<;>try exact V1 h)|intro el lU lV|intro el lU|exact T4|refine T5 ?_ ?_|intro ex)<;>try conv=>whnf)
 all_goals first
  |(refine A0 rfl (congrArg AV.i ?_);unfold C5;omega)
theorem q9{s:A4}(hr:C3 s=0){a:B1}(ha:H9 s a=0)(ho:a.op=2∨a.op=3∨a.op=4):∃x,s.cols[a.col.toNat]?=some x∧1≤a.col∧a.col<s.cols.length∧(a.op=2→x.kind=2∧0≤x.lst∧x.lst<s.lists.length∧E5 s a.col=C4 (C2 s x).1 (C2 s x).2-1)∧(a.op≠2→x.kind=3∧meaE x=0∧E5 s a.col=x.widths.length)∧(a.op=3→a.lo≤a.hi∧-1000000≤a.lo∧a.hi≤1000000)∧(a.op=4→x.opt=true):=by
 obtain⟨p1,p2,p3,p4,p5,p6⟩:=AJ ha
 have hc:=p3 ho
 obtain⟨x,hx⟩:∃x,s.cols[a.col.toNat]?=some x:=⟨_,List.getElem?_eq_getElem (by omega)⟩
 have sq:=C1 hx
 rw[sq]at p4 p5 p6
 have np:x.kind≠1:=by
  intro h
  rcases ho with h2|h2|h2
  ·have:=(p4 h2).1;omega
  ·have:=(p5 h2).1;omega
  ·have:=(p6 h2).1;omega
 have h1:1≤a.col:=by
  by_cases h:a.col=0
  ·obtain⟨_,_,_,_,h5⟩:=D5 hr
   rw[h]at hx
   have:s.cols.head?=some x:=by rw[←hx];cases s.cols<;>rfl
   rw[this]at h5
   simp only[Option.map_some,Option.some.injEq]at h5
   exact absurd h5 np
  ·omega
 have hf:E5 s a.col=M7 s x:=by
  unfold E5
  rw[if_neg (by omega),sq]
 refine⟨x,hx,h1,hc.2,fun h2=>?_,fun h2=>?_,fun h3=>?_,fun h4=>(p6 h4).2⟩
 ·have hk:=(p4 h2).1
  have hl:=AY.lst hr (List.mem_of_getElem? hx) hk
  exact⟨hk,hl.1,hl.2,by rw[hf,M7,if_pos hk]⟩
 ·have hk:x.kind=3:=by
   rcases ho with h|h|h
   ·exact absurd h h2
   ·exact(p5 h).1
   ·exact(p6 h).1
  obtain⟨_,_,_,h4,_⟩:=D5 hr
  exact⟨hk,z6 (Y8 (h4 _ _ hx)).2.2.1 hk,by rw[hf,M7,if_neg (by omega)]⟩
 ·exact(p5 h3).2
theorem jJ{a:B1}{x:D4}(h1:x.low≤x.high)(h2:a.lo≤a.hi):GS a x 0↔x.opt=false∧(min a.hi x.high<max a.lo x.low∨(max a.lo x.low=x.low∧min a.hi x.high=x.high)):=by
 unfold GS
 rw[if_pos rfl]
 constructor
 ·intro h;exact⟨h.1,by omega⟩
 ·intro h;exact⟨h.1,by omega,by omega⟩
theorem jK{a:B1}{x:D4}{level:Int}(h1:x.low≤x.high)(h2:a.lo≤a.hi)(h0:¬level=0)(hw:1≤A7 x level):GS a x level↔min a.hi x.high<max a.lo x.low∨((max a.lo x.low=x.low∨C5 (max a.lo x.low) (A7 x level)=max a.lo x.low)∧(min a.hi x.high=x.high∨C5 (min a.hi x.high+1) (A7 x level)=min a.hi x.high+1)):=by
 unfold GS
 rw[if_neg h0]
 have t1:=JP (v:=a.lo) hw
 have t2:=JP (v:=a.hi+1) hw
 generalize A7 x level=w at *
 by_cases qQ:x.low<a.lo
 ·have e1:max a.lo x.low=a.lo:=by omega
  rw[e1,t1]
  by_cases hhi:a.hi<x.high
  ·have e2:min a.hi x.high=a.hi:=by omega
   rw[e2,t2]
   omega
  ·have e2:min a.hi x.high=x.high:=by omega
   rw[e2]
   omega
 ·have e1:max a.lo x.low=x.low:=by omega
  rw[e1]
  by_cases hhi:a.hi<x.high
  ·have e2:min a.hi x.high=a.hi:=by omega
   rw[e2,t2]
   omega
  ·have e2:min a.hi x.high=x.high:=by omega
   rw[e2]
   omega
theorem Xj(s:A4)(a:B1)(level:Int)(hr:C3 s=0)(ha:H9 s a=0)(h2:a.op=2):A3 Tryz.prog 181 [sA s,E0 a,.i level] (.b (X6 s a level)):=by
 obtain⟨x,hx,c1,c2,q2,_⟩:=q9 hr ha (.inl h2)
 obtain⟨hk,nL,mO,hf⟩:=q2 h2
 obtain⟨lx,mZ⟩:∃l,s.lists[x.lst.toNat]?=some l:=⟨_,List.getElem?_eq_getElem (by omega)⟩
 rw[QG h2 hx mZ]
 have oy:=fun v=>Na s a v (EE hr ha)
 rw[F7]at *
 refine B6 Tryz.func181 134 fun lW E h0=>?_
 obtain⟨_,_,nk⟩:=X3 (s:=s) (lW _ (by simp))
 clear lW
 have lX:=nk lx (List.mem_of_getElem? mZ)
 have sN:=n9 (nm:=lx.1) lX
 have mA:=AH lx.1 lx.2 (C4 lx.1 lx.2-1)
 have oO:=Du lx.1 lx.2 lX
 have sQ:=Gp lx.1 lx.2 (C4 lx.1 lx.2-1) lX
 have pm:=fun (leaf:Nat)=>KM lx.1 lx.2 leaf level lX
 generalize hL:K3 lx.1 lx.2 (C4 lx.1 lx.2-1)=L at sQ mA ⊢
 repeat'((first|(refine A2 (x:=x) hx (by omega) ?_)|(refine A2 (x:=lx) mZ (by omega) ?_)|refine A1 oO ?_|refine A1 sQ ?_|(refine B3 ?_ ?_;kernel_rfl) |refine S2 ?_|(refine T6 ?_ ?_<;>intro h<;>try exact V1 h)|intro el lU lV|intro el lU|exact T4|refine T5 ?_ ?_|intro ex)<;>try conv=>whnf)
 refine B0 (ι:=Nat) (fun k=>⟨[(2,.i level),(3,.ref 0 0),(4,.ref 1 0),(8,.ref 3 0),(9,.mp 4),(39,.sl 1 (L.map iA)),(40,.i L.length),(41,.i k)],5,[(0,some (.box (sL s))),(1,some (.box (M8 a))),(2,some (.box (X0 x))),(3,some (.box (AX lx))),(4,some (.map (Bb (fun v=>L2 lx.1 lx.2 v level) (fun v=>M1 s a v) L k)))]⟩)
  (fun k=>k≤L.length∧DB (fun v=>L2 lx.1 lx.2 v level) (fun v=>M1 s a v) (L.take k)) (fun k=>L.length-k) 0 ⟨Nat.zero_le _,fun x hx=>by simp at hx⟩
  (A6 h0) (fun k hI=>?_)
 obtain⟨nr,hI⟩:=hI
 repeat'((first|refine A1 (pm _) ?_|refine A1 (oy _) ?_|(refine I4 ?_ ?_;exact Hg _ _ _ _)|refine RE (gE _ _ _ _ _) ?_|(refine B3 ?_ ?_;kernel_rfl) |refine S2 ?_|(refine T6 ?_ ?_<;>intro h<;>try exact V1 h)|intro el lU lV|intro el lU|exact T4|refine T5 ?_ ?_|intro ex)<;>try conv=>whnf)
 all_goals first
  |exact A0 rfl (congrArg AV.b (decide_eq_false (DB.not lU (by assumption) (by assumption))).symm)
  |exact A0 rfl (congrArg AV.b (decide_eq_true (by have e:=DZ h;rw[e]at hI;exact hI)).symm)
  |exact⟨k+1,⟨by omega,hI.step lU (fun _=>Decidable.of_not_not (by assumption))⟩,by omega,A9 h0 rfl ⟨rfl,rfl,rfl,rfl,rfl,rfl,rfl,rfl,trivial⟩ ⟨rfl,rfl,rfl,rfl,congrArg C6.map (Hf lU),trivial⟩ rfl rfl rfl⟩
  |exact⟨k+1,⟨by omega,hI.step lU (fun hh=>by rw[h]at hh;cases hh)⟩,by omega,A9 h0 rfl ⟨rfl,rfl,rfl,rfl,rfl,rfl,rfl,rfl,trivial⟩ ⟨rfl,rfl,rfl,rfl,congrArg C6.map (Hf lU),trivial⟩ rfl rfl rfl⟩
theorem Xk(s:A4)(a:B1)(level:Int)(hr:C3 s=0)(ha:H9 s a=0)(ho:a.op=3∨a.op=4)(xA:0≤level)(sf:level≤E5 s a.col):A3 Tryz.prog 181 [sA s,E0 a,.i level] (.b (X6 s a level)):=by
 obtain⟨x,hx,c1,c2,_,q2,q3,q4⟩:=q9 hr ha (.inr ho)
 obtain⟨hk,hm,hf⟩:=q2 (by omega)
 rw[hf]at sf
 have hp:=T0 hm
 have oK:¬level=0→1≤A7 x level∧A7 x level≤1000000:=fun h=>a7 hp.2.2.2.2.2 (by omega) sf
 have qG:¬level=0→A3 Tryz.prog 221 [S9 x,.i level] (.i (A7 x level)):=fun h=>VA x level (by omega) sf
 rw[F7]at *
 by_cases h4:a.op=4
 ·have qk:=q4 h4
  rw[Ln h4]
  refine B6 Tryz.func181 134 fun lW E h0=>?_
  clear lW
  repeat'((first|(refine A2 (x:=x) hx (by omega) ?_) |refine S2 ?_|(refine T6 ?_ ?_<;>intro h<;>try exact V1 h)|intro el lU lV|intro el lU|exact T4|refine T5 ?_ ?_|intro ex)<;>try conv=>whnf)
  all_goals first
   |exact absurd (qk.symm.trans (by assumption:x.opt=false)) (by decide)
   |exact A0 rfl (congrArg AV.b (decide_eq_true (by omega:0<level)).symm)
   |exact A0 rfl (congrArg AV.b (decide_eq_false (by omega:¬0<level)).symm)
 have h3:a.op=3:=by omega
 have xF:=q3 h3
 rw[Lo h3 hx]
 have sY:¬level=0→A3 Tryz.prog 222 [.i (max a.lo x.low),.i (A7 x level)] (.i (C5 (max a.lo x.low) (A7 x level))):=fun h=>Nd _ _ (oK h).1 (oK h).2 (by omega) (by omega)
 have qR:¬level=0→A3 Tryz.prog 222 [.i (min a.hi x.high+1),.i (A7 x level)] (.i (C5 (min a.hi x.high+1) (A7 x level))):=fun h=>Nd _ _ (oK h).1 (oK h).2 (by omega) (by omega)
 have pG:=jJ (a:=a) (x:=x) (by omega) xF.1
 have hm1:=fun h:¬level=0=>jK (a:=a) (x:=x) (level:=level) (by omega) xF.1 h (oK h).1
 refine B6 Tryz.func181 134 fun lW E h0=>?_
 clear lW
 repeat'((first|(refine A2 (x:=x) hx (by omega) ?_)|refine A1 (qG (by assumption)) ?_|refine A1 (sY (by assumption)) ?_|refine A1 (qR (by assumption)) ?_|(refine B3 ?_ ?_;kernel_rfl) |refine S2 ?_|(refine T6 ?_ ?_<;>intro h<;>try exact V1 h)|intro el lU lV|intro el lU|exact T4|refine T5 ?_ ?_|intro ex)<;>try conv=>whnf)
 all_goals first
  |(refine A0 rfl (congrArg AV.b ?_)
    have e0:level=0:=by assumption
    subst e0
    first
     |(rw[eq_comm,decide_eq_false_iff_not,pG];intro hh;first|omega|exact absurd (hh.1.symm.trans (by assumption:x.opt=true)) (by decide))
     |(rw[eq_comm,decide_eq_true_iff,pG];exact⟨by assumption,by omega⟩)
     |(rw[decide_eq_decide,pG];exact⟨fun z=>⟨by assumption,by omega⟩,fun z=>by have:=z.2;omega⟩))
  |(refine A0 rfl (congrArg AV.b ?_)
    have e0:¬level=0:=by assumption
    have pP:=hm1 e0
    first
     |(rw[eq_comm,decide_eq_false_iff_not,pP];omega)
     |(rw[eq_comm,decide_eq_true_iff,pP];omega)
     |(rw[decide_eq_decide,pP];omega))
theorem Xl{ws:List Int}(hne:ws.length≠0)(h:Q4 ws=true):ws.getD 0 0=1:=by
 cases ws with
 |nil=>exact absurd rfl hne
 |cons w r =>
  simp only[Q4,Bool.and_eq_true,decide_eq_true_eq]at h
  simpa using h.1
theorem WH{s:A4}(hr:C3 s=0){a:B1}(ha:H9 s a=0)(ho:a.op=2∨a.op=3∨a.op=4):X6 s a (E5 s a.col)=true∧0≤E5 s a.col:=by
 obtain⟨x,hx,c1,c2,q2,q3,q4,q5⟩:=q9 hr ha ho
 by_cases h2:a.op=2
 ·obtain⟨hk,nL,mO,hf⟩:=q2 h2
  obtain⟨lx,mZ⟩:∃l,s.lists[x.lst.toNat]?=some l:=⟨_,List.getElem?_eq_getElem (by omega)⟩
  rw[H8 mZ]at hf
  refine⟨?_,Oo hr c1 c2⟩
  rw[QG h2 hx mZ,hf]
  refine decide_eq_true fun u hu v hv e=>?_
  have ve:∀u∈K3 lx.1 lx.2 (C4 lx.1 lx.2-1),L2 lx.1 lx.2 u (C4 lx.1 lx.2-1)=u:=by
   intro u hu
   obtain⟨mT,vc,hd⟩:=On hu
   rw[←WG ⟨vc,mT,by omega,by omega⟩,show dep lx.2 u-(C4 lx.1 lx.2-1).toNat=0 by omega]
   rfl
  dsimp only at e
  rw[ve u hu,ve v hv]at e
  have:u=v:=by omega
  rw[this]
 ·obtain⟨hk,hm,hf⟩:=q3 h2
  have hp:=T0 hm
  refine⟨?_,by omega⟩
  by_cases h4:a.op=4
  ·rw[Ln h4,hf]
   exact decide_eq_true (by omega)
  ·rw[Lo (by omega) hx,hf]
   have hw:A7 x x.widths.length=1:=by
    unfold A7
    rw[show ((x.widths.length:Int)-x.widths.length).toNat=0 by omega]
    exact Xl (by omega) hp.2.2.2.2.2
   refine decide_eq_true ?_
   unfold GS
   rw[if_neg (by omega),hw]
   exact⟨fun _=>Int.tmod_one _,fun _=>Int.tmod_one _⟩
def JR(s:A4)(a:B1):Nat→Nat→Nat
 |0,n=>n
 |f+1,n=>if X6 s a n=true then n else JR s a f (n+1)
def BH(s:A4)(a:B1):Nat:=JR s a (E5 s a.col).toNat 0
theorem QH{s:A4}{a:B1}:∀(f n:Nat),X6 s a (n+f:Nat)=true→n≤JR s a f n∧JR s a f n≤n+f∧X6 s a (JR s a f n:Nat)=true∧∀i:Nat,n≤i→i<JR s a f n→X6 s a i=false
 |0,n,h=>⟨Nat.le_refl _,Nat.le_refl _,h,fun i h1 h2=>absurd h2 (by unfold JR;omega)⟩
 |f+1,n,h=>by
  unfold JR
  split
  ·rename_i h2
   exact⟨Nat.le_refl _,by omega,h2,fun i h1 h3=>by omega⟩
  ·rename_i h2
   obtain⟨i1,i2,i3,i4⟩:=QH f (n+1) (by rw[show n+1+f=n+(f+1) by omega];exact h)
   refine⟨by omega,by omega,i3,fun i h3 h4=>?_⟩
   by_cases e:i=n
   ·subst e;simpa using h2
   ·exact i4 i (by omega) h4
theorem QI{s:A4}(hr:C3 s=0){a:B1}(ha:H9 s a=0)(ho:a.op=2∨a.op=3∨a.op=4):(BH s a:Int)≤E5 s a.col∧X6 s a (BH s a)=true∧∀i:Nat,i<BH s a→X6 s a i=false:=by
 obtain⟨h1,h2⟩:=WH hr ha ho
 obtain⟨i1,i2,i3,i4⟩:=QH (s:=s) (a:=a) (E5 s a.col).toNat 0 (by rw[Nat.zero_add,Int.toNat_of_nonneg h2];exact h1)
 exact⟨by unfold BH;omega,i3,fun i hi=>i4 i (Nat.zero_le _) hi⟩
def L1(lv:Nat→Int)(lo:Nat):Nat→List Pk
 |0=>[]
 |n+1=>if 0<lv lo then ⟨lo,lv lo⟩::L1 lv (lo+1) n else L1 lv (lo+1) n
theorem a8(lv:Nat→Int)(lo n:Nat):L1 lv lo (n+1)=if 0<lv lo then ⟨lo,lv lo⟩::L1 lv (lo+1) n else L1 lv (lo+1) n:=rfl
theorem JS(lv:Nat→Int):∀(n lo:Nat),L1 lv lo (n+1)=L1 lv lo n++(if 0<lv (lo+n)then [⟨((lo+n:Nat):Int),lv (lo+n)⟩]else [])
 |0,lo=>by
  show (if 0<lv lo then [(⟨(lo:Int),lv lo⟩:Pk)]else [])=[]++(if 0<lv (lo+0)then [⟨((lo+0:Nat):Int),lv (lo+0)⟩]else [])
  rw[Nat.add_zero,List.nil_append]
 |n+1,lo=>by
  have ih:=JS lv n (lo+1)
  rw[show lo+1+n=lo+(n+1) by omega]at ih
  rw[a8 lv lo (n+1),a8 lv lo n,ih]
  split<;>simp
theorem Df{lv:Nat→Int}{p:Pk}:∀{n lo:Nat},p∈L1 lv lo n→(lo:Int)≤p.col∧p.col<(lo+n:Nat)∧p.lev=lv p.col.toNat∧0<p.lev
 |0,lo,h=>by simp[L1]at h
 |n+1,lo,h=>by
  unfold L1 at h
  split at h
  ·rcases List.mem_cons.1 h with rfl|h
   ·exact⟨Int.le_refl _,by dsimp only;omega,by simp,by assumption⟩
   ·obtain⟨h1,h2,h3⟩:=Df h
    exact⟨by omega,by omega,h3⟩
  ·obtain⟨h1,h2,h3⟩:=Df h
   exact⟨by omega,by omega,h3⟩
theorem Ag(lv:Nat→Int):∀(n lo:Nat),(L1 lv lo n).length≤n
 |0,lo=>Nat.le_refl _
 |n+1,lo=>by
  have:=Ag lv n (lo+1)
  unfold L1
  split
  ·rw[List.length_cons];omega
  ·omega
theorem Hi{f g:Nat→Int}:∀{n lo:Nat},(∀i,lo≤i→i<lo+n→f i=g i)→L1 f lo n=L1 g lo n
 |0,lo,_=>rfl
 |n+1,lo,h=>by
  unfold L1
  rw[h lo (Nat.le_refl _) (by omega),Hi (f:=f) (g:=g) (n:=n) (lo:=lo+1) fun i h1 h2=>h i (by omega) (by omega)]
def O4(col lev:Int):List Pk→Bool→List Pk→List Pk
 |[],dn,out=>if dn=true then out else out++[⟨col,lev⟩]
 |x::r,dn,out =>
  if col<x.col∧dn=false then O4 col lev r true (out++[⟨col,lev⟩]++[x])
  else if x.col=col then O4 col lev r true (out++[⟨x.col,max x.lev lev⟩])
  else O4 col lev r dn (out++[x])
def w5(l:List Pk)(col lev:Int):List Pk:=O4 col lev l (decide (lev≤0)) []
theorem Ed{col lev:Int}:∀(l out:List Pk),(∀x∈l,x.col≠col∨lev≤x.lev)→O4 col lev l true out=out++l
 |[],out,_=>by simp[O4]
 |x::r,out,h=>by
  have ih:=fun out=>Ed (col:=col) (lev:=lev) r out fun y hy=>h y (by simp[hy])
  unfold O4
  rw[if_neg (fun hh=>by cases hh.2)]
  split
  ·rename_i e
   have:lev≤x.lev:=by rcases h x (by simp)with h|h;exact absurd e h;exact h
   rw[ih,show max x.lev lev=x.lev by omega]
   simp
  ·rw[ih];simp
theorem aF{col lev:Int}(l out:List Pk)(h:∀x∈l,col<x.col):O4 col lev l false out=out++⟨col,lev⟩::l:=by
 cases l with
 |nil=>simp[O4]
 |cons x r =>
  unfold O4
  rw[if_pos ⟨h x (by simp),rfl⟩,Ed _ _ fun y hy=>.inl (by have:=h y (by simp[hy]);omega)]
  simp
def upd(lv:Nat→Int)(col lev:Int)(i:Nat):Int:=if col=i then max (lv i) lev else lv i
theorem JT{lv:Nat→Int}{col lev:Int}(hl:0<lev):∀(n lo:Nat) (out:List Pk),(lo:Int)≤col→col<(lo+n:Nat)→O4 col lev (L1 lv lo n) false out=out++L1 (upd lv col lev) lo n
 |0,lo,out,h1,h2=>by omega
 |n+1,lo,out,h1,h2=>by
  have oG:∀m:Nat,col<(m:Int)→L1 (upd lv col lev) m n=L1 lv m n:=fun m hm=>Hi fun i h3 h4=>by unfold upd;rw[if_neg (by omega)]
  by_cases e:col=lo
  ·have pm:upd lv col lev lo=max (lv lo) lev:=by unfold upd;rw[if_pos e]
   rw[show L1 (upd lv col lev) lo (n+1)=⟨lo,max (lv lo) lev⟩::L1 lv (lo+1) n by
    rw[a8,pm,if_pos (by omega),oG (lo+1) (by omega)]]
   rw[a8]
   by_cases h3:0<lv lo
   ·rw[if_pos h3,O4,if_neg (by dsimp only;omega),if_pos (by dsimp only;omega),Ed _ _ fun y hy=>.inl (by have:=(Df hy).1;omega)]
    simp
   ·rw[if_neg h3,aF _ _ fun y hy=>by have:=(Df hy).1;omega]
    rw[e,show max (lv lo) lev=lev by omega]
  ·have pm:upd lv col lev lo=lv lo:=by unfold upd;rw[if_neg e]
   rw[a8,a8,pm]
   by_cases h3:0<lv lo
   ·rw[if_pos h3,if_pos h3,O4,if_neg (by dsimp only;omega),if_neg (by dsimp only;omega),JT hl n (lo+1) _ (by omega) (by omega)]
    simp
   ·rw[if_neg h3,if_neg h3,JT hl n (lo+1) _ (by omega) (by omega)]
theorem aG{lv:Nat→Int}{col lev:Int}{n:Nat}(h1:0≤col)(h2:col<n)(hl:0≤lev)(hv:∀i,0≤lv i):w5 (L1 lv 0 n) col lev=L1 (upd lv col lev) 0 n:=by
 unfold w5
 by_cases h:lev≤0
 ·rw[decide_eq_true h,Ed _ _ fun y hy=>.inr (by have:=(Df hy).2.2.2;omega),List.nil_append]
  exact Hi fun i _ _=>by
   unfold upd
   have:=hv i
   split
   ·omega
   ·rfl
 ·rw[decide_eq_false h,JT (by omega) n 0 [] (by omega) (by omega),List.nil_append]
theorem QJ:∀(n lo:Nat),L1 (fun _=>(0:Int)) lo n=[]
 |0,_=>rfl
 |n+1,lo=>by rw[a8,if_neg (by omega),QJ n]
def At(s:A4)(l:List B1)(i:Nat):Int:=l.foldl (fun (m:Int) (a:B1)=>if a.col=(i:Int)then max m (BH s a:Int)else m) 0
theorem gG(s:A4):At s []=fun _=>0:=rfl
theorem co(s:A4)(l:List B1)(a:B1):At s (l++[a])=upd (At s l) a.col (BH s a):=by
 funext i
 unfold At upd
 rw[List.foldl_append]
 rfl
theorem TA{s:A4}{l:List B1}{k:Nat}{a:B1}(h:l[k]?=some a):At s (l.take (k+1))=upd (At s (l.take k)) a.col (BH s a):=by
 rw[H6 h,co]
theorem aH(s:A4)(i:Nat):∀l:List B1,0≤At s l i:=by
 have key:∀(l:List B1) (m:Int),0≤m→0≤l.foldl (fun (m:Int) (a:B1)=>if a.col=(i:Int)then max m (BH s a:Int)else m) m:=by
  intro l
  induction l with
  |nil=>intro m h;exact h
  |cons a r ih =>
   intro m h
   rw[List.foldl_cons]
   refine ih _ ?_
   split<;>omega
 exact fun l=>key l 0 (Int.le_refl _)
def K6(s:A4)(c:B1):List Pk:=if K7 s c=0 then L1 (At s (k0 c)) 0 s.cols.length else []
abbrev Nf:Nat:=81
def U3(f:Nat→Int)(n:Nat):List (List AV):=(List.range n).map fun i=>[AV.i (f i)]
theorem Hj{f:Nat→Int}{n k:Nat}(h:k<n):(U3 f n)[k]?=some [.i (f k)]:=by
 unfold U3
 rw[List.getElem?_map,List.getElem?_range h];rfl
theorem Lp{f:Nat→Int}{n k:Nat}{v:Int}:(U3 f n).set k [.i v]=U3 (fun i=>if k=i then v else f i) n:=by
 refine List.ext_getElem? fun i=>?_
 unfold U3
 rw[List.getElem?_set,List.getElem?_map,List.getElem?_map,List.length_map,List.length_range]
 by_cases h:i<n
 ·rw[List.getElem?_range h]
  by_cases e:k=i
  ·subst e;simp[h]
  ·simp[e]
 ·rw[List.getElem?_eq_none (by simpa using h)]
  by_cases e:k=i
  ·subst e;simp[h]
  ·simp[e]
theorem QK(n:Nat):List.replicate n [AV.i 0]=U3 (fun _=>0) n:=by
 unfold U3
 rw[List.map_const',List.length_range]
theorem cq{lv:Nat→Int}{n:Nat}{col lev:Int}(h:0≤col):(U3 lv n).set col.toNat [.i (max (lv col.toNat) lev)]=U3 (upd lv col lev) n:=by
 rw[Lp]
 unfold U3
 refine List.map_congr_left fun i _=>?_
 unfold upd
 dsimp only
 by_cases e:col.toNat=i
 ·subst e;rw[if_pos rfl,if_pos (by omega)]
 ·rw[if_neg e,if_neg (by omega)]
theorem aI(s:A4)(a:B1)(level:Int)(hr:C3 s=0)(ha:H9 s a=0)(ho:a.op=2∨a.op=3∨a.op=4)(h0:0≤level)(h1:level≤E5 s a.col):A3 Tryz.prog 181 [sA s,E0 a,.i level] (.b (X6 s a level)):=by
 by_cases h2:a.op=2
 ·exact Xj s a level hr ha h2
 ·exact Xk s a level hr ha (by omega) h0 h1
theorem GT(s:A4)(c:B1):A3 Tryz.prog 129 [sA s,E0 c] (.sl 2 ((K6 s c).map B4)):=by
 have mT:=Ae s c
 unfold K6
 by_cases qO:K7 s c=0
 ·rw[if_pos qO]
  obtain⟨hr,ht,hd,mz⟩:=o3 qO
  have tK:=Uy c (by omega)
  have lX:=Gr c
  have hn:=(D5 hr).2.1
  have qD:=Ft c mz
  rw[F7]at *
  generalize hA:k0 c=A at *
  refine B6 Tryz.func129 63 fun lW E h0=>?_
  clear lW
  repeat'((first|refine A1 mT ?_|refine A1 tK ?_ |refine S2 ?_|(refine T6 ?_ ?_<;>intro h<;>try exact V1 h)|intro el lU lV|intro el lU|exact T4|refine T5 ?_ ?_|intro ex)<;>try conv=>whnf)
  all_goals first
   |exact absurd qO (by assumption)
   |skip
  refine B0 (ι:=Nat) (fun k=>⟨[(2,.ref 0 0),(3,.ref 1 0),(5,.row 2 0 s.cols.length),(21,.sl 6 (A.map I6)),(22,.i A.length),(23,.i k)],3,[(0,some (.box (sL s))),(1,some (.box (M8 c))),(2,some (.row 3 1 0 (U3 (At s (A.take k)) s.cols.length)))]⟩)
   (fun k=>k≤A.length) (fun k=>A.length-k) 0 (Nat.zero_le _)
   (A9 h0 rfl ⟨rfl,rfl,rfl,rfl,rfl,rfl,trivial⟩ ⟨rfl,rfl,⟨0,congrArg (C6.row 3 1 0) (by rw[Int.toNat_natCast];exact(QK _).symm)⟩,trivial⟩ rfl rfl rfl) (fun k hk=>?_)
  have nz:=aH s
  by_cases lY:k<A.length
  ·obtain⟨el,lU⟩:∃el,A[k]?=some el:=⟨_,List.getElem?_eq_getElem lY⟩
   obtain⟨r1,r2⟩:=qD el (List.mem_of_getElem? lU)
   obtain⟨l1,l2,l3⟩:=QI hr r1 r2
   obtain⟨x,hx,c1,c2,_⟩:=q9 hr r1 r2
   have lu:=Hj (f:=At s (A.take k)) (n:=s.cols.length) (k:=el.col.toNat) (by omega)
   have lr:=Oh hr el.col
   repeat'((first|(refine A2 (x:=el) lU (by omega) ?_) |refine S2 ?_|(refine T6 ?_ ?_<;>intro h<;>try exact V1 h)|intro el lU lV|intro el lU|exact T4|refine T5 ?_ ?_|intro ex)<;>try conv=>whnf)
   all_goals first
    |(exfalso;omega)
    |skip
   refine B0 (ι:=Nat) (fun j=>⟨[(2,.ref 0 0),(3,.ref 1 0),(5,.row 2 0 s.cols.length),(7,.ref 3 0),(8,.i j),(21,.sl 6 (A.map I6)),(22,.i A.length),(23,.i k)],4,[(0,some (.box (sL s))),(1,some (.box (M8 c))),(2,some (.row 3 1 0 (U3 (At s (A.take k)) s.cols.length))),(3,some (.box (I6 el)))]⟩)
    (fun j=>j≤BH s el) (fun j=>BH s el-j) 0 (Nat.zero_le _) (A6 h0) (fun j hj=>?_)
   have hc:=aI s el j hr r1 r2 (by omega) (by omega)
   by_cases hs:X6 s el j=true
   ·obtain rfl:j=BH s el:=Classical.byContradiction fun hne=>by have:=l3 j (by omega);rw[hs]at this;cases this
    rw[hs]at hc
    repeat'((first|refine A1 hc ?_|(refine F6 10 ?_;refine G9 (id:=10) ⟨[(2,.ref 0 0),(3,.ref 1 0),(5,.row 2 0 s.cols.length),(21,.sl 6 (A.map I6)),(22,.i A.length),(23,.i k)],3,[(0,some (.box (sL s))),(1,some (.box (M8 c))),(2,some (.row 3 1 0 (U3 (At s (A.take (k+1))) s.cols.length)))]⟩ ?_ ?_) |refine S2 ?_|(refine T6 ?_ ?_<;>intro h<;>try exact V1 h)|intro el lU lV|intro el lU|exact T4|refine T5 ?_ ?_|intro ex)<;>try conv=>whnf)
    all_goals first
     |exact A9 h0 rfl ⟨rfl,rfl,rfl,rfl,rfl,rfl,trivial⟩ ⟨rfl,rfl,⟨_,congrArg (C6.row 3 1 _) (by rw[TA lU];exact(cq (by omega)).symm)⟩,trivial⟩ rfl rfl rfl
     |exact⟨k+1,by omega,by omega,A6 h0⟩
   ·have lh:X6 s el j=false:=by simpa using hs
    have oq:j<BH s el:=Nat.lt_of_le_of_ne hj fun e=>by rw[e,l2]at lh;cases lh
    rw[lh]at hc
    repeat'((first|refine A1 hc ?_ |refine S2 ?_|(refine T6 ?_ ?_<;>intro h<;>try exact V1 h)|intro el lU lV|intro el lU|exact T4|refine T5 ?_ ?_|intro ex)<;>try conv=>whnf)
    all_goals first
     |exact⟨j+1,by omega,by omega,A6 h0⟩
  ·obtain rfl:k=A.length:=by omega
   rw[List.take_length]
   repeat'((first|refine S2 ?_|(refine T6 ?_ ?_<;>intro h<;>try exact V1 h)|intro el lU lV|intro el lU|exact T4|refine T5 ?_ ?_|intro ex)<;>try conv=>whnf)
   all_goals first
    |(exfalso;omega)
    |skip
   refine B0 (ι:=Nat) (fun i=>⟨[(9,.row 3 0 (L1 (At s A) 0 i).length),(46,.row 2 0 s.cols.length),(47,.i s.cols.length),(48,.i i)],4,[(2,some (.row 3 1 0 (U3 (At s A) s.cols.length))),(3,some (.row Nf 2 0 ((L1 (At s A) 0 i).map B4)))]⟩)
    (fun i=>i≤s.cols.length) (fun i=>s.cols.length-i) 0 (Nat.zero_le _)
    (B5 (I9 (d:=9) (e:=Nf) (sz:=2) rfl) (A9 h0 rfl ⟨rfl,rfl,rfl,rfl,trivial⟩ ⟨⟨_,rfl⟩,⟨0,rfl⟩,trivial⟩ rfl rfl rfl)) (fun i hi=>?_)
   have nY:=Ag (At s A) i 0
   by_cases lY:i<s.cols.length
   ·have lu:=Hj (f:=At s A) (n:=s.cols.length) (k:=i) lY
    have mu:=JS (At s A) i 0
    rw[Nat.zero_add]at mu
    repeat'((first|(refine ES (x:=[.i (At s A i)]) lu (by omega) ?_) |refine S2 ?_|(refine T6 ?_ ?_<;>intro h<;>try exact V1 h)|intro el lU lV|intro el lU|exact T4|refine T5 ?_ ?_|intro ex)<;>try conv=>whnf)
    all_goals first
     |(exfalso;omega)
     |(rw[if_pos (by assumption)]at mu;exact⟨i+1,by omega,by omega,A9 h0 rfl ⟨congrArg (fun z:Nat=>some (AV.row 3 0 z)) (by rw[mu,List.length_append];rfl),rfl,rfl,rfl,trivial⟩ ⟨⟨_,rfl⟩,⟨_,congrArg (C6.row Nf 2 _) (by rw[mu,List.map_append];rfl)⟩,trivial⟩ rfl rfl rfl⟩)
     |(rw[if_neg (by assumption),List.append_nil]at mu;exact⟨i+1,by omega,by omega,A9 h0 rfl ⟨congrArg (fun z:Nat=>some (AV.row 3 0 z)) (by rw[mu]),rfl,rfl,rfl,trivial⟩ ⟨⟨_,rfl⟩,⟨_,congrArg (C6.row Nf 2 _) (by rw[mu])⟩,trivial⟩ rfl rfl rfl⟩)
   ·obtain rfl:i=s.cols.length:=by omega
    repeat'((first|refine S2 ?_|(refine T6 ?_ ?_<;>intro h<;>try exact V1 h)|intro el lU lV|intro el lU|exact T4|refine T5 ?_ ?_|intro ex)<;>try conv=>whnf)
    all_goals first
     |exact A0 rfl rfl
     |(exfalso;omega)
 ·rw[if_neg qO]
  rw[F7]at *
  refine B6 Tryz.func129 63 fun lW E h0=>?_
  clear lW
  repeat'((first|refine A1 mT ?_ |refine S2 ?_|(refine T6 ?_ ?_<;>intro h<;>try exact V1 h)|intro el lU lV|intro el lU|exact T4|refine T5 ?_ ?_|intro ex)<;>try conv=>whnf)
  all_goals first
   |exact u4 (sz:=2) rfl rfl
   |(exfalso;contradiction)
theorem aJ(s:A4)(f:Nat)(caps:List AV)(ly:I8 caps=true)(g:B1→Int)(hg:∀a,-1≤g a∧g a≤1)(c:B1):X4 s c=0→(∀a∈k0 c,A3 Tryz.prog f (E0 a::caps) (.i (g a)))→A3 Tryz.prog 223 [E0 c,.fn f caps] (.i (U2 g c)):=by
 refine N1 (p:=fun c=>X4 s c=0→(∀a∈k0 c,A3 Tryz.prog f (E0 a::caps) (.i (g a)))→A3 Tryz.prog 223 [E0 c,.fn f caps] (.i (U2 g c))) (fun c ih h hf=>?_) c
 obtain⟨h1,h2⟩:=Cz h
 obtain⟨p1,p2,_⟩:=AJ h1
 obtain⟨k1,k2,k3⟩:=Gs c.op
 have rP:∀k,k∈c.kids→A3 Tryz.prog 223 [E0 k,.fn f caps] (.i (U2 g k)):=fun k hk=>by
  refine ih k hk (h2 k hk) fun a ha=>hf a (WC ?_ hk ha)
  intro ho
  have:=k3 (by omega) (by omega) (by omega)
  have:c.kids=[]:=List.eq_nil_of_length_eq_zero (by omega)
  rw[this]at hk;cases hk
 have qY:=fun k=>Om hg k
 have qd:(c.op=2∨c.op=3∨c.op=4)→A3 Tryz.prog f (E0 c::caps) (.i (g c)):=fun ho=>hf c (by rw[Dc,if_pos ho];simp)
 rw[F7]at qd ⊢
 rw[Dd]
 refine B6 Tryz.func223 51 fun lW E h0=>?_
 clear lW
 repeat'((first|(refine A1 (rP _ (List.mem_of_getElem? (by assumption))) ?_)|(refine A1 (qd (by omega)) ?_)|(refine I4 ?_ ?_;(have:=qY el;omega)) |refine S2 ?_|(refine T6 ?_ ?_<;>intro h<;>try exact V1 h)|intro el lU lV|intro el lU|exact T4|refine T5 ?_ ?_|intro ex)<;>try conv=>whnf)
 all_goals first
  |(refine A0 rfl (congrArg AV.i ?_);unfold W6;rw[if_pos (by assumption)];done)
  |(refine A0 rfl (congrArg AV.i ?_);unfold W6;rw[if_neg (by assumption),if_pos (by assumption),FI (k:=0) (by assumption),FI (k:=1) (by assumption)];done)
  |(refine A0 rfl (congrArg AV.i ?_);unfold W6;rw[if_neg (by assumption),if_neg (by assumption),if_pos (by assumption),FI (k:=0) (by assumption),FI (k:=1) (by assumption)];done)
  |(refine A0 rfl (congrArg AV.i ?_);unfold W6;rw[if_neg (by assumption),if_neg (by assumption),if_neg (by assumption),if_pos (by assumption),FI (k:=0) (by assumption)];done)
  |(refine A0 rfl (congrArg AV.i ?_);unfold W6;rw[if_neg (by assumption),if_neg (by assumption),if_neg (by assumption),if_neg (by assumption)];done)
theorem VB(s:A4)(hr:C3 s=0)(row:List Int)(a:B1)(ha:H9 s a=0)(ho:a.op=2∨a.op=3∨a.op=4)(hl:row.length=s.cols.length):A3 Tryz.prog 224 [E0 a,.iptr (sL s),.iptr [.sl 1 (row.map wA)]] (.i (M1 s a (row.getD a.col.toNat 0))):=by
 have oy:=fun v=>Na s a v (EE hr ha)
 obtain⟨_,_,p3,_⟩:=AJ ha
 have hc:=p3 ho
 obtain⟨v,hv⟩:∃v,row[a.col.toNat]?=some v:=⟨_,List.getElem?_eq_getElem (by omega)⟩
 rw[E4 hv]
 rw[F7]at *
 refine B6 Tryz.func224 13 fun lW E h0=>?_
 clear lW
 repeat'((first|(refine A2 (x:=v) hv (by omega) ?_)|refine A1 (oy _) ?_|(refine B3 ?_ ?_;kernel_rfl) |refine S2 ?_|(refine T6 ?_ ?_<;>intro h<;>try exact V1 h)|intro el lU lV|intro el lU|exact T4|refine T5 ?_ ?_|intro ex)<;>try conv=>whnf)
 all_goals exact A0 rfl rfl
theorem Xm(s:A4)(hr:C3 s=0)(c:B1)(hc:X4 s c=0)(row:List Int)(hl:row.length=s.cols.length):A3 Tryz.prog 182 [sA s,E0 c,.sl 1 (row.map wA)] (.i (DA s c row)):=by
 have ht:=aJ s 224 [.iptr (sL s),.iptr [.sl 1 (row.map wA)]] rfl (fun a=>M1 s a (row.getD a.col.toNat 0)) (fun a=>Lm _ _ _) c hc fun a ha=>by
  obtain⟨h1,h2⟩:=Ft c hc a ha
  exact VB s hr row a h1 h2 hl
 refine B6 Tryz.func182 10 fun lW E h0=>?_
 clear lW
 repeat'((first|(refine J1 0 ?_;refine DX ?_;(conv=>whnf);refine J1 2 ?_)|refine A1 ht ?_ |refine S2 ?_|(refine T6 ?_ ?_<;>intro h<;>try exact V1 h)|intro el lU lV|intro el lU|exact T4|refine T5 ?_ ?_|intro ex)<;>try conv=>whnf)
 all_goals exact A0 rfl rfl
end Go.Proofs.YtiphlhoclaogjaaGreatDoor
