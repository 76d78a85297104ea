/- Chapter 5: which level suffices for a condition about one column. Chapter 5: what a condition needs, as a list of picks; picks raised. Chapter 5: the program's needs of a condition. Chapter 5: the program's truth values for rows. -/
import Derived.Test.YtiphlhoclaogjaaGreatDoorJCm2
import Derived.Test.YtiphlhoclaogjaaGreatDoorJSx
set_option linter.unusedVariables false
set_option linter.unnecessarySimpa false
set_option linter.unusedSimpArgs false
set_option maxHeartbeats 64000000
namespace Go.Proofs.YtiphlhoclaogjaaGreatDoor
open Go Go.Av
attribute [local irreducible] C9 B3 C8 D1 DQ D0 C7 St.le A3 B8
set_option maxRecDepth 100000
theorem Vs(c:D3)(level:Int)(h1:1≤level)(h2:level≤c.widths.length):A3 Tryz.prog 221 [U0 c,.i level] (.i (B1 c level)):=by
 refine B5 Tryz.func221 14 fun nL E h0=>?_
 have nM:c.widths.length≤9223372036854775807:=by
  have:=((nL (U0 c) (by simp)).agg (.sl 1 (c.widths.map wA)) (by simp)).sl
  simpa using this
 clear nL
 repeat'((first|refine S2 ?_|(refine T6 ?_ ?_<;>intro h<;>try exact V1 h)|intro el nJ nK|intro el nJ|exact T4|refine T5 ?_ ?_|intro ex)<;>try conv=>whnf)
 all_goals exact A1 rfl (congrArg AV.i (D7 nJ).symm)
theorem OR(n w:Int)(hw:1≤w)(yR:w≤1000000)(h1:-4000000000000≤n)(h2:n≤4000000000000):A3 Tryz.prog 222 [.i n,.i w] (.i (C6 n w)):=by
 refine B5 Tryz.func222 17 fun nL E h0=>?_
 have hm:=DF n hw
 have hb:=Kv n hw
 clear nL
 repeat'((first|refine S2 ?_|(refine T6 ?_ ?_<;>intro h<;>try exact V1 h)|intro el nJ nK|intro el nJ|exact T4|refine T5 ?_ ?_|intro ex)<;>try conv=>whnf)
 all_goals first
  |(refine A1 rfl (congrArg AV.i ?_);unfold C6;omega)
theorem x9{s:A4}(hr:C3 s=0){a:B7}(ha:H9 s a=0)(ho:a.op=2∨a.op=3∨a.op=4):∃x,s.cols[a.col.toNat]?=some x∧1≤a.col∧a.col<s.cols.length∧(a.op=2→x.kind=2∧0≤x.lst∧x.lst<s.lists.length∧E6 s a.col=C5 (C2 s x).1 (C2 s x).2-1)∧(a.op≠2→x.kind=3∧meaE x=0∧E6 s a.col=x.widths.length)∧(a.op=3→a.lo≤a.hi∧-1000000≤a.lo∧a.hi≤1000000)∧(a.op=4→x.opt=true):=by
 obtain⟨p1,p2,p3,p4,p5,p6⟩:=Ai ha
 have hc:=p3 ho
 obtain⟨x,hx⟩:∃x,s.cols[a.col.toNat]?=some x:=⟨_,List.getElem?_eq_getElem (by omega)⟩
 have wZ:=B9 hx
 rw[wZ]at p4 p5 p6
 have pi:x.kind≠1:=by
  intro h
  rcases ho with h2|h2|h2
  ·have:=(p4 h2).1;omega
  ·have:=(p5 h2).1;omega
  ·have:=(p6 h2).1;omega
 have h1:1≤a.col:=by
  by_cases h:a.col=0
  ·obtain⟨_,_,_,_,h5⟩:=D2 hr
   rw[h]at hx
   have:s.cols.head?=some x:=by rw[←hx];cases s.cols<;>rfl
   rw[this]at h5
   simp only[Option.map_some,Option.some.injEq]at h5
   exact absurd h5 pi
  ·omega
 have hf:E6 s a.col=M1 s x:=by
  unfold E6
  rw[if_neg (by omega),wZ]
 refine⟨x,hx,h1,hc.2,fun h2=>?_,fun h2=>?_,fun h3=>?_,fun h4=>(p6 h4).2⟩
 ·have hk:=(p4 h2).1
  have hl:=At.lst hr (List.mem_of_getElem? hx) hk
  exact⟨hk,hl.1,hl.2,by rw[hf,M1,if_pos hk]⟩
 ·have hk:x.kind=3:=by
   rcases ho with h|h|h
   ·exact absurd h h2
   ·exact(p5 h).1
   ·exact(p6 h).1
  obtain⟨_,_,_,h4,_⟩:=D2 hr
  exact⟨hk,AZ (j5 (h4 _ _ hx)).2.2.1 hk,by rw[hf,M1,if_neg (by omega)]⟩
 ·exact(p5 h3).2
theorem kj{a:B7}{x:D3}(h1:x.low≤x.high)(h2:a.lo≤a.hi):HC a x 0↔x.opt=false∧(min a.hi x.high<max a.lo x.low∨(max a.lo x.low=x.low∧min a.hi x.high=x.high)):=by
 unfold HC
 rw[if_pos rfl]
 constructor
 ·intro h;exact⟨h.1,by omega⟩
 ·intro h;exact⟨h.1,by omega,by omega⟩
theorem km{a:B7}{x:D3}{level:Int}(h1:x.low≤x.high)(h2:a.lo≤a.hi)(h0:¬level=0)(hw:1≤B1 x level):HC a x level↔min a.hi x.high<max a.lo x.low∨((max a.lo x.low=x.low∨C6 (max a.lo x.low) (B1 x level)=max a.lo x.low)∧(min a.hi x.high=x.high∨C6 (min a.hi x.high+1) (B1 x level)=min a.hi x.high+1)):=by
 unfold HC
 rw[if_neg h0]
 have t1:=Jv (v:=a.lo) hw
 have t2:=Jv (v:=a.hi+1) hw
 generalize B1 x level=w at *
 by_cases qY:x.low<a.lo
 ·have e1:max a.lo x.low=a.lo:=by omega
  rw[e1,t1]
  by_cases hhi:a.hi<x.high
  ·have e2:min a.hi x.high=a.hi:=by omega
   rw[e2,t2]
   omega
  ·have e2:min a.hi x.high=x.high:=by omega
   rw[e2]
   omega
 ·have e1:max a.lo x.low=x.low:=by omega
  rw[e1]
  by_cases hhi:a.hi<x.high
  ·have e2:min a.hi x.high=a.hi:=by omega
   rw[e2,t2]
   omega
  ·have e2:min a.hi x.high=x.high:=by omega
   rw[e2]
   omega
theorem Ya(s:A4)(a:B7)(level:Int)(hr:C3 s=0)(ha:H9 s a=0)(h2:a.op=2):A3 Tryz.prog 181 [sA s,D5 a,.i level] (.b (a8 s a level)):=by
 obtain⟨x,hx,c1,c2,q2,_⟩:=x9 hr ha (.inl h2)
 obtain⟨hk,pL,nv,hf⟩:=q2 h2
 obtain⟨lx,oD⟩:∃l,s.lists[x.lst.toNat]?=some l:=⟨_,List.getElem?_eq_getElem (by omega)⟩
 rw[Qx h2 hx oD]
 have pt:=fun v=>OO s a v (Ej hr ha)
 rw[F8]at *
 refine B5 Tryz.func181 134 fun nL E h0=>?_
 obtain⟨_,_,pU⟩:=Z9 (s:=s) (nL _ (by simp))
 clear nL
 have nM:=pU lx (List.mem_of_getElem? oD)
 have ue:=u4 (nm:=lx.1) nM
 have np:=Ah lx.1 lx.2 (C5 lx.1 lx.2-1)
 have qP:=EU lx.1 lx.2 nM
 have uh:=Hb lx.1 lx.2 (C5 lx.1 lx.2-1) nM
 have sF:=fun (leaf:Nat)=>Kt lx.1 lx.2 leaf level nM
 generalize hL:H1 lx.1 lx.2 (C5 lx.1 lx.2-1)=L at uh np ⊢
 repeat'((first|(refine A2 (x:=x) hx (by omega) ?_)|(refine A2 (x:=lx) oD (by omega) ?_)|refine A0 qP ?_|refine A0 uh ?_|(refine A9 ?_ ?_;kernel_rfl) |refine S2 ?_|(refine T6 ?_ ?_<;>intro h<;>try exact V1 h)|intro el nJ nK|intro el nJ|exact T4|refine T5 ?_ ?_|intro ex)<;>try conv=>whnf)
 refine B0 (ι:=Nat) (fun k=>⟨[(2,.i level),(3,.ref 0 0),(4,.ref 1 0),(8,.ref 3 0),(9,.mp 4),(39,.sl 1 (L.map iA)),(40,.i L.length),(41,.i k)],5,[(0,some (.box (sL s))),(1,some (.box (M9 a))),(2,some (.box (U6 x))),(3,some (.box (As lx))),(4,some (.map (CB (fun v=>L3 lx.1 lx.2 v level) (fun v=>M3 s a v) L k)))]⟩)
  (fun k=>k≤L.length∧De (fun v=>L3 lx.1 lx.2 v level) (fun v=>M3 s a v) (L.take k)) (fun k=>L.length-k) 0 ⟨Nat.zero_le _,fun x hx=>by simp at hx⟩
  (A6 h0) (fun k hI=>?_)
 obtain⟨pd,hI⟩:=hI
 repeat'((first|refine A0 (sF _) ?_|refine A0 (pt _) ?_|(refine J0 ?_ ?_;exact Ia _ _ _ _)|refine Rx (iZ _ _ _ _ _) ?_|(refine A9 ?_ ?_;kernel_rfl) |refine S2 ?_|(refine T6 ?_ ?_<;>intro h<;>try exact V1 h)|intro el nJ nK|intro el nJ|exact T4|refine T5 ?_ ?_|intro ex)<;>try conv=>whnf)
 all_goals first
  |exact A1 rfl (congrArg AV.b (decide_eq_false (De.not nJ (by assumption) (by assumption))).symm)
  |exact A1 rfl (congrArg AV.b (decide_eq_true (by have e:=EB h;rw[e]at hI;exact hI)).symm)
  |exact⟨k+1,⟨by omega,hI.step nJ (fun _=>Decidable.of_not_not (by assumption))⟩,by omega,A7 h0 rfl ⟨rfl,rfl,rfl,rfl,rfl,rfl,rfl,rfl,trivial⟩ ⟨rfl,rfl,rfl,rfl,congrArg C4.map (IZ nJ),trivial⟩ rfl rfl rfl⟩
  |exact⟨k+1,⟨by omega,hI.step nJ (fun hh=>by rw[h]at hh;cases hh)⟩,by omega,A7 h0 rfl ⟨rfl,rfl,rfl,rfl,rfl,rfl,rfl,rfl,trivial⟩ ⟨rfl,rfl,rfl,rfl,congrArg C4.map (IZ nJ),trivial⟩ rfl rfl rfl⟩
theorem Yb(s:A4)(a:B7)(level:Int)(hr:C3 s=0)(ha:H9 s a=0)(ho:a.op=3∨a.op=4)(zZ:0≤level)(vA:level≤E6 s a.col):A3 Tryz.prog 181 [sA s,D5 a,.i level] (.b (a8 s a level)):=by
 obtain⟨x,hx,c1,c2,_,q2,q3,q4⟩:=x9 hr ha (.inr ho)
 obtain⟨hk,hm,hf⟩:=q2 (by omega)
 rw[hf]at vA
 have hp:=U1 hm
 have qH:¬level=0→1≤B1 x level∧B1 x level≤1000000:=fun h=>k7 hp.2.2.2.2.2 (by omega) vA
 have sX:¬level=0→A3 Tryz.prog 221 [U0 x,.i level] (.i (B1 x level)):=fun h=>Vs x level (by omega) vA
 rw[F8]at *
 by_cases h4:a.op=4
 ·have tC:=q4 h4
  rw[Mb h4]
  refine B5 Tryz.func181 134 fun nL E h0=>?_
  clear nL
  repeat'((first|(refine A2 (x:=x) hx (by omega) ?_) |refine S2 ?_|(refine T6 ?_ ?_<;>intro h<;>try exact V1 h)|intro el nJ nK|intro el nJ|exact T4|refine T5 ?_ ?_|intro ex)<;>try conv=>whnf)
  all_goals first
   |exact absurd (tC.symm.trans (by assumption:x.opt=false)) (by decide)
   |exact A1 rfl (congrArg AV.b (decide_eq_true (by omega:0<level)).symm)
   |exact A1 rfl (congrArg AV.b (decide_eq_false (by omega:¬0<level)).symm)
 have h3:a.op=3:=by omega
 have ze:=q3 h3
 rw[Mc h3 hx]
 have sf:¬level=0→A3 Tryz.prog 222 [.i (max a.lo x.low),.i (B1 x level)] (.i (C6 (max a.lo x.low) (B1 x level))):=fun h=>OR _ _ (qH h).1 (qH h).2 (by omega) (by omega)
 have qa:¬level=0→A3 Tryz.prog 222 [.i (min a.hi x.high+1),.i (B1 x level)] (.i (C6 (min a.hi x.high+1) (B1 x level))):=fun h=>OR _ _ (qH h).1 (qH h).2 (by omega) (by omega)
 have qw:=kj (a:=a) (x:=x) (by omega) ze.1
 have hm1:=fun h:¬level=0=>km (a:=a) (x:=x) (level:=level) (by omega) ze.1 h (qH h).1
 refine B5 Tryz.func181 134 fun nL E h0=>?_
 clear nL
 repeat'((first|(refine A2 (x:=x) hx (by omega) ?_)|refine A0 (sX (by assumption)) ?_|refine A0 (sf (by assumption)) ?_|refine A0 (qa (by assumption)) ?_|(refine A9 ?_ ?_;kernel_rfl) |refine S2 ?_|(refine T6 ?_ ?_<;>intro h<;>try exact V1 h)|intro el nJ nK|intro el nJ|exact T4|refine T5 ?_ ?_|intro ex)<;>try conv=>whnf)
 all_goals first
  |(refine A1 rfl (congrArg AV.b ?_)
    have e0:level=0:=by assumption
    subst e0
    first
     |(rw[eq_comm,decide_eq_false_iff_not,qw];intro hh;first|omega|exact absurd (hh.1.symm.trans (by assumption:x.opt=true)) (by decide))
     |(rw[eq_comm,decide_eq_true_iff,qw];exact⟨by assumption,by omega⟩)
     |(rw[decide_eq_decide,qw];exact⟨fun z=>⟨by assumption,by omega⟩,fun z=>by have:=z.2;omega⟩))
  |(refine A1 rfl (congrArg AV.b ?_)
    have e0:¬level=0:=by assumption
    have sH:=hm1 e0
    first
     |(rw[eq_comm,decide_eq_false_iff_not,sH];omega)
     |(rw[eq_comm,decide_eq_true_iff,sH];omega)
     |(rw[decide_eq_decide,sH];omega))
theorem Yc{ws:List Int}(hne:ws.length≠0)(h:R7 ws=true):ws.getD 0 0=1:=by
 cases ws with
 |nil=>exact absurd rfl hne
 |cons w r =>
  simp only[R7,Bool.and_eq_true,decide_eq_true_eq]at h
  simpa using h.1
theorem Wx{s:A4}(hr:C3 s=0){a:B7}(ha:H9 s a=0)(ho:a.op=2∨a.op=3∨a.op=4):a8 s a (E6 s a.col)=true∧0≤E6 s a.col:=by
 obtain⟨x,hx,c1,c2,q2,q3,q4,q5⟩:=x9 hr ha ho
 by_cases h2:a.op=2
 ·obtain⟨hk,pL,nv,hf⟩:=q2 h2
  obtain⟨lx,oD⟩:∃l,s.lists[x.lst.toNat]?=some l:=⟨_,List.getElem?_eq_getElem (by omega)⟩
  rw[H5 oD]at hf
  refine⟨?_,Pi hr c1 c2⟩
  rw[Qx h2 hx oD,hf]
  refine decide_eq_true fun u hu v hv e=>?_
  have yE:∀u∈H1 lx.1 lx.2 (C5 lx.1 lx.2-1),L3 lx.1 lx.2 u (C5 lx.1 lx.2-1)=u:=by
   intro u hu
   obtain⟨oO,yC,hd⟩:=Ph hu
   rw[←Ww ⟨yC,oO,by omega,by omega⟩,show dep lx.2 u-(C5 lx.1 lx.2-1).toNat=0 by omega]
   rfl
  dsimp only at e
  rw[yE u hu,yE v hv]at e
  have:u=v:=by omega
  rw[this]
 ·obtain⟨hk,hm,hf⟩:=q3 h2
  have hp:=U1 hm
  refine⟨?_,by omega⟩
  by_cases h4:a.op=4
  ·rw[Mb h4,hf]
   exact decide_eq_true (by omega)
  ·rw[Mc (by omega) hx,hf]
   have hw:B1 x x.widths.length=1:=by
    unfold B1
    rw[show ((x.widths.length:Int)-x.widths.length).toNat=0 by omega]
    exact Yc (by omega) hp.2.2.2.2.2
   refine decide_eq_true ?_
   unfold HC
   rw[if_neg (by omega),hw]
   exact⟨fun _=>Int.tmod_one _,fun _=>Int.tmod_one _⟩
def Jx(s:A4)(a:B7):Nat→Nat→Nat
 |0,n=>n
 |f+1,n=>if a8 s a n=true then n else Jx s a f (n+1)
def Bk(s:A4)(a:B7):Nat:=Jx s a (E6 s a.col).toNat 0
theorem Qy{s:A4}{a:B7}:∀(f n:Nat),a8 s a (n+f:Nat)=true→n≤Jx s a f n∧Jx s a f n≤n+f∧a8 s a (Jx s a f n:Nat)=true∧∀i:Nat,n≤i→i<Jx s a f n→a8 s a i=false
 |0,n,h=>⟨Nat.le_refl _,Nat.le_refl _,h,fun i h1 h2=>absurd h2 (by unfold Jx;omega)⟩
 |f+1,n,h=>by
  unfold Jx
  split
  ·rename_i h2
   exact⟨Nat.le_refl _,by omega,h2,fun i h1 h3=>by omega⟩
  ·rename_i h2
   obtain⟨i1,i2,i3,i4⟩:=Qy f (n+1) (by rw[show n+1+f=n+(f+1) by omega];exact h)
   refine⟨by omega,by omega,i3,fun i h3 h4=>?_⟩
   by_cases e:i=n
   ·subst e;simpa using h2
   ·exact i4 i (by omega) h4
theorem Qz{s:A4}(hr:C3 s=0){a:B7}(ha:H9 s a=0)(ho:a.op=2∨a.op=3∨a.op=4):(Bk s a:Int)≤E6 s a.col∧a8 s a (Bk s a)=true∧∀i:Nat,i<Bk s a→a8 s a i=false:=by
 obtain⟨h1,h2⟩:=Wx hr ha ho
 obtain⟨i1,i2,i3,i4⟩:=Qy (s:=s) (a:=a) (E6 s a.col).toNat 0 (by rw[Nat.zero_add,Int.toNat_of_nonneg h2];exact h1)
 exact⟨by unfold Bk;omega,i3,fun i hi=>i4 i (Nat.zero_le _) hi⟩
def K7(lv:Nat→Int)(lo:Nat):Nat→List Pk
 |0=>[]
 |n+1=>if 0<lv lo then ⟨lo,lv lo⟩::K7 lv (lo+1) n else K7 lv (lo+1) n
theorem k8(lv:Nat→Int)(lo n:Nat):K7 lv lo (n+1)=if 0<lv lo then ⟨lo,lv lo⟩::K7 lv (lo+1) n else K7 lv (lo+1) n:=rfl
theorem Jy(lv:Nat→Int):∀(n lo:Nat),K7 lv lo (n+1)=K7 lv lo n++(if 0<lv (lo+n)then [⟨((lo+n:Nat):Int),lv (lo+n)⟩]else [])
 |0,lo=>by
  show (if 0<lv lo then [(⟨(lo:Int),lv lo⟩:Pk)]else [])=[]++(if 0<lv (lo+0)then [⟨((lo+0:Nat):Int),lv (lo+0)⟩]else [])
  rw[Nat.add_zero,List.nil_append]
 |n+1,lo=>by
  have ih:=Jy lv n (lo+1)
  rw[show lo+1+n=lo+(n+1) by omega]at ih
  rw[k8 lv lo (n+1),k8 lv lo n,ih]
  split<;>simp
theorem Bl{lv:Nat→Int}{p:Pk}:∀{n lo:Nat},p∈K7 lv lo n→(lo:Int)≤p.col∧p.col<(lo+n:Nat)∧p.lev=lv p.col.toNat∧0<p.lev
 |0,lo,h=>by simp[K7]at h
 |n+1,lo,h=>by
  unfold K7 at h
  split at h
  ·rcases List.mem_cons.1 h with rfl|h
   ·exact⟨Int.le_refl _,by dsimp only;omega,by simp,by assumption⟩
   ·obtain⟨h1,h2,h3⟩:=Bl h
    exact⟨by omega,by omega,h3⟩
  ·obtain⟨h1,h2,h3⟩:=Bl h
   exact⟨by omega,by omega,h3⟩
theorem y8(lv:Nat→Int):∀(n lo:Nat),(K7 lv lo n).length≤n
 |0,lo=>Nat.le_refl _
 |n+1,lo=>by
  have:=y8 lv n (lo+1)
  unfold K7
  split
  ·rw[List.length_cons];omega
  ·omega
theorem FS{f g:Nat→Int}:∀{n lo:Nat},(∀i,lo≤i→i<lo+n→f i=g i)→K7 f lo n=K7 g lo n
 |0,lo,_=>rfl
 |n+1,lo,h=>by
  unfold K7
  rw[h lo (Nat.le_refl _) (by omega),FS (f:=f) (g:=g) (n:=n) (lo:=lo+1) fun i h1 h2=>h i (by omega) (by omega)]
def O5(col lev:Int):List Pk→Bool→List Pk→List Pk
 |[],dn,out=>if dn=true then out else out++[⟨col,lev⟩]
 |x::r,dn,out =>
  if col<x.col∧dn=false then O5 col lev r true (out++[⟨col,lev⟩]++[x])
  else if x.col=col then O5 col lev r true (out++[⟨x.col,max x.lev lev⟩])
  else O5 col lev r dn (out++[x])
def u7(l:List Pk)(col lev:Int):List Pk:=O5 col lev l (decide (lev≤0)) []
theorem FT{col lev:Int}:∀(l out:List Pk),(∀x∈l,x.col≠col∨lev≤x.lev)→O5 col lev l true out=out++l
 |[],out,_=>by simp[O5]
 |x::r,out,h=>by
  have ih:=fun out=>FT (col:=col) (lev:=lev) r out fun y hy=>h y (by simp[hy])
  unfold O5
  rw[if_neg (fun hh=>by cases hh.2)]
  split
  ·rename_i e
   have:lev≤x.lev:=by rcases h x (by simp)with h|h;exact absurd e h;exact h
   rw[ih,show max x.lev lev=x.lev by omega]
   simp
  ·rw[ih];simp
theorem bG{col lev:Int}(l out:List Pk)(h:∀x∈l,col<x.col):O5 col lev l false out=out++⟨col,lev⟩::l:=by
 cases l with
 |nil=>simp[O5]
 |cons x r =>
  unfold O5
  rw[if_pos ⟨h x (by simp),rfl⟩,FT _ _ fun y hy=>.inl (by have:=h y (by simp[hy]);omega)]
  simp
def upd(lv:Nat→Int)(col lev:Int)(i:Nat):Int:=if col=i then max (lv i) lev else lv i
theorem Jz{lv:Nat→Int}{col lev:Int}(hl:0<lev):∀(n lo:Nat) (out:List Pk),(lo:Int)≤col→col<(lo+n:Nat)→O5 col lev (K7 lv lo n) false out=out++K7 (upd lv col lev) lo n
 |0,lo,out,h1,h2=>by omega
 |n+1,lo,out,h1,h2=>by
  have qD:∀m:Nat,col<(m:Int)→K7 (upd lv col lev) m n=K7 lv m n:=fun m hm=>FS fun i h3 h4=>by unfold upd;rw[if_neg (by omega)]
  by_cases e:col=lo
  ·have sF:upd lv col lev lo=max (lv lo) lev:=by unfold upd;rw[if_pos e]
   rw[show K7 (upd lv col lev) lo (n+1)=⟨lo,max (lv lo) lev⟩::K7 lv (lo+1) n by
    rw[k8,sF,if_pos (by omega),qD (lo+1) (by omega)]]
   rw[k8]
   by_cases h3:0<lv lo
   ·rw[if_pos h3,O5,if_neg (by dsimp only;omega),if_pos (by dsimp only;omega),FT _ _ fun y hy=>.inl (by have:=(Bl hy).1;omega)]
    simp
   ·rw[if_neg h3,bG _ _ fun y hy=>by have:=(Bl hy).1;omega]
    rw[e,show max (lv lo) lev=lev by omega]
  ·have sF:upd lv col lev lo=lv lo:=by unfold upd;rw[if_neg e]
   rw[k8,k8,sF]
   by_cases h3:0<lv lo
   ·rw[if_pos h3,if_pos h3,O5,if_neg (by dsimp only;omega),if_neg (by dsimp only;omega),Jz hl n (lo+1) _ (by omega) (by omega)]
    simp
   ·rw[if_neg h3,if_neg h3,Jz hl n (lo+1) _ (by omega) (by omega)]
theorem RA{lv:Nat→Int}{col lev:Int}{n:Nat}(h1:0≤col)(h2:col<n)(hl:0≤lev)(hv:∀i,0≤lv i):u7 (K7 lv 0 n) col lev=K7 (upd lv col lev) 0 n:=by
 unfold u7
 by_cases h:lev≤0
 ·rw[decide_eq_true h,FT _ _ fun y hy=>.inr (by have:=(Bl hy).2.2.2;omega),List.nil_append]
  exact FS fun i _ _=>by
   unfold upd
   have:=hv i
   split
   ·omega
   ·rfl
 ·rw[decide_eq_false h,Jz (by omega) n 0 [] (by omega) (by omega),List.nil_append]
theorem KA:∀(n lo:Nat),K7 (fun _=>(0:Int)) lo n=[]
 |0,_=>rfl
 |n+1,lo=>by rw[k8,if_neg (by omega),KA n]
def BS(s:A4)(l:List B7)(i:Nat):Int:=l.foldl (fun (m:Int) (a:B7)=>if a.col=(i:Int)then max m (Bk s a:Int)else m) 0
theorem ib(s:A4):BS s []=fun _=>0:=rfl
theorem dz(s:A4)(l:List B7)(a:B7):BS s (l++[a])=upd (BS s l) a.col (Bk s a):=by
 funext i
 unfold BS upd
 rw[List.foldl_append]
 rfl
theorem Ts{s:A4}{l:List B7}{k:Nat}{a:B7}(h:l[k]?=some a):BS s (l.take (k+1))=upd (BS s (l.take k)) a.col (Bk s a):=by
 rw[F1 h,dz]
theorem bH(s:A4)(i:Nat):∀l:List B7,0≤BS s l i:=by
 have key:∀(l:List B7) (m:Int),0≤m→0≤l.foldl (fun (m:Int) (a:B7)=>if a.col=(i:Int)then max m (Bk s a:Int)else m) m:=by
  intro l
  induction l with
  |nil=>intro m h;exact h
  |cons a r ih =>
   intro m h
   rw[List.foldl_cons]
   refine ih _ ?_
   split<;>omega
 exact fun l=>key l 0 (Int.le_refl _)
def I3(s:A4)(c:B7):List Pk:=if J6 s c=0 then K7 (BS s (o6 c)) 0 s.cols.length else []
abbrev OS:Nat:=81
def U8(f:Nat→Int)(n:Nat):List (List AV):=(List.range n).map fun i=>[AV.i (f i)]
theorem Ic{f:Nat→Int}{n k:Nat}(h:k<n):(U8 f n)[k]?=some [.i (f k)]:=by
 unfold U8
 rw[List.getElem?_map,List.getElem?_range h];rfl
theorem Md{f:Nat→Int}{n k:Nat}{v:Int}:(U8 f n).set k [.i v]=U8 (fun i=>if k=i then v else f i) n:=by
 refine List.ext_getElem? fun i=>?_
 unfold U8
 rw[List.getElem?_set,List.getElem?_map,List.getElem?_map,List.length_map,List.length_range]
 by_cases h:i<n
 ·rw[List.getElem?_range h]
  by_cases e:k=i
  ·subst e;simp[h]
  ·simp[e]
 ·rw[List.getElem?_eq_none (by simpa using h)]
  by_cases e:k=i
  ·subst e;simp[h]
  ·simp[e]
theorem RB(n:Nat):List.replicate n [AV.i 0]=U8 (fun _=>0) n:=by
 unfold U8
 rw[List.map_const',List.length_range]
theorem eA{lv:Nat→Int}{n:Nat}{col lev:Int}(h:0≤col):(U8 lv n).set col.toNat [.i (max (lv col.toNat) lev)]=U8 (upd lv col lev) n:=by
 rw[Md]
 unfold U8
 refine List.map_congr_left fun i _=>?_
 unfold upd
 dsimp only
 by_cases e:col.toNat=i
 ·subst e;rw[if_pos rfl,if_pos (by omega)]
 ·rw[if_neg e,if_neg (by omega)]
theorem bI(s:A4)(a:B7)(level:Int)(hr:C3 s=0)(ha:H9 s a=0)(ho:a.op=2∨a.op=3∨a.op=4)(h0:0≤level)(h1:level≤E6 s a.col):A3 Tryz.prog 181 [sA s,D5 a,.i level] (.b (a8 s a level)):=by
 by_cases h2:a.op=2
 ·exact Ya s a level hr ha h2
 ·exact Yb s a level hr ha (by omega) h0 h1
theorem HD(s:A4)(c:B7):A3 Tryz.prog 129 [sA s,D5 c] (.sl 2 ((I3 s c).map A8)):=by
 have oO:=BA s c
 unfold I3
 by_cases rY:J6 s c=0
 ·rw[if_pos rY]
  obtain⟨hr,ht,hd,oN⟩:=u6 rY
  have vd:=Vq c (by omega)
  have nM:=Hc c
  have hn:=(D2 hr).2.1
  have sV:=Ge c oN
  rw[F8]at *
  generalize hA:o6 c=A at *
  refine B5 Tryz.func129 63 fun nL E h0=>?_
  clear nL
  repeat'((first|refine A0 oO ?_|refine A0 vd ?_ |refine S2 ?_|(refine T6 ?_ ?_<;>intro h<;>try exact V1 h)|intro el nJ nK|intro el nJ|exact T4|refine T5 ?_ ?_|intro ex)<;>try conv=>whnf)
  all_goals first
   |exact absurd rY (by assumption)
   |skip
  refine B0 (ι:=Nat) (fun k=>⟨[(2,.ref 0 0),(3,.ref 1 0),(5,.row 2 0 s.cols.length),(21,.sl 6 (A.map K0)),(22,.i A.length),(23,.i k)],3,[(0,some (.box (sL s))),(1,some (.box (M9 c))),(2,some (.row 3 1 0 (U8 (BS s (A.take k)) s.cols.length)))]⟩)
   (fun k=>k≤A.length) (fun k=>A.length-k) 0 (Nat.zero_le _)
   (A7 h0 rfl ⟨rfl,rfl,rfl,rfl,rfl,rfl,trivial⟩ ⟨rfl,rfl,⟨0,congrArg (C4.row 3 1 0) (by rw[Int.toNat_natCast];exact(RB _).symm)⟩,trivial⟩ rfl rfl rfl) (fun k hk=>?_)
  have pX:=bH s
  by_cases nN:k<A.length
  ·obtain⟨el,nJ⟩:∃el,A[k]?=some el:=⟨_,List.getElem?_eq_getElem nN⟩
   obtain⟨r1,r2⟩:=sV el (List.mem_of_getElem? nJ)
   obtain⟨l1,l2,l3⟩:=Qz hr r1 r2
   obtain⟨x,hx,c1,c2,_⟩:=x9 hr r1 r2
   have nW:=Ic (f:=BS s (A.take k)) (n:=s.cols.length) (k:=el.col.toNat) (by omega)
   have ng:=Pb hr el.col
   repeat'((first|(refine A2 (x:=el) nJ (by omega) ?_) |refine S2 ?_|(refine T6 ?_ ?_<;>intro h<;>try exact V1 h)|intro el nJ nK|intro el nJ|exact T4|refine T5 ?_ ?_|intro ex)<;>try conv=>whnf)
   all_goals first
    |(exfalso;omega)
    |skip
   refine B0 (ι:=Nat) (fun j=>⟨[(2,.ref 0 0),(3,.ref 1 0),(5,.row 2 0 s.cols.length),(7,.ref 3 0),(8,.i j),(21,.sl 6 (A.map K0)),(22,.i A.length),(23,.i k)],4,[(0,some (.box (sL s))),(1,some (.box (M9 c))),(2,some (.row 3 1 0 (U8 (BS s (A.take k)) s.cols.length))),(3,some (.box (K0 el)))]⟩)
    (fun j=>j≤Bk s el) (fun j=>Bk s el-j) 0 (Nat.zero_le _) (A6 h0) (fun j hj=>?_)
   have hc:=bI s el j hr r1 r2 (by omega) (by omega)
   by_cases hs:a8 s el j=true
   ·obtain rfl:j=Bk s el:=Classical.byContradiction fun hne=>by have:=l3 j (by omega);rw[hs]at this;cases this
    rw[hs]at hc
    repeat'((first|refine A0 hc ?_|(refine E7 10 ?_;refine F5 (id:=10) ⟨[(2,.ref 0 0),(3,.ref 1 0),(5,.row 2 0 s.cols.length),(21,.sl 6 (A.map K0)),(22,.i A.length),(23,.i k)],3,[(0,some (.box (sL s))),(1,some (.box (M9 c))),(2,some (.row 3 1 0 (U8 (BS s (A.take (k+1))) s.cols.length)))]⟩ ?_ ?_) |refine S2 ?_|(refine T6 ?_ ?_<;>intro h<;>try exact V1 h)|intro el nJ nK|intro el nJ|exact T4|refine T5 ?_ ?_|intro ex)<;>try conv=>whnf)
    all_goals first
     |exact A7 h0 rfl ⟨rfl,rfl,rfl,rfl,rfl,rfl,trivial⟩ ⟨rfl,rfl,⟨_,congrArg (C4.row 3 1 _) (by rw[Ts nJ];exact(eA (by omega)).symm)⟩,trivial⟩ rfl rfl rfl
     |exact⟨k+1,by omega,by omega,A6 h0⟩
   ·have nS:a8 s el j=false:=by simpa using hs
    have qT:j<Bk s el:=Nat.lt_of_le_of_ne hj fun e=>by rw[e,l2]at nS;cases nS
    rw[nS]at hc
    repeat'((first|refine A0 hc ?_ |refine S2 ?_|(refine T6 ?_ ?_<;>intro h<;>try exact V1 h)|intro el nJ nK|intro el nJ|exact T4|refine T5 ?_ ?_|intro ex)<;>try conv=>whnf)
    all_goals first
     |exact⟨j+1,by omega,by omega,A6 h0⟩
  ·obtain rfl:k=A.length:=by omega
   rw[List.take_length]
   repeat'((first|refine S2 ?_|(refine T6 ?_ ?_<;>intro h<;>try exact V1 h)|intro el nJ nK|intro el nJ|exact T4|refine T5 ?_ ?_|intro ex)<;>try conv=>whnf)
   all_goals first
    |(exfalso;omega)
    |skip
   refine B0 (ι:=Nat) (fun i=>⟨[(9,.row 3 0 (K7 (BS s A) 0 i).length),(46,.row 2 0 s.cols.length),(47,.i s.cols.length),(48,.i i)],4,[(2,some (.row 3 1 0 (U8 (BS s A) s.cols.length))),(3,some (.row OS 2 0 ((K7 (BS s A) 0 i).map A8)))]⟩)
    (fun i=>i≤s.cols.length) (fun i=>s.cols.length-i) 0 (Nat.zero_le _)
    (C0 (I0 (d:=9) (e:=OS) (sz:=2) rfl) (A7 h0 rfl ⟨rfl,rfl,rfl,rfl,trivial⟩ ⟨⟨_,rfl⟩,⟨0,rfl⟩,trivial⟩ rfl rfl rfl)) (fun i hi=>?_)
   have pk:=y8 (BS s A) i 0
   by_cases nN:i<s.cols.length
   ·have nW:=Ic (f:=BS s A) (n:=s.cols.length) (k:=i) nN
    have oq:=Jy (BS s A) i 0
    rw[Nat.zero_add]at oq
    repeat'((first|(refine FF (x:=[.i (BS s A i)]) nW (by omega) ?_) |refine S2 ?_|(refine T6 ?_ ?_<;>intro h<;>try exact V1 h)|intro el nJ nK|intro el nJ|exact T4|refine T5 ?_ ?_|intro ex)<;>try conv=>whnf)
    all_goals first
     |(exfalso;omega)
     |(rw[if_pos (by assumption)]at oq;exact⟨i+1,by omega,by omega,A7 h0 rfl ⟨congrArg (fun z:Nat=>some (AV.row 3 0 z)) (by rw[oq,List.length_append];rfl),rfl,rfl,rfl,trivial⟩ ⟨⟨_,rfl⟩,⟨_,congrArg (C4.row OS 2 _) (by rw[oq,List.map_append];rfl)⟩,trivial⟩ rfl rfl rfl⟩)
     |(rw[if_neg (by assumption),List.append_nil]at oq;exact⟨i+1,by omega,by omega,A7 h0 rfl ⟨congrArg (fun z:Nat=>some (AV.row 3 0 z)) (by rw[oq]),rfl,rfl,rfl,trivial⟩ ⟨⟨_,rfl⟩,⟨_,congrArg (C4.row OS 2 _) (by rw[oq])⟩,trivial⟩ rfl rfl rfl⟩)
   ·obtain rfl:i=s.cols.length:=by omega
    repeat'((first|refine S2 ?_|(refine T6 ?_ ?_<;>intro h<;>try exact V1 h)|intro el nJ nK|intro el nJ|exact T4|refine T5 ?_ ?_|intro ex)<;>try conv=>whnf)
    all_goals first
     |exact A1 rfl rfl
     |(exfalso;omega)
 ·rw[if_neg rY]
  rw[F8]at *
  refine B5 Tryz.func129 63 fun nL E h0=>?_
  clear nL
  repeat'((first|refine A0 oO ?_ |refine S2 ?_|(refine T6 ?_ ?_<;>intro h<;>try exact V1 h)|intro el nJ nK|intro el nJ|exact T4|refine T5 ?_ ?_|intro ex)<;>try conv=>whnf)
  all_goals first
   |exact p8 (sz:=2) rfl rfl
   |(exfalso;contradiction)
theorem bJ(s:A4)(f:Nat)(caps:List AV)(ni:I8 caps=true)(g:B7→Int)(hg:∀a,-1≤g a∧g a≤1)(c:B7):a6 s c=0→(∀a∈o6 c,A3 Tryz.prog f (D5 a::caps) (.i (g a)))→A3 Tryz.prog 223 [D5 c,.fn f caps] (.i (U7 g c)):=by
 refine N6 (p:=fun c=>a6 s c=0→(∀a∈o6 c,A3 Tryz.prog f (D5 a::caps) (.i (g a)))→A3 Tryz.prog 223 [D5 c,.fn f caps] (.i (U7 g c))) (fun c ih h hf=>?_) c
 obtain⟨h1,h2⟩:=Dc h
 obtain⟨p1,p2,_⟩:=Ai h1
 obtain⟨k1,k2,k3⟩:=Hd c.op
 have tl:∀k,k∈c.kids→A3 Tryz.prog 223 [D5 k,.fn f caps] (.i (U7 g k)):=fun k hk=>by
  refine ih k hk (h2 k hk) fun a ha=>hf a (Ws ?_ hk ha)
  intro ho
  have:=k3 (by omega) (by omega) (by omega)
  have:c.kids=[]:=List.eq_nil_of_length_eq_zero (by omega)
  rw[this]at hk;cases hk
 have st:=fun k=>Pg hg k
 have sw:(c.op=2∨c.op=3∨c.op=4)→A3 Tryz.prog f (D5 c::caps) (.i (g c)):=fun ho=>hf c (by rw[EE,if_pos ho];simp)
 rw[F8]at sw ⊢
 rw[EF]
 refine B5 Tryz.func223 51 fun nL E h0=>?_
 clear nL
 repeat'((first|(refine A0 (tl _ (List.mem_of_getElem? (by assumption))) ?_)|(refine A0 (sw (by omega)) ?_)|(refine J0 ?_ ?_;(have:=st el;omega)) |refine S2 ?_|(refine T6 ?_ ?_<;>intro h<;>try exact V1 h)|intro el nJ nK|intro el nJ|exact T4|refine T5 ?_ ?_|intro ex)<;>try conv=>whnf)
 all_goals first
  |(refine A1 rfl (congrArg AV.i ?_);unfold Y9;rw[if_pos (by assumption)];done)
  |(refine A1 rfl (congrArg AV.i ?_);unfold Y9;rw[if_neg (by assumption),if_pos (by assumption),GA (k:=0) (by assumption),GA (k:=1) (by assumption)];done)
  |(refine A1 rfl (congrArg AV.i ?_);unfold Y9;rw[if_neg (by assumption),if_neg (by assumption),if_pos (by assumption),GA (k:=0) (by assumption),GA (k:=1) (by assumption)];done)
  |(refine A1 rfl (congrArg AV.i ?_);unfold Y9;rw[if_neg (by assumption),if_neg (by assumption),if_neg (by assumption),if_pos (by assumption),GA (k:=0) (by assumption)];done)
  |(refine A1 rfl (congrArg AV.i ?_);unfold Y9;rw[if_neg (by assumption),if_neg (by assumption),if_neg (by assumption),if_neg (by assumption)];done)
theorem Vt(s:A4)(hr:C3 s=0)(row:List Int)(a:B7)(ha:H9 s a=0)(ho:a.op=2∨a.op=3∨a.op=4)(hl:row.length=s.cols.length):A3 Tryz.prog 224 [D5 a,.iptr (sL s),.iptr [.sl 1 (row.map wA)]] (.i (M3 s a (row.getD a.col.toNat 0))):=by
 have pt:=fun v=>OO s a v (Ej hr ha)
 obtain⟨_,_,p3,_⟩:=Ai ha
 have hc:=p3 ho
 obtain⟨v,hv⟩:∃v,row[a.col.toNat]?=some v:=⟨_,List.getElem?_eq_getElem (by omega)⟩
 rw[D7 hv]
 rw[F8]at *
 refine B5 Tryz.func224 13 fun nL E h0=>?_
 clear nL
 repeat'((first|(refine A2 (x:=v) hv (by omega) ?_)|refine A0 (pt _) ?_|(refine A9 ?_ ?_;kernel_rfl) |refine S2 ?_|(refine T6 ?_ ?_<;>intro h<;>try exact V1 h)|intro el nJ nK|intro el nJ|exact T4|refine T5 ?_ ?_|intro ex)<;>try conv=>whnf)
 all_goals exact A1 rfl rfl
theorem Yd(s:A4)(hr:C3 s=0)(c:B7)(hc:a6 s c=0)(row:List Int)(hl:row.length=s.cols.length):A3 Tryz.prog 182 [sA s,D5 c,.sl 1 (row.map wA)] (.i (Dd s c row)):=by
 have ht:=bJ s 224 [.iptr (sL s),.iptr [.sl 1 (row.map wA)]] rfl (fun a=>M3 s a (row.getD a.col.toNat 0)) (fun a=>Ma _ _ _) c hc fun a ha=>by
  obtain⟨h1,h2⟩:=Ge c hc a ha
  exact Vt s hr row a h1 h2 hl
 refine B5 Tryz.func182 10 fun nL E h0=>?_
 clear nL
 repeat'((first|(refine I6 0 ?_;refine Dy ?_;(conv=>whnf);refine I6 2 ?_)|refine A0 ht ?_ |refine S2 ?_|(refine T6 ?_ ?_<;>intro h<;>try exact V1 h)|intro el nJ nK|intro el nJ|exact T4|refine T5 ?_ ?_|intro ex)<;>try conv=>whnf)
 all_goals exact A1 rfl rfl
end Go.Proofs.YtiphlhoclaogjaaGreatDoor
