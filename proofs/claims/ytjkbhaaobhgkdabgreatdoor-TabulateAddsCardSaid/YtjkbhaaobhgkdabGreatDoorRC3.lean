/- Chapter 5: which level suffices for a condition about one column. Chapter 5: what a condition needs, as a list of picks; picks raised. Chapter 5: the program's needs of a condition. Chapter 5: the program's truth values for rows. -/
import Derived.Test.YtjkbhaaobhgkdabGreatDoorRCm2
import Derived.Test.YtjkbhaaobhgkdabGreatDoorRSx
set_option linter.unusedVariables false
set_option linter.unnecessarySimpa false
set_option linter.unusedSimpArgs false
set_option maxHeartbeats 64000000
namespace Go.Proofs.YtjkbhaaobhgkdabGreatDoor
open Go Go.Av
attribute [local irreducible] D0 B0 D2 C7 DQ D1 C8 St.le A3 B6
set_option maxRecDepth 100000
theorem VU(c:D4)(level:Int)(h1:1≤level)(h2:level≤c.widths.length):A3 Tryz.prog 183 [W6 c,.i level] (.i (A9 c level)):=by
 refine C0 Tryz.func183 14 fun nQ E h0=>?_
 have nO:c.widths.length≤9223372036854775807:=by
  have:=((nQ (W6 c) (by simp)).agg (.sl 1 (c.widths.map wA)) (by simp)).sl
  simpa using this
 clear nQ
 repeat'((first|refine S2 ?_|(refine T6 ?_ ?_<;>intro h<;>try exact V1 h)|intro el nN nP|intro el nN|exact T4|refine T5 ?_ ?_|intro ex)<;>try conv=>whnf)
 all_goals exact A0 rfl (congrArg AV.i (D3 nN).symm)
theorem Nk(n w:Int)(hw:1≤w)(xg:w≤1000000)(h1:-4000000000000≤n)(h2:n≤4000000000000):A3 Tryz.prog 184 [.i n,.i w] (.i (C6 n w)):=by
 refine C0 Tryz.func184 17 fun nQ E h0=>?_
 have hm:=Fw n hw
 have hb:=Ok n hw
 clear nQ
 repeat'((first|refine S2 ?_|(refine T6 ?_ ?_<;>intro h<;>try exact V1 h)|intro el nN nP|intro el nN|exact T4|refine T5 ?_ ?_|intro ex)<;>try conv=>whnf)
 all_goals first
  |(refine A0 rfl (congrArg AV.i ?_);unfold C6;omega)
theorem x8{s:A4}(hr:C5 s=0){a:B1}(ha:G4 s a=0)(ho:a.op=2∨a.op=3∨a.op=4):∃x,s.cols[a.col.toNat]?=some x∧1≤a.col∧a.col<s.cols.length∧(a.op=2→x.kind=2∧0≤x.lst∧x.lst<s.lists.length∧F0 s a.col=C3 (C1 s x).1 (C1 s x).2-1)∧(a.op≠2→x.kind=3∧meaE x=0∧F0 s a.col=x.widths.length)∧(a.op=3→a.lo≤a.hi∧-1000000≤a.lo∧a.hi≤1000000)∧(a.op=4→x.opt=true):=by
 obtain⟨p1,p2,p3,p4,p5,p6⟩:=Cs ha
 have hc:=p3 ho
 obtain⟨x,hx⟩:∃x,s.cols[a.col.toNat]?=some x:=⟨_,List.getElem?_eq_getElem (by omega)⟩
 have tX:=B7 hx
 rw[tX]at p4 p5 p6
 have pY:x.kind≠1:=by
  intro h
  rcases ho with h2|h2|h2
  ·have:=(p4 h2).1;omega
  ·have:=(p5 h2).1;omega
  ·have:=(p6 h2).1;omega
 have h1:1≤a.col:=by
  by_cases h:a.col=0
  ·obtain⟨_,_,_,_,h5⟩:=F2 hr
   rw[h]at hx
   have:s.cols.head?=some x:=by rw[←hx];cases s.cols<;>rfl
   rw[this]at h5
   simp only[Option.map_some,Option.some.injEq]at h5
   exact absurd h5 pY
  ·omega
 have hf:F0 s a.col=N7 s x:=by
  unfold F0
  rw[if_neg (by omega),tX]
 refine⟨x,hx,h1,hc.2,fun h2=>?_,fun h2=>?_,fun h3=>?_,fun h4=>(p6 h4).2⟩
 ·have hk:=(p4 h2).1
  have hl:=Ap.lst hr (List.mem_of_getElem? hx) hk
  exact⟨hk,hl.1,hl.2,by rw[hf,N7,if_pos hk]⟩
 ·have hk:x.kind=3:=by
   rcases ho with h|h|h
   ·exact absurd h h2
   ·exact(p5 h).1
   ·exact(p6 h).1
  obtain⟨_,_,_,h4,_⟩:=F2 hr
  exact⟨hk,EC (BF (h4 _ _ hx)).2.2.1 hk,by rw[hf,N7,if_neg (by omega)]⟩
 ·exact(p5 h3).2
theorem ke{a:B1}{x:D4}(h1:x.low≤x.high)(h2:a.lo≤a.hi):GY a x 0↔x.opt=false∧(min a.hi x.high<max a.lo x.low∨(max a.lo x.low=x.low∧min a.hi x.high=x.high)):=by
 unfold GY
 rw[if_pos rfl]
 constructor
 ·intro h;exact⟨h.1,by omega⟩
 ·intro h;exact⟨h.1,by omega,by omega⟩
theorem kf{a:B1}{x:D4}{level:Int}(h1:x.low≤x.high)(h2:a.lo≤a.hi)(h0:¬level=0)(hw:1≤A9 x level):GY a x level↔min a.hi x.high<max a.lo x.low∨((max a.lo x.low=x.low∨C6 (max a.lo x.low) (A9 x level)=max a.lo x.low)∧(min a.hi x.high=x.high∨C6 (min a.hi x.high+1) (A9 x level)=min a.hi x.high+1)):=by
 unfold GY
 rw[if_neg h0]
 have t1:=QM (v:=a.lo) hw
 have t2:=QM (v:=a.hi+1) hw
 generalize A9 x level=w at *
 by_cases rI:x.low<a.lo
 ·have e1:max a.lo x.low=a.lo:=by omega
  rw[e1,t1]
  by_cases hhi:a.hi<x.high
  ·have e2:min a.hi x.high=a.hi:=by omega
   rw[e2,t2]
   omega
  ·have e2:min a.hi x.high=x.high:=by omega
   rw[e2]
   omega
 ·have e1:max a.lo x.low=x.low:=by omega
  rw[e1]
  by_cases hhi:a.hi<x.high
  ·have e2:min a.hi x.high=a.hi:=by omega
   rw[e2,t2]
   omega
  ·have e2:min a.hi x.high=x.high:=by omega
   rw[e2]
   omega
theorem YN(s:A4)(a:B1)(level:Int)(hr:C5 s=0)(ha:G4 s a=0)(h2:a.op=2):A3 Tryz.prog 154 [sA s,E7 a,.i level] (.b (X4 s a level)):=by
 obtain⟨x,hx,c1,c2,q2,_⟩:=x8 hr ha (.inl h2)
 obtain⟨hk,om,oF,hf⟩:=q2 h2
 obtain⟨lx,ol⟩:∃l,s.lists[x.lst.toNat]?=some l:=⟨_,List.getElem?_eq_getElem (by omega)⟩
 rw[QP h2 hx ol]
 have qB:=fun v=>Nh s a v (GA hr ha)
 rw[F8]at *
 refine C0 Tryz.func154 134 fun nQ E h0=>?_
 obtain⟨_,_,pV⟩:=W7 (s:=s) (nQ _ (by simp))
 clear nQ
 have nO:=pV lx (List.mem_of_getElem? ol)
 have tx:=l7 (nm:=lx.1) nO
 have oX:=Cq lx.1 lx.2 (C3 lx.1 lx.2-1)
 have qG:=Dq lx.1 lx.2 nO
 have uB:=Gs lx.1 lx.2 (C3 lx.1 lx.2-1) nO
 have rS:=fun (leaf:Nat)=>KV lx.1 lx.2 leaf level nO
 generalize hL:H6 lx.1 lx.2 (C3 lx.1 lx.2-1)=L at uB oX ⊢
 repeat'((first|(refine A2 (x:=x) hx (by omega) ?_)|(refine A2 (x:=lx) ol (by omega) ?_)|refine A1 qG ?_|refine A1 uB ?_|(refine B8 ?_ ?_;kernel_rfl) |refine S2 ?_|(refine T6 ?_ ?_<;>intro h<;>try exact V1 h)|intro el nN nP|intro el nN|exact T4|refine T5 ?_ ?_|intro ex)<;>try conv=>whnf)
 refine B2 (ι:=Nat) (fun k=>⟨[(2,.i level),(3,.ref 0 0),(4,.ref 1 0),(8,.ref 3 0),(9,.mp 4),(39,.sl 1 (L.map iA)),(40,.i L.length),(41,.i k)],5,[(0,some (.box (sL s))),(1,some (.box (O4 a))),(2,some (.box (W5 x))),(3,some (.box (z1 lx))),(4,some (.map (BI (fun v=>M6 lx.1 lx.2 v level) (fun v=>R3 s a v) L k)))]⟩)
  (fun k=>k≤L.length∧Ct (fun v=>M6 lx.1 lx.2 v level) (fun v=>R3 s a v) (L.take k)) (fun k=>L.length-k) 0 ⟨Nat.zero_le _,fun x hx=>by simp at hx⟩
  (A6 h0) (fun k hI=>?_)
 obtain⟨pk,hI⟩:=hI
 repeat'((first|refine A1 (rS _) ?_|refine A1 (qB _) ?_|(refine J4 ?_ ?_;exact Hj _ _ _ _)|refine RQ (iO _ _ _ _ _) ?_|(refine B8 ?_ ?_;kernel_rfl) |refine S2 ?_|(refine T6 ?_ ?_<;>intro h<;>try exact V1 h)|intro el nN nP|intro el nN|exact T4|refine T5 ?_ ?_|intro ex)<;>try conv=>whnf)
 all_goals first
  |exact A0 rfl (congrArg AV.b (decide_eq_false (Ct.not nN (by assumption) (by assumption))).symm)
  |exact A0 rfl (congrArg AV.b (decide_eq_true (by have e:=DZ h;rw[e]at hI;exact hI)).symm)
  |exact⟨k+1,⟨by omega,hI.step nN (fun _=>Decidable.of_not_not (by assumption))⟩,by omega,A8 h0 rfl ⟨rfl,rfl,rfl,rfl,rfl,rfl,rfl,rfl,trivial⟩ ⟨rfl,rfl,rfl,rfl,congrArg C9.map (Hi nN),trivial⟩ rfl rfl rfl⟩
  |exact⟨k+1,⟨by omega,hI.step nN (fun hh=>by rw[h]at hh;cases hh)⟩,by omega,A8 h0 rfl ⟨rfl,rfl,rfl,rfl,rfl,rfl,rfl,rfl,trivial⟩ ⟨rfl,rfl,rfl,rfl,congrArg C9.map (Hi nN),trivial⟩ rfl rfl rfl⟩
theorem YO(s:A4)(a:B1)(level:Int)(hr:C5 s=0)(ha:G4 s a=0)(ho:a.op=3∨a.op=4)(yr:0≤level)(uQ:level≤F0 s a.col):A3 Tryz.prog 154 [sA s,E7 a,.i level] (.b (X4 s a level)):=by
 obtain⟨x,hx,c1,c2,_,q2,q3,q4⟩:=x8 hr ha (.inr ho)
 obtain⟨hk,hm,hf⟩:=q2 (by omega)
 rw[hf]at uQ
 have hp:=l6 hm
 have qX:¬level=0→1≤A9 x level∧A9 x level≤1000000:=fun h=>v8 hp.2.2.2.2.2 (by omega) uQ
 have sW:¬level=0→A3 Tryz.prog 183 [W6 x,.i level] (.i (A9 x level)):=fun h=>VU x level (by omega) uQ
 rw[F8]at *
 by_cases h4:a.op=4
 ·have sX:=q4 h4
  rw[MA h4]
  refine C0 Tryz.func154 134 fun nQ E h0=>?_
  clear nQ
  repeat'((first|(refine A2 (x:=x) hx (by omega) ?_) |refine S2 ?_|(refine T6 ?_ ?_<;>intro h<;>try exact V1 h)|intro el nN nP|intro el nN|exact T4|refine T5 ?_ ?_|intro ex)<;>try conv=>whnf)
  all_goals first
   |exact absurd (sX.symm.trans (by assumption:x.opt=false)) (by decide)
   |exact A0 rfl (congrArg AV.b (decide_eq_true (by omega:0<level)).symm)
   |exact A0 rfl (congrArg AV.b (decide_eq_false (by omega:¬0<level)).symm)
 have h3:a.op=3:=by omega
 have yw:=q3 h3
 rw[MC h3 hx]
 have uL:¬level=0→A3 Tryz.prog 184 [.i (max a.lo x.low),.i (A9 x level)] (.i (C6 (max a.lo x.low) (A9 x level))):=fun h=>Nk _ _ (qX h).1 (qX h).2 (by omega) (by omega)
 have ru:¬level=0→A3 Tryz.prog 184 [.i (min a.hi x.high+1),.i (A9 x level)] (.i (C6 (min a.hi x.high+1) (A9 x level))):=fun h=>Nk _ _ (qX h).1 (qX h).2 (by omega) (by omega)
 have qu:=ke (a:=a) (x:=x) (by omega) yw.1
 have hm1:=fun h:¬level=0=>kf (a:=a) (x:=x) (level:=level) (by omega) yw.1 h (qX h).1
 refine C0 Tryz.func154 134 fun nQ E h0=>?_
 clear nQ
 repeat'((first|(refine A2 (x:=x) hx (by omega) ?_)|refine A1 (sW (by assumption)) ?_|refine A1 (uL (by assumption)) ?_|refine A1 (ru (by assumption)) ?_|(refine B8 ?_ ?_;kernel_rfl) |refine S2 ?_|(refine T6 ?_ ?_<;>intro h<;>try exact V1 h)|intro el nN nP|intro el nN|exact T4|refine T5 ?_ ?_|intro ex)<;>try conv=>whnf)
 all_goals first
  |(refine A0 rfl (congrArg AV.b ?_)
    have e0:level=0:=by assumption
    subst e0
    first
     |(rw[eq_comm,decide_eq_false_iff_not,qu];intro hh;first|omega|exact absurd (hh.1.symm.trans (by assumption:x.opt=true)) (by decide))
     |(rw[eq_comm,decide_eq_true_iff,qu];exact⟨by assumption,by omega⟩)
     |(rw[decide_eq_decide,qu];exact⟨fun z=>⟨by assumption,by omega⟩,fun z=>by have:=z.2;omega⟩))
  |(refine A0 rfl (congrArg AV.b ?_)
    have e0:¬level=0:=by assumption
    have qt:=hm1 e0
    first
     |(rw[eq_comm,decide_eq_false_iff_not,qt];omega)
     |(rw[eq_comm,decide_eq_true_iff,qt];omega)
     |(rw[decide_eq_decide,qt];omega))
theorem YP{ws:List Int}(hne:ws.length≠0)(h:P6 ws=true):ws.getD 0 0=1:=by
 cases ws with
 |nil=>exact absurd rfl hne
 |cons w r =>
  simp only[P6,Bool.and_eq_true,decide_eq_true_eq]at h
  simpa using h.1
theorem iQ{s:A4}(hr:C5 s=0){a:B1}(ha:G4 s a=0)(ho:a.op=2∨a.op=3∨a.op=4):X4 s a (F0 s a.col)=true∧0≤F0 s a.col:=by
 obtain⟨x,hx,c1,c2,q2,q3,q4,q5⟩:=x8 hr ha ho
 by_cases h2:a.op=2
 ·obtain⟨hk,om,oF,hf⟩:=q2 h2
  obtain⟨lx,ol⟩:∃l,s.lists[x.lst.toNat]?=some l:=⟨_,List.getElem?_eq_getElem (by omega)⟩
  rw[I7 ol]at hf
  refine⟨?_,Ov hr c1 c2⟩
  rw[QP h2 hx ol,hf]
  refine decide_eq_true fun u hu v hv e=>?_
  have xU:∀u∈H6 lx.1 lx.2 (C3 lx.1 lx.2-1),M6 lx.1 lx.2 u (C3 lx.1 lx.2-1)=u:=by
   intro u hu
   obtain⟨oU,xS,hd⟩:=Ou hu
   rw[←We ⟨xS,oU,by omega,by omega⟩,show dep lx.2 u-(C3 lx.1 lx.2-1).toNat=0 by omega]
   rfl
  dsimp only at e
  rw[xU u hu,xU v hv]at e
  have:u=v:=by omega
  rw[this]
 ·obtain⟨hk,hm,hf⟩:=q3 h2
  have hp:=l6 hm
  refine⟨?_,by omega⟩
  by_cases h4:a.op=4
  ·rw[MA h4,hf]
   exact decide_eq_true (by omega)
  ·rw[MC (by omega) hx,hf]
   have hw:A9 x x.widths.length=1:=by
    unfold A9
    rw[show ((x.widths.length:Int)-x.widths.length).toNat=0 by omega]
    exact YP (by omega) hp.2.2.2.2.2
   refine decide_eq_true ?_
   unfold GY
   rw[if_neg (by omega),hw]
   exact⟨fun _=>Int.tmod_one _,fun _=>Int.tmod_one _⟩
def JW(s:A4)(a:B1):Nat→Nat→Nat
 |0,n=>n
 |f+1,n=>if X4 s a n=true then n else JW s a f (n+1)
def s7(s:A4)(a:B1):Nat:=JW s a (F0 s a.col).toNat 0
theorem QQ{s:A4}{a:B1}:∀(f n:Nat),X4 s a (n+f:Nat)=true→n≤JW s a f n∧JW s a f n≤n+f∧X4 s a (JW s a f n:Nat)=true∧∀i:Nat,n≤i→i<JW s a f n→X4 s a i=false
 |0,n,h=>⟨Nat.le_refl _,Nat.le_refl _,h,fun i h1 h2=>absurd h2 (by unfold JW;omega)⟩
 |f+1,n,h=>by
  unfold JW
  split
  ·rename_i h2
   exact⟨Nat.le_refl _,by omega,h2,fun i h1 h3=>by omega⟩
  ·rename_i h2
   obtain⟨i1,i2,i3,i4⟩:=QQ f (n+1) (by rw[show n+1+f=n+(f+1) by omega];exact h)
   refine⟨by omega,by omega,i3,fun i h3 h4=>?_⟩
   by_cases e:i=n
   ·subst e;simpa using h2
   ·exact i4 i (by omega) h4
theorem JX{s:A4}(hr:C5 s=0){a:B1}(ha:G4 s a=0)(ho:a.op=2∨a.op=3∨a.op=4):(s7 s a:Int)≤F0 s a.col∧X4 s a (s7 s a)=true∧∀i:Nat,i<s7 s a→X4 s a i=false:=by
 obtain⟨h1,h2⟩:=iQ hr ha ho
 obtain⟨i1,i2,i3,i4⟩:=QQ (s:=s) (a:=a) (F0 s a.col).toNat 0 (by rw[Nat.zero_add,Int.toNat_of_nonneg h2];exact h1)
 exact⟨by unfold s7;omega,i3,fun i hi=>i4 i (Nat.zero_le _) hi⟩
def K6(lv:Nat→Int)(lo:Nat):Nat→List Pk
 |0=>[]
 |n+1=>if 0<lv lo then ⟨lo,lv lo⟩::K6 lv (lo+1) n else K6 lv (lo+1) n
theorem Y8(lv:Nat→Int)(lo n:Nat):K6 lv lo (n+1)=if 0<lv lo then ⟨lo,lv lo⟩::K6 lv (lo+1) n else K6 lv (lo+1) n:=rfl
theorem JY(lv:Nat→Int):∀(n lo:Nat),K6 lv lo (n+1)=K6 lv lo n++(if 0<lv (lo+n)then [⟨((lo+n:Nat):Int),lv (lo+n)⟩]else [])
 |0,lo=>by
  show (if 0<lv lo then [(⟨(lo:Int),lv lo⟩:Pk)]else [])=[]++(if 0<lv (lo+0)then [⟨((lo+0:Nat):Int),lv (lo+0)⟩]else [])
  rw[Nat.add_zero,List.nil_append]
 |n+1,lo=>by
  have ih:=JY lv n (lo+1)
  rw[show lo+1+n=lo+(n+1) by omega]at ih
  rw[Y8 lv lo (n+1),Y8 lv lo n,ih]
  split<;>simp
theorem Aq{lv:Nat→Int}{p:Pk}:∀{n lo:Nat},p∈K6 lv lo n→(lo:Int)≤p.col∧p.col<(lo+n:Nat)∧p.lev=lv p.col.toNat∧0<p.lev
 |0,lo,h=>by simp[K6]at h
 |n+1,lo,h=>by
  unfold K6 at h
  split at h
  ·rcases List.mem_cons.1 h with rfl|h
   ·exact⟨Int.le_refl _,by dsimp only;omega,by simp,by assumption⟩
   ·obtain⟨h1,h2,h3⟩:=Aq h
    exact⟨by omega,by omega,h3⟩
  ·obtain⟨h1,h2,h3⟩:=Aq h
   exact⟨by omega,by omega,h3⟩
theorem AF(lv:Nat→Int):∀(n lo:Nat),(K6 lv lo n).length≤n
 |0,lo=>Nat.le_refl _
 |n+1,lo=>by
  have:=AF lv n (lo+1)
  unfold K6
  split
  ·rw[List.length_cons];omega
  ·omega
theorem Hl{f g:Nat→Int}:∀{n lo:Nat},(∀i,lo≤i→i<lo+n→f i=g i)→K6 f lo n=K6 g lo n
 |0,lo,_=>rfl
 |n+1,lo,h=>by
  unfold K6
  rw[h lo (Nat.le_refl _) (by omega),Hl (f:=f) (g:=g) (n:=n) (lo:=lo+1) fun i h1 h2=>h i (by omega) (by omega)]
def M7(col lev:Int):List Pk→Bool→List Pk→List Pk
 |[],dn,out=>if dn=true then out else out++[⟨col,lev⟩]
 |x::r,dn,out =>
  if col<x.col∧dn=false then M7 col lev r true (out++[⟨col,lev⟩]++[x])
  else if x.col=col then M7 col lev r true (out++[⟨x.col,max x.lev lev⟩])
  else M7 col lev r dn (out++[x])
def a6(l:List Pk)(col lev:Int):List Pk:=M7 col lev l (decide (lev≤0)) []
theorem Em{col lev:Int}:∀(l out:List Pk),(∀x∈l,x.col≠col∨lev≤x.lev)→M7 col lev l true out=out++l
 |[],out,_=>by simp[M7]
 |x::r,out,h=>by
  have ih:=fun out=>Em (col:=col) (lev:=lev) r out fun y hy=>h y (by simp[hy])
  unfold M7
  rw[if_neg (fun hh=>by cases hh.2)]
  split
  ·rename_i e
   have:lev≤x.lev:=by rcases h x (by simp)with h|h;exact absurd e h;exact h
   rw[ih,show max x.lev lev=x.lev by omega]
   simp
  ·rw[ih];simp
theorem ao{col lev:Int}(l out:List Pk)(h:∀x∈l,col<x.col):M7 col lev l false out=out++⟨col,lev⟩::l:=by
 cases l with
 |nil=>simp[M7]
 |cons x r =>
  unfold M7
  rw[if_pos ⟨h x (by simp),rfl⟩,Em _ _ fun y hy=>.inl (by have:=h y (by simp[hy]);omega)]
  simp
def upd(lv:Nat→Int)(col lev:Int)(i:Nat):Int:=if col=i then max (lv i) lev else lv i
theorem JZ{lv:Nat→Int}{col lev:Int}(hl:0<lev):∀(n lo:Nat) (out:List Pk),(lo:Int)≤col→col<(lo+n:Nat)→M7 col lev (K6 lv lo n) false out=out++K6 (upd lv col lev) lo n
 |0,lo,out,h1,h2=>by omega
 |n+1,lo,out,h1,h2=>by
  have pw:∀m:Nat,col<(m:Int)→K6 (upd lv col lev) m n=K6 lv m n:=fun m hm=>Hl fun i h3 h4=>by unfold upd;rw[if_neg (by omega)]
  by_cases e:col=lo
  ·have rS:upd lv col lev lo=max (lv lo) lev:=by unfold upd;rw[if_pos e]
   rw[show K6 (upd lv col lev) lo (n+1)=⟨lo,max (lv lo) lev⟩::K6 lv (lo+1) n by
    rw[Y8,rS,if_pos (by omega),pw (lo+1) (by omega)]]
   rw[Y8]
   by_cases h3:0<lv lo
   ·rw[if_pos h3,M7,if_neg (by dsimp only;omega),if_pos (by dsimp only;omega),Em _ _ fun y hy=>.inl (by have:=(Aq hy).1;omega)]
    simp
   ·rw[if_neg h3,ao _ _ fun y hy=>by have:=(Aq hy).1;omega]
    rw[e,show max (lv lo) lev=lev by omega]
  ·have rS:upd lv col lev lo=lv lo:=by unfold upd;rw[if_neg e]
   rw[Y8,Y8,rS]
   by_cases h3:0<lv lo
   ·rw[if_pos h3,if_pos h3,M7,if_neg (by dsimp only;omega),if_neg (by dsimp only;omega),JZ hl n (lo+1) _ (by omega) (by omega)]
    simp
   ·rw[if_neg h3,if_neg h3,JZ hl n (lo+1) _ (by omega) (by omega)]
theorem ap{lv:Nat→Int}{col lev:Int}{n:Nat}(h1:0≤col)(h2:col<n)(hl:0≤lev)(hv:∀i,0≤lv i):a6 (K6 lv 0 n) col lev=K6 (upd lv col lev) 0 n:=by
 unfold a6
 by_cases h:lev≤0
 ·rw[decide_eq_true h,Em _ _ fun y hy=>.inr (by have:=(Aq hy).2.2.2;omega),List.nil_append]
  exact Hl fun i _ _=>by
   unfold upd
   have:=hv i
   split
   ·omega
   ·rfl
 ·rw[decide_eq_false h,JZ (by omega) n 0 [] (by omega) (by omega),List.nil_append]
theorem Ja:∀(n lo:Nat),K6 (fun _=>(0:Int)) lo n=[]
 |0,_=>rfl
 |n+1,lo=>by rw[Y8,if_neg (by omega),Ja n]
def s8(s:A4)(l:List B1)(i:Nat):Int:=l.foldl (fun (m:Int) (a:B1)=>if a.col=(i:Int)then max m (s7 s a:Int)else m) 0
theorem Wf(s:A4):s8 s []=fun _=>0:=rfl
theorem dq(s:A4)(l:List B1)(a:B1):s8 s (l++[a])=upd (s8 s l) a.col (s7 s a):=by
 funext i
 unfold s8 upd
 rw[List.foldl_append]
 rfl
theorem TN{s:A4}{l:List B1}{k:Nat}{a:B1}(h:l[k]?=some a):s8 s (l.take (k+1))=upd (s8 s (l.take k)) a.col (s7 s a):=by
 rw[I3 h,dq]
theorem aq(s:A4)(i:Nat):∀l:List B1,0≤s8 s l i:=by
 have key:∀(l:List B1) (m:Int),0≤m→0≤l.foldl (fun (m:Int) (a:B1)=>if a.col=(i:Int)then max m (s7 s a:Int)else m) m:=by
  intro l
  induction l with
  |nil=>intro m h;exact h
  |cons a r ih =>
   intro m h
   rw[List.foldl_cons]
   refine ih _ ?_
   split<;>omega
 exact fun l=>key l 0 (Int.le_refl _)
theorem ar{s:A4}{i:Nat}{B:Int}(hB:0≤B):∀l:List B1,(∀a∈l,a.col=i→(s7 s a:Int)≤B)→s8 s l i≤B:=by
 have key:∀(l:List B1) (m:Int),m≤B→(∀a∈l,a.col=i→(s7 s a:Int)≤B)→l.foldl (fun (m:Int) (a:B1)=>if a.col=(i:Int)then max m (s7 s a:Int)else m) m≤B:=by
  intro l
  induction l with
  |nil=>intro m h _;exact h
  |cons a r ih =>
   intro m h hl
   rw[List.foldl_cons]
   refine ih _ ?_ fun b hb=>hl b (by simp[hb])
   split
   ·have:=hl a (by simp) (by assumption);omega
   ·exact h
 exact fun l h=>key l 0 hB h
def L5(s:A4)(c:B1):List Pk:=if J6 s c=0 then K6 (s8 s (Y5 c)) 0 s.cols.length else []
abbrev Nl:Nat:=58
def R8(f:Nat→Int)(n:Nat):List (List AV):=(List.range n).map fun i=>[AV.i (f i)]
theorem Hm{f:Nat→Int}{n k:Nat}(h:k<n):(R8 f n)[k]?=some [.i (f k)]:=by
 unfold R8
 rw[List.getElem?_map,List.getElem?_range h];rfl
theorem MD{f:Nat→Int}{n k:Nat}{v:Int}:(R8 f n).set k [.i v]=R8 (fun i=>if k=i then v else f i) n:=by
 refine List.ext_getElem? fun i=>?_
 unfold R8
 rw[List.getElem?_set,List.getElem?_map,List.getElem?_map,List.length_map,List.length_range]
 by_cases h:i<n
 ·rw[List.getElem?_range h]
  by_cases e:k=i
  ·subst e;simp[h]
  ·simp[e]
 ·rw[List.getElem?_eq_none (by simpa using h)]
  by_cases e:k=i
  ·subst e;simp[h]
  ·simp[e]
theorem QR(n:Nat):List.replicate n [AV.i 0]=R8 (fun _=>0) n:=by
 unfold R8
 rw[List.map_const',List.length_range]
theorem dr{lv:Nat→Int}{n:Nat}{col lev:Int}(h:0≤col):(R8 lv n).set col.toNat [.i (max (lv col.toNat) lev)]=R8 (upd lv col lev) n:=by
 rw[MD]
 unfold R8
 refine List.map_congr_left fun i _=>?_
 unfold upd
 dsimp only
 by_cases e:col.toNat=i
 ·subst e;rw[if_pos rfl,if_pos (by omega)]
 ·rw[if_neg e,if_neg (by omega)]
theorem au(s:A4)(a:B1)(level:Int)(hr:C5 s=0)(ha:G4 s a=0)(ho:a.op=2∨a.op=3∨a.op=4)(h0:0≤level)(h1:level≤F0 s a.col):A3 Tryz.prog 154 [sA s,E7 a,.i level] (.b (X4 s a level)):=by
 by_cases h2:a.op=2
 ·exact YN s a level hr ha h2
 ·exact YO s a level hr ha (by omega) h0 h1
theorem GZ(s:A4)(c:B1):A3 Tryz.prog 107 [sA s,E7 c] (.sl 2 ((L5 s c).map B5)):=by
 have oU:=AE s c
 unfold L5
 by_cases rq:J6 s c=0
 ·rw[if_pos rq]
  obtain⟨hr,ht,hd,oe⟩:=BH rq
  have uz:=VS c (by omega)
  have nO:=Gu c
  have hn:=(F2 hr).2.1
  have rh:=Fz c oe
  rw[F8]at *
  generalize hA:Y5 c=A at *
  refine C0 Tryz.func107 63 fun nQ E h0=>?_
  clear nQ
  repeat'((first|refine A1 oU ?_|refine A1 uz ?_ |refine S2 ?_|(refine T6 ?_ ?_<;>intro h<;>try exact V1 h)|intro el nN nP|intro el nN|exact T4|refine T5 ?_ ?_|intro ex)<;>try conv=>whnf)
  all_goals first
   |exact absurd rq (by assumption)
   |skip
  refine B2 (ι:=Nat) (fun k=>⟨[(2,.ref 0 0),(3,.ref 1 0),(5,.row 2 0 s.cols.length),(21,.sl 6 (A.map K2)),(22,.i A.length),(23,.i k)],3,[(0,some (.box (sL s))),(1,some (.box (O4 c))),(2,some (.row 3 1 0 (R8 (s8 s (A.take k)) s.cols.length)))]⟩)
   (fun k=>k≤A.length) (fun k=>A.length-k) 0 (Nat.zero_le _)
   (A8 h0 rfl ⟨rfl,rfl,rfl,rfl,rfl,rfl,trivial⟩ ⟨rfl,rfl,⟨0,congrArg (C9.row 3 1 0) (by rw[Int.toNat_natCast];exact(QR _).symm)⟩,trivial⟩ rfl rfl rfl) (fun k hk=>?_)
  have qa:=aq s
  by_cases nR:k<A.length
  ·obtain⟨el,nN⟩:∃el,A[k]?=some el:=⟨_,List.getElem?_eq_getElem nR⟩
   obtain⟨r1,r2⟩:=rh el (List.mem_of_getElem? nN)
   obtain⟨l1,l2,l3⟩:=JX hr r1 r2
   obtain⟨x,hx,c1,c2,_⟩:=x8 hr r1 r2
   have nk:=Hm (f:=s8 s (A.take k)) (n:=s.cols.length) (k:=el.col.toNat) (by omega)
   have nu:=Om hr el.col
   repeat'((first|(refine A2 (x:=el) nN (by omega) ?_) |refine S2 ?_|(refine T6 ?_ ?_<;>intro h<;>try exact V1 h)|intro el nN nP|intro el nN|exact T4|refine T5 ?_ ?_|intro ex)<;>try conv=>whnf)
   all_goals first
    |(exfalso;omega)
    |skip
   refine B2 (ι:=Nat) (fun j=>⟨[(2,.ref 0 0),(3,.ref 1 0),(5,.row 2 0 s.cols.length),(7,.ref 3 0),(8,.i j),(21,.sl 6 (A.map K2)),(22,.i A.length),(23,.i k)],4,[(0,some (.box (sL s))),(1,some (.box (O4 c))),(2,some (.row 3 1 0 (R8 (s8 s (A.take k)) s.cols.length))),(3,some (.box (K2 el)))]⟩)
    (fun j=>j≤s7 s el) (fun j=>s7 s el-j) 0 (Nat.zero_le _) (A6 h0) (fun j hj=>?_)
   have hc:=au s el j hr r1 r2 (by omega) (by omega)
   by_cases hs:X4 s el j=true
   ·obtain rfl:j=s7 s el:=Classical.byContradiction fun hne=>by have:=l3 j (by omega);rw[hs]at this;cases this
    rw[hs]at hc
    repeat'((first|refine A1 hc ?_|(refine G3 10 ?_;refine H4 (id:=10) ⟨[(2,.ref 0 0),(3,.ref 1 0),(5,.row 2 0 s.cols.length),(21,.sl 6 (A.map K2)),(22,.i A.length),(23,.i k)],3,[(0,some (.box (sL s))),(1,some (.box (O4 c))),(2,some (.row 3 1 0 (R8 (s8 s (A.take (k+1))) s.cols.length)))]⟩ ?_ ?_) |refine S2 ?_|(refine T6 ?_ ?_<;>intro h<;>try exact V1 h)|intro el nN nP|intro el nN|exact T4|refine T5 ?_ ?_|intro ex)<;>try conv=>whnf)
    all_goals first
     |exact A8 h0 rfl ⟨rfl,rfl,rfl,rfl,rfl,rfl,trivial⟩ ⟨rfl,rfl,⟨_,congrArg (C9.row 3 1 _) (by rw[TN nN];exact(dr (by omega)).symm)⟩,trivial⟩ rfl rfl rfl
     |exact⟨k+1,by omega,by omega,A6 h0⟩
   ·have nj:X4 s el j=false:=by simpa using hs
    have pQ:j<s7 s el:=Nat.lt_of_le_of_ne hj fun e=>by rw[e,l2]at nj;cases nj
    rw[nj]at hc
    repeat'((first|refine A1 hc ?_ |refine S2 ?_|(refine T6 ?_ ?_<;>intro h<;>try exact V1 h)|intro el nN nP|intro el nN|exact T4|refine T5 ?_ ?_|intro ex)<;>try conv=>whnf)
    all_goals first
     |exact⟨j+1,by omega,by omega,A6 h0⟩
  ·obtain rfl:k=A.length:=by omega
   rw[List.take_length]
   repeat'((first|refine S2 ?_|(refine T6 ?_ ?_<;>intro h<;>try exact V1 h)|intro el nN nP|intro el nN|exact T4|refine T5 ?_ ?_|intro ex)<;>try conv=>whnf)
   all_goals first
    |(exfalso;omega)
    |skip
   refine B2 (ι:=Nat) (fun i=>⟨[(9,.row 3 0 (K6 (s8 s A) 0 i).length),(46,.row 2 0 s.cols.length),(47,.i s.cols.length),(48,.i i)],4,[(2,some (.row 3 1 0 (R8 (s8 s A) s.cols.length))),(3,some (.row Nl 2 0 ((K6 (s8 s A) 0 i).map B5)))]⟩)
    (fun i=>i≤s.cols.length) (fun i=>s.cols.length-i) 0 (Nat.zero_le _)
    (C2 (K4 (d:=9) (e:=Nl) (sz:=2) rfl) (A8 h0 rfl ⟨rfl,rfl,rfl,rfl,trivial⟩ ⟨⟨_,rfl⟩,⟨0,rfl⟩,trivial⟩ rfl rfl rfl)) (fun i hi=>?_)
   have qA:=AF (s8 s A) i 0
   by_cases nR:i<s.cols.length
   ·have nk:=Hm (f:=s8 s A) (n:=s.cols.length) (k:=i) nR
    have oy:=JY (s8 s A) i 0
    rw[Nat.zero_add]at oy
    repeat'((first|(refine Cf (x:=[.i (s8 s A i)]) nk (by omega) ?_) |refine S2 ?_|(refine T6 ?_ ?_<;>intro h<;>try exact V1 h)|intro el nN nP|intro el nN|exact T4|refine T5 ?_ ?_|intro ex)<;>try conv=>whnf)
    all_goals first
     |(exfalso;omega)
     |(rw[if_pos (by assumption)]at oy;exact⟨i+1,by omega,by omega,A8 h0 rfl ⟨congrArg (fun z:Nat=>some (AV.row 3 0 z)) (by rw[oy,List.length_append];rfl),rfl,rfl,rfl,trivial⟩ ⟨⟨_,rfl⟩,⟨_,congrArg (C9.row Nl 2 _) (by rw[oy,List.map_append];rfl)⟩,trivial⟩ rfl rfl rfl⟩)
     |(rw[if_neg (by assumption),List.append_nil]at oy;exact⟨i+1,by omega,by omega,A8 h0 rfl ⟨congrArg (fun z:Nat=>some (AV.row 3 0 z)) (by rw[oy]),rfl,rfl,rfl,trivial⟩ ⟨⟨_,rfl⟩,⟨_,congrArg (C9.row Nl 2 _) (by rw[oy])⟩,trivial⟩ rfl rfl rfl⟩)
   ·obtain rfl:i=s.cols.length:=by omega
    repeat'((first|refine S2 ?_|(refine T6 ?_ ?_<;>intro h<;>try exact V1 h)|intro el nN nP|intro el nN|exact T4|refine T5 ?_ ?_|intro ex)<;>try conv=>whnf)
    all_goals first
     |exact A0 rfl rfl
     |(exfalso;omega)
 ·rw[if_neg rq]
  rw[F8]at *
  refine C0 Tryz.func107 63 fun nQ E h0=>?_
  clear nQ
  repeat'((first|refine A1 oU ?_ |refine S2 ?_|(refine T6 ?_ ?_<;>intro h<;>try exact V1 h)|intro el nN nP|intro el nN|exact T4|refine T5 ?_ ?_|intro ex)<;>try conv=>whnf)
  all_goals first
   |exact AC (sz:=2) rfl rfl
   |(exfalso;contradiction)
theorem aw(s:A4)(f:Nat)(caps:List AV)(nl:I1 caps=true)(g:B1→Int)(hg:∀a,-1≤g a∧g a≤1)(c:B1):X0 s c=0→(∀a∈Y5 c,A3 Tryz.prog f (E7 a::caps) (.i (g a)))→A3 Tryz.prog 185 [E7 c,.fn f caps] (.i (AN g c)):=by
 refine N9 (p:=fun c=>X0 s c=0→(∀a∈Y5 c,A3 Tryz.prog f (E7 a::caps) (.i (g a)))→A3 Tryz.prog 185 [E7 c,.fn f caps] (.i (AN g c))) (fun c ih h hf=>?_) c
 obtain⟨h1,h2⟩:=Hf h
 obtain⟨p1,p2,_⟩:=Cs h1
 obtain⟨k1,k2,k3⟩:=Ot c.op
 have vO:∀k,k∈c.kids→A3 Tryz.prog 185 [E7 k,.fn f caps] (.i (AN g k)):=fun k hk=>by
  refine ih k hk (h2 k hk) fun a ha=>hf a (iI ?_ hk ha)
  intro ho
  have:=k3 (by omega) (by omega) (by omega)
  have:c.kids=[]:=List.eq_nil_of_length_eq_zero (by omega)
  rw[this]at hk;cases hk
 have sI:=fun k=>Wb hg k
 have sN:(c.op=2∨c.op=3∨c.op=4)→A3 Tryz.prog f (E7 c::caps) (.i (g c)):=fun ho=>hf c (by rw[FA,if_pos ho];simp)
 rw[F8]at sN ⊢
 rw[Kd]
 refine C0 Tryz.func185 51 fun nQ E h0=>?_
 clear nQ
 repeat'((first|(refine A1 (vO _ (List.mem_of_getElem? (by assumption))) ?_)|(refine A1 (sN (by omega)) ?_)|(refine J4 ?_ ?_;(have:=sI el;omega)) |refine S2 ?_|(refine T6 ?_ ?_<;>intro h<;>try exact V1 h)|intro el nN nP|intro el nN|exact T4|refine T5 ?_ ?_|intro ex)<;>try conv=>whnf)
 all_goals first
  |(refine A0 rfl (congrArg AV.i ?_);unfold c8;rw[if_pos (by assumption)];done)
  |(refine A0 rfl (congrArg AV.i ?_);unfold c8;rw[if_neg (by assumption),if_pos (by assumption),FX (k:=0) (by assumption),FX (k:=1) (by assumption)];done)
  |(refine A0 rfl (congrArg AV.i ?_);unfold c8;rw[if_neg (by assumption),if_neg (by assumption),if_pos (by assumption),FX (k:=0) (by assumption),FX (k:=1) (by assumption)];done)
  |(refine A0 rfl (congrArg AV.i ?_);unfold c8;rw[if_neg (by assumption),if_neg (by assumption),if_neg (by assumption),if_pos (by assumption),FX (k:=0) (by assumption)];done)
  |(refine A0 rfl (congrArg AV.i ?_);unfold c8;rw[if_neg (by assumption),if_neg (by assumption),if_neg (by assumption),if_neg (by assumption)];done)
theorem VV(s:A4)(hr:C5 s=0)(row:List Int)(a:B1)(ha:G4 s a=0)(ho:a.op=2∨a.op=3∨a.op=4)(hl:row.length=s.cols.length):A3 Tryz.prog 186 [E7 a,.iptr (sL s),.iptr [.sl 1 (row.map wA)]] (.i (R3 s a (row.getD a.col.toNat 0))):=by
 have qB:=fun v=>Nh s a v (GA hr ha)
 obtain⟨_,_,p3,_⟩:=Cs ha
 have hc:=p3 ho
 obtain⟨v,hv⟩:∃v,row[a.col.toNat]?=some v:=⟨_,List.getElem?_eq_getElem (by omega)⟩
 rw[D3 hv]
 rw[F8]at *
 refine C0 Tryz.func186 13 fun nQ E h0=>?_
 clear nQ
 repeat'((first|(refine A2 (x:=v) hv (by omega) ?_)|refine A1 (qB _) ?_|(refine B8 ?_ ?_;kernel_rfl) |refine S2 ?_|(refine T6 ?_ ?_<;>intro h<;>try exact V1 h)|intro el nN nP|intro el nN|exact T4|refine T5 ?_ ?_|intro ex)<;>try conv=>whnf)
 all_goals exact A0 rfl rfl
theorem YQ(s:A4)(hr:C5 s=0)(c:B1)(hc:X0 s c=0)(row:List Int)(hl:row.length=s.cols.length):A3 Tryz.prog 155 [sA s,E7 c,.sl 1 (row.map wA)] (.i (Dr s c row)):=by
 have ht:=aw s 186 [.iptr (sL s),.iptr [.sl 1 (row.map wA)]] rfl (fun a=>R3 s a (row.getD a.col.toNat 0)) (fun a=>TI _ _ _) c hc fun a ha=>by
  obtain⟨h1,h2⟩:=Fz c hc a ha
  exact VV s hr row a h1 h2 hl
 refine C0 Tryz.func155 10 fun nQ E h0=>?_
 clear nQ
 repeat'((first|(refine I6 0 ?_;refine DX ?_;(conv=>whnf);refine I6 2 ?_)|refine A1 ht ?_ |refine S2 ?_|(refine T6 ?_ ?_<;>intro h<;>try exact V1 h)|intro el nN nP|intro el nN|exact T4|refine T5 ?_ ?_|intro ex)<;>try conv=>whnf)
 all_goals exact A0 rfl rfl
end Go.Proofs.YtjkbhaaobhgkdabGreatDoor
