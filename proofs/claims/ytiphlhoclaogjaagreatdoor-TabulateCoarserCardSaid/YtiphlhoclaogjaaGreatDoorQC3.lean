/- Chapter 5: which level suffices for a condition about one column. Chapter 5: what a condition needs, as a list of picks; picks raised. Chapter 5: the program's needs of a condition. Chapter 5: the program's truth values for rows. -/
import Derived.Test.YtiphlhoclaogjaaGreatDoorQCm2
import Derived.Test.YtiphlhoclaogjaaGreatDoorQCm1
set_option linter.unusedVariables false
set_option linter.unnecessarySimpa false
set_option linter.unusedSimpArgs false
set_option maxHeartbeats 64000000
namespace Go.Proofs.YtiphlhoclaogjaaGreatDoor
open Go Go.Av
attribute [local irreducible] C7 B1 D1 C8 DQ D0 C6 St.le A3 B8
set_option maxRecDepth 100000
theorem VV(c:D6)(level:Int)(h1:1≤level)(h2:level≤c.widths.length):A3 Tryz.prog 221 [T7 c,.i level] (.i (A9 c level)):=by
 refine C1 Tryz.func221 14 fun nd E h0=>?_
 have nZ:c.widths.length≤9223372036854775807:=by
  have:=((nd (T7 c) (by simp)).agg (.sl 1 (c.widths.map wA)) (by simp)).sl
  simpa using this
 clear nd
 repeat'((first|refine S2 ?_|(refine T6 ?_ ?_<;>intro h<;>try exact V1 h)|intro el nX nY|intro el nX|exact T4|refine T5 ?_ ?_|intro ex)<;>try conv=>whnf)
 all_goals exact A0 rfl (congrArg AV.i (D2 nX).symm)
theorem Nc(n w:Int)(hw:1≤w)(wm:w≤1000000)(h1:-4000000000000≤n)(h2:n≤4000000000000):A3 Tryz.prog 222 [.i n,.i w] (.i (C9 n w)):=by
 refine C1 Tryz.func222 17 fun nd E h0=>?_
 have hm:=Bz n hw
 have hb:=KK n hw
 clear nd
 repeat'((first|refine S2 ?_|(refine T6 ?_ ?_<;>intro h<;>try exact V1 h)|intro el nX nY|intro el nX|exact T4|refine T5 ?_ ?_|intro ex)<;>try conv=>whnf)
 all_goals first
  |(refine A0 rfl (congrArg AV.i ?_);unfold C9;omega)
theorem n9{s:A4}(hr:C5 s=0){a:B0}(ha:G7 s a=0)(ho:a.op=2∨a.op=3∨a.op=4):∃x,s.cols[a.col.toNat]?=some x∧1≤a.col∧a.col<s.cols.length∧(a.op=2→x.kind=2∧0≤x.lst∧x.lst<s.lists.length∧F2 s a.col=C4 (B9 s x).1 (B9 s x).2-1)∧(a.op≠2→x.kind=3∧meaE x=0∧F2 s a.col=x.widths.length)∧(a.op=3→a.lo≤a.hi∧-1000000≤a.lo∧a.hi≤1000000)∧(a.op=4→x.opt=true):=by
 obtain⟨p1,p2,p3,p4,p5,p6⟩:=Ce ha
 have hc:=p3 ho
 obtain⟨x,hx⟩:∃x,s.cols[a.col.toNat]?=some x:=⟨_,List.getElem?_eq_getElem (by omega)⟩
 have uA:=C0 hx
 rw[uA]at p4 p5 p6
 have pj:x.kind≠1:=by
  intro h
  rcases ho with h2|h2|h2
  ·have:=(p4 h2).1;omega
  ·have:=(p5 h2).1;omega
  ·have:=(p6 h2).1;omega
 have h1:1≤a.col:=by
  by_cases h:a.col=0
  ·obtain⟨_,_,_,_,h5⟩:=E9 hr
   rw[h]at hx
   have:s.cols.head?=some x:=by rw[←hx];cases s.cols<;>rfl
   rw[this]at h5
   simp only[Option.map_some,Option.some.injEq]at h5
   exact absurd h5 pj
  ·omega
 have hf:F2 s a.col=N0 s x:=by
  unfold F2
  rw[if_neg (by omega),uA]
 refine⟨x,hx,h1,hc.2,fun h2=>?_,fun h2=>?_,fun h3=>?_,fun h4=>(p6 h4).2⟩
 ·have hk:=(p4 h2).1
  have hl:=AP.lst hr (List.mem_of_getElem? hx) hk
  exact⟨hk,hl.1,hl.2,by rw[hf,N0,if_pos hk]⟩
 ·have hk:x.kind=3:=by
   rcases ho with h|h|h
   ·exact absurd h h2
   ·exact(p5 h).1
   ·exact(p6 h).1
  obtain⟨_,_,_,h4,_⟩:=E9 hr
  exact⟨hk,CA (v4 (h4 _ _ hx)).2.2.1 hk,by rw[hf,N0,if_neg (by omega)]⟩
 ·exact(p5 h3).2
theorem ky{a:B0}{x:D6}(h1:x.low≤x.high)(h2:a.lo≤a.hi):GK a x 0↔x.opt=false∧(min a.hi x.high<max a.lo x.low∨(max a.lo x.low=x.low∧min a.hi x.high=x.high)):=by
 unfold GK
 rw[if_pos rfl]
 constructor
 ·intro h;exact⟨h.1,by omega⟩
 ·intro h;exact⟨h.1,by omega,by omega⟩
theorem kz{a:B0}{x:D6}{level:Int}(h1:x.low≤x.high)(h2:a.lo≤a.hi)(h0:¬level=0)(hw:1≤A9 x level):GK a x level↔min a.hi x.high<max a.lo x.low∨((max a.lo x.low=x.low∨C9 (max a.lo x.low) (A9 x level)=max a.lo x.low)∧(min a.hi x.high=x.high∨C9 (min a.hi x.high+1) (A9 x level)=min a.hi x.high+1)):=by
 unfold GK
 rw[if_neg h0]
 have t1:=JP (v:=a.lo) hw
 have t2:=JP (v:=a.hi+1) hw
 generalize A9 x level=w at *
 by_cases rK:x.low<a.lo
 ·have e1:max a.lo x.low=a.lo:=by omega
  rw[e1,t1]
  by_cases hhi:a.hi<x.high
  ·have e2:min a.hi x.high=a.hi:=by omega
   rw[e2,t2]
   omega
  ·have e2:min a.hi x.high=x.high:=by omega
   rw[e2]
   omega
 ·have e1:max a.lo x.low=x.low:=by omega
  rw[e1]
  by_cases hhi:a.hi<x.high
  ·have e2:min a.hi x.high=a.hi:=by omega
   rw[e2,t2]
   omega
  ·have e2:min a.hi x.high=x.high:=by omega
   rw[e2]
   omega
theorem YT(s:A4)(a:B0)(level:Int)(hr:C5 s=0)(ha:G7 s a=0)(h2:a.op=2):A3 Tryz.prog 181 [sA s,E0 a,.i level] (.b (a5 s a level)):=by
 obtain⟨x,hx,c1,c2,q2,_⟩:=n9 hr ha (.inl h2)
 obtain⟨hk,pH,oM,hf⟩:=q2 h2
 obtain⟨lx,ov⟩:∃l,s.lists[x.lst.toNat]?=some l:=⟨_,List.getElem?_eq_getElem (by omega)⟩
 rw[QL h2 hx ov]
 have qo:=fun v=>NZ s a v (Fl hr ha)
 rw[G0]at *
 refine C1 Tryz.func181 134 fun nd E h0=>?_
 obtain⟨_,_,pT⟩:=Z7 (s:=s) (nd _ (by simp))
 clear nd
 have nZ:=pT lx (List.mem_of_getElem? ov)
 have uO:=m5 (nm:=lx.1) nZ
 have oU:=Aj lx.1 lx.2 (C4 lx.1 lx.2-1)
 have qR:=Dd lx.1 lx.2 nZ
 have uf:=Ge lx.1 lx.2 (C4 lx.1 lx.2-1) nZ
 have rm:=fun (leaf:Nat)=>KI lx.1 lx.2 leaf level nZ
 generalize hL:I5 lx.1 lx.2 (C4 lx.1 lx.2-1)=L at uf oU ⊢
 repeat'((first|(refine A2 (x:=x) hx (by omega) ?_)|(refine A2 (x:=lx) ov (by omega) ?_)|refine A1 qR ?_|refine A1 uf ?_|(refine B5 ?_ ?_;kernel_rfl) |refine S2 ?_|(refine T6 ?_ ?_<;>intro h<;>try exact V1 h)|intro el nX nY|intro el nX|exact T4|refine T5 ?_ ?_|intro ex)<;>try conv=>whnf)
 refine B2 (ι:=Nat) (fun k=>⟨[(2,.i level),(3,.ref 0 0),(4,.ref 1 0),(8,.ref 3 0),(9,.mp 4),(39,.sl 1 (L.map iA)),(40,.i L.length),(41,.i k)],5,[(0,some (.box (sL s))),(1,some (.box (P1 a))),(2,some (.box (Z6 x))),(3,some (.box (x4 lx))),(4,some (.map (Ak (fun v=>N3 lx.1 lx.2 v level) (fun v=>Q9 s a v) L k)))]⟩)
  (fun k=>k≤L.length∧Cf (fun v=>N3 lx.1 lx.2 v level) (fun v=>Q9 s a v) (L.take k)) (fun k=>L.length-k) 0 ⟨Nat.zero_le _,fun x hx=>by simp at hx⟩
  (A6 h0) (fun k hI=>?_)
 obtain⟨qA,hI⟩:=hI
 repeat'((first|refine A1 (rm _) ?_|refine A1 (qo _) ?_|(refine J0 ?_ ?_;exact He _ _ _ _)|refine RQ (iX _ _ _ _ _) ?_|(refine B5 ?_ ?_;kernel_rfl) |refine S2 ?_|(refine T6 ?_ ?_<;>intro h<;>try exact V1 h)|intro el nX nY|intro el nX|exact T4|refine T5 ?_ ?_|intro ex)<;>try conv=>whnf)
 all_goals first
  |exact A0 rfl (congrArg AV.b (decide_eq_false (Cf.not nX (by assumption) (by assumption))).symm)
  |exact A0 rfl (congrArg AV.b (decide_eq_true (by have e:=DL h;rw[e]at hI;exact hI)).symm)
  |exact⟨k+1,⟨by omega,hI.step nX (fun _=>Decidable.of_not_not (by assumption))⟩,by omega,B3 h0 rfl ⟨rfl,rfl,rfl,rfl,rfl,rfl,rfl,rfl,trivial⟩ ⟨rfl,rfl,rfl,rfl,congrArg D3.map (Hd nX),trivial⟩ rfl rfl rfl⟩
  |exact⟨k+1,⟨by omega,hI.step nX (fun hh=>by rw[h]at hh;cases hh)⟩,by omega,B3 h0 rfl ⟨rfl,rfl,rfl,rfl,rfl,rfl,rfl,rfl,trivial⟩ ⟨rfl,rfl,rfl,rfl,congrArg D3.map (Hd nX),trivial⟩ rfl rfl rfl⟩
theorem YU(s:A4)(a:B0)(level:Int)(hr:C5 s=0)(ha:G7 s a=0)(ho:a.op=3∨a.op=4)(zn:0≤level)(uM:level≤F2 s a.col):A3 Tryz.prog 181 [sA s,E0 a,.i level] (.b (a5 s a level)):=by
 obtain⟨x,hx,c1,c2,_,q2,q3,q4⟩:=n9 hr ha (.inr ho)
 obtain⟨hk,hm,hf⟩:=q2 (by omega)
 rw[hf]at uM
 have hp:=W5 hm
 have qJ:¬level=0→1≤A9 x level∧A9 x level≤1000000:=fun h=>c9 hp.2.2.2.2.2 (by omega) uM
 have sF:¬level=0→A3 Tryz.prog 221 [T7 x,.i level] (.i (A9 x level)):=fun h=>VV x level (by omega) uM
 rw[G0]at *
 by_cases h4:a.op=4
 ·have sk:=q4 h4
  rw[Lp h4]
  refine C1 Tryz.func181 134 fun nd E h0=>?_
  clear nd
  repeat'((first|(refine A2 (x:=x) hx (by omega) ?_) |refine S2 ?_|(refine T6 ?_ ?_<;>intro h<;>try exact V1 h)|intro el nX nY|intro el nX|exact T4|refine T5 ?_ ?_|intro ex)<;>try conv=>whnf)
  all_goals first
   |exact absurd (sk.symm.trans (by assumption:x.opt=false)) (by decide)
   |exact A0 rfl (congrArg AV.b (decide_eq_true (by omega:0<level)).symm)
   |exact A0 rfl (congrArg AV.b (decide_eq_false (by omega:¬0<level)).symm)
 have h3:a.op=3:=by omega
 have zY:=q3 h3
 rw[Lq h3 hx]
 have uh:¬level=0→A3 Tryz.prog 222 [.i (max a.lo x.low),.i (A9 x level)] (.i (C9 (max a.lo x.low) (A9 x level))):=fun h=>Nc _ _ (qJ h).1 (qJ h).2 (by omega) (by omega)
 have sU:¬level=0→A3 Tryz.prog 222 [.i (min a.hi x.high+1),.i (A9 x level)] (.i (C9 (min a.hi x.high+1) (A9 x level))):=fun h=>Nc _ _ (qJ h).1 (qJ h).2 (by omega) (by omega)
 have rN:=ky (a:=a) (x:=x) (by omega) zY.1
 have hm1:=fun h:¬level=0=>kz (a:=a) (x:=x) (level:=level) (by omega) zY.1 h (qJ h).1
 refine C1 Tryz.func181 134 fun nd E h0=>?_
 clear nd
 repeat'((first|(refine A2 (x:=x) hx (by omega) ?_)|refine A1 (sF (by assumption)) ?_|refine A1 (uh (by assumption)) ?_|refine A1 (sU (by assumption)) ?_|(refine B5 ?_ ?_;kernel_rfl) |refine S2 ?_|(refine T6 ?_ ?_<;>intro h<;>try exact V1 h)|intro el nX nY|intro el nX|exact T4|refine T5 ?_ ?_|intro ex)<;>try conv=>whnf)
 all_goals first
  |(refine A0 rfl (congrArg AV.b ?_)
    have e0:level=0:=by assumption
    subst e0
    first
     |(rw[eq_comm,decide_eq_false_iff_not,rN];intro hh;first|omega|exact absurd (hh.1.symm.trans (by assumption:x.opt=true)) (by decide))
     |(rw[eq_comm,decide_eq_true_iff,rN];exact⟨by assumption,by omega⟩)
     |(rw[decide_eq_decide,rN];exact⟨fun z=>⟨by assumption,by omega⟩,fun z=>by have:=z.2;omega⟩))
  |(refine A0 rfl (congrArg AV.b ?_)
    have e0:¬level=0:=by assumption
    have qj:=hm1 e0
    first
     |(rw[eq_comm,decide_eq_false_iff_not,qj];omega)
     |(rw[eq_comm,decide_eq_true_iff,qj];omega)
     |(rw[decide_eq_decide,qj];omega))
theorem YV{ws:List Int}(hne:ws.length≠0)(h:Q5 ws=true):ws.getD 0 0=1:=by
 cases ws with
 |nil=>exact absurd rfl hne
 |cons w r =>
  simp only[Q5,Bool.and_eq_true,decide_eq_true_eq]at h
  simpa using h.1
theorem Wg{s:A4}(hr:C5 s=0){a:B0}(ha:G7 s a=0)(ho:a.op=2∨a.op=3∨a.op=4):a5 s a (F2 s a.col)=true∧0≤F2 s a.col:=by
 obtain⟨x,hx,c1,c2,q2,q3,q4,q5⟩:=n9 hr ha ho
 by_cases h2:a.op=2
 ·obtain⟨hk,pH,oM,hf⟩:=q2 h2
  obtain⟨lx,ov⟩:∃l,s.lists[x.lst.toNat]?=some l:=⟨_,List.getElem?_eq_getElem (by omega)⟩
  rw[I3 ov]at hf
  refine⟨?_,Oo hr c1 c2⟩
  rw[QL h2 hx ov,hf]
  refine decide_eq_true fun u hu v hv e=>?_
  have xr:∀u∈I5 lx.1 lx.2 (C4 lx.1 lx.2-1),N3 lx.1 lx.2 u (C4 lx.1 lx.2-1)=u:=by
   intro u hu
   obtain⟨om,xo,hd⟩:=On hu
   rw[←Wf ⟨xo,om,by omega,by omega⟩,show dep lx.2 u-(C4 lx.1 lx.2-1).toNat=0 by omega]
   rfl
  dsimp only at e
  rw[xr u hu,xr v hv]at e
  have:u=v:=by omega
  rw[this]
 ·obtain⟨hk,hm,hf⟩:=q3 h2
  have hp:=W5 hm
  refine⟨?_,by omega⟩
  by_cases h4:a.op=4
  ·rw[Lp h4,hf]
   exact decide_eq_true (by omega)
  ·rw[Lq (by omega) hx,hf]
   have hw:A9 x x.widths.length=1:=by
    unfold A9
    rw[show ((x.widths.length:Int)-x.widths.length).toNat=0 by omega]
    exact YV (by omega) hp.2.2.2.2.2
   refine decide_eq_true ?_
   unfold GK
   rw[if_neg (by omega),hw]
   exact⟨fun _=>Int.tmod_one _,fun _=>Int.tmod_one _⟩
def JR(s:A4)(a:B0):Nat→Nat→Nat
 |0,n=>n
 |f+1,n=>if a5 s a n=true then n else JR s a f (n+1)
def s9(s:A4)(a:B0):Nat:=JR s a (F2 s a.col).toNat 0
theorem QM{s:A4}{a:B0}:∀(f n:Nat),a5 s a (n+f:Nat)=true→n≤JR s a f n∧JR s a f n≤n+f∧a5 s a (JR s a f n:Nat)=true∧∀i:Nat,n≤i→i<JR s a f n→a5 s a i=false
 |0,n,h=>⟨Nat.le_refl _,Nat.le_refl _,h,fun i h1 h2=>absurd h2 (by unfold JR;omega)⟩
 |f+1,n,h=>by
  unfold JR
  split
  ·rename_i h2
   exact⟨Nat.le_refl _,by omega,h2,fun i h1 h3=>by omega⟩
  ·rename_i h2
   obtain⟨i1,i2,i3,i4⟩:=QM f (n+1) (by rw[show n+1+f=n+(f+1) by omega];exact h)
   refine⟨by omega,by omega,i3,fun i h3 h4=>?_⟩
   by_cases e:i=n
   ·subst e;simpa using h2
   ·exact i4 i (by omega) h4
theorem Fm{s:A4}(hr:C5 s=0){a:B0}(ha:G7 s a=0)(ho:a.op=2∨a.op=3∨a.op=4):(s9 s a:Int)≤F2 s a.col∧a5 s a (s9 s a)=true∧∀i:Nat,i<s9 s a→a5 s a i=false:=by
 obtain⟨h1,h2⟩:=Wg hr ha ho
 obtain⟨i1,i2,i3,i4⟩:=QM (s:=s) (a:=a) (F2 s a.col).toNat 0 (by rw[Nat.zero_add,Int.toNat_of_nonneg h2];exact h1)
 exact⟨by unfold s9;omega,i3,fun i hi=>i4 i (Nat.zero_le _) hi⟩
def K8(lv:Nat→Int)(lo:Nat):Nat→List Pk
 |0=>[]
 |n+1=>if 0<lv lo then ⟨lo,lv lo⟩::K8 lv (lo+1) n else K8 lv (lo+1) n
theorem d0(lv:Nat→Int)(lo n:Nat):K8 lv lo (n+1)=if 0<lv lo then ⟨lo,lv lo⟩::K8 lv (lo+1) n else K8 lv (lo+1) n:=rfl
theorem JS(lv:Nat→Int):∀(n lo:Nat),K8 lv lo (n+1)=K8 lv lo n++(if 0<lv (lo+n)then [⟨((lo+n:Nat):Int),lv (lo+n)⟩]else [])
 |0,lo=>by
  show (if 0<lv lo then [(⟨(lo:Int),lv lo⟩:Pk)]else [])=[]++(if 0<lv (lo+0)then [⟨((lo+0:Nat):Int),lv (lo+0)⟩]else [])
  rw[Nat.add_zero,List.nil_append]
 |n+1,lo=>by
  have ih:=JS lv n (lo+1)
  rw[show lo+1+n=lo+(n+1) by omega]at ih
  rw[d0 lv lo (n+1),d0 lv lo n,ih]
  split<;>simp
theorem AR{lv:Nat→Int}{p:Pk}:∀{n lo:Nat},p∈K8 lv lo n→(lo:Int)≤p.col∧p.col<(lo+n:Nat)∧p.lev=lv p.col.toNat∧0<p.lev
 |0,lo,h=>by simp[K8]at h
 |n+1,lo,h=>by
  unfold K8 at h
  split at h
  ·rcases List.mem_cons.1 h with rfl|h
   ·exact⟨Int.le_refl _,by dsimp only;omega,by simp,by assumption⟩
   ·obtain⟨h1,h2,h3⟩:=AR h
    exact⟨by omega,by omega,h3⟩
  ·obtain⟨h1,h2,h3⟩:=AR h
   exact⟨by omega,by omega,h3⟩
theorem y6(lv:Nat→Int):∀(n lo:Nat),(K8 lv lo n).length≤n
 |0,lo=>Nat.le_refl _
 |n+1,lo=>by
  have:=y6 lv n (lo+1)
  unfold K8
  split
  ·rw[List.length_cons];omega
  ·omega
theorem Hg{f g:Nat→Int}:∀{n lo:Nat},(∀i,lo≤i→i<lo+n→f i=g i)→K8 f lo n=K8 g lo n
 |0,lo,_=>rfl
 |n+1,lo,h=>by
  unfold K8
  rw[h lo (Nat.le_refl _) (by omega),Hg (f:=f) (g:=g) (n:=n) (lo:=lo+1) fun i h1 h2=>h i (by omega) (by omega)]
def N4(col lev:Int):List Pk→Bool→List Pk→List Pk
 |[],dn,out=>if dn=true then out else out++[⟨col,lev⟩]
 |x::r,dn,out =>
  if col<x.col∧dn=false then N4 col lev r true (out++[⟨col,lev⟩]++[x])
  else if x.col=col then N4 col lev r true (out++[⟨x.col,max x.lev lev⟩])
  else N4 col lev r dn (out++[x])
def e9(l:List Pk)(col lev:Int):List Pk:=N4 col lev l (decide (lev≤0)) []
theorem Eb{col lev:Int}:∀(l out:List Pk),(∀x∈l,x.col≠col∨lev≤x.lev)→N4 col lev l true out=out++l
 |[],out,_=>by simp[N4]
 |x::r,out,h=>by
  have ih:=fun out=>Eb (col:=col) (lev:=lev) r out fun y hy=>h y (by simp[hy])
  unfold N4
  rw[if_neg (fun hh=>by cases hh.2)]
  split
  ·rename_i e
   have:lev≤x.lev:=by rcases h x (by simp)with h|h;exact absurd e h;exact h
   rw[ih,show max x.lev lev=x.lev by omega]
   simp
  ·rw[ih];simp
theorem bH{col lev:Int}(l out:List Pk)(h:∀x∈l,col<x.col):N4 col lev l false out=out++⟨col,lev⟩::l:=by
 cases l with
 |nil=>simp[N4]
 |cons x r =>
  unfold N4
  rw[if_pos ⟨h x (by simp),rfl⟩,Eb _ _ fun y hy=>.inl (by have:=h y (by simp[hy]);omega)]
  simp
def upd(lv:Nat→Int)(col lev:Int)(i:Nat):Int:=if col=i then max (lv i) lev else lv i
theorem JT{lv:Nat→Int}{col lev:Int}(hl:0<lev):∀(n lo:Nat) (out:List Pk),(lo:Int)≤col→col<(lo+n:Nat)→N4 col lev (K8 lv lo n) false out=out++K8 (upd lv col lev) lo n
 |0,lo,out,h1,h2=>by omega
 |n+1,lo,out,h1,h2=>by
  have qH:∀m:Nat,col<(m:Int)→K8 (upd lv col lev) m n=K8 lv m n:=fun m hm=>Hg fun i h3 h4=>by unfold upd;rw[if_neg (by omega)]
  by_cases e:col=lo
  ·have rm:upd lv col lev lo=max (lv lo) lev:=by unfold upd;rw[if_pos e]
   rw[show K8 (upd lv col lev) lo (n+1)=⟨lo,max (lv lo) lev⟩::K8 lv (lo+1) n by
    rw[d0,rm,if_pos (by omega),qH (lo+1) (by omega)]]
   rw[d0]
   by_cases h3:0<lv lo
   ·rw[if_pos h3,N4,if_neg (by dsimp only;omega),if_pos (by dsimp only;omega),Eb _ _ fun y hy=>.inl (by have:=(AR hy).1;omega)]
    simp
   ·rw[if_neg h3,bH _ _ fun y hy=>by have:=(AR hy).1;omega]
    rw[e,show max (lv lo) lev=lev by omega]
  ·have rm:upd lv col lev lo=lv lo:=by unfold upd;rw[if_neg e]
   rw[d0,d0,rm]
   by_cases h3:0<lv lo
   ·rw[if_pos h3,if_pos h3,N4,if_neg (by dsimp only;omega),if_neg (by dsimp only;omega),JT hl n (lo+1) _ (by omega) (by omega)]
    simp
   ·rw[if_neg h3,if_neg h3,JT hl n (lo+1) _ (by omega) (by omega)]
theorem bI{lv:Nat→Int}{col lev:Int}{n:Nat}(h1:0≤col)(h2:col<n)(hl:0≤lev)(hv:∀i,0≤lv i):e9 (K8 lv 0 n) col lev=K8 (upd lv col lev) 0 n:=by
 unfold e9
 by_cases h:lev≤0
 ·rw[decide_eq_true h,Eb _ _ fun y hy=>.inr (by have:=(AR hy).2.2.2;omega),List.nil_append]
  exact Hg fun i _ _=>by
   unfold upd
   have:=hv i
   split
   ·omega
   ·rfl
 ·rw[decide_eq_false h,JT (by omega) n 0 [] (by omega) (by omega),List.nil_append]
theorem JU:∀(n lo:Nat),K8 (fun _=>(0:Int)) lo n=[]
 |0,_=>rfl
 |n+1,lo=>by rw[d0,if_neg (by omega),JU n]
def o9(s:A4)(l:List B0)(i:Nat):Int:=l.foldl (fun (m:Int) (a:B0)=>if a.col=(i:Int)then max m (s9 s a:Int)else m) 0
theorem Wh(s:A4):o9 s []=fun _=>0:=rfl
theorem eM(s:A4)(l:List B0)(a:B0):o9 s (l++[a])=upd (o9 s l) a.col (s9 s a):=by
 funext i
 unfold o9 upd
 rw[List.foldl_append]
 rfl
theorem TO{s:A4}{l:List B0}{k:Nat}{a:B0}(h:l[k]?=some a):o9 s (l.take (k+1))=upd (o9 s (l.take k)) a.col (s9 s a):=by
 rw[I0 h,eM]
theorem bJ(s:A4)(i:Nat):∀l:List B0,0≤o9 s l i:=by
 have key:∀(l:List B0) (m:Int),0≤m→0≤l.foldl (fun (m:Int) (a:B0)=>if a.col=(i:Int)then max m (s9 s a:Int)else m) m:=by
  intro l
  induction l with
  |nil=>intro m h;exact h
  |cons a r ih =>
   intro m h
   rw[List.foldl_cons]
   refine ih _ ?_
   split<;>omega
 exact fun l=>key l 0 (Int.le_refl _)
theorem Nd{s:A4}{i:Nat}{B:Int}(hB:0≤B):∀l:List B0,(∀a∈l,a.col=i→(s9 s a:Int)≤B)→o9 s l i≤B:=by
 have key:∀(l:List B0) (m:Int),m≤B→(∀a∈l,a.col=i→(s9 s a:Int)≤B)→l.foldl (fun (m:Int) (a:B0)=>if a.col=(i:Int)then max m (s9 s a:Int)else m) m≤B:=by
  intro l
  induction l with
  |nil=>intro m h _;exact h
  |cons a r ih =>
   intro m h hl
   rw[List.foldl_cons]
   refine ih _ ?_ fun b hb=>hl b (by simp[hb])
   split
   ·have:=hl a (by simp) (by assumption);omega
   ·exact h
 exact fun l h=>key l 0 hB h
def L3(s:A4)(c:B0):List Pk:=if H0 s c=0 then K8 (o9 s (X5 c)) 0 s.cols.length else []
abbrev Nf:Nat:=81
def U0(f:Nat→Int)(n:Nat):List (List AV):=(List.range n).map fun i=>[AV.i (f i)]
theorem Hh{f:Nat→Int}{n k:Nat}(h:k<n):(U0 f n)[k]?=some [.i (f k)]:=by
 unfold U0
 rw[List.getElem?_map,List.getElem?_range h];rfl
theorem Lr{f:Nat→Int}{n k:Nat}{v:Int}:(U0 f n).set k [.i v]=U0 (fun i=>if k=i then v else f i) n:=by
 refine List.ext_getElem? fun i=>?_
 unfold U0
 rw[List.getElem?_set,List.getElem?_map,List.getElem?_map,List.length_map,List.length_range]
 by_cases h:i<n
 ·rw[List.getElem?_range h]
  by_cases e:k=i
  ·subst e;simp[h]
  ·simp[e]
 ·rw[List.getElem?_eq_none (by simpa using h)]
  by_cases e:k=i
  ·subst e;simp[h]
  ·simp[e]
theorem QN(n:Nat):List.replicate n [AV.i 0]=U0 (fun _=>0) n:=by
 unfold U0
 rw[List.map_const',List.length_range]
theorem eN{lv:Nat→Int}{n:Nat}{col lev:Int}(h:0≤col):(U0 lv n).set col.toNat [.i (max (lv col.toNat) lev)]=U0 (upd lv col lev) n:=by
 rw[Lr]
 unfold U0
 refine List.map_congr_left fun i _=>?_
 unfold upd
 dsimp only
 by_cases e:col.toNat=i
 ·subst e;rw[if_pos rfl,if_pos (by omega)]
 ·rw[if_neg e,if_neg (by omega)]
theorem bK(s:A4)(a:B0)(level:Int)(hr:C5 s=0)(ha:G7 s a=0)(ho:a.op=2∨a.op=3∨a.op=4)(h0:0≤level)(h1:level≤F2 s a.col):A3 Tryz.prog 181 [sA s,E0 a,.i level] (.b (a5 s a level)):=by
 by_cases h2:a.op=2
 ·exact YT s a level hr ha h2
 ·exact YU s a level hr ha (by omega) h0 h1
theorem GL(s:A4)(c:B0):A3 Tryz.prog 129 [sA s,E0 c] (.sl 2 ((L3 s c).map B6)):=by
 have om:=y5 s c
 unfold L3
 by_cases rJ:H0 s c=0
 ·rw[if_pos rJ]
  obtain⟨hr,ht,hd,oz⟩:=m6 rJ
  have vV:=VU c (by omega)
  have nZ:=Gh c
  have hn:=(E9 hr).2.1
  have sI:=CB c oz
  rw[G0]at *
  generalize hA:X5 c=A at *
  refine C1 Tryz.func129 63 fun nd E h0=>?_
  clear nd
  repeat'((first|refine A1 om ?_|refine A1 vV ?_ |refine S2 ?_|(refine T6 ?_ ?_<;>intro h<;>try exact V1 h)|intro el nX nY|intro el nX|exact T4|refine T5 ?_ ?_|intro ex)<;>try conv=>whnf)
  all_goals first
   |exact absurd rJ (by assumption)
   |skip
  refine B2 (ι:=Nat) (fun k=>⟨[(2,.ref 0 0),(3,.ref 1 0),(5,.row 2 0 s.cols.length),(21,.sl 6 (A.map J2)),(22,.i A.length),(23,.i k)],3,[(0,some (.box (sL s))),(1,some (.box (P1 c))),(2,some (.row 3 1 0 (U0 (o9 s (A.take k)) s.cols.length)))]⟩)
   (fun k=>k≤A.length) (fun k=>A.length-k) 0 (Nat.zero_le _)
   (B3 h0 rfl ⟨rfl,rfl,rfl,rfl,rfl,rfl,trivial⟩ ⟨rfl,rfl,⟨0,congrArg (D3.row 3 1 0) (by rw[Int.toNat_natCast];exact(QN _).symm)⟩,trivial⟩ rfl rfl rfl) (fun k hk=>?_)
  have qd:=bJ s
  by_cases nf:k<A.length
  ·obtain⟨el,nX⟩:∃el,A[k]?=some el:=⟨_,List.getElem?_eq_getElem nf⟩
   obtain⟨r1,r2⟩:=sI el (List.mem_of_getElem? nX)
   obtain⟨l1,l2,l3⟩:=Fm hr r1 r2
   obtain⟨x,hx,c1,c2,_⟩:=n9 hr r1 r2
   have nl:=Hh (f:=o9 s (A.take k)) (n:=s.cols.length) (k:=el.col.toNat) (by omega)
   have oB:=Oj hr el.col
   repeat'((first|(refine A2 (x:=el) nX (by omega) ?_) |refine S2 ?_|(refine T6 ?_ ?_<;>intro h<;>try exact V1 h)|intro el nX nY|intro el nX|exact T4|refine T5 ?_ ?_|intro ex)<;>try conv=>whnf)
   all_goals first
    |(exfalso;omega)
    |skip
   refine B2 (ι:=Nat) (fun j=>⟨[(2,.ref 0 0),(3,.ref 1 0),(5,.row 2 0 s.cols.length),(7,.ref 3 0),(8,.i j),(21,.sl 6 (A.map J2)),(22,.i A.length),(23,.i k)],4,[(0,some (.box (sL s))),(1,some (.box (P1 c))),(2,some (.row 3 1 0 (U0 (o9 s (A.take k)) s.cols.length))),(3,some (.box (J2 el)))]⟩)
    (fun j=>j≤s9 s el) (fun j=>s9 s el-j) 0 (Nat.zero_le _) (A6 h0) (fun j hj=>?_)
   have hc:=bK s el j hr r1 r2 (by omega) (by omega)
   by_cases hs:a5 s el j=true
   ·obtain rfl:j=s9 s el:=Classical.byContradiction fun hne=>by have:=l3 j (by omega);rw[hs]at this;cases this
    rw[hs]at hc
    repeat'((first|refine A1 hc ?_|(refine G9 10 ?_;refine H9 (id:=10) ⟨[(2,.ref 0 0),(3,.ref 1 0),(5,.row 2 0 s.cols.length),(21,.sl 6 (A.map J2)),(22,.i A.length),(23,.i k)],3,[(0,some (.box (sL s))),(1,some (.box (P1 c))),(2,some (.row 3 1 0 (U0 (o9 s (A.take (k+1))) s.cols.length)))]⟩ ?_ ?_) |refine S2 ?_|(refine T6 ?_ ?_<;>intro h<;>try exact V1 h)|intro el nX nY|intro el nX|exact T4|refine T5 ?_ ?_|intro ex)<;>try conv=>whnf)
    all_goals first
     |exact B3 h0 rfl ⟨rfl,rfl,rfl,rfl,rfl,rfl,trivial⟩ ⟨rfl,rfl,⟨_,congrArg (D3.row 3 1 _) (by rw[TO nX];exact(eN (by omega)).symm)⟩,trivial⟩ rfl rfl rfl
     |exact⟨k+1,by omega,by omega,A6 h0⟩
   ·have nv:a5 s el j=false:=by simpa using hs
    have qx:j<s9 s el:=Nat.lt_of_le_of_ne hj fun e=>by rw[e,l2]at nv;cases nv
    rw[nv]at hc
    repeat'((first|refine A1 hc ?_ |refine S2 ?_|(refine T6 ?_ ?_<;>intro h<;>try exact V1 h)|intro el nX nY|intro el nX|exact T4|refine T5 ?_ ?_|intro ex)<;>try conv=>whnf)
    all_goals first
     |exact⟨j+1,by omega,by omega,A6 h0⟩
  ·obtain rfl:k=A.length:=by omega
   rw[List.take_length]
   repeat'((first|refine S2 ?_|(refine T6 ?_ ?_<;>intro h<;>try exact V1 h)|intro el nX nY|intro el nX|exact T4|refine T5 ?_ ?_|intro ex)<;>try conv=>whnf)
   all_goals first
    |(exfalso;omega)
    |skip
   refine B2 (ι:=Nat) (fun i=>⟨[(9,.row 3 0 (K8 (o9 s A) 0 i).length),(46,.row 2 0 s.cols.length),(47,.i s.cols.length),(48,.i i)],4,[(2,some (.row 3 1 0 (U0 (o9 s A) s.cols.length))),(3,some (.row Nf 2 0 ((K8 (o9 s A) 0 i).map B6)))]⟩)
    (fun i=>i≤s.cols.length) (fun i=>s.cols.length-i) 0 (Nat.zero_le _)
    (C2 (K7 (d:=9) (e:=Nf) (sz:=2) rfl) (B3 h0 rfl ⟨rfl,rfl,rfl,rfl,trivial⟩ ⟨⟨_,rfl⟩,⟨0,rfl⟩,trivial⟩ rfl rfl rfl)) (fun i hi=>?_)
   have qI:=y6 (o9 s A) i 0
   by_cases nf:i<s.cols.length
   ·have nl:=Hh (f:=o9 s A) (n:=s.cols.length) (k:=i) nf
    have oe:=JS (o9 s A) i 0
    rw[Nat.zero_add]at oe
    repeat'((first|(refine EO (x:=[.i (o9 s A i)]) nl (by omega) ?_) |refine S2 ?_|(refine T6 ?_ ?_<;>intro h<;>try exact V1 h)|intro el nX nY|intro el nX|exact T4|refine T5 ?_ ?_|intro ex)<;>try conv=>whnf)
    all_goals first
     |(exfalso;omega)
     |(rw[if_pos (by assumption)]at oe;exact⟨i+1,by omega,by omega,B3 h0 rfl ⟨congrArg (fun z:Nat=>some (AV.row 3 0 z)) (by rw[oe,List.length_append];rfl),rfl,rfl,rfl,trivial⟩ ⟨⟨_,rfl⟩,⟨_,congrArg (D3.row Nf 2 _) (by rw[oe,List.map_append];rfl)⟩,trivial⟩ rfl rfl rfl⟩)
     |(rw[if_neg (by assumption),List.append_nil]at oe;exact⟨i+1,by omega,by omega,B3 h0 rfl ⟨congrArg (fun z:Nat=>some (AV.row 3 0 z)) (by rw[oe]),rfl,rfl,rfl,trivial⟩ ⟨⟨_,rfl⟩,⟨_,congrArg (D3.row Nf 2 _) (by rw[oe])⟩,trivial⟩ rfl rfl rfl⟩)
   ·obtain rfl:i=s.cols.length:=by omega
    repeat'((first|refine S2 ?_|(refine T6 ?_ ?_<;>intro h<;>try exact V1 h)|intro el nX nY|intro el nX|exact T4|refine T5 ?_ ?_|intro ex)<;>try conv=>whnf)
    all_goals first
     |exact A0 rfl rfl
     |(exfalso;omega)
 ·rw[if_neg rJ]
  rw[G0]at *
  refine C1 Tryz.func129 63 fun nd E h0=>?_
  clear nd
  repeat'((first|refine A1 om ?_ |refine S2 ?_|(refine T6 ?_ ?_<;>intro h<;>try exact V1 h)|intro el nX nY|intro el nX|exact T4|refine T5 ?_ ?_|intro ex)<;>try conv=>whnf)
  all_goals first
   |exact x9 (sz:=2) rfl rfl
   |(exfalso;contradiction)
theorem bL(s:A4)(f:Nat)(caps:List AV)(nz:I6 caps=true)(g:B0→Int)(hg:∀a,-1≤g a∧g a≤1)(c:B0):T9 s c=0→(∀a∈X5 c,A3 Tryz.prog f (E0 a::caps) (.i (g a)))→A3 Tryz.prog 223 [E0 c,.fn f caps] (.i (v5 g c)):=by
 refine O7 (p:=fun c=>T9 s c=0→(∀a∈X5 c,A3 Tryz.prog f (E0 a::caps) (.i (g a)))→A3 Tryz.prog 223 [E0 c,.fn f caps] (.i (v5 g c))) (fun c ih h hf=>?_) c
 obtain⟨h1,h2⟩:=Ha h
 obtain⟨p1,p2,_⟩:=Ce h1
 obtain⟨k1,k2,k3⟩:=KO c.op
 have ve:∀k,k∈c.kids→A3 Tryz.prog 223 [E0 k,.fn f caps] (.i (v5 g k)):=fun k hk=>by
  refine ih k hk (h2 k hk) fun a ha=>hf a (iR ?_ hk ha)
  intro ho
  have:=k3 (by omega) (by omega) (by omega)
  have:c.kids=[]:=List.eq_nil_of_length_eq_zero (by omega)
  rw[this]at hk;cases hk
 have rq:=fun k=>Wc hg k
 have st:(c.op=2∨c.op=3∨c.op=4)→A3 Tryz.prog f (E0 c::caps) (.i (g c)):=fun ho=>hf c (by rw[En,if_pos ho];simp)
 rw[G0]at st ⊢
 rw[Eo]
 refine C1 Tryz.func223 51 fun nd E h0=>?_
 clear nd
 repeat'((first|(refine A1 (ve _ (List.mem_of_getElem? (by assumption))) ?_)|(refine A1 (st (by omega)) ?_)|(refine J0 ?_ ?_;(have:=rq el;omega)) |refine S2 ?_|(refine T6 ?_ ?_<;>intro h<;>try exact V1 h)|intro el nX nY|intro el nX|exact T4|refine T5 ?_ ?_|intro ex)<;>try conv=>whnf)
 all_goals first
  |(refine A0 rfl (congrArg AV.i ?_);unfold i7;rw[if_pos (by assumption)];done)
  |(refine A0 rfl (congrArg AV.i ?_);unfold i7;rw[if_neg (by assumption),if_pos (by assumption),FJ (k:=0) (by assumption),FJ (k:=1) (by assumption)];done)
  |(refine A0 rfl (congrArg AV.i ?_);unfold i7;rw[if_neg (by assumption),if_neg (by assumption),if_pos (by assumption),FJ (k:=0) (by assumption),FJ (k:=1) (by assumption)];done)
  |(refine A0 rfl (congrArg AV.i ?_);unfold i7;rw[if_neg (by assumption),if_neg (by assumption),if_neg (by assumption),if_pos (by assumption),FJ (k:=0) (by assumption)];done)
  |(refine A0 rfl (congrArg AV.i ?_);unfold i7;rw[if_neg (by assumption),if_neg (by assumption),if_neg (by assumption),if_neg (by assumption)];done)
theorem VW(s:A4)(hr:C5 s=0)(row:List Int)(a:B0)(ha:G7 s a=0)(ho:a.op=2∨a.op=3∨a.op=4)(hl:row.length=s.cols.length):A3 Tryz.prog 224 [E0 a,.iptr (sL s),.iptr [.sl 1 (row.map wA)]] (.i (Q9 s a (row.getD a.col.toNat 0))):=by
 have qo:=fun v=>NZ s a v (Fl hr ha)
 obtain⟨_,_,p3,_⟩:=Ce ha
 have hc:=p3 ho
 obtain⟨v,hv⟩:∃v,row[a.col.toNat]?=some v:=⟨_,List.getElem?_eq_getElem (by omega)⟩
 rw[D2 hv]
 rw[G0]at *
 refine C1 Tryz.func224 13 fun nd E h0=>?_
 clear nd
 repeat'((first|(refine A2 (x:=v) hv (by omega) ?_)|refine A1 (qo _) ?_|(refine B5 ?_ ?_;kernel_rfl) |refine S2 ?_|(refine T6 ?_ ?_<;>intro h<;>try exact V1 h)|intro el nX nY|intro el nX|exact T4|refine T5 ?_ ?_|intro ex)<;>try conv=>whnf)
 all_goals exact A0 rfl rfl
theorem YW(s:A4)(hr:C5 s=0)(c:B0)(hc:T9 s c=0)(row:List Int)(hl:row.length=s.cols.length):A3 Tryz.prog 182 [sA s,E0 c,.sl 1 (row.map wA)] (.i (BQ s c row)):=by
 have ht:=bL s 224 [.iptr (sL s),.iptr [.sl 1 (row.map wA)]] rfl (fun a=>Q9 s a (row.getD a.col.toNat 0)) (fun a=>TK _ _ _) c hc fun a ha=>by
  obtain⟨h1,h2⟩:=CB c hc a ha
  exact VW s hr row a h1 h2 hl
 refine C1 Tryz.func182 10 fun nd E h0=>?_
 clear nd
 repeat'((first|(refine J9 0 ?_;refine DI ?_;(conv=>whnf);refine J9 2 ?_)|refine A1 ht ?_ |refine S2 ?_|(refine T6 ?_ ?_<;>intro h<;>try exact V1 h)|intro el nX nY|intro el nX|exact T4|refine T5 ?_ ?_|intro ex)<;>try conv=>whnf)
 all_goals exact A0 rfl rfl
end Go.Proofs.YtiphlhoclaogjaaGreatDoor
