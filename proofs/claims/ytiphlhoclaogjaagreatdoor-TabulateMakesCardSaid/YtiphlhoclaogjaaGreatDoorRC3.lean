/- Chapter 5: which level suffices for a condition about one column. Chapter 5: what a condition needs, as a list of picks; picks raised. Chapter 5: the program's needs of a condition. Chapter 5: the program's truth values for rows. -/
import Derived.Test.YtiphlhoclaogjaaGreatDoorRCm2
import Derived.Test.YtiphlhoclaogjaaGreatDoorRSx
set_option linter.unusedVariables false
set_option linter.unnecessarySimpa false
set_option linter.unusedSimpArgs false
set_option maxHeartbeats 64000000
namespace Go.Proofs.YtiphlhoclaogjaaGreatDoor
open Go Go.Av
attribute [local irreducible] C9 B3 C7 D1 DQ D0 C6 St.le A3 B7
set_option maxRecDepth 100000
theorem Uw(c:D4)(level:Int)(h1:1≤level)(h2:level≤c.widths.length):A3 Tryz.prog 221 [T3 c,.i level] (.i (B1 c level)):=by
 refine B5 Tryz.func221 14 fun mK E h0=>?_
 have mL:c.widths.length≤9223372036854775807:=by
  have:=((mK (T3 c) (by simp)).agg (.sl 1 (c.widths.map wA)) (by simp)).sl
  simpa using this
 clear mK
 repeat'((first|refine S2 ?_|(refine T6 ?_ ?_<;>intro h<;>try exact V1 h)|intro el mI mJ|intro el mI|exact T4|refine T5 ?_ ?_|intro ex)<;>try conv=>whnf)
 all_goals exact A1 rfl (congrArg AV.i (D7 mI).symm)
theorem NS(n w:Int)(hw:1≤w)(wL:w≤1000000)(h1:-4000000000000≤n)(h2:n≤4000000000000):A3 Tryz.prog 222 [.i n,.i w] (.i (C8 n w)):=by
 refine B5 Tryz.func222 17 fun mK E h0=>?_
 have hm:=CJ n hw
 have hb:=KB n hw
 clear mK
 repeat'((first|refine S2 ?_|(refine T6 ?_ ?_<;>intro h<;>try exact V1 h)|intro el mI mJ|intro el mI|exact T4|refine T5 ?_ ?_|intro ex)<;>try conv=>whnf)
 all_goals first
  |(refine A1 rfl (congrArg AV.i ?_);unfold C8;omega)
theorem q9{s:A4}(hr:C3 s=0){a:B6}(ha:I0 s a=0)(ho:a.op=2∨a.op=3∨a.op=4):∃x,s.cols[a.col.toNat]?=some x∧1≤a.col∧a.col<s.cols.length∧(a.op=2→x.kind=2∧0≤x.lst∧x.lst<s.lists.length∧E5 s a.col=C5 (C2 s x).1 (C2 s x).2-1)∧(a.op≠2→x.kind=3∧meaE x=0∧E5 s a.col=x.widths.length)∧(a.op=3→a.lo≤a.hi∧-1000000≤a.lo∧a.hi≤1000000)∧(a.op=4→x.opt=true):=by
 obtain⟨p1,p2,p3,p4,p5,p6⟩:=y6 ha
 have hc:=p3 ho
 obtain⟨x,hx⟩:∃x,s.cols[a.col.toNat]?=some x:=⟨_,List.getElem?_eq_getElem (by omega)⟩
 have vS:=C1 hx
 rw[vS]at p4 p5 p6
 have oe:x.kind≠1:=by
  intro h
  rcases ho with h2|h2|h2
  ·have:=(p4 h2).1;omega
  ·have:=(p5 h2).1;omega
  ·have:=(p6 h2).1;omega
 have h1:1≤a.col:=by
  by_cases h:a.col=0
  ·obtain⟨_,_,_,_,h5⟩:=D3 hr
   rw[h]at hx
   have:s.cols.head?=some x:=by rw[←hx];cases s.cols<;>rfl
   rw[this]at h5
   simp only[Option.map_some,Option.some.injEq]at h5
   exact absurd h5 oe
  ·omega
 have hf:E5 s a.col=M0 s x:=by
  unfold E5
  rw[if_neg (by omega),vS]
 refine⟨x,hx,h1,hc.2,fun h2=>?_,fun h2=>?_,fun h3=>?_,fun h4=>(p6 h4).2⟩
 ·have hk:=(p4 h2).1
  have hl:=z8.lst hr (List.mem_of_getElem? hx) hk
  exact⟨hk,hl.1,hl.2,by rw[hf,M0,if_pos hk]⟩
 ·have hk:x.kind=3:=by
   rcases ho with h|h|h
   ·exact absurd h h2
   ·exact(p5 h).1
   ·exact(p6 h).1
  obtain⟨_,_,_,h4,_⟩:=D3 hr
  exact⟨hk,v9 (d6 (h4 _ _ hx)).2.2.1 hk,by rw[hf,M0,if_neg (by omega)]⟩
 ·exact(p5 h3).2
theorem ji{a:B6}{x:D4}(h1:x.low≤x.high)(h2:a.lo≤a.hi):GI a x 0↔x.opt=false∧(min a.hi x.high<max a.lo x.low∨(max a.lo x.low=x.low∧min a.hi x.high=x.high)):=by
 unfold GI
 rw[if_pos rfl]
 constructor
 ·intro h;exact⟨h.1,by omega⟩
 ·intro h;exact⟨h.1,by omega,by omega⟩
theorem jj{a:B6}{x:D4}{level:Int}(h1:x.low≤x.high)(h2:a.lo≤a.hi)(h0:¬level=0)(hw:1≤B1 x level):GI a x level↔min a.hi x.high<max a.lo x.low∨((max a.lo x.low=x.low∨C8 (max a.lo x.low) (B1 x level)=max a.lo x.low)∧(min a.hi x.high=x.high∨C8 (min a.hi x.high+1) (B1 x level)=min a.hi x.high+1)):=by
 unfold GI
 rw[if_neg h0]
 have t1:=JE (v:=a.lo) hw
 have t2:=JE (v:=a.hi+1) hw
 generalize B1 x level=w at *
 by_cases pT:x.low<a.lo
 ·have e1:max a.lo x.low=a.lo:=by omega
  rw[e1,t1]
  by_cases hhi:a.hi<x.high
  ·have e2:min a.hi x.high=a.hi:=by omega
   rw[e2,t2]
   omega
  ·have e2:min a.hi x.high=x.high:=by omega
   rw[e2]
   omega
 ·have e1:max a.lo x.low=x.low:=by omega
  rw[e1]
  by_cases hhi:a.hi<x.high
  ·have e2:min a.hi x.high=a.hi:=by omega
   rw[e2,t2]
   omega
  ·have e2:min a.hi x.high=x.high:=by omega
   rw[e2]
   omega
theorem Xh(s:A4)(a:B6)(level:Int)(hr:C3 s=0)(ha:I0 s a=0)(h2:a.op=2):A3 Tryz.prog 181 [sA s,D5 a,.i level] (.b (a7 s a level)):=by
 obtain⟨x,hx,c1,c2,q2,_⟩:=q9 hr ha (.inl h2)
 obtain⟨hk,oH,mt,hf⟩:=q2 h2
 obtain⟨lx,nA⟩:∃l,s.lists[x.lst.toNat]?=some l:=⟨_,List.getElem?_eq_getElem (by omega)⟩
 rw[QA h2 hx nA]
 have pC:=fun v=>NP s a v (Ds hr ha)
 rw[F8]at *
 refine B5 Tryz.func181 134 fun mK E h0=>?_
 obtain⟨_,_,oc⟩:=Z8 (s:=s) (mK _ (by simp))
 clear mK
 have mL:=oc lx (List.mem_of_getElem? nA)
 have tG:=n8 (nm:=lx.1) mL
 have mh:=x9 lx.1 lx.2 (C5 lx.1 lx.2-1)
 have pa:=Dd lx.1 lx.2 mL
 have tY:=Gg lx.1 lx.2 (C5 lx.1 lx.2-1) mL
 have qp:=fun (leaf:Nat)=>Jz lx.1 lx.2 leaf level mL
 generalize hL:H1 lx.1 lx.2 (C5 lx.1 lx.2-1)=L at tY mh ⊢
 repeat'((first|(refine A2 (x:=x) hx (by omega) ?_)|(refine A2 (x:=lx) nA (by omega) ?_)|refine A0 pa ?_|refine A0 tY ?_|(refine B0 ?_ ?_;kernel_rfl) |refine S2 ?_|(refine T6 ?_ ?_<;>intro h<;>try exact V1 h)|intro el mI mJ|intro el mI|exact T4|refine T5 ?_ ?_|intro ex)<;>try conv=>whnf)
 refine A9 (ι:=Nat) (fun k=>⟨[(2,.i level),(3,.ref 0 0),(4,.ref 1 0),(8,.ref 3 0),(9,.mp 4),(39,.sl 1 (L.map iA)),(40,.i L.length),(41,.i k)],5,[(0,some (.box (sL s))),(1,some (.box (M8 a))),(2,some (.box (U6 x))),(3,some (.box (z7 lx))),(4,some (.map (BG (fun v=>L1 lx.1 lx.2 v level) (fun v=>M2 s a v) L k)))]⟩)
  (fun k=>k≤L.length∧Ck (fun v=>L1 lx.1 lx.2 v level) (fun v=>M2 s a v) (L.take k)) (fun k=>L.length-k) 0 ⟨Nat.zero_le _,fun x hx=>by simp at hx⟩
  (A6 h0) (fun k hI=>?_)
 obtain⟨oX,hI⟩:=hI
 repeat'((first|refine A0 (qp _) ?_|refine A0 (pC _) ?_|(refine I6 ?_ ?_;exact Hb _ _ _ _)|refine RB (gS _ _ _ _ _) ?_|(refine B0 ?_ ?_;kernel_rfl) |refine S2 ?_|(refine T6 ?_ ?_<;>intro h<;>try exact V1 h)|intro el mI mJ|intro el mI|exact T4|refine T5 ?_ ?_|intro ex)<;>try conv=>whnf)
 all_goals first
  |exact A1 rfl (congrArg AV.b (decide_eq_false (Ck.not mI (by assumption) (by assumption))).symm)
  |exact A1 rfl (congrArg AV.b (decide_eq_true (by have e:=DJ h;rw[e]at hI;exact hI)).symm)
  |exact⟨k+1,⟨by omega,hI.step mI (fun _=>Decidable.of_not_not (by assumption))⟩,by omega,A7 h0 rfl ⟨rfl,rfl,rfl,rfl,rfl,rfl,rfl,rfl,trivial⟩ ⟨rfl,rfl,rfl,rfl,congrArg C4.map (Ha mI),trivial⟩ rfl rfl rfl⟩
  |exact⟨k+1,⟨by omega,hI.step mI (fun hh=>by rw[h]at hh;cases hh)⟩,by omega,A7 h0 rfl ⟨rfl,rfl,rfl,rfl,rfl,rfl,rfl,rfl,trivial⟩ ⟨rfl,rfl,rfl,rfl,congrArg C4.map (Ha mI),trivial⟩ rfl rfl rfl⟩
theorem Xi(s:A4)(a:B6)(level:Int)(hr:C3 s=0)(ha:I0 s a=0)(ho:a.op=3∨a.op=4)(yp:0≤level)(tU:level≤E5 s a.col):A3 Tryz.prog 181 [sA s,D5 a,.i level] (.b (a7 s a level)):=by
 obtain⟨x,hx,c1,c2,_,q2,q3,q4⟩:=q9 hr ha (.inr ho)
 obtain⟨hk,hm,hf⟩:=q2 (by omega)
 rw[hf]at tU
 have hp:=T7 hm
 have pI:¬level=0→1≤B1 x level∧B1 x level≤1000000:=fun h=>f6 hp.2.2.2.2.2 (by omega) tU
 have rD:¬level=0→A3 Tryz.prog 221 [T3 x,.i level] (.i (B1 x level)):=fun h=>Uw x level (by omega) tU
 rw[F8]at *
 by_cases h4:a.op=4
 ·have rn:=q4 h4
  rw[Le h4]
  refine B5 Tryz.func181 134 fun mK E h0=>?_
  clear mK
  repeat'((first|(refine A2 (x:=x) hx (by omega) ?_) |refine S2 ?_|(refine T6 ?_ ?_<;>intro h<;>try exact V1 h)|intro el mI mJ|intro el mI|exact T4|refine T5 ?_ ?_|intro ex)<;>try conv=>whnf)
  all_goals first
   |exact absurd (rn.symm.trans (by assumption:x.opt=false)) (by decide)
   |exact A1 rfl (congrArg AV.b (decide_eq_true (by omega:0<level)).symm)
   |exact A1 rfl (congrArg AV.b (decide_eq_false (by omega:¬0<level)).symm)
 have h3:a.op=3:=by omega
 have yw:=q3 h3
 rw[Lf h3 hx]
 have rW:¬level=0→A3 Tryz.prog 222 [.i (max a.lo x.low),.i (B1 x level)] (.i (C8 (max a.lo x.low) (B1 x level))):=fun h=>NS _ _ (pI h).1 (pI h).2 (by omega) (by omega)
 have po:¬level=0→A3 Tryz.prog 222 [.i (min a.hi x.high+1),.i (B1 x level)] (.i (C8 (min a.hi x.high+1) (B1 x level))):=fun h=>NS _ _ (pI h).1 (pI h).2 (by omega) (by omega)
 have qC:=ji (a:=a) (x:=x) (by omega) yw.1
 have hm1:=fun h:¬level=0=>jj (a:=a) (x:=x) (level:=level) (by omega) yw.1 h (pI h).1
 refine B5 Tryz.func181 134 fun mK E h0=>?_
 clear mK
 repeat'((first|(refine A2 (x:=x) hx (by omega) ?_)|refine A0 (rD (by assumption)) ?_|refine A0 (rW (by assumption)) ?_|refine A0 (po (by assumption)) ?_|(refine B0 ?_ ?_;kernel_rfl) |refine S2 ?_|(refine T6 ?_ ?_<;>intro h<;>try exact V1 h)|intro el mI mJ|intro el mI|exact T4|refine T5 ?_ ?_|intro ex)<;>try conv=>whnf)
 all_goals first
  |(refine A1 rfl (congrArg AV.b ?_)
    have e0:level=0:=by assumption
    subst e0
    first
     |(rw[eq_comm,decide_eq_false_iff_not,qC];intro hh;first|omega|exact absurd (hh.1.symm.trans (by assumption:x.opt=true)) (by decide))
     |(rw[eq_comm,decide_eq_true_iff,qC];exact⟨by assumption,by omega⟩)
     |(rw[decide_eq_decide,qC];exact⟨fun z=>⟨by assumption,by omega⟩,fun z=>by have:=z.2;omega⟩))
  |(refine A1 rfl (congrArg AV.b ?_)
    have e0:¬level=0:=by assumption
    have qt:=hm1 e0
    first
     |(rw[eq_comm,decide_eq_false_iff_not,qt];omega)
     |(rw[eq_comm,decide_eq_true_iff,qt];omega)
     |(rw[decide_eq_decide,qt];omega))
theorem Xj{ws:List Int}(hne:ws.length≠0)(h:R3 ws=true):ws.getD 0 0=1:=by
 cases ws with
 |nil=>exact absurd rfl hne
 |cons w r =>
  simp only[R3,Bool.and_eq_true,decide_eq_true_eq]at h
  simpa using h.1
theorem WF{s:A4}(hr:C3 s=0){a:B6}(ha:I0 s a=0)(ho:a.op=2∨a.op=3∨a.op=4):a7 s a (E5 s a.col)=true∧0≤E5 s a.col:=by
 obtain⟨x,hx,c1,c2,q2,q3,q4,q5⟩:=q9 hr ha ho
 by_cases h2:a.op=2
 ·obtain⟨hk,oH,mt,hf⟩:=q2 h2
  obtain⟨lx,nA⟩:∃l,s.lists[x.lst.toNat]?=some l:=⟨_,List.getElem?_eq_getElem (by omega)⟩
  rw[H6 nA]at hf
  refine⟨?_,Of hr c1 c2⟩
  rw[QA h2 hx nA,hf]
  refine decide_eq_true fun u hu v hv e=>?_
  have wk:∀u∈H1 lx.1 lx.2 (C5 lx.1 lx.2-1),L1 lx.1 lx.2 u (C5 lx.1 lx.2-1)=u:=by
   intro u hu
   obtain⟨nM,vk,hd⟩:=Oe hu
   rw[←WE ⟨vk,nM,by omega,by omega⟩,show dep lx.2 u-(C5 lx.1 lx.2-1).toNat=0 by omega]
   rfl
  dsimp only at e
  rw[wk u hu,wk v hv]at e
  have:u=v:=by omega
  rw[this]
 ·obtain⟨hk,hm,hf⟩:=q3 h2
  have hp:=T7 hm
  refine⟨?_,by omega⟩
  by_cases h4:a.op=4
  ·rw[Le h4,hf]
   exact decide_eq_true (by omega)
  ·rw[Lf (by omega) hx,hf]
   have hw:B1 x x.widths.length=1:=by
    unfold B1
    rw[show ((x.widths.length:Int)-x.widths.length).toNat=0 by omega]
    exact Xj (by omega) hp.2.2.2.2.2
   refine decide_eq_true ?_
   unfold GI
   rw[if_neg (by omega),hw]
   exact⟨fun _=>Int.tmod_one _,fun _=>Int.tmod_one _⟩
def JG(s:A4)(a:B6):Nat→Nat→Nat
 |0,n=>n
 |f+1,n=>if a7 s a n=true then n else JG s a f (n+1)
def Ap(s:A4)(a:B6):Nat:=JG s a (E5 s a.col).toNat 0
theorem QB{s:A4}{a:B6}:∀(f n:Nat),a7 s a (n+f:Nat)=true→n≤JG s a f n∧JG s a f n≤n+f∧a7 s a (JG s a f n:Nat)=true∧∀i:Nat,n≤i→i<JG s a f n→a7 s a i=false
 |0,n,h=>⟨Nat.le_refl _,Nat.le_refl _,h,fun i h1 h2=>absurd h2 (by unfold JG;omega)⟩
 |f+1,n,h=>by
  unfold JG
  split
  ·rename_i h2
   exact⟨Nat.le_refl _,by omega,h2,fun i h1 h3=>by omega⟩
  ·rename_i h2
   obtain⟨i1,i2,i3,i4⟩:=QB f (n+1) (by rw[show n+1+f=n+(f+1) by omega];exact h)
   refine⟨by omega,by omega,i3,fun i h3 h4=>?_⟩
   by_cases e:i=n
   ·subst e;simpa using h2
   ·exact i4 i (by omega) h4
theorem QC{s:A4}(hr:C3 s=0){a:B6}(ha:I0 s a=0)(ho:a.op=2∨a.op=3∨a.op=4):(Ap s a:Int)≤E5 s a.col∧a7 s a (Ap s a)=true∧∀i:Nat,i<Ap s a→a7 s a i=false:=by
 obtain⟨h1,h2⟩:=WF hr ha ho
 obtain⟨i1,i2,i3,i4⟩:=QB (s:=s) (a:=a) (E5 s a.col).toNat 0 (by rw[Nat.zero_add,Int.toNat_of_nonneg h2];exact h1)
 exact⟨by unfold Ap;omega,i3,fun i hi=>i4 i (Nat.zero_le _) hi⟩
def K5(lv:Nat→Int)(lo:Nat):Nat→List Pk
 |0=>[]
 |n+1=>if 0<lv lo then ⟨lo,lv lo⟩::K5 lv (lo+1) n else K5 lv (lo+1) n
theorem f7(lv:Nat→Int)(lo n:Nat):K5 lv lo (n+1)=if 0<lv lo then ⟨lo,lv lo⟩::K5 lv (lo+1) n else K5 lv (lo+1) n:=rfl
theorem JH(lv:Nat→Int):∀(n lo:Nat),K5 lv lo (n+1)=K5 lv lo n++(if 0<lv (lo+n)then [⟨((lo+n:Nat):Int),lv (lo+n)⟩]else [])
 |0,lo=>by
  show (if 0<lv lo then [(⟨(lo:Int),lv lo⟩:Pk)]else [])=[]++(if 0<lv (lo+0)then [⟨((lo+0:Nat):Int),lv (lo+0)⟩]else [])
  rw[Nat.add_zero,List.nil_append]
 |n+1,lo=>by
  have ih:=JH lv n (lo+1)
  rw[show lo+1+n=lo+(n+1) by omega]at ih
  rw[f7 lv lo (n+1),f7 lv lo n,ih]
  split<;>simp
theorem Aq{lv:Nat→Int}{p:Pk}:∀{n lo:Nat},p∈K5 lv lo n→(lo:Int)≤p.col∧p.col<(lo+n:Nat)∧p.lev=lv p.col.toNat∧0<p.lev
 |0,lo,h=>by simp[K5]at h
 |n+1,lo,h=>by
  unfold K5 at h
  split at h
  ·rcases List.mem_cons.1 h with rfl|h
   ·exact⟨Int.le_refl _,by dsimp only;omega,by simp,by assumption⟩
   ·obtain⟨h1,h2,h3⟩:=Aq h
    exact⟨by omega,by omega,h3⟩
  ·obtain⟨h1,h2,h3⟩:=Aq h
   exact⟨by omega,by omega,h3⟩
theorem r8(lv:Nat→Int):∀(n lo:Nat),(K5 lv lo n).length≤n
 |0,lo=>Nat.le_refl _
 |n+1,lo=>by
  have:=r8 lv n (lo+1)
  unfold K5
  split
  ·rw[List.length_cons];omega
  ·omega
theorem EW{f g:Nat→Int}:∀{n lo:Nat},(∀i,lo≤i→i<lo+n→f i=g i)→K5 f lo n=K5 g lo n
 |0,lo,_=>rfl
 |n+1,lo,h=>by
  unfold K5
  rw[h lo (Nat.le_refl _) (by omega),EW (f:=f) (g:=g) (n:=n) (lo:=lo+1) fun i h1 h2=>h i (by omega) (by omega)]
def O4(col lev:Int):List Pk→Bool→List Pk→List Pk
 |[],dn,out=>if dn=true then out else out++[⟨col,lev⟩]
 |x::r,dn,out =>
  if col<x.col∧dn=false then O4 col lev r true (out++[⟨col,lev⟩]++[x])
  else if x.col=col then O4 col lev r true (out++[⟨x.col,max x.lev lev⟩])
  else O4 col lev r dn (out++[x])
def o3(l:List Pk)(col lev:Int):List Pk:=O4 col lev l (decide (lev≤0)) []
theorem EX{col lev:Int}:∀(l out:List Pk),(∀x∈l,x.col≠col∨lev≤x.lev)→O4 col lev l true out=out++l
 |[],out,_=>by simp[O4]
 |x::r,out,h=>by
  have ih:=fun out=>EX (col:=col) (lev:=lev) r out fun y hy=>h y (by simp[hy])
  unfold O4
  rw[if_neg (fun hh=>by cases hh.2)]
  split
  ·rename_i e
   have:lev≤x.lev:=by rcases h x (by simp)with h|h;exact absurd e h;exact h
   rw[ih,show max x.lev lev=x.lev by omega]
   simp
  ·rw[ih];simp
theorem aF{col lev:Int}(l out:List Pk)(h:∀x∈l,col<x.col):O4 col lev l false out=out++⟨col,lev⟩::l:=by
 cases l with
 |nil=>simp[O4]
 |cons x r =>
  unfold O4
  rw[if_pos ⟨h x (by simp),rfl⟩,EX _ _ fun y hy=>.inl (by have:=h y (by simp[hy]);omega)]
  simp
def upd(lv:Nat→Int)(col lev:Int)(i:Nat):Int:=if col=i then max (lv i) lev else lv i
theorem JI{lv:Nat→Int}{col lev:Int}(hl:0<lev):∀(n lo:Nat) (out:List Pk),(lo:Int)≤col→col<(lo+n:Nat)→O4 col lev (K5 lv lo n) false out=out++K5 (upd lv col lev) lo n
 |0,lo,out,h1,h2=>by omega
 |n+1,lo,out,h1,h2=>by
  have pE:∀m:Nat,col<(m:Int)→K5 (upd lv col lev) m n=K5 lv m n:=fun m hm=>EW fun i h3 h4=>by unfold upd;rw[if_neg (by omega)]
  by_cases e:col=lo
  ·have qp:upd lv col lev lo=max (lv lo) lev:=by unfold upd;rw[if_pos e]
   rw[show K5 (upd lv col lev) lo (n+1)=⟨lo,max (lv lo) lev⟩::K5 lv (lo+1) n by
    rw[f7,qp,if_pos (by omega),pE (lo+1) (by omega)]]
   rw[f7]
   by_cases h3:0<lv lo
   ·rw[if_pos h3,O4,if_neg (by dsimp only;omega),if_pos (by dsimp only;omega),EX _ _ fun y hy=>.inl (by have:=(Aq hy).1;omega)]
    simp
   ·rw[if_neg h3,aF _ _ fun y hy=>by have:=(Aq hy).1;omega]
    rw[e,show max (lv lo) lev=lev by omega]
  ·have qp:upd lv col lev lo=lv lo:=by unfold upd;rw[if_neg e]
   rw[f7,f7,qp]
   by_cases h3:0<lv lo
   ·rw[if_pos h3,if_pos h3,O4,if_neg (by dsimp only;omega),if_neg (by dsimp only;omega),JI hl n (lo+1) _ (by omega) (by omega)]
    simp
   ·rw[if_neg h3,if_neg h3,JI hl n (lo+1) _ (by omega) (by omega)]
theorem QD{lv:Nat→Int}{col lev:Int}{n:Nat}(h1:0≤col)(h2:col<n)(hl:0≤lev)(hv:∀i,0≤lv i):o3 (K5 lv 0 n) col lev=K5 (upd lv col lev) 0 n:=by
 unfold o3
 by_cases h:lev≤0
 ·rw[decide_eq_true h,EX _ _ fun y hy=>.inr (by have:=(Aq hy).2.2.2;omega),List.nil_append]
  exact EW fun i _ _=>by
   unfold upd
   have:=hv i
   split
   ·omega
   ·rfl
 ·rw[decide_eq_false h,JI (by omega) n 0 [] (by omega) (by omega),List.nil_append]
theorem JJ:∀(n lo:Nat),K5 (fun _=>(0:Int)) lo n=[]
 |0,_=>rfl
 |n+1,lo=>by rw[f7,if_neg (by omega),JJ n]
def AZ(s:A4)(l:List B6)(i:Nat):Int:=l.foldl (fun (m:Int) (a:B6)=>if a.col=(i:Int)then max m (Ap s a:Int)else m) 0
theorem gU(s:A4):AZ s []=fun _=>0:=rfl
theorem cy(s:A4)(l:List B6)(a:B6):AZ s (l++[a])=upd (AZ s l) a.col (Ap s a):=by
 funext i
 unfold AZ upd
 rw[List.foldl_append]
 rfl
theorem Sw{s:A4}{l:List B6}{k:Nat}{a:B6}(h:l[k]?=some a):AZ s (l.take (k+1))=upd (AZ s (l.take k)) a.col (Ap s a):=by
 rw[E7 h,cy]
theorem aG(s:A4)(i:Nat):∀l:List B6,0≤AZ s l i:=by
 have key:∀(l:List B6) (m:Int),0≤m→0≤l.foldl (fun (m:Int) (a:B6)=>if a.col=(i:Int)then max m (Ap s a:Int)else m) m:=by
  intro l
  induction l with
  |nil=>intro m h;exact h
  |cons a r ih =>
   intro m h
   rw[List.foldl_cons]
   refine ih _ ?_
   split<;>omega
 exact fun l=>key l 0 (Int.le_refl _)
def I1(s:A4)(c:B6):List Pk:=if J6 s c=0 then K5 (AZ s (k0 c)) 0 s.cols.length else []
abbrev NT:Nat:=81
def U8(f:Nat→Int)(n:Nat):List (List AV):=(List.range n).map fun i=>[AV.i (f i)]
theorem Hd{f:Nat→Int}{n k:Nat}(h:k<n):(U8 f n)[k]?=some [.i (f k)]:=by
 unfold U8
 rw[List.getElem?_map,List.getElem?_range h];rfl
theorem Lg{f:Nat→Int}{n k:Nat}{v:Int}:(U8 f n).set k [.i v]=U8 (fun i=>if k=i then v else f i) n:=by
 refine List.ext_getElem? fun i=>?_
 unfold U8
 rw[List.getElem?_set,List.getElem?_map,List.getElem?_map,List.length_map,List.length_range]
 by_cases h:i<n
 ·rw[List.getElem?_range h]
  by_cases e:k=i
  ·subst e;simp[h]
  ·simp[e]
 ·rw[List.getElem?_eq_none (by simpa using h)]
  by_cases e:k=i
  ·subst e;simp[h]
  ·simp[e]
theorem QE(n:Nat):List.replicate n [AV.i 0]=U8 (fun _=>0) n:=by
 unfold U8
 rw[List.map_const',List.length_range]
theorem cz{lv:Nat→Int}{n:Nat}{col lev:Int}(h:0≤col):(U8 lv n).set col.toNat [.i (max (lv col.toNat) lev)]=U8 (upd lv col lev) n:=by
 rw[Lg]
 unfold U8
 refine List.map_congr_left fun i _=>?_
 unfold upd
 dsimp only
 by_cases e:col.toNat=i
 ·subst e;rw[if_pos rfl,if_pos (by omega)]
 ·rw[if_neg e,if_neg (by omega)]
theorem aH(s:A4)(a:B6)(level:Int)(hr:C3 s=0)(ha:I0 s a=0)(ho:a.op=2∨a.op=3∨a.op=4)(h0:0≤level)(h1:level≤E5 s a.col):A3 Tryz.prog 181 [sA s,D5 a,.i level] (.b (a7 s a level)):=by
 by_cases h2:a.op=2
 ·exact Xh s a level hr ha h2
 ·exact Xi s a level hr ha (by omega) h0 h1
theorem GJ(s:A4)(c:B6):A3 Tryz.prog 129 [sA s,D5 c] (.sl 2 ((I1 s c).map A8)):=by
 have nM:=AE s c
 unfold I1
 by_cases qa:J6 s c=0
 ·rw[if_pos qa]
  obtain⟨hr,ht,hd,nJ⟩:=o0 qa
  have un:=Uu c (by omega)
  have mL:=Gi c
  have hn:=(D3 hr).2.1
  have qy:=Fl c nJ
  rw[F8]at *
  generalize hA:k0 c=A at *
  refine B5 Tryz.func129 63 fun mK E h0=>?_
  clear mK
  repeat'((first|refine A0 nM ?_|refine A0 un ?_ |refine S2 ?_|(refine T6 ?_ ?_<;>intro h<;>try exact V1 h)|intro el mI mJ|intro el mI|exact T4|refine T5 ?_ ?_|intro ex)<;>try conv=>whnf)
  all_goals first
   |exact absurd qa (by assumption)
   |skip
  refine A9 (ι:=Nat) (fun k=>⟨[(2,.ref 0 0),(3,.ref 1 0),(5,.row 2 0 s.cols.length),(21,.sl 6 (A.map I8)),(22,.i A.length),(23,.i k)],3,[(0,some (.box (sL s))),(1,some (.box (M8 c))),(2,some (.row 3 1 0 (U8 (AZ s (A.take k)) s.cols.length)))]⟩)
   (fun k=>k≤A.length) (fun k=>A.length-k) 0 (Nat.zero_le _)
   (A7 h0 rfl ⟨rfl,rfl,rfl,rfl,rfl,rfl,trivial⟩ ⟨rfl,rfl,⟨0,congrArg (C4.row 3 1 0) (by rw[Int.toNat_natCast];exact(QE _).symm)⟩,trivial⟩ rfl rfl rfl) (fun k hk=>?_)
  have oV:=aG s
  by_cases mM:k<A.length
  ·obtain⟨el,mI⟩:∃el,A[k]?=some el:=⟨_,List.getElem?_eq_getElem mM⟩
   obtain⟨r1,r2⟩:=qy el (List.mem_of_getElem? mI)
   obtain⟨l1,l2,l3⟩:=QC hr r1 r2
   obtain⟨x,hx,c1,c2,_⟩:=q9 hr r1 r2
   have mU:=Hd (f:=AZ s (A.take k)) (n:=s.cols.length) (k:=el.col.toNat) (by omega)
   have md:=OY hr el.col
   repeat'((first|(refine A2 (x:=el) mI (by omega) ?_) |refine S2 ?_|(refine T6 ?_ ?_<;>intro h<;>try exact V1 h)|intro el mI mJ|intro el mI|exact T4|refine T5 ?_ ?_|intro ex)<;>try conv=>whnf)
   all_goals first
    |(exfalso;omega)
    |skip
   refine A9 (ι:=Nat) (fun j=>⟨[(2,.ref 0 0),(3,.ref 1 0),(5,.row 2 0 s.cols.length),(7,.ref 3 0),(8,.i j),(21,.sl 6 (A.map I8)),(22,.i A.length),(23,.i k)],4,[(0,some (.box (sL s))),(1,some (.box (M8 c))),(2,some (.row 3 1 0 (U8 (AZ s (A.take k)) s.cols.length))),(3,some (.box (I8 el)))]⟩)
    (fun j=>j≤Ap s el) (fun j=>Ap s el-j) 0 (Nat.zero_le _) (A6 h0) (fun j hj=>?_)
   have hc:=aH s el j hr r1 r2 (by omega) (by omega)
   by_cases hs:a7 s el j=true
   ·obtain rfl:j=Ap s el:=Classical.byContradiction fun hne=>by have:=l3 j (by omega);rw[hs]at this;cases this
    rw[hs]at hc
    repeat'((first|refine A0 hc ?_|(refine E6 10 ?_;refine F3 (id:=10) ⟨[(2,.ref 0 0),(3,.ref 1 0),(5,.row 2 0 s.cols.length),(21,.sl 6 (A.map I8)),(22,.i A.length),(23,.i k)],3,[(0,some (.box (sL s))),(1,some (.box (M8 c))),(2,some (.row 3 1 0 (U8 (AZ s (A.take (k+1))) s.cols.length)))]⟩ ?_ ?_) |refine S2 ?_|(refine T6 ?_ ?_<;>intro h<;>try exact V1 h)|intro el mI mJ|intro el mI|exact T4|refine T5 ?_ ?_|intro ex)<;>try conv=>whnf)
    all_goals first
     |exact A7 h0 rfl ⟨rfl,rfl,rfl,rfl,rfl,rfl,trivial⟩ ⟨rfl,rfl,⟨_,congrArg (C4.row 3 1 _) (by rw[Sw mI];exact(cz (by omega)).symm)⟩,trivial⟩ rfl rfl rfl
     |exact⟨k+1,by omega,by omega,A6 h0⟩
   ·have mR:a7 s el j=false:=by simpa using hs
    have pP:j<Ap s el:=Nat.lt_of_le_of_ne hj fun e=>by rw[e,l2]at mR;cases mR
    rw[mR]at hc
    repeat'((first|refine A0 hc ?_ |refine S2 ?_|(refine T6 ?_ ?_<;>intro h<;>try exact V1 h)|intro el mI mJ|intro el mI|exact T4|refine T5 ?_ ?_|intro ex)<;>try conv=>whnf)
    all_goals first
     |exact⟨j+1,by omega,by omega,A6 h0⟩
  ·obtain rfl:k=A.length:=by omega
   rw[List.take_length]
   repeat'((first|refine S2 ?_|(refine T6 ?_ ?_<;>intro h<;>try exact V1 h)|intro el mI mJ|intro el mI|exact T4|refine T5 ?_ ?_|intro ex)<;>try conv=>whnf)
   all_goals first
    |(exfalso;omega)
    |skip
   refine A9 (ι:=Nat) (fun i=>⟨[(9,.row 3 0 (K5 (AZ s A) 0 i).length),(46,.row 2 0 s.cols.length),(47,.i s.cols.length),(48,.i i)],4,[(2,some (.row 3 1 0 (U8 (AZ s A) s.cols.length))),(3,some (.row NT 2 0 ((K5 (AZ s A) 0 i).map A8)))]⟩)
    (fun i=>i≤s.cols.length) (fun i=>s.cols.length-i) 0 (Nat.zero_le _)
    (B9 (H7 (d:=9) (e:=NT) (sz:=2) rfl) (A7 h0 rfl ⟨rfl,rfl,rfl,rfl,trivial⟩ ⟨⟨_,rfl⟩,⟨0,rfl⟩,trivial⟩ rfl rfl rfl)) (fun i hi=>?_)
   have ob:=r8 (AZ s A) i 0
   by_cases mM:i<s.cols.length
   ·have mU:=Hd (f:=AZ s A) (n:=s.cols.length) (k:=i) mM
    have nk:=JH (AZ s A) i 0
    rw[Nat.zero_add]at nk
    repeat'((first|(refine EL (x:=[.i (AZ s A i)]) mU (by omega) ?_) |refine S2 ?_|(refine T6 ?_ ?_<;>intro h<;>try exact V1 h)|intro el mI mJ|intro el mI|exact T4|refine T5 ?_ ?_|intro ex)<;>try conv=>whnf)
    all_goals first
     |(exfalso;omega)
     |(rw[if_pos (by assumption)]at nk;exact⟨i+1,by omega,by omega,A7 h0 rfl ⟨congrArg (fun z:Nat=>some (AV.row 3 0 z)) (by rw[nk,List.length_append];rfl),rfl,rfl,rfl,trivial⟩ ⟨⟨_,rfl⟩,⟨_,congrArg (C4.row NT 2 _) (by rw[nk,List.map_append];rfl)⟩,trivial⟩ rfl rfl rfl⟩)
     |(rw[if_neg (by assumption),List.append_nil]at nk;exact⟨i+1,by omega,by omega,A7 h0 rfl ⟨congrArg (fun z:Nat=>some (AV.row 3 0 z)) (by rw[nk]),rfl,rfl,rfl,trivial⟩ ⟨⟨_,rfl⟩,⟨_,congrArg (C4.row NT 2 _) (by rw[nk])⟩,trivial⟩ rfl rfl rfl⟩)
   ·obtain rfl:i=s.cols.length:=by omega
    repeat'((first|refine S2 ?_|(refine T6 ?_ ?_<;>intro h<;>try exact V1 h)|intro el mI mJ|intro el mI|exact T4|refine T5 ?_ ?_|intro ex)<;>try conv=>whnf)
    all_goals first
     |exact A1 rfl rfl
     |(exfalso;omega)
 ·rw[if_neg qa]
  rw[F8]at *
  refine B5 Tryz.func129 63 fun mK E h0=>?_
  clear mK
  repeat'((first|refine A0 nM ?_ |refine S2 ?_|(refine T6 ?_ ?_<;>intro h<;>try exact V1 h)|intro el mI mJ|intro el mI|exact T4|refine T5 ?_ ?_|intro ex)<;>try conv=>whnf)
  all_goals first
   |exact l5 (sz:=2) rfl rfl
   |(exfalso;contradiction)
theorem aI(s:A4)(f:Nat)(caps:List AV)(mf:I9 caps=true)(g:B6→Int)(hg:∀a,-1≤g a∧g a≤1)(c:B6):Z9 s c=0→(∀a∈k0 c,A3 Tryz.prog f (D5 a::caps) (.i (g a)))→A3 Tryz.prog 223 [D5 c,.fn f caps] (.i (U7 g c)):=by
 refine N4 (p:=fun c=>Z9 s c=0→(∀a∈k0 c,A3 Tryz.prog f (D5 a::caps) (.i (g a)))→A3 Tryz.prog 223 [D5 c,.fn f caps] (.i (U7 g c))) (fun c ih h hf=>?_) c
 obtain⟨h1,h2⟩:=Ci h
 obtain⟨p1,p2,_⟩:=y6 h1
 obtain⟨k1,k2,k3⟩:=Gj c.op
 have sG:∀k,k∈c.kids→A3 Tryz.prog 223 [D5 k,.fn f caps] (.i (U7 g k)):=fun k hk=>by
  refine ih k hk (h2 k hk) fun a ha=>hf a (WA ?_ hk ha)
  intro ho
  have:=k3 (by omega) (by omega) (by omega)
  have:c.kids=[]:=List.eq_nil_of_length_eq_zero (by omega)
  rw[this]at hk;cases hk
 have rr:=fun k=>Od hg k
 have ri:(c.op=2∨c.op=3∨c.op=4)→A3 Tryz.prog f (D5 c::caps) (.i (g c)):=fun ho=>hf c (by rw[DM,if_pos ho];simp)
 rw[F8]at ri ⊢
 rw[DN]
 refine B5 Tryz.func223 51 fun mK E h0=>?_
 clear mK
 repeat'((first|(refine A0 (sG _ (List.mem_of_getElem? (by assumption))) ?_)|(refine A0 (ri (by omega)) ?_)|(refine I6 ?_ ?_;(have:=rr el;omega)) |refine S2 ?_|(refine T6 ?_ ?_<;>intro h<;>try exact V1 h)|intro el mI mJ|intro el mI|exact T4|refine T5 ?_ ?_|intro ex)<;>try conv=>whnf)
 all_goals first
  |(refine A1 rfl (congrArg AV.i ?_);unfold Y8;rw[if_pos (by assumption)];done)
  |(refine A1 rfl (congrArg AV.i ?_);unfold Y8;rw[if_neg (by assumption),if_pos (by assumption),FF (k:=0) (by assumption),FF (k:=1) (by assumption)];done)
  |(refine A1 rfl (congrArg AV.i ?_);unfold Y8;rw[if_neg (by assumption),if_neg (by assumption),if_pos (by assumption),FF (k:=0) (by assumption),FF (k:=1) (by assumption)];done)
  |(refine A1 rfl (congrArg AV.i ?_);unfold Y8;rw[if_neg (by assumption),if_neg (by assumption),if_neg (by assumption),if_pos (by assumption),FF (k:=0) (by assumption)];done)
  |(refine A1 rfl (congrArg AV.i ?_);unfold Y8;rw[if_neg (by assumption),if_neg (by assumption),if_neg (by assumption),if_neg (by assumption)];done)
theorem Ux(s:A4)(hr:C3 s=0)(row:List Int)(a:B6)(ha:I0 s a=0)(ho:a.op=2∨a.op=3∨a.op=4)(hl:row.length=s.cols.length):A3 Tryz.prog 224 [D5 a,.iptr (sL s),.iptr [.sl 1 (row.map wA)]] (.i (M2 s a (row.getD a.col.toNat 0))):=by
 have pC:=fun v=>NP s a v (Ds hr ha)
 obtain⟨_,_,p3,_⟩:=y6 ha
 have hc:=p3 ho
 obtain⟨v,hv⟩:∃v,row[a.col.toNat]?=some v:=⟨_,List.getElem?_eq_getElem (by omega)⟩
 rw[D7 hv]
 rw[F8]at *
 refine B5 Tryz.func224 13 fun mK E h0=>?_
 clear mK
 repeat'((first|(refine A2 (x:=v) hv (by omega) ?_)|refine A0 (pC _) ?_|(refine B0 ?_ ?_;kernel_rfl) |refine S2 ?_|(refine T6 ?_ ?_<;>intro h<;>try exact V1 h)|intro el mI mJ|intro el mI|exact T4|refine T5 ?_ ?_|intro ex)<;>try conv=>whnf)
 all_goals exact A1 rfl rfl
theorem Xk(s:A4)(hr:C3 s=0)(c:B6)(hc:Z9 s c=0)(row:List Int)(hl:row.length=s.cols.length):A3 Tryz.prog 182 [sA s,D5 c,.sl 1 (row.map wA)] (.i (Cj s c row)):=by
 have ht:=aI s 224 [.iptr (sL s),.iptr [.sl 1 (row.map wA)]] rfl (fun a=>M2 s a (row.getD a.col.toNat 0)) (fun a=>Ld _ _ _) c hc fun a ha=>by
  obtain⟨h1,h2⟩:=Fl c hc a ha
  exact Ux s hr row a h1 h2 hl
 refine B5 Tryz.func182 10 fun mK E h0=>?_
 clear mK
 repeat'((first|(refine I4 0 ?_;refine DH ?_;(conv=>whnf);refine I4 2 ?_)|refine A0 ht ?_ |refine S2 ?_|(refine T6 ?_ ?_<;>intro h<;>try exact V1 h)|intro el mI mJ|intro el mI|exact T4|refine T5 ?_ ?_|intro ex)<;>try conv=>whnf)
 all_goals exact A1 rfl rfl
end Go.Proofs.YtiphlhoclaogjaaGreatDoor
