/- Chapter 18: which extracts are right: the reference. -/
import Derived.Test.YtiphlhoclaogjaaGreatDoorSTc0
import Derived.Test.YtiphlhoclaogjaaGreatDoorSC1
import Derived.Test.YtiphlhoclaogjaaGreatDoorSSx
import Derived.Test.YtiphlhoclaogjaaGreatDoorSCe1
import Derived.Test.YtiphlhoclaogjaaGreatDoorSCe3
import Derived.Test.YtiphlhoclaogjaaGreatDoorSB10
set_option linter.unusedVariables false
set_option linter.unnecessarySimpa false
set_option linter.unusedSimpArgs false
set_option maxHeartbeats 64000000
namespace Go.Proofs.YtiphlhoclaogjaaGreatDoor
open Go Go.Av
attribute [local irreducible] C7 B2 D3 C9 DQ D0 C8 St.le A3 B9
set_option maxRecDepth 100000
theorem gx{s:A4}{picks:List Pk}{r:List Int}(h:¬r.length=picks.length+1):AN s picks r=false:=by
 unfold AN;rw[decide_eq_false (fun hh=>h hh.1),Bool.false_and]
theorem gy{s:A4}{picks:List Pk}{r:List Int}{z:Int}(hz:r[0]?=some z)(h:z<0∨1048575<z):AN s picks r=false:=by
 unfold AN;rw[Q5 hz,decide_eq_false (fun hh=>by omega),Bool.false_and]
theorem gz{s:A4}{picks:List Pk}{r:List Int}{z:Int}(hl:r.length=picks.length+1)(hz:r[0]?=some z)(h0:0≤z)(h1:z≤1048575):AN s picks r=s6 s (picks.zip r.tail):=by
 unfold AN;rw[Q5 hz,decide_eq_true ⟨hl,h0,h1⟩,Bool.true_and]
theorem Qv(s:A4)(x:N5):A3 Tryz.prog 33 [sA s,c9 x] (.i (P6 s x)):=by
 have h1:=T3 s
 have h2:=AE x.prj
 have h3:=Dw s x.picks
 by_cases e1:¬C3 s=0
 ·rw[P6,if_pos e1]
  refine B6 Tryz.func33 112 fun lW E h0=>?_
  clear lW
  repeat'((first|refine A1 h1 ?_ |refine S2 ?_|(refine T6 ?_ ?_<;>intro h<;>try exact V1 h)|intro el lU lV|intro el lU|exact T4|refine T5 ?_ ?_|intro ex)<;>try conv=>whnf)
  all_goals first
   |(exfalso;omega)
   |exact A0 rfl rfl
 have e1:=Decidable.of_not_not e1
 have ni:=fun c l v=>Lv s c l v
 have sS:=fun (p:Pk) (x:D4) (h1:1≤p.col) (hx:s.cols[p.col.toNat]?=some x) (h3:0≤p.lev) (h4:p.lev≤B7 s p.col) (v:Int)=>(MJ e1 h1 hx h3 h4 v).1
 have so:∀c,B7 s c=E5 s c:=fun c=>by unfold B7;rw[if_pos e1]
 have nE:=fun k=>@E9.step _ (An s x) x.rows k
 have pZ:=fun k=>@E9.hit _ (An s x) x.rows k
 have pS:=fun k=>@E9.done _ (An s x) x.rows k
 have pc:=fun k=>@TU s x k
 have hz:=E9.zero (An s x) x.rows
 have hex:∀k r,An s x k r=if AN s x.picks r=false then 9 else if 0<k∧r.headD 0≤(x.rows.getD (k-1) []).headD 0 then 10 else 0:=fun _ _=>rfl
 have hE:P6 s x=if D6 x.prj=false then 3 else if x.ver<0∨300<x.ver then 13 else if ¬I5 s x.picks=0 then I5 s x.picks else if 200<x.rows.length then 1 else F0 (An s x) 0 x.rows:=by
  rw[P6,if_neg (fun h=>h e1)]
 rw[hE]
 clear hE
 generalize An s x=FE at *
 obtain⟨pr,ver,picks,rows⟩:=x
 dsimp only at *
 have hX:c9 ⟨pr,ver,picks,rows⟩=.agg [.str pr,.i ver,.sl 2 (picks.map B4),.sl 1 (rows.map F8)]:=rfl
 rw[hX]
 by_cases e3:D6 pr=false
 ·rw[if_pos e3]
  rw[e3]at h2
  refine B6 Tryz.func33 112 fun lW E h0=>?_
  clear lW
  repeat'((first|refine A1 h1 ?_|refine A1 h2 ?_|refine A1 h3 ?_ |refine S2 ?_|(refine T6 ?_ ?_<;>intro h<;>try exact V1 h)|intro el lU lV|intro el lU|exact T4|refine T5 ?_ ?_|intro ex)<;>try conv=>whnf)
  all_goals first
   |(exfalso;omega)
   |exact A0 rfl rfl
 rw[if_neg e3]
 have e3:D6 pr=true:=by cases h:D6 pr with|true=>rfl|false=>exact absurd h e3
 rw[e3]at h2
 by_cases e4:ver<0∨300<ver
 ·rw[if_pos e4]
  refine B6 Tryz.func33 112 fun lW E h0=>?_
  clear lW
  repeat'((first|refine A1 h1 ?_|refine A1 h2 ?_|refine A1 h3 ?_ |refine S2 ?_|(refine T6 ?_ ?_<;>intro h<;>try exact V1 h)|intro el lU lV|intro el lU|exact T4|refine T5 ?_ ?_|intro ex)<;>try conv=>whnf)
  all_goals first
   |(exfalso;omega)
   |exact A0 rfl rfl
 rw[if_neg e4]
 by_cases e2:¬I5 s picks=0
 ·rw[if_pos e2]
  refine B6 Tryz.func33 112 fun lW E h0=>?_
  clear lW
  repeat'((first|refine A1 h1 ?_|refine A1 h2 ?_|refine A1 h3 ?_ |refine S2 ?_|(refine T6 ?_ ?_<;>intro h<;>try exact V1 h)|intro el lU lV|intro el lU|exact T4|refine T5 ?_ ?_|intro ex)<;>try conv=>whnf)
  all_goals first
   |(exfalso;omega)
   |exact A0 rfl rfl
 rw[if_neg e2]
 have e2:=Decidable.of_not_not e2
 have uk:=z8 e2
 have nY:=AA e2
 have ly:=(D5 e1).2.1
 rw[e2]at h3
 refine B6 Tryz.func33 112 fun lW E h0=>?_
 have lX:rows.length≤9223372036854775807:=by
  have:=((lW (.agg [.str pr,.i ver,.sl 2 (picks.map B4),.sl 1 (rows.map F8)]) (by simp)).agg (.sl 1 (rows.map F8)) (by simp)).sl
  simpa using this
 clear lW
 by_cases e5:200<rows.length
 ·rw[if_pos e5]
  repeat'((first|refine A1 h1 ?_|refine A1 h2 ?_|refine A1 h3 ?_ |refine S2 ?_|(refine T6 ?_ ?_<;>intro h<;>try exact V1 h)|intro el lU lV|intro el lU|exact T4|refine T5 ?_ ?_|intro ex)<;>try conv=>whnf)
  all_goals first
   |(exfalso;omega)
   |exact A0 rfl rfl
 rw[if_neg e5]
 repeat'((first|refine A1 h1 ?_|refine A1 h2 ?_|refine A1 h3 ?_ |refine S2 ?_|(refine T6 ?_ ?_<;>intro h<;>try exact V1 h)|intro el lU lV|intro el lU|exact T4|refine T5 ?_ ?_|intro ex)<;>try conv=>whnf)
 all_goals first
  |(exfalso;omega)
  |skip
 refine B0 (ι:=Nat) (fun k=>⟨[(2,.ref 0 0),(3,.ref 1 0),(7,.i k)],2,[(0,some (.box (sL s))),(1,some (.box [.str pr,.i ver,.sl 2 (picks.map B4),.sl 1 (rows.map F8)]))]⟩)
  (fun k=>E9 FE rows k) (fun k=>rows.length-k) 0 hz
  (A6 h0) (fun k hK=>?_)
 by_cases lk:k<rows.length
 ·obtain⟨r,ny⟩:∃r,rows[k]?=some r:=⟨_,List.getElem?_eq_getElem lk⟩
  have oJ:rows[((k:Nat):Int).toNat]?=some r:=ny
  have hx:=hex k r
  have h9:AN s picks r=false→F0 FE 0 rows=9:=fun h=>by
   rw[if_pos h]at hx
   rw[←pZ k hK ny (by rw[hx];decide),hx]
  by_cases qA:¬r.length=picks.length+1
  ·have hv:=h9 (gx qA)
   repeat'((first|(refine A2 (x:=r) oJ (by omega) ?_)|(refine B3 ?_ ?_;kernel_rfl) |refine S2 ?_|(refine T6 ?_ ?_<;>intro h<;>try exact V1 h)|intro el lU lV|intro el lU|exact T4|refine T5 ?_ ?_|intro ex)<;>try conv=>whnf)
   all_goals first
    |(exfalso;omega)
    |exact A0 rfl (congrArg AV.i hv.symm)
  have qA:=Decidable.of_not_not qA
  obtain⟨r0,mw⟩:∃z,r[0]?=some z:=⟨_,List.getElem?_eq_getElem (by omega)⟩
  by_cases h01:r0<0∨1048575<r0
  ·have hv:=h9 (gy mw h01)
   repeat'((first|(refine A2 (x:=r) oJ (by omega) ?_)|(refine A2 (x:=r0) mw (by omega) ?_)|(refine B3 ?_ ?_;kernel_rfl) |refine S2 ?_|(refine T6 ?_ ?_<;>intro h<;>try exact V1 h)|intro el lU lV|intro el lU|exact T4|refine T5 ?_ ?_|intro ex)<;>try conv=>whnf)
   all_goals first
    |(exfalso;omega)
    |exact A0 rfl (congrArg AV.i hv.symm)
  have wZ:=gz (s:=s) qA mw (by omega) (by omega)
  repeat'((first|(refine A2 (x:=r) oJ (by omega) ?_)|(refine A2 (x:=r0) mw (by omega) ?_)|(refine B3 ?_ ?_;kernel_rfl) |refine S2 ?_|(refine T6 ?_ ?_<;>intro h<;>try exact V1 h)|intro el lU lV|intro el lU|exact T4|refine T5 ?_ ?_|intro ex)<;>try conv=>whnf)
  all_goals first
   |(exfalso;omega)
   |skip
  have wg:(picks.zip r.tail).length=picks.length:=by rw[List.length_zip,List.length_tail];omega
  have tG:=fun k p v h1 h2=>@Lu picks r k p v h1 h2
  generalize picks.zip r.tail=pv at *
  refine B0 (ι:=Nat) (fun i=>⟨[(2,.ref 0 0),(3,.ref 1 0),(7,.i k),(8,.sl 1 (r.map wA)),(9,.i i)],2,[(0,some (.box (sL s))),(1,some (.box [.str pr,.i ver,.sl 2 (picks.map B4),.sl 1 (rows.map F8)]))]⟩)
   (fun i=>i≤picks.length∧s6 s (pv.take i)=true) (fun i=>picks.length-i) 0 ⟨Nat.zero_le _,rfl⟩
   (A6 h0) (fun i hI=>?_)
  obtain⟨i1,i2⟩:=hI
  by_cases qi:i<picks.length
  ·obtain⟨p,hp⟩:∃p,picks[i]?=some p:=⟨_,List.getElem?_eq_getElem qi⟩
   obtain⟨v,hv⟩:∃v,r[i+1]?=some v:=⟨_,List.getElem?_eq_getElem (by omega)⟩
   have hq:=tG i p v hp hv
   have hp2:picks[((i:Nat):Int).toNat]?=some p:=hp
   have ol:r[((i:Int)+1).toNat]?=some v:=by rw[show ((i:Int)+1).toNat=i+1 by omega];exact hv
   obtain⟨c1,c2,c3,c4⟩:=uk i p hp
   obtain⟨xc,zb⟩:∃x,s.cols[p.col.toNat]?=some x:=⟨_,List.getElem?_eq_getElem (by omega)⟩
   have wn:=sS p xc c1 zb c3 (by rw[so];exact c4) v
   have hc:=ni p.col p.lev v
   rw[←wn]at hc
   have nO:s6 s (pv.take (i+1))=(M2 s p.col p.lev v).2:=by
    unfold s6 at i2 ⊢
    rw[H6 hq,List.all_append,i2]
    simp
   have qC:(M2 s p.col p.lev v).2=false→s6 s pv=false:=fun h=>KV hq h
   generalize (M2 s p.col p.lev v).2=S at *
   cases S
   ·have hv9:=h9 (by rw[wZ];exact qC rfl)
    repeat'((first|(refine A2 (x:=p) hp2 (by omega) ?_)|(refine A2 (x:=v) ol (by omega) ?_)|refine A1 hc ?_|(refine B3 ?_ ?_;kernel_rfl) |refine S2 ?_|(refine T6 ?_ ?_<;>intro h<;>try exact V1 h)|intro el lU lV|intro el lU|exact T4|refine T5 ?_ ?_|intro ex)<;>try conv=>whnf)
    all_goals first
     |(exfalso;omega)
     |exact A0 rfl (congrArg AV.i hv9.symm)
   ·repeat'((first|(refine A2 (x:=p) hp2 (by omega) ?_)|(refine A2 (x:=v) ol (by omega) ?_)|refine A1 hc ?_|(refine B3 ?_ ?_;kernel_rfl) |refine S2 ?_|(refine T6 ?_ ?_<;>intro h<;>try exact V1 h)|intro el lU lV|intro el lU|exact T4|refine T5 ?_ ?_|intro ex)<;>try conv=>whnf)
    all_goals first
     |(exfalso;omega)
     |exact⟨i+1,⟨by omega,nO⟩,by omega,A6 h0⟩
  ·have oH:pv.take i=pv:=List.take_of_length_le (by omega)
   rw[oH]at i2
   rw[wZ,i2,if_neg (by decide),Q5 mw]at hx
   by_cases pk:k=0
   ·subst pk
    rw[if_neg (by omega)]at hx
    have lh:=nE 0 hK ny hx
    repeat'((first|(refine A2 (x:=r0) mw (by omega) ?_)|(refine B3 ?_ ?_;kernel_rfl) |refine S2 ?_|(refine T6 ?_ ?_<;>intro h<;>try exact V1 h)|intro el lU lV|intro el lU|exact T4|refine T5 ?_ ?_|intro ex)<;>try conv=>whnf)
    all_goals first
     |(exfalso;omega)
     |exact⟨0+1,lh,by omega,A6 h0⟩
   ·obtain⟨q,hq⟩:∃q,rows[k-1]?=some q:=⟨_,List.getElem?_eq_getElem (by omega)⟩
    have rD:=V4 (pc k hK (i:=k-1) (by omega) hq)
    obtain⟨q0,qt⟩:∃z,q[0]?=some z:=⟨_,List.getElem?_eq_getElem (by omega)⟩
    rw[E4 hq,Q5 qt]at hx
    have nC:rows[((k:Int)-1).toNat]?=some q:=by rw[show ((k:Int)-1).toNat=k-1 by omega];exact hq
    by_cases mX:r0≤q0
    ·rw[if_pos ⟨by omega,mX⟩]at hx
     have nP:=pZ k hK ny (by rw[hx];decide)
     rw[hx]at nP
     repeat'((first|(refine A2 (x:=q) nC (by omega) ?_)|(refine A2 (x:=q0) qt (by omega) ?_)|(refine A2 (x:=r0) mw (by omega) ?_)|(refine B3 ?_ ?_;kernel_rfl) |refine S2 ?_|(refine T6 ?_ ?_<;>intro h<;>try exact V1 h)|intro el lU lV|intro el lU|exact T4|refine T5 ?_ ?_|intro ex)<;>try conv=>whnf)
     all_goals first
      |(exfalso;omega)
      |exact A0 rfl (congrArg AV.i nP)
    ·rw[if_neg (fun h=>mX h.2)]at hx
     have lh:=nE k hK ny hx
     repeat'((first|(refine A2 (x:=q) nC (by omega) ?_)|(refine A2 (x:=q0) qt (by omega) ?_)|(refine A2 (x:=r0) mw (by omega) ?_)|(refine B3 ?_ ?_;kernel_rfl) |refine S2 ?_|(refine T6 ?_ ?_<;>intro h<;>try exact V1 h)|intro el lU lV|intro el lU|exact T4|refine T5 ?_ ?_|intro ex)<;>try conv=>whnf)
     all_goals first
      |(exfalso;omega)
      |exact⟨k+1,lh,by omega,A6 h0⟩
 ·have hd:=pS k hK (by omega)
  repeat'((first|refine S2 ?_|(refine T6 ?_ ?_<;>intro h<;>try exact V1 h)|intro el lU lV|intro el lU|exact T4|refine T5 ?_ ?_|intro ex)<;>try conv=>whnf)
  all_goals first
   |(exfalso;omega)
   |exact A0 rfl (congrArg AV.i hd.symm)
theorem IJ(s:A4)(c:B1)(v:Int)(ho:c.op=2∨c.op=3∨c.op=4)(h2:c.op=2→∃x lx,0≤c.col∧s.cols[c.col.toNat]?=some x∧0≤x.lst∧s.lists[x.lst.toNat]?=some lx):A3 Tryz.prog 186 [sA s,E0 c,.i v] (.i (M1 s c v)):=by
 rw[F7]
 refine B6 Tryz.func186 46 fun lW E h0=>?_
 obtain⟨nL,mO,nk⟩:=X3 (s:=s) (lW _ (by simp))
 clear lW
 unfold M1
 by_cases oU:c.op=2
 ·obtain⟨x,lx,g0,g1,g2,g3⟩:=h2 oU
  rw[if_pos oU,C1 g1,H8 g3]
  have wT:=Uz lx.1 lx.2 v c.code (nk lx (List.mem_of_getElem? g3))
  repeat'((first|(refine A2 (x:=x) g1 (by omega) ?_)|(refine A2 (x:=lx) g3 (by omega) ?_)|refine A1 wT ?_|(refine B3 ?_ ?_;kernel_rfl) |refine S2 ?_|(refine T6 ?_ ?_<;>intro h<;>try exact V1 h)|intro el lU lV|intro el lU|exact T4|refine T5 ?_ ?_|intro ex)<;>try conv=>whnf)
  all_goals first
   |exact A0 rfl (congrArg AV.i (by rw[h];rfl))
 ·rw[if_neg oU]
  repeat'((first|(refine B3 ?_ ?_;kernel_rfl) |refine S2 ?_|(refine T6 ?_ ?_<;>intro h<;>try exact V1 h)|intro el lU lV|intro el lU|exact T4|refine T5 ?_ ?_|intro ex)<;>try conv=>whnf)
  all_goals first
   |(exfalso;rcases ho with ho|ho|ho<;>contradiction)
   |(rw[if_pos (by omega)];refine A0 rfl (congrArg AV.i ?_);unfold GR;first|(rw[decide_eq_true (by assumption)];rfl)|(rw[decide_eq_false (by assumption)];rfl))
   |(rw[if_neg (by omega),if_pos (by omega)];exact A0 rfl rfl)
   |(rw[if_neg (by omega),if_neg (by omega)];refine A0 rfl (congrArg AV.i ?_);unfold GR;first|(rw[decide_eq_true (by omega)];rfl)|(rw[decide_eq_false (by omega)];rfl))
theorem VU(c:B1):Z0 c≤100000→A3 Tryz.prog 184 [E0 c] (.sl 6 ((k0 c).map I6)):=by
 refine N1 (p:=fun c=>Z0 c≤100000→A3 Tryz.prog 184 [E0 c] (.sl 6 ((k0 c).map I6))) (fun c ih ht=>?_) c
 rw[Eo]at ht
 rw[F7,Dc]
 refine B6 Tryz.func184 36 fun lW E h0=>?_
 have lX:c.kids.length≤9223372036854775807:=by
  have:=((lW _ (List.mem_cons_self ..)).agg (.sl 6 (c.kids.map I6)) (by simp)).sl
  simpa using this
 clear lW
 repeat'((first|refine S2 ?_|(refine T6 ?_ ?_<;>intro h<;>try exact V1 h)|intro el lU lV|intro el lU|exact T4|refine T5 ?_ ?_|intro ex)<;>try conv=>whnf)
 all_goals first
  |(rw[if_pos (by omega)];refine A0 rfl ?_;rw[List.map_cons,I6,Oi];rfl)
  |skip
 rw[if_neg (by omega)]
 refine B0 (ι:=Nat) (fun k=>⟨[(1,.ref 0 0),(3,.row 1 0 (X5 (c.kids.take k)).length),(4,.i k)],2,[(0,some (.box (M8 c))),(1,some (.row 29 6 0 ((X5 (c.kids.take k)).map I6)))]⟩) (fun k=>k≤c.kids.length) (fun k=>c.kids.length-k) 0 (Nat.zero_le _)
  (B5 (I9 (d:=3) (e:=29) (sz:=6) rfl) (A9 h0 rfl ⟨rfl,rfl,rfl,trivial⟩ ⟨rfl,⟨0,rfl⟩,trivial⟩ rfl rfl rfl)) (fun k hk=>?_)
 have mX:=JM c.kids k
 repeat'((first|(refine A1 (ih _ (List.mem_of_getElem? (by assumption)) (by have:=Hc el (List.mem_of_getElem? lU);omega)) ?_)|(refine I4 ?_ ?_;(have q1:=Gr el;have q2:=Hc el (List.mem_of_getElem? lU);simp only[List.length_map];omega)) |refine S2 ?_|(refine T6 ?_ ?_<;>intro h<;>try exact V1 h)|intro el lU lV|intro el lU|exact T4|refine T5 ?_ ?_|intro ex)<;>try conv=>whnf)
 all_goals first
  |exact⟨k+1,by omega,by omega,A9 h0 rfl ⟨rfl,congrArg (fun z:Nat=>some (AV.row 1 0 z)) (by rw[Fs _ _ lU,List.length_append,List.length_map]),rfl,trivial⟩ ⟨rfl,⟨_,congrArg (C6.row 29 6 _) (by rw[Fs _ _ lU,List.map_append])⟩,trivial⟩ rfl rfl rfl⟩
  |exact A0 rfl (congrArg (fun z=>AV.sl 6 ((X5 z).map I6)) (DZ (by assumption)))
theorem Jt(a b:List Pk):A3 Tryz.prog 54 [.sl 2 (a.map B4),.sl 2 (b.map B4)] (.b (q8 b a)):=by
 refine B6 Tryz.func54 49 fun lW E h0=>?_
 have ze:a.length≤9223372036854775807:=by
  have:=(lW (.sl 2 (a.map B4)) (by simp)).sl
  simpa using this
 have sN:b.length≤9223372036854775807:=by
  have:=(lW (.sl 2 (b.map B4)) (by simp)).sl
  simpa using this
 clear lW
 repeat'((first|refine S2 ?_|(refine T6 ?_ ?_<;>intro h<;>try exact V1 h)|intro el lU lV|intro el lU|exact T4|refine T5 ?_ ?_|intro ex)<;>try conv=>whnf)
 refine B0 (ι:=Nat) (fun i=>⟨[(0,.sl 2 (a.map B4)),(1,.sl 2 (b.map B4)),(5,.i i)],0,[]⟩) (fun i=>P7 (fun n=>!(b.any (Am n))) a i) (fun i=>a.length-i) 0 (P7.zero _ _)
  (A6 h0) (fun i hI=>?_)
 have hi:=hI.1
 repeat'((first|refine S2 ?_|(refine T6 ?_ ?_<;>intro h<;>try exact V1 h)|intro el lU lV|intro el lU|exact T4|refine T5 ?_ ?_|intro ex)<;>try conv=>whnf)
 ·obtain⟨n,hn⟩:∃n,a[i]?=some n:=⟨_,List.getElem?_eq_getElem (by omega)⟩
  refine B0 (ι:=Nat) (fun k=>⟨[(0,.sl 2 (a.map B4)),(1,.sl 2 (b.map B4)),(5,.i i),(6,.b ((b.take k).any (Am n))),(7,.i k)],0,[]⟩) (fun k=>k≤b.length) (fun k=>b.length-k) 0 (Nat.zero_le _)
   (A6 h0) (fun k hk=>?_)
  have nE:∀p,b[k]?=some p→(b.take (k+1)).any (Am n)=((b.take k).any (Am n) || Am n p):=fun p hp=>by rw[H6 hp,List.any_append];simp
  generalize hf:(b.take k).any (Am n)=f at *
  repeat'((first|(refine A2 (x:=n) hn (by omega) ?_)|(refine B3 ?_ ?_;kernel_rfl) |refine S2 ?_|(refine T6 ?_ ?_<;>intro h<;>try exact V1 h)|intro el lU lV|intro el lU|exact T4|refine T5 ?_ ?_|intro ex)<;>try conv=>whnf)
  all_goals first
   |(have e:(b.take (k+1)).any (Am n)=decide (el.lev≥n.lev):=by
      rw[nE _ lU,(by assumption:f=false),Bool.false_or]
      exact decide_eq_decide.2 (by omega)
     exact⟨k+1,by omega,by omega,A9 h0 rfl ⟨rfl,rfl,rfl,congrArg (fun z=>some (AV.b z)) e.symm,rfl,trivial⟩ trivial rfl rfl rfl⟩)
   |(have e:(b.take (k+1)).any (Am n)=false:=by
      rw[nE _ lU,(by assumption:f=false),Bool.false_or]
      exact decide_eq_false (by omega)
     exact⟨k+1,by omega,by omega,A9 h0 rfl ⟨rfl,rfl,rfl,congrArg (fun z=>some (AV.b z)) e.symm,rfl,trivial⟩ trivial rfl rfl rfl⟩)
   |(obtain⟨p,hp⟩:∃p,b[k]?=some p:=⟨_,List.getElem?_eq_getElem (by omega)⟩
     have e:(b.take (k+1)).any (Am n)=true:=by rw[nE p hp,(by assumption:f=true),Bool.true_or]
     exact⟨k+1,by omega,by omega,A9 h0 rfl ⟨rfl,rfl,rfl,congrArg (fun z=>some (AV.b z)) e.symm,rfl,trivial⟩ trivial rfl rfl rfl⟩)
   |(have e:(!(b.any (Am n)))=true:=by rw[←DZ (l:=b) (k:=k) (by assumption),hf,(by assumption:f=false)];rfl
     have:=hI.hit hn e
     exact A0 rfl (congrArg AV.b (by unfold q8;rw[←this];rfl)))
   |(have e:(!(b.any (Am n)))=false:=by rw[←DZ (l:=b) (k:=k) (by assumption),hf,(by assumption:f=true)];rfl
     exact⟨i+1,hI.step hn e,by omega,A6 h0⟩)
 all_goals first
  |(have:=hI.done (by assumption)
    exact A0 rfl (congrArg AV.b (by unfold q8;rw[←this];rfl)))
theorem OE(op:Int)(vs:List Int)(h5:op=5∨op=6→2≤vs.length)(h7:op=7→1≤vs.length)(hb:∀v∈vs,-1≤v∧v≤1):A3 Tryz.prog 188 [.i op,.sl 1 (vs.map wA)] (.i (W6 op vs 1)):=by
 have qY:∀(k:Nat) v,vs[k]?=some v→-1≤v∧v≤1:=fun k v h=>hb v (List.mem_of_getElem? h)
 refine B6 Tryz.func188 30 fun lW E h0=>?_
 clear lW
 repeat'((first|(refine I4 ?_ ?_;(have:=qY _ _ lU;omega)) |refine S2 ?_|(refine T6 ?_ ?_<;>intro h<;>try exact V1 h)|intro el lU lV|intro el lU|exact T4|refine T5 ?_ ?_|intro ex)<;>try conv=>whnf)
 all_goals first
  |(refine A0 rfl (congrArg AV.i ?_);unfold W6;rw[if_neg (by omega),if_neg (by omega),if_neg (by omega),if_pos (by assumption),E4 (k:=0) (by assumption)];done)
  |(refine A0 rfl (congrArg AV.i ?_);unfold W6;rw[if_neg (by omega),if_pos (by assumption),E4 (k:=0) (by assumption),E4 (k:=1) (by assumption)];done)
  |(refine A0 rfl (congrArg AV.i ?_);unfold W6;rw[if_neg (by omega),if_neg (by assumption),if_pos (by assumption),E4 (k:=0) (by assumption),E4 (k:=1) (by assumption)];done)
  |(refine A0 rfl (congrArg AV.i ?_);unfold W6;(repeat' split)<;>first|rfl|omega)
theorem Qi(g:B1→Int)(c:B1)(ho:¬(c.op=2∨c.op=3∨c.op=4))(h:1≤c.op∧c.op≤7):U2 g c=W6 c.op (c.kids.map (U2 g)) 1:=by
 rw[Dd]
 unfold W6
 (repeat' split)<;>first|rfl|omega
theorem Yc(s:A4)(hr:C3 s=0)(row:List Int)(hl:row.length=s.cols.length)(c:B1):X4 s c=0→A3 Tryz.prog 190 [sA s,E0 c,.sl 1 (row.map wA)] (.i (DA s c row)):=by
 refine N1 (p:=fun c=>X4 s c=0→A3 Tryz.prog 190 [sA s,E0 c,.sl 1 (row.map wA)] (.i (DA s c row))) (fun c ih h=>?_) c
 obtain⟨h1,h2⟩:=Cz h
 obtain⟨p1,p2,p3,_⟩:=AJ h1
 obtain⟨k1,k2,k3⟩:=Gs c.op
 have hg:∀a,-1≤M1 s a (row.getD a.col.toNat 0)∧M1 s a (row.getD a.col.toNat 0)≤1:=fun a=>Lm _ _ _
 by_cases ho:c.op=2∨c.op=3∨c.op=4
 ·have oy:=fun v=>IJ s c v ho (EE hr h1)
  have hc:=p3 ho
  obtain⟨v,hv⟩:∃v,row[c.col.toNat]?=some v:=⟨_,List.getElem?_eq_getElem (by omega)⟩
  have oR:DA s c row=M1 s c v:=by
   unfold DA
   rw[Dd]
   unfold W6
   rw[if_neg (by omega),if_neg (by omega),if_neg (by omega),if_neg (by omega),E4 hv]
  rw[oR]
  rw[F7]at *
  refine B6 Tryz.func190 52 fun lW E h0=>?_
  clear lW
  repeat'((first|(refine A2 (x:=v) hv (by omega) ?_)|refine A1 (oy _) ?_|(refine B3 ?_ ?_;kernel_rfl) |refine S2 ?_|(refine T6 ?_ ?_<;>intro h<;>try exact V1 h)|intro el lU lV|intro el lU|exact T4|refine T5 ?_ ?_|intro ex)<;>try conv=>whnf)
  all_goals first
   |exact A0 rfl rfl
   |(exfalso;omega)
 ·unfold DA
  rw[Qi _ c ho p1]
  have qz:=OE c.op (c.kids.map (U2 fun a=>M1 s a (row.getD a.col.toNat 0))) (fun h=>by rw[List.length_map];have:=k1 h;omega) (fun h=>by rw[List.length_map];have:=k2 h;omega) (fun v hv=>by
   obtain⟨k,_,rfl⟩:=List.mem_map.1 hv
   exact Om hg k)
  have rP:∀k,k∈c.kids→A3 Tryz.prog 190 [sA s,E0 k,.sl 1 (row.map wA)] (.i (U2 (fun a=>M1 s a (row.getD a.col.toNat 0)) k)):=fun k hk=>ih k hk (h2 k hk)
  generalize (U2 fun a=>M1 s a (row.getD a.col.toNat 0))=T at *
  rw[F7]at *
  refine B6 Tryz.func190 52 fun lW E h0=>?_
  have lX:c.kids.length≤9223372036854775807:=by
   have:=((lW (.agg (M8 c)) (by simp)).agg (.sl 6 (c.kids.map I6)) (by simp)).sl
   simpa using this
  clear lW
  repeat'((first|refine S2 ?_|(refine T6 ?_ ?_<;>intro h<;>try exact V1 h)|intro el lU lV|intro el lU|exact T4|refine T5 ?_ ?_|intro ex)<;>try conv=>whnf)
  all_goals first
   |(exfalso;omega)
   |skip
  refine B0 (ι:=Nat) (fun k=>⟨[(2,.sl 1 (row.map wA)),(3,.ref 0 0),(4,.ref 1 0),(7,.row 2 0 k),(8,.i k)],3,[(0,some (.box (sL s))),(1,some (.box (M8 c))),(2,some (.row 3 1 0 (((c.kids.take k).map T).map wA)))]⟩) (fun k=>k≤c.kids.length) (fun k=>c.kids.length-k) 0 (Nat.zero_le _)
   (B5 (I9 (d:=7) (e:=3) (sz:=1) rfl) (A9 h0 rfl ⟨rfl,rfl,rfl,rfl,rfl,trivial⟩ ⟨rfl,rfl,⟨0,rfl⟩,trivial⟩ rfl rfl rfl)) (fun k hk=>?_)
  by_cases lY:k<c.kids.length
  ·obtain⟨el,lU⟩:∃el,c.kids[k]?=some el:=⟨_,List.getElem?_eq_getElem lY⟩
   have nt:=rP el (List.mem_of_getElem? lU)
   repeat'((first|(refine A2 (x:=el) lU (by omega) ?_)|(refine F6 7 ?_;refine G9 (id:=7) ⟨[(2,.sl 1 (row.map wA)),(3,.ref 0 0),(4,.ref 1 0),(7,.row 2 0 (k+1)),(8,.i k)],3,[(0,some (.box (sL s))),(1,some (.box (M8 c))),(2,some (.row 3 1 0 (((c.kids.take (k+1)).map T).map wA)))]⟩ ?_ ?_)|refine A1 nt ?_ |refine S2 ?_|(refine T6 ?_ ?_<;>intro h<;>try exact V1 h)|intro el lU lV|intro el lU|exact T4|refine T5 ?_ ?_|intro ex)<;>try conv=>whnf)
   all_goals first
    |exact A9 h0 rfl ⟨rfl,rfl,rfl,rfl,rfl,trivial⟩ ⟨rfl,rfl,⟨_,congrArg (C6.row 3 1 _) (by rw[H6 lU,List.map_append,List.map_append];rfl)⟩,trivial⟩ rfl rfl rfl
    |exact⟨k+1,by omega,by omega,A6 h0⟩
  ·obtain rfl:k=c.kids.length:=by omega
   rw[List.take_length]
   repeat'((first|refine J1 2 ?_|refine A1 qz ?_ |refine S2 ?_|(refine T6 ?_ ?_<;>intro h<;>try exact V1 h)|intro el lU lV|intro el lU|exact T4|refine T5 ?_ ?_|intro ex)<;>try conv=>whnf)
   all_goals first
    |exact A0 rfl rfl
theorem Yd(s:A4)(c:B1)(row:List Int):A3 Tryz.prog 146 [sA s,E0 c,.sl 1 (row.map wA)] (.i (Sx s c row)):=by
 have h1:=x9 s c
 have h2:=QQ s row
 have h3:¬K7 s c≠0→¬Aj s row≠0→A3 Tryz.prog 190 [sA s,E0 c,.sl 1 (row.map wA)] (.i (DA s c row)):=fun a b=>have a:=Decidable.of_not_not a;have b:=Decidable.of_not_not b;Yc s (o3 a).1 row (Hd b).2 c (o3 a).2.2.2
 unfold Sx
 rw[F7]at *
 refine B6 Tryz.func146 21 fun lW E h0=>?_
 clear lW
 repeat'((first|refine A1 h1 ?_|refine A1 h2 ?_|(refine A1 (h3 (by assumption) (by assumption)) ?_) |refine S2 ?_|(refine T6 ?_ ?_<;>intro h<;>try exact V1 h)|intro el lU lV|intro el lU|exact T4|refine T5 ?_ ?_|intro ex)<;>try conv=>whnf)
 all_goals first
  |(refine A0 rfl (congrArg AV.i ?_);rw[if_neg (by omega)];done)
  |(refine A0 rfl (congrArg AV.i ?_);rw[if_pos (by omega)];done)
end Go.Proofs.YtiphlhoclaogjaaGreatDoor
