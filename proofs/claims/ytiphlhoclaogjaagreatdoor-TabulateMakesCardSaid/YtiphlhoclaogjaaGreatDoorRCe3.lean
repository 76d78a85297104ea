/- Chapter 5: the reference's check of a condition. -/
import Derived.Test.YtiphlhoclaogjaaGreatDoorRCe1
import Derived.Test.YtiphlhoclaogjaaGreatDoorRC1
import Derived.Test.YtiphlhoclaogjaaGreatDoorRB10
set_option linter.unusedVariables false
set_option linter.unnecessarySimpa false
set_option linter.unusedSimpArgs false
set_option maxHeartbeats 64000000
namespace Go.Proofs.YtiphlhoclaogjaaGreatDoor
open Go Go.Av
attribute [local irreducible] C9 B3 C7 D1 DQ D0 C6 St.le A3 B7
set_option maxRecDepth 100000
theorem BK{s:A4}{c:B6}{e:Int}(h:I0 s c=e)(he:e≠0):e=if I0 s c=0 then u3 s c.kids else I0 s c:=by rw[h,if_neg he]
theorem am(s:A4)(hr:C3 s=0)(c:B6):A3 Tryz.prog 88 [sA s,D5 c] (.i (Z9 s c)):=by
 refine N4 (p:=fun c=>A3 Tryz.prog 88 [sA s,D5 c] (.i (Z9 s c))) (fun c ih=>?_) c
 have nf:=fun k=>gj s c.col k
 have qg:=Gj c.op
 have oJ:∀x,s.cols[c.col.toNat]?=some x→(B8 s c.col).kind=2→0≤x.lst∧x.lst<s.lists.length:=fun x hx h2=>by
  rw[C1 hx]at h2
  have:=z8.lst hr (List.mem_of_getElem? hx) h2
  omega
 rw[F8,Oc]
 refine B5 Tryz.func88 185 fun mK E h0=>?_
 have mL:c.kids.length≤9223372036854775807:=by
  have:=((mK _ (List.mem_cons_of_mem _ (List.mem_cons_self ..))).agg (.sl 6 (c.kids.map I8)) (by simp)).sl
  simpa using this
 clear mK
 repeat'((first|(refine E6 1 ?_;refine F3 (id:=1) ⟨[(2,.ref 0 0),(3,.ref 1 0),(5,.i 0),(6,.ref 2 0)],3,[(0,some (.box (sL s))),(1,some (.box (M8 c))),(2,some (.box [.i c.op,.i 0,.i 0,.i 0,.i 0,.v (.slice none 0 0)]))]⟩ ?_ ?_)|(refine E6 6 ?_;refine F3 (id:=6) ⟨[(2,.ref 0 0),(3,.ref 1 0),(5,.i 0),(6,.ref 2 0)],3,[(0,some (.box (sL s))),(1,some (.box (M8 c))),(2,some (.box [.i c.op,.i c.col,.i c.code,.i 0,.i 0,.v (.slice none 0 0)]))]⟩ ?_ ?_)|(refine E6 8 ?_;refine F3 (id:=8) ⟨[(2,.ref 0 0),(3,.ref 1 0),(5,.i 0),(6,.ref 2 0)],3,[(0,some (.box (sL s))),(1,some (.box (M8 c))),(2,some (.box [.i c.op,.i c.col,.i 0,.i c.lo,.i c.hi,.v (.slice none 0 0)]))]⟩ ?_ ?_)|(refine Ey (l:=⟨some 45,_,_,_,_,_⟩::_) [2,3,5,6] ?_;(try (conv=>whnf));refine DH ?_)|(refine Ey (l:=⟨some 78,_,_,_,_,_⟩::_) [2,3] ?_;(try (conv=>whnf));refine DH ?_)|(refine Ey (l:=⟨some 148,_,_,_,_,_⟩::_) [2,3] ?_;(try (conv=>whnf));refine DH ?_)|refine A0 (nf _) ?_|(refine o9 ?_ ?_ (fun lx nA=>?_);(have:=oJ _ (by assumption) (by omega);omega);(have:=oJ _ (by assumption) (by omega);omega))|(refine B0 ?_ ?_;kernel_rfl) |refine S2 ?_|(refine T6 ?_ ?_<;>intro h<;>try exact V1 h)|intro el mI mJ|intro el mI|exact T4|refine T5 ?_ ?_|intro ex)<;>try conv=>whnf)
 all_goals first
  |exact A6 h0
  |exact A1 rfl (congrArg AV.i (BK (jf (by omega)) (by decide)))
  |exact A1 rfl (congrArg AV.i (BK (gF (by omega) (by omega)) (by decide)))
  |exact A1 rfl (congrArg AV.i (BK (gG (by omega) (by omega) (by assumption)) (by decide)))
  |exact A1 rfl (congrArg AV.i (BK (gH (by omega) (by omega) (by assumption)) (by decide)))
  |exact A1 rfl (congrArg AV.i (BK (gI (by omega) (by omega) (by assumption)) (by decide)))
  |exact A1 rfl (congrArg AV.i (BK (ct (by omega) (by omega) mI (by assumption)) (by decide)))
  |exact A1 rfl (congrArg AV.i (BK (aB (by omega) (by omega) (by omega) (by omega)) (by decide)))
  |exact A1 rfl (congrArg AV.i (BK (aB (by omega) (by omega) (by omega) (by rw[C1 mI,H6 nA];omega)) (by decide)))
  |exact A1 rfl (congrArg AV.i (BK (jg (by omega) (by omega) (by omega) (by omega)) (by decide)))
  |(rw[if_pos (gJ (s:=s) (c:=c) (by omega) (by omega))];refine A9 (ι:=Nat) (fun k=>⟨[(2,.ref 0 0),(3,.ref 1 0),(7,.i k)],2,[(0,some (.box (sL s))),(1,some (.box (M8 c)))]⟩) (fun k=>k≤c.kids.length∧u3 s c.kids=u3 s (c.kids.drop k)) (fun k=>c.kids.length-k) 0 ⟨Nat.zero_le _,rfl⟩ (A6 h0) (fun k hI=>?_))
  |(rw[if_pos (gK (s:=s) (c:=c) (by omega) (by omega) (by omega) (by rw[C1 mI,H6 nA];omega))];refine A9 (ι:=Nat) (fun k=>⟨[(2,.ref 0 0),(3,.ref 1 0),(7,.i k)],2,[(0,some (.box (sL s))),(1,some (.box (M8 c)))]⟩) (fun k=>k≤c.kids.length∧u3 s c.kids=u3 s (c.kids.drop k)) (fun k=>c.kids.length-k) 0 ⟨Nat.zero_le _,rfl⟩ (A6 h0) (fun k hI=>?_))
  |(rw[if_pos (gL (s:=s) (c:=c) (by omega) (by omega) (by omega) (by omega))];refine A9 (ι:=Nat) (fun k=>⟨[(2,.ref 0 0),(3,.ref 1 0),(7,.i k)],2,[(0,some (.box (sL s))),(1,some (.box (M8 c)))]⟩) (fun k=>k≤c.kids.length∧u3 s c.kids=u3 s (c.kids.drop k)) (fun k=>c.kids.length-k) 0 ⟨Nat.zero_le _,rfl⟩ (A6 h0) (fun k hI=>?_))
  |(rw[if_pos (gM (s:=s) (c:=c) (by omega) (by omega) (by omega) mI (by assumption))];refine A9 (ι:=Nat) (fun k=>⟨[(2,.ref 0 0),(3,.ref 1 0),(7,.i k)],2,[(0,some (.box (sL s))),(1,some (.box (M8 c)))]⟩) (fun k=>k≤c.kids.length∧u3 s c.kids=u3 s (c.kids.drop k)) (fun k=>c.kids.length-k) 0 ⟨Nat.zero_le _,rfl⟩ (A6 h0) (fun k hI=>?_))
 all_goals
  obtain⟨hk,hI⟩:=hI
  clear nf qg oJ
  repeat'((first|(refine A0 (ih _ (List.mem_of_getElem? (by assumption))) ?_)|(refine B0 ?_ ?_;kernel_rfl) |refine S2 ?_|(refine T6 ?_ ?_<;>intro h<;>try exact V1 h)|intro el mI mJ|intro el mI|exact T4|refine T5 ?_ ?_|intro ex)<;>try conv=>whnf)
 all_goals first
  |exact A1 rfl (congrArg AV.i (by rw[hI,G1 (by assumption),u3,if_neg (by assumption)]))
  |exact A1 rfl (congrArg AV.i (by rw[hI,T0 (by assumption)];rfl))
  |exact⟨k+1,⟨by omega,by rw[hI,G1 (by assumption),u3,if_pos (Decidable.of_not_not (by assumption))]⟩,by omega,A6 h0⟩
theorem X9(s:A4)(c:B6):A3 Tryz.prog 35 [sA s,D5 c] (.i (J6 s c)):=by
 have h1:=Q4 s
 have h2:=Tg c 41 (by omega) (by omega)
 have h3:(d8 c:Int)≤40→A3 Tryz.prog 87 [D5 c] (.i (d7 c)):=fun h=>VB c (by have:=Vz c;omega)
 have h4:=fun hr=>am s hr c
 have t1:=de c 41 (by omega)
 rw[F8]at *
 refine B5 Tryz.func35 20 fun mK E h0=>?_
 clear mK
 unfold J6
 repeat'((first|refine A0 h1 ?_|refine A0 h2 ?_|refine A0 (h3 (by omega)) ?_|refine A0 (h4 (Decidable.of_not_not (by assumption))) ?_ |refine S2 ?_|(refine T6 ?_ ?_<;>intro h<;>try exact V1 h)|intro el mI mJ|intro el mI|exact T4|refine T5 ?_ ?_|intro ex)<;>try conv=>whnf)
 all_goals first
  |exact A1 rfl (congrArg AV.i (by rw[if_neg (by assumption)]))
  |exact A1 rfl (congrArg AV.i (by rw[if_pos (Decidable.of_not_not (by assumption)),if_pos (by omega)]))
  |exact A1 rfl (congrArg AV.i (by rw[if_pos (Decidable.of_not_not (by assumption)),if_neg (by omega),if_pos (by omega)]))
  |exact A1 rfl (congrArg AV.i (by rw[if_pos (Decidable.of_not_not (by assumption)),if_neg (by omega),if_neg (by omega)]))
end Go.Proofs.YtiphlhoclaogjaaGreatDoor
