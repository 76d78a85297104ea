/- Chapter 5: the reference's check of a condition. -/
import Derived.Test.YtiphlhoclaogjaaGreatDoorJCe1
import Derived.Test.YtiphlhoclaogjaaGreatDoorJC1
import Derived.Test.YtiphlhoclaogjaaGreatDoorJB10
set_option linter.unusedVariables false
set_option linter.unnecessarySimpa false
set_option linter.unusedSimpArgs false
set_option maxHeartbeats 64000000
namespace Go.Proofs.YtiphlhoclaogjaaGreatDoor
open Go Go.Av
attribute [local irreducible] C9 B3 C8 D1 DQ D0 C7 St.le A3 B8
set_option maxRecDepth 100000
theorem CG{s:A4}{c:B7}{e:Int}(h:H9 s c=e)(he:e≠0):e=if H9 s c=0 then AK s c.kids else H9 s c:=by rw[h,if_neg he]
theorem bo(s:A4)(hr:C3 s=0)(c:B7):A3 Tryz.prog 88 [sA s,D5 c] (.i (a6 s c)):=by
 refine N6 (p:=fun c=>A3 Tryz.prog 88 [sA s,D5 c] (.i (a6 s c))) (fun c ih=>?_) c
 have oc:=fun k=>iw s c.col k
 have re:=Hd c.op
 have pO:∀x,s.cols[c.col.toNat]?=some x→(B6 s c.col).kind=2→0≤x.lst∧x.lst<s.lists.length:=fun x hx h2=>by
  rw[B9 hx]at h2
  have:=At.lst hr (List.mem_of_getElem? hx) h2
  omega
 rw[F8,Pf]
 refine B5 Tryz.func88 185 fun nL E h0=>?_
 have nM:c.kids.length≤9223372036854775807:=by
  have:=((nL _ (List.mem_cons_of_mem _ (List.mem_cons_self ..))).agg (.sl 6 (c.kids.map K0)) (by simp)).sl
  simpa using this
 clear nL
 repeat'((first|(refine E7 1 ?_;refine F5 (id:=1) ⟨[(2,.ref 0 0),(3,.ref 1 0),(5,.i 0),(6,.ref 2 0)],3,[(0,some (.box (sL s))),(1,some (.box (M9 c))),(2,some (.box [.i c.op,.i 0,.i 0,.i 0,.i 0,.v (.slice none 0 0)]))]⟩ ?_ ?_)|(refine E7 6 ?_;refine F5 (id:=6) ⟨[(2,.ref 0 0),(3,.ref 1 0),(5,.i 0),(6,.ref 2 0)],3,[(0,some (.box (sL s))),(1,some (.box (M9 c))),(2,some (.box [.i c.op,.i c.col,.i c.code,.i 0,.i 0,.v (.slice none 0 0)]))]⟩ ?_ ?_)|(refine E7 8 ?_;refine F5 (id:=8) ⟨[(2,.ref 0 0),(3,.ref 1 0),(5,.i 0),(6,.ref 2 0)],3,[(0,some (.box (sL s))),(1,some (.box (M9 c))),(2,some (.box [.i c.op,.i c.col,.i 0,.i c.lo,.i c.hi,.v (.slice none 0 0)]))]⟩ ?_ ?_)|(refine Fv (l:=⟨some 45,_,_,_,_,_⟩::_) [2,3,5,6] ?_;(try (conv=>whnf));refine Dy ?_)|(refine Fv (l:=⟨some 78,_,_,_,_,_⟩::_) [2,3] ?_;(try (conv=>whnf));refine Dy ?_)|(refine Fv (l:=⟨some 148,_,_,_,_,_⟩::_) [2,3] ?_;(try (conv=>whnf));refine Dy ?_)|refine A0 (oc _) ?_|(refine w6 ?_ ?_ (fun lx oD=>?_);(have:=pO _ (by assumption) (by omega);omega);(have:=pO _ (by assumption) (by omega);omega))|(refine A9 ?_ ?_;kernel_rfl) |refine S2 ?_|(refine T6 ?_ ?_<;>intro h<;>try exact V1 h)|intro el nJ nK|intro el nJ|exact T4|refine T5 ?_ ?_|intro ex)<;>try conv=>whnf)
 all_goals first
  |exact A6 h0
  |exact A1 rfl (congrArg AV.i (CG (kf (by omega)) (by decide)))
  |exact A1 rfl (congrArg AV.i (CG (iM (by omega) (by omega)) (by decide)))
  |exact A1 rfl (congrArg AV.i (CG (iN (by omega) (by omega) (by assumption)) (by decide)))
  |exact A1 rfl (congrArg AV.i (CG (iO (by omega) (by omega) (by assumption)) (by decide)))
  |exact A1 rfl (congrArg AV.i (CG (iP (by omega) (by omega) (by assumption)) (by decide)))
  |exact A1 rfl (congrArg AV.i (CG (du (by omega) (by omega) nJ (by assumption)) (by decide)))
  |exact A1 rfl (congrArg AV.i (CG (bC (by omega) (by omega) (by omega) (by omega)) (by decide)))
  |exact A1 rfl (congrArg AV.i (CG (bC (by omega) (by omega) (by omega) (by rw[B9 nJ,H5 oD];omega)) (by decide)))
  |exact A1 rfl (congrArg AV.i (CG (kg (by omega) (by omega) (by omega) (by omega)) (by decide)))
  |(rw[if_pos (iQ (s:=s) (c:=c) (by omega) (by omega))];refine B0 (ι:=Nat) (fun k=>⟨[(2,.ref 0 0),(3,.ref 1 0),(7,.i k)],2,[(0,some (.box (sL s))),(1,some (.box (M9 c)))]⟩) (fun k=>k≤c.kids.length∧AK s c.kids=AK s (c.kids.drop k)) (fun k=>c.kids.length-k) 0 ⟨Nat.zero_le _,rfl⟩ (A6 h0) (fun k hI=>?_))
  |(rw[if_pos (iR (s:=s) (c:=c) (by omega) (by omega) (by omega) (by rw[B9 nJ,H5 oD];omega))];refine B0 (ι:=Nat) (fun k=>⟨[(2,.ref 0 0),(3,.ref 1 0),(7,.i k)],2,[(0,some (.box (sL s))),(1,some (.box (M9 c)))]⟩) (fun k=>k≤c.kids.length∧AK s c.kids=AK s (c.kids.drop k)) (fun k=>c.kids.length-k) 0 ⟨Nat.zero_le _,rfl⟩ (A6 h0) (fun k hI=>?_))
  |(rw[if_pos (iS (s:=s) (c:=c) (by omega) (by omega) (by omega) (by omega))];refine B0 (ι:=Nat) (fun k=>⟨[(2,.ref 0 0),(3,.ref 1 0),(7,.i k)],2,[(0,some (.box (sL s))),(1,some (.box (M9 c)))]⟩) (fun k=>k≤c.kids.length∧AK s c.kids=AK s (c.kids.drop k)) (fun k=>c.kids.length-k) 0 ⟨Nat.zero_le _,rfl⟩ (A6 h0) (fun k hI=>?_))
  |(rw[if_pos (iT (s:=s) (c:=c) (by omega) (by omega) (by omega) nJ (by assumption))];refine B0 (ι:=Nat) (fun k=>⟨[(2,.ref 0 0),(3,.ref 1 0),(7,.i k)],2,[(0,some (.box (sL s))),(1,some (.box (M9 c)))]⟩) (fun k=>k≤c.kids.length∧AK s c.kids=AK s (c.kids.drop k)) (fun k=>c.kids.length-k) 0 ⟨Nat.zero_le _,rfl⟩ (A6 h0) (fun k hI=>?_))
 all_goals
  obtain⟨hk,hI⟩:=hI
  clear oc re pO
  repeat'((first|(refine A0 (ih _ (List.mem_of_getElem? (by assumption))) ?_)|(refine A9 ?_ ?_;kernel_rfl) |refine S2 ?_|(refine T6 ?_ ?_<;>intro h<;>try exact V1 h)|intro el nJ nK|intro el nJ|exact T4|refine T5 ?_ ?_|intro ex)<;>try conv=>whnf)
 all_goals first
  |exact A1 rfl (congrArg AV.i (by rw[hI,F7 (by assumption),AK,if_neg (by assumption)]))
  |exact A1 rfl (congrArg AV.i (by rw[hI,T8 (by assumption)];rfl))
  |exact⟨k+1,⟨by omega,by rw[hI,F7 (by assumption),AK,if_pos (Decidable.of_not_not (by assumption))]⟩,by omega,A6 h0⟩
theorem Y4(s:A4)(c:B7):A3 Tryz.prog 35 [sA s,D5 c] (.i (J6 s c)):=by
 have h1:=Q6 s
 have h2:=Ua c 41 (by omega) (by omega)
 have h3:(j7 c:Int)≤40→A3 Tryz.prog 87 [D5 c] (.i (j6 c)):=fun h=>Vx c (by have:=Wr c;omega)
 have h4:=fun hr=>bo s hr c
 have t1:=eu c 41 (by omega)
 rw[F8]at *
 refine B5 Tryz.func35 20 fun nL E h0=>?_
 clear nL
 unfold J6
 repeat'((first|refine A0 h1 ?_|refine A0 h2 ?_|refine A0 (h3 (by omega)) ?_|refine A0 (h4 (Decidable.of_not_not (by assumption))) ?_ |refine S2 ?_|(refine T6 ?_ ?_<;>intro h<;>try exact V1 h)|intro el nJ nK|intro el nJ|exact T4|refine T5 ?_ ?_|intro ex)<;>try conv=>whnf)
 all_goals first
  |exact A1 rfl (congrArg AV.i (by rw[if_neg (by assumption)]))
  |exact A1 rfl (congrArg AV.i (by rw[if_pos (Decidable.of_not_not (by assumption)),if_pos (by omega)]))
  |exact A1 rfl (congrArg AV.i (by rw[if_pos (Decidable.of_not_not (by assumption)),if_neg (by omega),if_pos (by omega)]))
  |exact A1 rfl (congrArg AV.i (by rw[if_pos (Decidable.of_not_not (by assumption)),if_neg (by omega),if_neg (by omega)]))
end Go.Proofs.YtiphlhoclaogjaaGreatDoor
