/- Chapter 2: what a row can have, by the reference. Chapter 2: the reference's turned values are the program's. -/
import Derived.Test.YtjkbhaaobhgkdabGreatDoorRB10
import Derived.Test.YtjkbhaaobhgkdabGreatDoorRTa1
set_option linter.unusedVariables false
set_option linter.unnecessarySimpa false
set_option linter.unusedSimpArgs false
set_option maxHeartbeats 64000000
namespace Go.Proofs.YtjkbhaaobhgkdabGreatDoor
open Go Go.Av
attribute [local irreducible] D0 B0 D2 C7 DQ D1 C8 St.le A3 B6
set_option maxRecDepth 100000
theorem MJ{s:A4}{column level:Int}{c:D4}(hr:C5 s=0)(h1:1≤column)(hc:s.cols[column.toNat]?=some c)(hk:c.kind=2)(h3:0≤level)(h4:level≤B9 s column){x:Nat}(hx:x∈J3 s column):
  I0 s column level x=M6 (C1 s c).1 (C1 s c).2 x level∧0≤M6 (C1 s c).1 (C1 s c).2 x level:=by
 have nh:=B7 hc
 rw[J3,nh]at hx
 obtain⟨oU,vt,hd⟩:=Ou hx
 have hxh:hasB (C1 s c).1 (C1 s c).2 x=true:=Dc.2 ⟨by omega,by omega,oU⟩
 have wS:BG s c x=true:=by
  have e1:R1 (C1 s c).1 (C1 s c).2 x=C3 (C1 s c).1 (C1 s c).2-1:=by
   rw[←hd];exact(Ek (code:=(x:Int)) ⟨by omega,by omega,oU⟩).symm
  rw[BG,if_neg (by omega),if_pos hk,(Hh oU vt).1 e1,decide_eq_true (by omega)]
  rfl
 have nu:B9 s column=C3 (C1 s c).1 (C1 s c).2-1:=by
  have:=D6 hc
  rw[B9,if_pos hr,F0,if_neg (by omega),nh,N7,if_pos hk]
 refine⟨by rw[I0,if_neg (by omega),nh,O9,if_pos hk,if_pos wS],?_⟩
 rw[M6,if_pos ⟨hxh,h3,by rw[Int.toNat_natCast];omega⟩]
 omega
theorem Nt(s:A4)(p:Pk):A3 Tryz.prog 120 [sA s,QJ p] (.i (I4 s p)):=by
 have nu:=u6 s p.col
 have pK:=u5 p.lev 0 (B9 s p.col)
 refine C0 Tryz.func120 30 fun nQ E h0=>?_
 obtain⟨om,oF,pV⟩:=W7 (s:=s) (nQ _ (by simp))
 clear nQ
 repeat'((first|refine A1 (V5 s) ?_|refine A1 nu ?_|refine A1 pK ?_|(refine B8 ?_ ?_;kernel_rfl) |refine S2 ?_|(refine T6 ?_ ?_<;>intro h<;>try exact V1 h)|intro el nN nP|intro el nN|exact T4|refine T5 ?_ ?_|intro ex)<;>try conv=>whnf)
 all_goals first
  |exact A0 rfl (congrArg AV.i (by rw[I4,if_neg (by assumption)]))
  |skip
 all_goals
  have hr:C5 s=0:=Classical.byContradiction (by assumption)
  rw[I4,if_pos hr,l8]
  have e:B9 s p.col=F0 s p.col:=by rw[B9,if_pos hr]
  refine A0 rfl (congrArg AV.i ?_)
 all_goals first
  |(rw[if_pos (by unfold F0;rw[if_pos (by omega)];decide)];done)
  |(have yT:0≤F0 s p.col:=by
     have:=Ov hr (column:=p.col) (by omega) (by omega)
     exact this
    first
     |(rw[if_neg (by omega),if_pos (by omega)];done)
     |(rw[if_neg (by omega),if_neg (by omega)];done))
theorem LR(s:A4)(l:List Pk):A3 Tryz.prog 84 [sA s,.sl 2 (l.map B5)] (.i (K9 s l)):=by
 have qT:=fun p=>Nt s p
 refine C0 Tryz.func84 44 fun nQ E h0=>?_
 have nO:l.length≤9223372036854775807:=by have:=(nQ (.sl 2 (l.map B5)) (by simp)).sl;simpa using this
 clear nQ
 repeat'((first|refine A1 (V5 s) ?_ |refine S2 ?_|(refine T6 ?_ ?_<;>intro h<;>try exact V1 h)|intro el nN nP|intro el nN|exact T4|refine T5 ?_ ?_|intro ex)<;>try conv=>whnf)
 all_goals first
  |(refine A0 rfl (congrArg AV.i ?_);rw[K9,if_neg (by assumption)];done)
  |skip
 have hr:C5 s=0:=Classical.byContradiction (by assumption)
 have qE:∀p,I4 s p=l8 s p:=fun p=>by rw[I4,if_pos hr]
 rw[K9,if_pos hr]
 refine B2 (ι:=Nat) (fun k=>⟨[(1,.sl 2 (l.map B5)),(2,.ref 0 0),(6,.i k)],1,[(0,some (.box (sL s)))]⟩) (fun k=>F1 (Cr s l) l k) (fun k=>l.length-k) 0 (F1.zero _ _) (A6 h0) (fun k hI=>?_)
 have hk:=hI.1
 simp only[qE]at qT
 repeat'((first|refine A1 (qT _) ?_|(refine B8 ?_ ?_;kernel_rfl) |refine S2 ?_|(refine T6 ?_ ?_<;>intro h<;>try exact V1 h)|intro el nN nP|intro el nN|exact T4|refine T5 ?_ ?_|intro ex)<;>try conv=>whnf)
 all_goals first
  |exact A0 rfl (congrArg AV.i (by rw[←hI.hit nN (by rw[RX h];exact h),RX h]))
  |exact A0 rfl (congrArg AV.i (by have e:=WU (by assumption) (by assumption) nN h;rw[←hI.hit (by assumption) (by rw[e];decide),e]))
  |exact⟨k+1,hI.step (by assumption) (ae (by assumption) (by assumption) nN h),by omega,A6 h0⟩
  |exact⟨k+1,hI.step nN (gC (by assumption) (by assumption)),by omega,A6 h0⟩
  |exact A0 rfl (congrArg AV.i (hI.done (by assumption)).symm)
theorem Yc(p:Pk)(column:Int):A3 Tryz.prog 70 [QJ p,.iptr [.i column]] (.b (decide (p.col=column))):=by
 refine C0 Tryz.func70 8 fun nQ E h0=>?_
 clear nQ
 repeat'((first|(refine B8 ?_ ?_;kernel_rfl) |refine S2 ?_|(refine T6 ?_ ?_<;>intro h<;>try exact V1 h)|intro el nN nP|intro el nN|exact T4|refine T5 ?_ ?_|intro ex)<;>try conv=>whnf)
 all_goals first
  |exact A0 rfl rfl
theorem Wk{s:A4}{column level:Int}:∀{pv:List (Pk×Int)} {picks:List Pk} {k:Int},pv.map (·.1)=picks→E6 (fun p:Pk=>decide (p.col=column)) picks k<0→0≤k→U2 s column level pv=Z0 s column 0 0 level
 |[],_,_,_,_,_=>rfl
 |(p,v)::r,_,k,h,hi,hk=>by
  subst h
  rw[List.map_cons,E6]at hi
  by_cases hp:p.col=column
  ·rw[if_pos (by simpa using hp)]at hi;omega
  ·rw[if_neg (by simpa using hp)]at hi
   rw[U2,if_neg hp]
   exact Wk rfl hi (by omega)
theorem Wl{s:A4}{column level:Int}:∀{pv:List (Pk×Int)} {picks:List Pk} {k j:Int},pv.map (·.1)=picks→E6 (fun p:Pk=>decide (p.col=column)) picks k=j→0≤k→0≤j→∃p v,k≤j∧pv[(j-k).toNat]?=some (p,v)∧U2 s column level pv=Z0 s column p.lev v level
 |[],_,k,j,h,hi,hk,hj=>by subst h;simp[E6]at hi;omega
 |(p,v)::r,_,k,j,h,hi,hk,hj=>by
  subst h
  rw[List.map_cons,E6]at hi
  by_cases hp:p.col=column
  ·rw[if_pos (by simpa using hp)]at hi
   refine⟨p,v,by omega,by rw[show (j-k).toNat=0 by omega];rfl,by rw[U2,if_pos hp]⟩
  ·rw[if_neg (by simpa using hp)]at hi
   obtain⟨p2,v2,h1,h2,h3⟩:=Wl (s:=s) (column:=column) (level:=level) (pv:=r) rfl hi (by omega) hj
   exact⟨p2,v2,by omega,by rw[show (j-k).toNat=(j-(k+1)).toNat+1 by omega];exact h2,by rw[U2,if_neg hp];exact h3⟩
theorem ia{picks:List Pk}{row:List Int}(h:row.length=picks.length+1):(picks.zip row.tail).map (·.1)=picks:=by
 rw[List.map_fst_zip]
 rw[List.length_tail];omega
theorem Tj{picks:List Pk}{row:List Int}{k:Nat}{p:Pk}{v:Int}(h:(picks.zip row.tail)[k]?=some (p,v)):picks[k]?=some p∧row[k+1]?=some v:=by
 rw[List.getElem?_zip_eq_some]at h
 refine⟨h.1,?_⟩
 cases row with
 |nil=>simp at h
 |cons a r=>simpa using h.2
theorem Cy(s:A4)(hr:C5 s=0)(x:K3)(k:Nat)(r:List Int)(hk:x.rows[k]?=some r)(hl:r.length=x.picks.length+1)(qA:x.picks.length≤1000)(column level:Int):A3 Tryz.prog 27 [sA s,BP x,.i k,.i column,.i level] (Sz (U2 s column level (x.picks.zip r.tail))):=by
 have oV:=af x.picks 70 [.iptr [.i column]] (fun p=>decide (p.col=column)) (fun p _=>Yc p column)
 have xZ:=ia hl
 have px:=KR (fun p:Pk=>decide (p.col=column)) x.picks 0
 obtain⟨pr,ver,picks,rows⟩:=x
 dsimp only at *
 generalize hj:E6 (fun p:Pk=>decide (p.col=column)) picks 0=j at *
 by_cases sY:j<0
 ·have hT:=LL s column 0 0 level hr
  rw[←Wk (s:=s) (level:=level) xZ (by rw[hj];exact sY) (Int.le_refl _)]at hT
  refine C0 Tryz.func27 46 fun nQ E h0=>?_
  clear nQ
  repeat'((first|refine A1 oV ?_|refine A1 hT ?_|refine I6 2 ?_ |refine S2 ?_|(refine T6 ?_ ?_<;>intro h<;>try exact V1 h)|intro el nN nP|intro el nN|exact T4|refine T5 ?_ ?_|intro ex)<;>try conv=>whnf)
  all_goals first
   |(exfalso;omega)
   |exact T8 rfl rfl rfl
 ·obtain⟨p,v,_,h2,h3⟩:=Wl (s:=s) (level:=level) xZ hj (Int.le_refl _) (by omega)
  rw[Int.sub_zero]at h2
  obtain⟨hp,hv⟩:=Tj h2
  have hT:=LL s column p.lev v level hr
  rw[←h3]at hT
  have rJ:r[(j+1).toNat]?=some v:=by rw[show (j+1).toNat=j.toNat+1 by omega];exact hv
  have nR:=D6 hp
  have ni:rows[((k:Int)).toNat]?=some r:=hk
  have nZ:=D6 hk
  refine C0 Tryz.func27 46 fun nQ E h0=>?_
  clear nQ
  repeat'((first|(refine A2 (x:=p) hp (by omega) ?_)|(refine A2 (x:=v) rJ (by omega) ?_)|(refine A2 (x:=r) ni (by omega) ?_)|refine A1 oV ?_|refine A1 hT ?_|refine I6 2 ?_|(refine B8 ?_ ?_;kernel_rfl) |refine S2 ?_|(refine T6 ?_ ?_<;>intro h<;>try exact V1 h)|intro el nN nP|intro el nN|exact T4|refine T5 ?_ ?_|intro ex)<;>try conv=>whnf)
  all_goals first
   |(exfalso;omega)
   |exact T8 rfl rfl rfl
end Go.Proofs.YtjkbhaaobhgkdabGreatDoor
