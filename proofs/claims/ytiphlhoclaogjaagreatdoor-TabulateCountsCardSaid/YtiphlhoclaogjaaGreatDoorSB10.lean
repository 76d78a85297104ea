/- Chapter 2: the reference's rows, names, coarse values. Chapter 2: the reference's leaves, blocks, and values that can be. -/
import Derived.Test.YtiphlhoclaogjaaGreatDoorSB9
import Derived.Test.YtiphlhoclaogjaaGreatDoorSB8
set_option linter.unusedVariables false
set_option linter.unnecessarySimpa false
set_option linter.unusedSimpArgs false
set_option maxHeartbeats 64000000
namespace Go.Proofs.YtiphlhoclaogjaaGreatDoor
open Go Go.Av
attribute [local irreducible] C7 B2 D3 C9 DQ D0 C8 St.le A3 B9
set_option maxRecDepth 100000
theorem QQ(s:A4)(row:List Int):A3 Tryz.prog 144 [sA s,.sl 1 (row.map wA)] (.i (Aj s row)):=by
 refine B6 Tryz.func144 32 fun lW E h0=>?_
 have lX:row.length≤9223372036854775807:=by have:=(lW (.sl 1 (row.map wA)) (by simp)).sl;simpa using this
 clear lW
 repeat'((first|refine A1 (T3 s) ?_ |refine S2 ?_|(refine T6 ?_ ?_<;>intro h<;>try exact V1 h)|intro el lU lV|intro el lU|exact T4|refine T5 ?_ ?_|intro ex)<;>try conv=>whnf)
 all_goals first
  |exact A0 rfl (congrArg AV.i (by rw[Aj,if_neg (by assumption)]))
  |exact A0 rfl (congrArg AV.i (by rw[Aj,if_pos (Classical.byContradiction (by assumption)),if_neg];unfold NV;rw[decide_eq_false (by omega)];exact Bool.false_ne_true))
  |skip
 have hr:C3 s=0:=Classical.byContradiction (by assumption)
 have hz:(s.cols.zip row).length=row.length:=by rw[List.length_zip];omega
 have tJ:Aj s row=if (!((s.cols.zip row).any (NU s)))=true then 0 else 9:=by rw[Aj,if_pos hr,NV,decide_eq_true (by omega),Bool.true_and]
 rw[tJ]
 refine B0 (ι:=Nat) (fun k=>⟨[(1,.sl 1 (row.map wA)),(2,.ref 0 0),(6,.i k)],1,[(0,some (.box (sL s)))]⟩) (fun k=>P7 (NU s) (s.cols.zip row) k) (fun k=>row.length-k) 0 (P7.zero _ _) (A6 h0) (fun k hI=>?_)
 have hk:=hI.1
 have ll:=fun (v:Int) (hk:(k:Int)<row.length)=>LG s k v hr (c:=s.cols[k]'(by omega)) (by omega) (by rw[Int.toNat_natCast];exact List.getElem?_eq_getElem (by omega))
 repeat'((first|refine A1 (ll _ (by assumption)) ?_|(refine B3 ?_ ?_;kernel_rfl) |refine S2 ?_|(refine T6 ?_ ?_<;>intro h<;>try exact V1 h)|intro el lU lV|intro el lU|exact T4|refine T5 ?_ ?_|intro ex)<;>try conv=>whnf)
 all_goals first
  |(refine A0 rfl (congrArg AV.i ?_)
    rw[←hI.hit (KO (List.getElem?_eq_getElem (by omega)) lU) (by simp only[NU, *];rfl)];rfl)
  |exact⟨k+1,hI.step (KO (List.getElem?_eq_getElem (by omega)) lU) (by simp only[NU, *];rfl),by omega,A6 h0⟩
  |(refine A0 rfl (congrArg AV.i ?_)
    rw[←hI.done (by omega)];rfl)
theorem T7(s:A4)(column:Int):A3 Tryz.prog 32 [sA s,.i column] (.i (B7 s column)):=by
 refine B6 Tryz.func32 39 fun lW E h0=>?_
 obtain⟨nL,mO,nk⟩:=X3 (s:=s) (lW _ (by simp))
 have sN:=fun (l:CL) (hl:s.lists[(C0 s column).lst.toNat]?=some l)=>n9 (nm:=l.1) (nk l (List.mem_of_getElem? hl))
 clear lW
 repeat'((first|refine A1 (T3 s) ?_ |refine S2 ?_|(refine T6 ?_ ?_<;>intro h<;>try exact V1 h)|intro el lU lV|intro el lU|exact T4|refine T5 ?_ ?_|intro ex)<;>try conv=>whnf)
 all_goals first
  |exact A0 rfl (congrArg AV.i (by rw[B7,if_neg (by assumption)]))
  |exact A0 rfl (congrArg AV.i (by rw[B7,if_pos (Classical.byContradiction (by assumption)),E5,if_pos (by omega)]))
  |skip
 all_goals
  have hr:C3 s=0:=Classical.byContradiction (by assumption)
  rw[B7,if_pos hr]
 repeat'((first|(refine A1 (FJ _ _ (nk _ (List.mem_of_getElem? (by assumption)))) ?_)|(refine o8 ?_ ?_ (fun lx mZ=>?_);(have:=AY.lst hr (List.mem_of_getElem? lU) (by assumption);omega);(have:=AY.lst hr (List.mem_of_getElem? lU) (by assumption);omega))|(refine I4 ?_ ?_;(have:=sN lx (by rw[C1 lU];exact mZ);omega)) |refine S2 ?_|(refine T6 ?_ ?_<;>intro h<;>try exact V1 h)|intro el lU lV|intro el lU|exact T4|refine T5 ?_ ?_|intro ex)<;>try conv=>whnf)
 all_goals first
  |(refine A0 rfl (congrArg AV.i ?_);rw[E5,if_neg (by omega),C1 lU,M7,if_pos (by assumption),H8 mZ];done)
  |(refine A0 rfl (congrArg AV.i ?_);rw[E5,if_neg (by omega),C1 lU,M7,if_neg (by assumption)];done)
theorem Xw(a:Int){b:Int}(h:1≤b):(a.tmod b<0∧a / b=a.tdiv b-1)∨(0≤a.tmod b∧a / b=a.tdiv b):=by
 have h1:=Int.mul_tdiv_add_tmod a b
 have h2:=Int.mul_ediv_add_emod a b
 rcases Fq a h with ⟨h3,h4⟩|⟨h3,h4⟩
 ·left
  refine⟨h3,?_⟩
  have h5:b*(a / b)=b*(a.tdiv b-1):=by rw[Int.mul_sub];omega
  exact Int.eq_of_mul_eq_mul_left (by omega) h5
 ·right
  refine⟨h3,?_⟩
  have h5:b*(a / b)=b*a.tdiv b:=by omega
  exact Int.eq_of_mul_eq_mul_left (by omega) h5
theorem dL(a b:Int){B:Int}(h:-B≤a∧a≤B)(hb:1≤b):-B≤a.tdiv b∧a.tdiv b≤B:=by
 have h2:(a.tdiv b).natAbs≤a.natAbs:=by rw[Int.natAbs_tdiv];exact Nat.div_le_self _ _
 omega
theorem Nm(a b:Int)(hb:1≤b)(ha:-4000000000000≤a∧a≤4000000000000):A3 Tryz.prog 152 [.i a,.i b] (.i (a / b)):=by
 have h1:=Xw a hb
 have h2:=dL a b ha hb
 refine B6 Tryz.func152 16 fun lW E h0=>?_
 clear lW
 repeat'((first|refine S2 ?_|(refine T6 ?_ ?_<;>intro h<;>try exact V1 h)|intro el lU lV|intro el lU|exact T4|refine T5 ?_ ?_|intro ex)<;>try conv=>whnf)
 all_goals exact A0 rfl (congrArg AV.i (by omega))
theorem Bv(c:D4)(level:Int)(h1:1≤level)(h2:level≤c.widths.length):A3 Tryz.prog 151 [S9 c,.i level] (.i (A7 c level)):=by
 refine B6 Tryz.func151 14 fun lW E h0=>?_
 have lX:c.widths.length≤9223372036854775807:=by
  have:=((lW (S9 c) (by simp)).agg (.sl 1 (c.widths.map wA)) (by simp)).sl
  simpa using this
 clear lW
 repeat'((first|refine S2 ?_|(refine T6 ?_ ?_<;>intro h<;>try exact V1 h)|intro el lU lV|intro el lU|exact T4|refine T5 ?_ ?_|intro ex)<;>try conv=>whnf)
 all_goals exact A0 rfl (congrArg AV.i (E4 lU).symm)
theorem aV(v w:Int):v / w*w=C5 v w:=by
 unfold C5
 have:=Int.ediv_mul_add_emod v w
 omega
theorem w8(s:A4)(column level v:Int):A3 Tryz.prog 97 [sA s,.i column,.i level,.i v] (.i (G2 s column level v)):=by
 have lr:=T7 s column
 have mm:=W7 level 0 (B7 s column)
 have pX:=W7 v (-1000000) 1000000
 refine B6 Tryz.func97 59 fun lW E h0=>?_
 obtain⟨nL,mO,nk⟩:=X3 (s:=s) (lW _ (by simp))
 clear lW
 repeat'((first|refine A1 lr ?_|refine A1 mm ?_ |refine S2 ?_|(refine T6 ?_ ?_<;>intro h<;>try exact V1 h)|intro el lU lV|intro el lU|exact T4|refine T5 ?_ ?_|intro ex)<;>try conv=>whnf)
 all_goals first
  |(refine A0 rfl (congrArg AV.i ?_);rw[G2,if_pos (by omega)];done)
  |skip
 obtain⟨hr,h1,h2,h4⟩:=BZ (s:=s) (column:=column) (level:=level) (by omega) (by omega)
 rw[G2,if_neg (by omega)]
 clear lr mm
 obtain⟨c,hc⟩:∃c,s.cols[column.toNat]?=some c:=⟨_,List.getElem?_eq_getElem (by omega)⟩
 have lm:=C1 hc
 have nA:=o0 hr h1 hc
 rw[E5,if_neg (by omega),lm]at h4
 rw[lm]
 have ll:=LG s column v hr (by omega) hc
 have pm:=fun (l:CL) (hl:s.lists[c.lst.toNat]?=some l)=>Sy l.1 l.2 v level (nk _ (List.mem_of_getElem? hl))
 have qG:¬c.kind=2→¬level=0→(1≤A7 c level∧A7 c level≤1000000)∧A3 Tryz.prog 151 [S9 c,.i level] (.i (A7 c level)):=by
  intro h5 h7
  have h9:M7 s c=c.widths.length:=by unfold M7;rw[if_neg h5]
  rcases nA with nA|nA
  ·omega
  exact⟨a7 nA.2.2.2.2.2.2 (by omega) (by omega),Bv c level (by omega) (by omega)⟩
 have nB:¬c.kind=2→¬level=0→-1000000≤v∧v≤1000000→A3 Tryz.prog 152 [.i v,.i (A7 c level)] (.i (v / A7 c level)):=fun h5 h6 h7=>Nm _ _ (qG h5 h6).1.1 (by omega)
 have vo:¬c.kind=2→¬level=0→v / A7 c level*A7 c level=C5 v (A7 c level)∧v-A7 c level<C5 v (A7 c level)∧C5 v (A7 c level)≤v:=fun h5 h6=>⟨aV _ _,V3 v (qG h5 h6).1.1⟩
 unfold O9
 generalize A7 c level=w at *
 repeat'((first|(refine A2 (x:=c) hc (by omega) ?_)|refine A1 ll ?_|refine A1 (pm _ (by assumption)) ?_|refine A1 pX ?_|refine A1 (qG (by assumption) (by assumption)).2 ?_|refine A1 (nB (by assumption) (by assumption) (by assumption)) ?_|(refine B3 ?_ ?_;kernel_rfl)|(refine I4 ?_ ?_;(have h6:=vo (by assumption) (by assumption);have h8:=(qG (by assumption) (by assumption)).1;rw[h6.1];omega)) |refine S2 ?_|(refine T6 ?_ ?_<;>intro h<;>try exact V1 h)|intro el lU lV|intro el lU|exact T4|refine T5 ?_ ?_|intro ex)<;>try conv=>whnf)
 all_goals refine A0 rfl (congrArg AV.i ?_)
 all_goals first
  |(rw[if_pos (by assumption:c.kind=2),if_neg (by rw[h];exact Bool.false_ne_true)];done)
  |(rw[if_pos (by assumption:c.kind=2),if_pos (by assumption),H8 lU];done)
  |(rw[if_neg (by assumption:¬c.kind=2),if_pos (by omega)];done)
  |(rw[if_neg (by assumption:¬c.kind=2),if_neg (by omega),if_pos (by omega)];done)
  |(rw[if_neg (by assumption:¬c.kind=2),if_neg (by omega),if_neg (by omega),if_pos (by omega)];done)
  |(rw[if_neg (by assumption:¬c.kind=2),if_neg (by omega),if_neg (by omega),if_pos (by omega)];omega)
  |(rw[if_neg (by assumption:¬c.kind=2),if_neg (by omega),if_neg (by omega),if_neg (by omega),(vo (by assumption) (by assumption)).1];done)
def M9(c:D4)(level v:Int):Int×Int×Bool :=
 if level=0 then (c.low,c.high,decide (v=0))else if v=(-1099511627776)∨¬(-2000000≤v∧v≤2000000)∨v.tmod (A7 c level)≠0 then (0,0,false)else (max c.low v,min c.high (v+A7 c level-1),decide (max c.low v≤min c.high (v+A7 c level-1)))
theorem Ho(c:D4)(level v:Int)(hc:meaE c=0)(h1:0≤level)(h2:level≤c.widths.length):A3 Tryz.prog 139 [S9 c,.i level,.i v] (XX (M9 c level v)):=by
 have hp:=T0 hc
 have oK:¬level=0→1≤A7 c level∧A7 c level≤1000000:=fun h=>a7 hp.2.2.2.2.2 (by omega) h2
 have qG:¬level=0→A3 Tryz.prog 151 [S9 c,.i level] (.i (A7 c level)):=fun h=>Bv c level (by omega) h2
 have mm:=W7 v (-2000000) 2000000
 unfold M9
 generalize A7 c level=w at *
 refine B6 Tryz.func139 52 fun lW E h0=>?_
 clear lW
 repeat'((first|refine A1 (qG (by assumption)) ?_|refine A1 mm ?_|(refine I4 ?_ ?_;(have:=oK (by assumption);omega))|(refine B3 ?_ ?_;kernel_rfl) |refine S2 ?_|(refine T6 ?_ ?_<;>intro h<;>try exact V1 h)|intro el lU lV|intro el lU|exact T4|refine T5 ?_ ?_|intro ex)<;>try conv=>whnf)
 all_goals refine Ez (a:=.i _) (b:=.i _) (c:=.b _) rfl rfl rfl ?_
 all_goals first
  |(rw[if_pos (by assumption)];done)
  |(rw[if_neg (by assumption),if_pos (by first|omega|exact .inr (.inr (by assumption)))];done)
  |(rw[if_neg (by assumption),if_neg (fun hx=>by rcases hx with hx|hx|hx<;>first|omega|exact absurd hx (by assumption))];done)
end Go.Proofs.YtiphlhoclaogjaaGreatDoor
