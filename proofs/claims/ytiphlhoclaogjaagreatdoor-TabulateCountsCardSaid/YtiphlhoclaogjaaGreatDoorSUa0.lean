/- Chapters 9 and 10: what questions use and need, which picks suffice, and the plan of a declaration: the references. -/
import Derived.Test.YtiphlhoclaogjaaGreatDoorSCe9
import Derived.Test.YtiphlhoclaogjaaGreatDoorSF6
import Derived.Test.YtiphlhoclaogjaaGreatDoorSTa9
import Derived.Test.YtiphlhoclaogjaaGreatDoorSB15
import Derived.Test.YtiphlhoclaogjaaGreatDoorSCr1
import Derived.Test.YtiphlhoclaogjaaGreatDoorSB12
import Derived.Test.YtiphlhoclaogjaaGreatDoorSQn2
import Derived.Test.YtiphlhoclaogjaaGreatDoorSCe1
set_option linter.unusedVariables false
set_option linter.unnecessarySimpa false
set_option linter.unusedSimpArgs false
set_option maxHeartbeats 64000000
namespace Go.Proofs.YtiphlhoclaogjaaGreatDoor
open Go Go.Av
attribute [local irreducible] C7 B2 D3 C9 DQ D0 C8 St.le A3 B9
set_option maxRecDepth 100000
def ML(q:N6)(c:Int):Bool:=decide (q.mea=c) || q.trms.any fun x=>decide (x=c)
theorem Qj(q:N6)(c:Int):A3 Tryz.prog 176 [x8 q,.i c] (.b (ML q c)):=by
 have h1:=Qc q.trms c
 unfold ML
 generalize (q.trms.any fun x=>decide (x=c))=u at *
 refine B6 Tryz.func176 15 fun lW E h0=>?_
 clear lW
 repeat'((first|refine A1 h1 ?_ |refine S2 ?_|(refine T6 ?_ ?_<;>intro h<;>try exact V1 h)|intro el lU lV|intro el lU|exact T4|refine T5 ?_ ?_|intro ex)<;>try conv=>whnf)
 all_goals first
  |(exfalso;omega)
  |exact A0 rfl (congrArg AV.b (by simp[*]))
  |exact A0 rfl (congrArg AV.b (by rw[decide_eq_true (by omega)];rfl))
  |exact A0 rfl (congrArg AV.b (by rw[decide_eq_false (by omega)];rfl))
def Q6(l ps:List Pk):List Pk:=ps.foldl (fun qa p=>w5 qa p.col p.lev) l
theorem FW{l ps:List Pk}{k:Nat}{p:Pk}(h:ps[k]?=some p):Q6 l (ps.take (k+1))=w5 (Q6 l (ps.take k)) p.col p.lev:=by
 unfold Q6
 rw[H6 h,List.foldl_append]
 rfl
theorem Ej{col lev:Int}:∀(l:List Pk) (dn:Bool) (out:List Pk),(O4 col lev l dn out).length≤out.length+l.length+(if dn=true then 0 else 1)
 |[],dn,out=>by
  unfold O4
  split
  ·omega
  ·simp
 |x::r,dn,out=>by
  unfold O4
  split
  ·rename_i h
   have:=Ej (col:=col) (lev:=lev) r true (out++[⟨col,lev⟩]++[x])
   rw[if_pos rfl]at this
   rw[if_neg (by rw[h.2];decide)]
   simp only[List.length_append,List.length_cons,List.length_nil]at this ⊢
   omega
  ·split
   ·have:=Ej (col:=col) (lev:=lev) r true (out++[⟨x.col,max x.lev lev⟩])
    rw[if_pos rfl]at this
    simp only[List.length_append,List.length_cons,List.length_nil]at this ⊢
    omega
   ·have:=Ej (col:=col) (lev:=lev) r dn (out++[x])
    simp only[List.length_append,List.length_cons,List.length_nil]at this ⊢
    omega
theorem OI(l:List Pk)(col lev:Int):(w5 l col lev).length≤l.length+1:=by
 have:=Ej (col:=col) (lev:=lev) l (decide (lev≤0)) []
 unfold w5
 rw[List.length_nil]at this
 split at this<;>omega
theorem y7(l ps:List Pk):∀k:Nat,k≤ps.length→(Q6 l (ps.take k)).length≤l.length+k
 |0,_=>by simp[Q6]
 |k+1,h=>by
  obtain⟨p,hp⟩:∃p,ps[k]?=some p:=⟨_,List.getElem?_eq_getElem (by omega)⟩
  rw[FW hp]
  have h1:=OI (Q6 l (ps.take k)) p.col p.lev
  have h2:=y7 l ps k (by omega)
  omega
def BP(s:A4)(q:N6)(l:List Pk):Nat→List Pk
 |0=>l
 |k+1=>if ML q ((k:Int)+1)=true then w5 (BP s q l k) ((k:Int)+1) (K5 s ((k:Int)+1) (B7 s ((k:Int)+1)))else BP s q l k
theorem Kc(s:A4)(q:N6)(l:List Pk):∀k,(BP s q l k).length≤l.length+k
 |0=>by simp[BP]
 |k+1=>by
  have:=Kc s q l k
  unfold BP
  split
  ·have h1:=OI (BP s q l k) ((k:Int)+1) (K5 s ((k:Int)+1) (B7 s ((k:Int)+1)))
   omega
  ·omega
def L5(s:A4)(q:N6):List Pk:=q.dims.map fun d=>⟨d.col,K5 s d.col d.lev⟩
def Jw(s:A4)(q:N6):List Pk:=if q.kind=3 then K6 s q.evt else []
def Yj(s:A4)(q:N6):List Pk:=Q6 (Q6 (K6 s q.flt) (Jw s q)) (L5 s q)
def CD(s:A4)(q:N6):List Pk:=if Q1 s q=0 then BP s q (Yj s q) (s.cols.length-1)else []
theorem UM{s:A4}{q:N6}(h:Q1 s q=0):C3 s=0∧q.dims.length≤3:=by
 unfold Q1 at h
 by_cases hr:C3 s=0
 ·refine⟨hr,?_⟩
  rw[if_neg (fun hh=>hh hr)]at h
  split at h
  ·cases h
  split at h
  ·cases h
  split at h
  ·contradiction
  split at h
  ·unfold Jj at h
   split at h
   ·contradiction
   ·rename_i h2
    have h2:=Decidable.of_not_not h2
    unfold Q8 at h2
    split at h2
    ·cases h2
    ·omega
  split at h
  ·unfold Jk at h
   split at h
   ·cases h
   split at h
   ·contradiction
   split at h
   ·cases h
   ·omega
  ·unfold MA at h
   split at h
   ·cases h
   split at h
   ·cases h
   split at h
   ·contradiction
   split at h
   ·cases h
   ·omega
 ·rw[if_pos hr]at h
  exact absurd h hr
def Yk(s:A4)(q:N6)(picks:List Pk):Bool:=decide (Q1 s q=0) && (decide (I5 s picks=0) && q8 picks (CD s q))
def CE(s:A4)(d:o6)(picks:List Pk):Int:=if ¬CR s d=0 then CR s d else if ¬I5 s picks=0 then I5 s picks else if (d.qs.all fun q=>Yk s q picks)=true then 0 else 23
def DO(s:A4)(l:List N6):List Pk:=l.foldl (fun qa q=>Q6 qa (CD s q)) []
theorem OJ{s:A4}{l:List N6}{k:Nat}{q:N6}(h:l[k]?=some q):DO s (l.take (k+1))=Q6 (DO s (l.take k)) (CD s q):=by
 unfold DO
 rw[H6 h,List.foldl_append]
 rfl
theorem Qk(s:A4)(q:N6):(CD s q).length≤100:=by
 unfold CD
 split
 ·rename_i h
  obtain⟨hr,hd⟩:=UM h
  have hc:=(D5 hr).2.1
  have h1:=Ah s q.flt
  have h2:(Jw s q).length≤s.cols.length:=by
   unfold Jw
   split
   ·exact Ah s q.evt
   ·exact Nat.zero_le _
  have h3:=y7 (K6 s q.flt) (Jw s q) (Jw s q).length (Nat.le_refl _)
  have h4:=y7 (Q6 (K6 s q.flt) (Jw s q)) (L5 s q) (L5 s q).length (Nat.le_refl _)
  have h5:=Kc s q (Yj s q) (s.cols.length-1)
  have h6:(L5 s q).length=q.dims.length:=by unfold L5;rw[List.length_map]
  rw[List.take_length]at h3 h4
  unfold Yj at h5 ⊢
  omega
 ·exact Nat.zero_le _
theorem Jx(s:A4)(l:List N6):∀k,k≤l.length→(DO s (l.take k)).length≤100*k
 |0,_=>by simp[DO]
 |k+1,h=>by
  obtain⟨q,hq⟩:∃q,l[k]?=some q:=⟨_,List.getElem?_eq_getElem (by omega)⟩
  have h1:=Jx s l k (by omega)
  have h2:=y7 (DO s (l.take k)) (CD s q) (CD s q).length (Nat.le_refl _)
  have h3:=Qk s q
  rw[List.take_length]at h2
  rw[OJ hq]
  omega
def DP(s:A4)(d:o6):List Pk:=if CR s d=0 then DO s d.qs else []
theorem UN{s:A4}{d:o6}(h:CR s d=0):d.qs.length≤8:=by
 unfold CR at h
 split at h
 ·contradiction
 split at h
 ·cases h
 split at h
 ·contradiction
 split at h
 ·cases h
 split at h
 ·cases h
 ·omega
theorem bK(s:A4)(d:o6):(DP s d).length≤800:=by
 unfold DP
 split
 ·rename_i h
  have h1:=Jx s d.qs d.qs.length (Nat.le_refl _)
  have h2:=UN h
  rw[List.take_length]at h1
  omega
 ·exact Nat.zero_le _
theorem LO(s:A4)(hd:E7 s)(q:N6):A3 Tryz.prog 126 [sA s,x8 q] (.sl 2 ((CD s q).map B4)):=by
 have h1:=Gb s q
 have h2:=GZ s q.flt
 have h3:=GZ s q.evt
 have ou:=fun c l=>VV s c l hd
 have qU:=fun c=>T7 s c
 have ly:=hd.lens
 unfold CD
 by_cases hq:Q1 s q=0
 ·rw[if_pos hq]
  rw[hq]at h1
  obtain⟨hr,oa⟩:=UM hq
  have yR:(L5 s q).length=q.dims.length:=by unfold L5;rw[List.length_map]
  have yP:∀(k:Nat) d,q.dims[k]?=some d→(L5 s q)[k]?=some ⟨d.col,K5 s d.col d.lev⟩:=fun k d h=>by unfold L5;rw[List.getElem?_map,h];rfl
  have hFl:=Ah s q.flt
  have hEl:=Ah s q.evt
  unfold Yj
  by_cases hk:q.kind=3
  ·have ns:Jw s q=K6 s q.evt:=if_pos hk
   rw[ns]
   generalize K6 s q.flt=F at *
   generalize K6 s q.evt=R at *
   have zn:=y7 F R R.length (Nat.le_refl _)
   rw[List.take_length]at zn
   refine B6 Tryz.func126 92 fun lW E h0=>?_
   clear lW
   repeat'((first|refine A1 h1 ?_|refine A1 h2 ?_|refine A1 h3 ?_ |refine S2 ?_|(refine T6 ?_ ?_<;>intro h<;>try exact V1 h)|intro el lU lV|intro el lU|exact T4|refine T5 ?_ ?_|intro ex)<;>try conv=>whnf)
   all_goals first
    |(exfalso;omega)
    |skip
   refine B0 (ι:=Nat) (fun k=>⟨[(2,.ref 0 0),(3,.ref 1 0),(5,.sl 2 ((Q6 F (R.take k)).map B4)),(6,.sl 2 (R.map B4)),(7,.i k)],2,[(0,some (.box (sL s))),(1,some (.box (Bj q)))]⟩) (fun k=>k≤R.length) (fun k=>R.length-k) 0 (Nat.zero_le _)
    (A6 h0) (fun k lg=>?_)
   by_cases lY:k<R.length
   ·obtain⟨p,hp⟩:∃p,R[k]?=some p:=⟨_,List.getElem?_eq_getElem lY⟩
    have hp2:R[((k:Nat):Int).toNat]?=some p:=hp
    have mu:=FW (l:=F) hp
    have qA:=y7 F R k (by omega)
    have qI:=AU (Q6 F (R.take k)) p.col p.lev (by omega)
    rw[←mu]at qI
    clear mu
    repeat'((first|(refine A2 (x:=p) hp2 (by omega) ?_)|refine A1 qI ?_|(refine B3 ?_ ?_;kernel_rfl) |refine S2 ?_|(refine T6 ?_ ?_<;>intro h<;>try exact V1 h)|intro el lU lV|intro el lU|exact T4|refine T5 ?_ ?_|intro ex)<;>try conv=>whnf)
    all_goals first
     |(exfalso;omega)
     |exact⟨k+1,by omega,by omega,A6 h0⟩
   have vl:k=R.length:=by omega
   rw[vl,List.take_length]
   clear lg lY vl k
   generalize Q6 F R=M at *
   repeat'((first|refine S2 ?_|(refine T6 ?_ ?_<;>intro h<;>try exact V1 h)|intro el lU lV|intro el lU|exact T4|refine T5 ?_ ?_|intro ex)<;>try conv=>whnf)
   all_goals first
    |(exfalso;omega)
    |skip
   refine B0 (ι:=Nat) (fun k=>⟨[(2,.ref 0 0),(3,.ref 1 0),(5,.sl 2 ((Q6 M ((L5 s q).take k)).map B4)),(8,.i k)],2,[(0,some (.box (sL s))),(1,some (.box (Bj q)))]⟩) (fun k=>k≤q.dims.length) (fun k=>q.dims.length-k) 0 (Nat.zero_le _)
    (A6 h0) (fun k hk=>?_)
   by_cases lY:k<q.dims.length
   ·obtain⟨d,pL⟩:∃d,q.dims[k]?=some d:=⟨_,List.getElem?_eq_getElem lY⟩
    have tn:q.dims[((k:Nat):Int).toNat]?=some d:=pL
    have mu:=FW (l:=M) (yP k d pL)
    have qA:=y7 M (L5 s q) k (by omega)
    have mX:=ou d.col d.lev
    have qI:=AU (Q6 M ((L5 s q).take k)) d.col (K5 s d.col d.lev) (by omega)
    rw[show w5 (Q6 M ((L5 s q).take k)) d.col (K5 s d.col d.lev)=_ from mu.symm]at qI
    clear mu
    generalize K5 s d.col d.lev=lv at *
    repeat'((first|(refine A2 (x:=d) tn (by omega) ?_)|refine A1 mX ?_|refine A1 qI ?_|(refine B3 ?_ ?_;kernel_rfl) |refine S2 ?_|(refine T6 ?_ ?_<;>intro h<;>try exact V1 h)|intro el lU lV|intro el lU|exact T4|refine T5 ?_ ?_|intro ex)<;>try conv=>whnf)
    all_goals first
     |(exfalso;omega)
     |exact⟨k+1,by omega,by omega,A6 h0⟩
   have oH:k=(L5 s q).length:=by omega
   rw[oH,List.take_length]
   have hN:=y7 M (L5 s q) (L5 s q).length (Nat.le_refl _)
   rw[List.take_length]at hN
   repeat'((first|refine S2 ?_|(refine T6 ?_ ?_<;>intro h<;>try exact V1 h)|intro el lU lV|intro el lU|exact T4|refine T5 ?_ ?_|intro ex)<;>try conv=>whnf)
   all_goals first
    |(exfalso;omega)
    |skip
   refine B0 (ι:=Nat) (fun k=>⟨[(2,.ref 0 0),(3,.ref 1 0),(5,.sl 2 ((BP s q (Q6 M (L5 s q)) k).map B4)),(9,.i ((k:Int)+1))],2,[(0,some (.box (sL s))),(1,some (.box (Bj q)))]⟩) (fun k=>k≤s.cols.length-1) (fun k=>s.cols.length-1-k) 0 (Nat.zero_le _)
    (A6 h0) (fun k hk=>?_)
   have vc:=Kc s q (Q6 M (L5 s q)) k
   have um:BP s q (Q6 M (L5 s q)) (k+1)=if ML q ((k:Int)+1)=true then w5 (BP s q (Q6 M (L5 s q)) k) ((k:Int)+1) (K5 s ((k:Int)+1) (B7 s ((k:Int)+1)))else BP s q (Q6 M (L5 s q)) k:=rfl
   have lr:=qU ((k:Int)+1)
   have mX:=ou ((k:Int)+1) (B7 s ((k:Int)+1))
   have qI:=AU (BP s q (Q6 M (L5 s q)) k) ((k:Int)+1) (K5 s ((k:Int)+1) (B7 s ((k:Int)+1))) (by omega)
   have hu:=Qj q ((k:Int)+1)
   have nR:k=s.cols.length-1→BP s q (Q6 M (L5 s q)) (s.cols.length-1)=BP s q (Q6 M (L5 s q)) k:=fun h=>by rw[h]
   generalize K5 s ((k:Int)+1) (B7 s ((k:Int)+1))=lv at *
   generalize B7 s ((k:Int)+1)=fs at *
   generalize BP s q (Q6 M (L5 s q)) k=U at *
   generalize ML q ((k:Int)+1)=ub at *
   repeat'((first|refine A1 hu ?_|refine A1 lr ?_|refine A1 mX ?_|refine A1 qI ?_|(refine B3 ?_ ?_;kernel_rfl) |refine S2 ?_|(refine T6 ?_ ?_<;>intro h<;>try exact V1 h)|intro el lU lV|intro el lU|exact T4|refine T5 ?_ ?_|intro ex)<;>try conv=>whnf)
   all_goals first
    |(exfalso;omega)
    |(rw[nR (by omega)];exact A0 rfl rfl)
    |(refine⟨k+1,by omega,by omega,?_⟩;rw[um,if_pos (by assumption)];exact A9 h0 rfl ⟨rfl,rfl,rfl,congrArg (fun z:Int=>some (AV.i z)) (by omega),trivial⟩ ⟨rfl,rfl,trivial⟩ rfl rfl rfl)
    |(refine⟨k+1,by omega,by omega,?_⟩;rw[um,if_neg (by simp[*])];exact A9 h0 rfl ⟨rfl,rfl,rfl,congrArg (fun z:Int=>some (AV.i z)) (by omega),trivial⟩ ⟨rfl,rfl,trivial⟩ rfl rfl rfl)
  ·have ns:Jw s q=[]:=if_neg hk
   rw[ns,show Q6 (K6 s q.flt) []=K6 s q.flt from rfl]
   generalize K6 s q.flt=M at *
   refine B6 Tryz.func126 92 fun lW E h0=>?_
   clear lW
   repeat'((first|refine A1 h1 ?_|refine A1 h2 ?_|refine A1 h3 ?_ |refine S2 ?_|(refine T6 ?_ ?_<;>intro h<;>try exact V1 h)|intro el lU lV|intro el lU|exact T4|refine T5 ?_ ?_|intro ex)<;>try conv=>whnf)
   all_goals first
    |(exfalso;omega)
    |skip
   refine B0 (ι:=Nat) (fun k=>⟨[(2,.ref 0 0),(3,.ref 1 0),(5,.sl 2 ((Q6 M ((L5 s q).take k)).map B4)),(8,.i k)],2,[(0,some (.box (sL s))),(1,some (.box (Bj q)))]⟩) (fun k=>k≤q.dims.length) (fun k=>q.dims.length-k) 0 (Nat.zero_le _)
    (A6 h0) (fun k hk=>?_)
   by_cases lY:k<q.dims.length
   ·obtain⟨d,pL⟩:∃d,q.dims[k]?=some d:=⟨_,List.getElem?_eq_getElem lY⟩
    have tn:q.dims[((k:Nat):Int).toNat]?=some d:=pL
    have mu:=FW (l:=M) (yP k d pL)
    have qA:=y7 M (L5 s q) k (by omega)
    have mX:=ou d.col d.lev
    have qI:=AU (Q6 M ((L5 s q).take k)) d.col (K5 s d.col d.lev) (by omega)
    rw[show w5 (Q6 M ((L5 s q).take k)) d.col (K5 s d.col d.lev)=_ from mu.symm]at qI
    clear mu
    generalize K5 s d.col d.lev=lv at *
    repeat'((first|(refine A2 (x:=d) tn (by omega) ?_)|refine A1 mX ?_|refine A1 qI ?_|(refine B3 ?_ ?_;kernel_rfl) |refine S2 ?_|(refine T6 ?_ ?_<;>intro h<;>try exact V1 h)|intro el lU lV|intro el lU|exact T4|refine T5 ?_ ?_|intro ex)<;>try conv=>whnf)
    all_goals first
     |(exfalso;omega)
     |exact⟨k+1,by omega,by omega,A6 h0⟩
   have oH:k=(L5 s q).length:=by omega
   rw[oH,List.take_length]
   have hN:=y7 M (L5 s q) (L5 s q).length (Nat.le_refl _)
   rw[List.take_length]at hN
   repeat'((first|refine S2 ?_|(refine T6 ?_ ?_<;>intro h<;>try exact V1 h)|intro el lU lV|intro el lU|exact T4|refine T5 ?_ ?_|intro ex)<;>try conv=>whnf)
   all_goals first
    |(exfalso;omega)
    |skip
   refine B0 (ι:=Nat) (fun k=>⟨[(2,.ref 0 0),(3,.ref 1 0),(5,.sl 2 ((BP s q (Q6 M (L5 s q)) k).map B4)),(9,.i ((k:Int)+1))],2,[(0,some (.box (sL s))),(1,some (.box (Bj q)))]⟩) (fun k=>k≤s.cols.length-1) (fun k=>s.cols.length-1-k) 0 (Nat.zero_le _)
    (A6 h0) (fun k hk=>?_)
   have vc:=Kc s q (Q6 M (L5 s q)) k
   have um:BP s q (Q6 M (L5 s q)) (k+1)=if ML q ((k:Int)+1)=true then w5 (BP s q (Q6 M (L5 s q)) k) ((k:Int)+1) (K5 s ((k:Int)+1) (B7 s ((k:Int)+1)))else BP s q (Q6 M (L5 s q)) k:=rfl
   have lr:=qU ((k:Int)+1)
   have mX:=ou ((k:Int)+1) (B7 s ((k:Int)+1))
   have qI:=AU (BP s q (Q6 M (L5 s q)) k) ((k:Int)+1) (K5 s ((k:Int)+1) (B7 s ((k:Int)+1))) (by omega)
   have hu:=Qj q ((k:Int)+1)
   have nR:k=s.cols.length-1→BP s q (Q6 M (L5 s q)) (s.cols.length-1)=BP s q (Q6 M (L5 s q)) k:=fun h=>by rw[h]
   generalize K5 s ((k:Int)+1) (B7 s ((k:Int)+1))=lv at *
   generalize B7 s ((k:Int)+1)=fs at *
   generalize BP s q (Q6 M (L5 s q)) k=U at *
   generalize ML q ((k:Int)+1)=ub at *
   repeat'((first|refine A1 hu ?_|refine A1 lr ?_|refine A1 mX ?_|refine A1 qI ?_|(refine B3 ?_ ?_;kernel_rfl) |refine S2 ?_|(refine T6 ?_ ?_<;>intro h<;>try exact V1 h)|intro el lU lV|intro el lU|exact T4|refine T5 ?_ ?_|intro ex)<;>try conv=>whnf)
   all_goals first
    |(exfalso;omega)
    |(rw[nR (by omega)];exact A0 rfl rfl)
    |(refine⟨k+1,by omega,by omega,?_⟩;rw[um,if_pos (by assumption)];exact A9 h0 rfl ⟨rfl,rfl,rfl,congrArg (fun z:Int=>some (AV.i z)) (by omega),trivial⟩ ⟨rfl,rfl,trivial⟩ rfl rfl rfl)
    |(refine⟨k+1,by omega,by omega,?_⟩;rw[um,if_neg (by simp[*])];exact A9 h0 rfl ⟨rfl,rfl,rfl,congrArg (fun z:Int=>some (AV.i z)) (by omega),trivial⟩ ⟨rfl,rfl,trivial⟩ rfl rfl rfl)
 ·rw[if_neg hq]
  generalize Q1 s q=e at *
  refine B6 Tryz.func126 92 fun lW E h0=>?_
  clear lW
  repeat'((first|refine A1 h1 ?_ |refine S2 ?_|(refine T6 ?_ ?_<;>intro h<;>try exact V1 h)|intro el lU lV|intro el lU|exact T4|refine T5 ?_ ?_|intro ex)<;>try conv=>whnf)
  all_goals first
   |(exfalso;omega)
   |exact u4 (sz:=2) rfl rfl
theorem Yl(s:A4)(hd:E7 s)(q:N6)(picks:List Pk):A3 Tryz.prog 145 [sA s,x8 q,.sl 2 (picks.map B4)] (.b (Yk s q picks)):=by
 have h1:=Gb s q
 have h2:=Dw s picks
 have h3:=LO s hd q
 have h4:=Jt (CD s q) picks
 unfold Yk
 generalize Q1 s q=e1 at *
 generalize I5 s picks=e2 at *
 generalize CD s q=N at *
 generalize q8 picks N=b at *
 refine B6 Tryz.func145 24 fun lW E h0=>?_
 clear lW
 repeat'((first|refine A1 h1 ?_|refine A1 h2 ?_|refine A1 h3 ?_|refine A1 h4 ?_ |refine S2 ?_|(refine T6 ?_ ?_<;>intro h<;>try exact V1 h)|intro el lU lV|intro el lU|exact T4|refine T5 ?_ ?_|intro ex)<;>try conv=>whnf)
 all_goals first
  |(exfalso;omega)
  |exact A0 rfl (congrArg AV.b (by rw[decide_eq_true (by omega),decide_eq_true (by omega)];rfl))
  |exact A0 rfl (congrArg AV.b (by rw[decide_eq_false (by omega)];rfl))
  |exact A0 rfl (congrArg AV.b (by rw[decide_eq_true (by omega),decide_eq_false (by omega)];rfl))
theorem VZ(s:A4)(hd:E7 s)(d:o6)(picks:List Pk):A3 Tryz.prog 93 [sA s,EN d,.sl 2 (picks.map B4)] (.i (CE s d picks)):=by
 have h1:=FV s d
 have h2:=Dw s picks
 have h3:=fun q=>Yl s hd q picks
 unfold CE
 have rD:CR s d=0→d.qs.length≤8:=UN
 generalize CR s d=e1 at *
 generalize I5 s picks=e2 at *
 generalize Yk s=SF at *
 refine B6 Tryz.func93 38 fun lW E h0=>?_
 clear lW
 repeat'((first|refine A1 h1 ?_|refine A1 h2 ?_ |refine S2 ?_|(refine T6 ?_ ?_<;>intro h<;>try exact V1 h)|intro el lU lV|intro el lU|exact T4|refine T5 ?_ ?_|intro ex)<;>try conv=>whnf)
 all_goals first
  |(exfalso;omega)
  |exact A0 rfl (congrArg AV.i (by rw[if_pos (by omega)]))
  |exact A0 rfl (congrArg AV.i (by rw[if_neg (by omega),if_pos (by omega)]))
  |skip
 have rD:=rD (by omega)
 rw[if_neg (by omega),if_neg (by omega)]
 refine B0 (ι:=Nat) (fun k=>⟨[(2,.sl 2 (picks.map B4)),(3,.ref 0 0),(4,.ref 1 0),(9,.i k)],2,[(0,some (.box (sL s))),(1,some (.box (BO d)))]⟩) (fun k=>k≤d.qs.length∧(d.qs.take k).all (fun q=>SF q picks)=true) (fun k=>d.qs.length-k) 0 ⟨Nat.zero_le _,rfl⟩
  (A6 h0) (fun k hI=>?_)
 obtain⟨hk,hI⟩:=hI
 by_cases lY:k<d.qs.length
 ·obtain⟨q,hq⟩:∃q,d.qs[k]?=some q:=⟨_,List.getElem?_eq_getElem lY⟩
  have nC:d.qs[((k:Nat):Int).toNat]?=some q:=hq
  have h3:=h3 q
  have ln:SF q picks=false→d.qs.all (fun q=>SF q picks)=false:=fun h=>Ti (p:=fun q=>SF q picks) hq h
  have oA:SF q picks=true→(d.qs.take (k+1)).all (fun q=>SF q picks)=true:=fun h=>Qa (p:=fun q=>SF q picks) hq hI h
  generalize SF q picks=b at *
  repeat'((first|(refine A2 (x:=q) nC (by omega) ?_)|refine A1 h3 ?_|(refine B3 ?_ ?_;kernel_rfl) |refine S2 ?_|(refine T6 ?_ ?_<;>intro h<;>try exact V1 h)|intro el lU lV|intro el lU|exact T4|refine T5 ?_ ?_|intro ex)<;>try conv=>whnf)
  all_goals first
   |(exfalso;omega)
   |exact⟨k+1,⟨by omega,oA (by simp_all)⟩,by omega,A6 h0⟩
   |exact A0 rfl (congrArg AV.i (by rw[ln (by simp_all),if_neg (by decide)]))
 ·rw[List.take_of_length_le (by omega)]at hI
  rw[if_pos hI]
  repeat'((first|refine S2 ?_|(refine T6 ?_ ?_<;>intro h<;>try exact V1 h)|intro el lU lV|intro el lU|exact T4|refine T5 ?_ ?_|intro ex)<;>try conv=>whnf)
  all_goals first
   |(exfalso;omega)
   |exact A0 rfl rfl
theorem Ym(s:A4)(hd:E7 s)(d:o6):A3 Tryz.prog 62 [sA s,EN d] (.tup [.sl 2 ((DP s d).map B4),.i (CR s d)]):=by
 have h1:=FV s d
 have h3:=fun q=>LO s hd q
 unfold DP
 by_cases he:CR s d=0
 ·have rD:=UN he
  have nY:=Jx s d.qs
  have pn:=fun (k:Nat) q (h:d.qs[k]?=some q)=>OJ (s:=s) h
  have uQ:=Qk s
  rw[if_pos he,he]
  rw[he]at h1
  have oL:DO s d.qs=DO s (d.qs.take d.qs.length):=by rw[List.take_length]
  rw[oL]
  have hp0:DO s (d.qs.take 0)=[]:=rfl
  generalize DO s=PF at *
  generalize CD s=NQ at *
  refine B6 Tryz.func62 50 fun lW E h0=>?_
  clear lW
  repeat'((first|refine A1 h1 ?_ |refine S2 ?_|(refine T6 ?_ ?_<;>intro h<;>try exact V1 h)|intro el lU lV|intro el lU|exact T4|refine T5 ?_ ?_|intro ex)<;>try conv=>whnf)
  all_goals first
   |(exfalso;omega)
   |skip
  refine B0 (ι:=Nat) (fun k=>⟨[(2,.ref 0 0),(3,.ref 1 0),(7,.sl 2 ((PF (d.qs.take k)).map B4)),(8,.i k)],2,[(0,some (.box (sL s))),(1,some (.box (BO d)))]⟩) (fun k=>k≤d.qs.length) (fun k=>d.qs.length-k) 0 (Nat.zero_le _)
   (B5 (SD (d:=7) (sz:=2) rfl) (A9 h0 rfl ⟨rfl,rfl,congrArg (fun z:List Pk=>some (AV.sl 2 (z.map B4))) hp0.symm,rfl,trivial⟩ ⟨rfl,rfl,trivial⟩ rfl rfl rfl)) (fun k hk=>?_)
  by_cases lY:k<d.qs.length
  ·obtain⟨q,hq⟩:∃q,d.qs[k]?=some q:=⟨_,List.getElem?_eq_getElem lY⟩
   have nC:d.qs[((k:Nat):Int).toNat]?=some q:=hq
   have h3:=h3 q
   have nL:=nY k hk
   have mO:=uQ q
   have rr:=pn k q hq
   generalize PF (d.qs.take k)=A at *
   generalize NQ q=R at *
   repeat'((first|(refine A2 (x:=q) nC (by omega) ?_)|refine A1 h3 ?_|(refine B3 ?_ ?_;kernel_rfl) |refine S2 ?_|(refine T6 ?_ ?_<;>intro h<;>try exact V1 h)|intro el lU lV|intro el lU|exact T4|refine T5 ?_ ?_|intro ex)<;>try conv=>whnf)
   all_goals first
    |(exfalso;omega)
    |skip
   refine B0 (ι:=Nat) (fun j=>⟨[(2,.ref 0 0),(3,.ref 1 0),(7,.sl 2 ((Q6 A (R.take j)).map B4)),(8,.i k),(9,.sl 2 (R.map B4)),(10,.i j)],2,[(0,some (.box (sL s))),(1,some (.box (BO d)))]⟩) (fun j=>j≤R.length) (fun j=>R.length-j) 0 (Nat.zero_le _)
    (A6 h0) (fun j hj=>?_)
   by_cases sk:j<R.length
   ·obtain⟨p,hp⟩:∃p,R[j]?=some p:=⟨_,List.getElem?_eq_getElem sk⟩
    have hp2:R[((j:Nat):Int).toNat]?=some p:=hp
    have mu:=FW (l:=A) hp
    have qA:=y7 A R j (by omega)
    have qI:=AU (Q6 A (R.take j)) p.col p.lev (by omega)
    rw[←mu]at qI
    clear mu
    repeat'((first|(refine A2 (x:=p) hp2 (by omega) ?_)|refine A1 qI ?_|(refine B3 ?_ ?_;kernel_rfl) |refine S2 ?_|(refine T6 ?_ ?_<;>intro h<;>try exact V1 h)|intro el lU lV|intro el lU|exact T4|refine T5 ?_ ?_|intro ex)<;>try conv=>whnf)
    all_goals first
     |(exfalso;omega)
     |exact⟨j+1,by omega,by omega,A6 h0⟩
   ·rw[List.take_of_length_le (by omega:R.length≤j),←rr]
    repeat'((first|refine S2 ?_|(refine T6 ?_ ?_<;>intro h<;>try exact V1 h)|intro el lU lV|intro el lU|exact T4|refine T5 ?_ ?_|intro ex)<;>try conv=>whnf)
    all_goals first
     |(exfalso;omega)
     |exact⟨k+1,by omega,by omega,A6 h0⟩
  ·obtain rfl:k=d.qs.length:=by omega
   repeat'((first|refine S2 ?_|(refine T6 ?_ ?_<;>intro h<;>try exact V1 h)|intro el lU lV|intro el lU|exact T4|refine T5 ?_ ?_|intro ex)<;>try conv=>whnf)
   all_goals first
    |(exfalso;omega)
    |exact I0 rfl rfl rfl
 ·rw[if_neg he]
  generalize CR s d=e at *
  refine B6 Tryz.func62 50 fun lW E h0=>?_
  clear lW
  repeat'((first|refine A1 h1 ?_ |refine S2 ?_|(refine T6 ?_ ?_<;>intro h<;>try exact V1 h)|intro el lU lV|intro el lU|exact T4|refine T5 ?_ ?_|intro ex)<;>try conv=>whnf)
  all_goals first
   |(exfalso;omega)
   |exact Mx (rs:=[.tmp 4,.tmp 5]) (vs:=[.sl 2 [],.i e]) rfl ⟨⟨_,rfl,.nil 2⟩,⟨_,rfl,.refl _⟩,trivial⟩ rfl
end Go.Proofs.YtiphlhoclaogjaaGreatDoor
