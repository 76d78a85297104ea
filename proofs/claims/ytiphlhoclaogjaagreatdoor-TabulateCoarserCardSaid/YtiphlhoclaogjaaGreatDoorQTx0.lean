/- Chapters 9 and 10: what questions use and need, which picks suffice, and the plan of a declaration: the references. -/
import Derived.Test.YtiphlhoclaogjaaGreatDoorQF5
import Derived.Test.YtiphlhoclaogjaaGreatDoorQB15
import Derived.Test.YtiphlhoclaogjaaGreatDoorQRg0
import Derived.Test.YtiphlhoclaogjaaGreatDoorQQn2
import Derived.Test.YtiphlhoclaogjaaGreatDoorQB12
import Derived.Test.YtiphlhoclaogjaaGreatDoorQCe1
import Derived.Test.YtiphlhoclaogjaaGreatDoorQCf1
import Derived.Test.YtiphlhoclaogjaaGreatDoorQTa2
set_option linter.unusedVariables false
set_option linter.unnecessarySimpa false
set_option linter.unusedSimpArgs false
set_option maxHeartbeats 64000000
namespace Go.Proofs.YtiphlhoclaogjaaGreatDoor
open Go Go.Av
attribute [local irreducible] C7 B1 D1 C8 DQ D0 C6 St.le A3 B8
set_option maxRecDepth 100000
def Jp(q:W2)(c:Int):Bool:=decide (q.mea=c) || q.trms.any fun x=>decide (x=c)
theorem Qn(q:W2)(c:Int):A3 Tryz.prog 176 [EA q,.i c] (.b (Jp q c)):=by
 have h1:=Dq q.trms c
 unfold Jp
 generalize (q.trms.any fun x=>decide (x=c))=u at *
 refine C1 Tryz.func176 15 fun nd E h0=>?_
 clear nd
 repeat'((first|refine A1 h1 ?_ |refine S2 ?_|(refine T6 ?_ ?_<;>intro h<;>try exact V1 h)|intro el nX nY|intro el nX|exact T4|refine T5 ?_ ?_|intro ex)<;>try conv=>whnf)
 all_goals first
  |(exfalso;omega)
  |exact A0 rfl (congrArg AV.b (by simp[*]))
  |exact A0 rfl (congrArg AV.b (by rw[decide_eq_true (by omega)];rfl))
  |exact A0 rfl (congrArg AV.b (by rw[decide_eq_false (by omega)];rfl))
def W3(l ps:List Pk):List Pk:=ps.foldl (fun pm p=>e9 pm p.col p.lev) l
theorem IC{l ps:List Pk}{k:Nat}{p:Pk}(h:ps[k]?=some p):W3 l (ps.take (k+1))=e9 (W3 l (ps.take k)) p.col p.lev:=by
 unfold W3
 rw[I0 h,List.foldl_append]
 rfl
theorem Eh{col lev:Int}:∀(l:List Pk) (dn:Bool) (out:List Pk),(N4 col lev l dn out).length≤out.length+l.length+(if dn=true then 0 else 1)
 |[],dn,out=>by
  unfold N4
  split
  ·omega
  ·simp
 |x::r,dn,out=>by
  unfold N4
  split
  ·rename_i h
   have:=Eh (col:=col) (lev:=lev) r true (out++[⟨col,lev⟩]++[x])
   rw[if_pos rfl]at this
   rw[if_neg (by rw[h.2];decide)]
   simp only[List.length_append,List.length_cons,List.length_nil]at this ⊢
   omega
  ·split
   ·have:=Eh (col:=col) (lev:=lev) r true (out++[⟨x.col,max x.lev lev⟩])
    rw[if_pos rfl]at this
    simp only[List.length_append,List.length_cons,List.length_nil]at this ⊢
    omega
   ·have:=Eh (col:=col) (lev:=lev) r dn (out++[x])
    simp only[List.length_append,List.length_cons,List.length_nil]at this ⊢
    omega
theorem OG(l:List Pk)(col lev:Int):(e9 l col lev).length≤l.length+1:=by
 have:=Eh (col:=col) (lev:=lev) l (decide (lev≤0)) []
 unfold e9
 rw[List.length_nil]at this
 split at this<;>omega
theorem DV(l ps:List Pk):∀k:Nat,k≤ps.length→(W3 l (ps.take k)).length≤l.length+k
 |0,_=>by simp[W3]
 |k+1,h=>by
  obtain⟨p,hp⟩:∃p,ps[k]?=some p:=⟨_,List.getElem?_eq_getElem (by omega)⟩
  rw[IC hp]
  have h1:=OG (W3 l (ps.take k)) p.col p.lev
  have h2:=DV l ps k (by omega)
  omega
def x5(s:A4)(q:W2)(l:List Pk):Nat→List Pk
 |0=>l
 |k+1=>if Jp q ((k:Int)+1)=true then e9 (x5 s q l k) ((k:Int)+1) (I1 s ((k:Int)+1) (A8 s ((k:Int)+1)))else x5 s q l k
theorem PJ(s:A4)(q:W2)(l:List Pk):∀k,(x5 s q l k).length≤l.length+k
 |0=>by simp[x5]
 |k+1=>by
  have:=PJ s q l k
  unfold x5
  split
  ·have h1:=OG (x5 s q l k) ((k:Int)+1) (I1 s ((k:Int)+1) (A8 s ((k:Int)+1)))
   omega
  ·omega
def M8(s:A4)(q:W2):List Pk:=q.dims.map fun d=>⟨d.col,I1 s d.col d.lev⟩
def ZP(s:A4)(q:W2):List Pk:=if q.kind=3 then L3 s q.evt else []
def ZQ(s:A4)(q:W2):List Pk:=W3 (W3 (L3 s q.flt) (ZP s q)) (M8 s q)
def ID(s:A4)(q:W2):List Pk:=if O3 s q=0 then x5 s q (ZQ s q) (s.cols.length-1)else []
theorem fY{s:A4}{q:W2}(h:O3 s q=0):C5 s=0∧q.dims.length≤3:=by
 unfold O3 at h
 by_cases hr:C5 s=0
 ·refine⟨hr,?_⟩
  rw[if_neg (fun hh=>hh hr)]at h
  split at h
  ·cases h
  split at h
  ·cases h
  split at h
  ·contradiction
  split at h
  ·unfold Hy at h
   split at h
   ·contradiction
   ·rename_i h2
    have h2:=Decidable.of_not_not h2
    unfold J4 at h2
    split at h2
    ·cases h2
    ·omega
  split at h
  ·unfold Jk at h
   split at h
   ·cases h
   split at h
   ·contradiction
   split at h
   ·cases h
   ·omega
  ·unfold ME at h
   split at h
   ·cases h
   split at h
   ·cases h
   split at h
   ·contradiction
   split at h
   ·cases h
   ·omega
 ·rw[if_pos hr]at h
  exact absurd h hr
def UZ(s:A4)(q:W2)(picks:List Pk):Bool:=decide (O3 s q=0) && (decide (J7 s picks=0) && z4 picks (ID s q))
def p9(s:A4)(d:Cq)(picks:List Pk):Int:=if ¬DS s d=0 then DS s d else if ¬J7 s picks=0 then J7 s picks else if (d.qs.all fun q=>UZ s q picks)=true then 0 else 23
theorem ln{s:A4}{d:Cq}(h:DS s d=0):d.qs.length≤8:=by
 unfold DS at h
 split at h
 ·contradiction
 split at h
 ·cases h
 split at h
 ·contradiction
 split at h
 ·cases h
 split at h
 ·cases h
 ·omega
theorem Vr(s:A4)(hd:C3 s)(q:W2):A3 Tryz.prog 126 [sA s,EA q] (.sl 2 ((ID s q).map B6)):=by
 have h1:=GT s q
 have h2:=LR s q.flt
 have h3:=LR s q.evt
 have rH:=fun c l=>Vp s c l hd
 have sN:=fun c=>X6 s c
 have nz:=hd.lens
 unfold ID
 by_cases hq:O3 s q=0
 ·rw[if_pos hq]
  rw[hq]at h1
  obtain⟨hr,qW⟩:=fY hq
  have hDl:(M8 s q).length=q.dims.length:=by unfold M8;rw[List.length_map]
  have hDg:∀(k:Nat) d,q.dims[k]?=some d→(M8 s q)[k]?=some ⟨d.col,I1 s d.col d.lev⟩:=fun k d h=>by unfold M8;rw[List.getElem?_map,h];rfl
  have hFl:=Df s q.flt
  have hEl:=Df s q.evt
  unfold ZQ
  by_cases hk:q.kind=3
  ·have pq:ZP s q=L3 s q.evt:=if_pos hk
   rw[pq]
   generalize L3 s q.flt=F at *
   generalize L3 s q.evt=R at *
   have hMl:=DV F R R.length (Nat.le_refl _)
   rw[List.take_length]at hMl
   refine C1 Tryz.func126 92 fun nd E h0=>?_
   clear nd
   repeat'((first|refine A1 h1 ?_|refine A1 h2 ?_|refine A1 h3 ?_ |refine S2 ?_|(refine T6 ?_ ?_<;>intro h<;>try exact V1 h)|intro el nX nY|intro el nX|exact T4|refine T5 ?_ ?_|intro ex)<;>try conv=>whnf)
   all_goals first
    |(exfalso;omega)
    |skip
   refine B2 (ι:=Nat) (fun k=>⟨[(2,.ref 0 0),(3,.ref 1 0),(5,.sl 2 ((W3 F (R.take k)).map B6)),(6,.sl 2 (R.map B6)),(7,.i k)],2,[(0,some (.box (sL s))),(1,some (.box (GR q)))]⟩) (fun k=>k≤R.length) (fun k=>R.length-k) 0 (Nat.zero_le _)
    (A6 h0) (fun k nr=>?_)
   by_cases nf:k<R.length
   ·obtain⟨p,hp⟩:∃p,R[k]?=some p:=⟨_,List.getElem?_eq_getElem nf⟩
    have hp2:R[((k:Nat):Int).toNat]?=some p:=hp
    have oe:=IC (l:=F) hp
    have sW:=DV F R k (by omega)
    have sw:=Ar (W3 F (R.take k)) p.col p.lev (by omega)
    rw[←oe]at sw
    clear oe
    repeat'((first|(refine A2 (x:=p) hp2 (by omega) ?_)|refine A1 sw ?_|(refine B5 ?_ ?_;kernel_rfl) |refine S2 ?_|(refine T6 ?_ ?_<;>intro h<;>try exact V1 h)|intro el nX nY|intro el nX|exact T4|refine T5 ?_ ?_|intro ex)<;>try conv=>whnf)
    all_goals first
     |(exfalso;omega)
     |exact⟨k+1,by omega,by omega,A6 h0⟩
   have wl:k=R.length:=by omega
   rw[wl,List.take_length]
   clear nr nf wl k
   generalize W3 F R=M at *
   repeat'((first|refine S2 ?_|(refine T6 ?_ ?_<;>intro h<;>try exact V1 h)|intro el nX nY|intro el nX|exact T4|refine T5 ?_ ?_|intro ex)<;>try conv=>whnf)
   all_goals first
    |(exfalso;omega)
    |skip
   refine B2 (ι:=Nat) (fun k=>⟨[(2,.ref 0 0),(3,.ref 1 0),(5,.sl 2 ((W3 M ((M8 s q).take k)).map B6)),(8,.i k)],2,[(0,some (.box (sL s))),(1,some (.box (GR q)))]⟩) (fun k=>k≤q.dims.length) (fun k=>q.dims.length-k) 0 (Nat.zero_le _)
    (A6 h0) (fun k hk=>?_)
   by_cases nf:k<q.dims.length
   ·obtain⟨d,qb⟩:∃d,q.dims[k]?=some d:=⟨_,List.getElem?_eq_getElem nf⟩
    have vz:q.dims[((k:Nat):Int).toNat]?=some d:=qb
    have oe:=IC (l:=M) (hDg k d qb)
    have sW:=DV M (M8 s q) k (by omega)
    have ob:=rH d.col d.lev
    have sw:=Ar (W3 M ((M8 s q).take k)) d.col (I1 s d.col d.lev) (by omega)
    rw[show e9 (W3 M ((M8 s q).take k)) d.col (I1 s d.col d.lev)=_ from oe.symm]at sw
    clear oe
    generalize I1 s d.col d.lev=lv at *
    repeat'((first|(refine A2 (x:=d) vz (by omega) ?_)|refine A1 ob ?_|refine A1 sw ?_|(refine B5 ?_ ?_;kernel_rfl) |refine S2 ?_|(refine T6 ?_ ?_<;>intro h<;>try exact V1 h)|intro el nX nY|intro el nX|exact T4|refine T5 ?_ ?_|intro ex)<;>try conv=>whnf)
    all_goals first
     |(exfalso;omega)
     |exact⟨k+1,by omega,by omega,A6 h0⟩
   have qG:k=(M8 s q).length:=by omega
   rw[qG,List.take_length]
   have hN:=DV M (M8 s q) (M8 s q).length (Nat.le_refl _)
   rw[List.take_length]at hN
   repeat'((first|refine S2 ?_|(refine T6 ?_ ?_<;>intro h<;>try exact V1 h)|intro el nX nY|intro el nX|exact T4|refine T5 ?_ ?_|intro ex)<;>try conv=>whnf)
   all_goals first
    |(exfalso;omega)
    |skip
   refine B2 (ι:=Nat) (fun k=>⟨[(2,.ref 0 0),(3,.ref 1 0),(5,.sl 2 ((x5 s q (W3 M (M8 s q)) k).map B6)),(9,.i ((k:Int)+1))],2,[(0,some (.box (sL s))),(1,some (.box (GR q)))]⟩) (fun k=>k≤s.cols.length-1) (fun k=>s.cols.length-1-k) 0 (Nat.zero_le _)
    (A6 h0) (fun k hk=>?_)
   have xo:=PJ s q (W3 M (M8 s q)) k
   have xI:x5 s q (W3 M (M8 s q)) (k+1)=if Jp q ((k:Int)+1)=true then e9 (x5 s q (W3 M (M8 s q)) k) ((k:Int)+1) (I1 s ((k:Int)+1) (A8 s ((k:Int)+1)))else x5 s q (W3 M (M8 s q)) k:=rfl
   have oB:=sN ((k:Int)+1)
   have ob:=rH ((k:Int)+1) (A8 s ((k:Int)+1))
   have sw:=Ar (x5 s q (W3 M (M8 s q)) k) ((k:Int)+1) (I1 s ((k:Int)+1) (A8 s ((k:Int)+1))) (by omega)
   have hu:=Qn q ((k:Int)+1)
   have ph:k=s.cols.length-1→x5 s q (W3 M (M8 s q)) (s.cols.length-1)=x5 s q (W3 M (M8 s q)) k:=fun h=>by rw[h]
   generalize I1 s ((k:Int)+1) (A8 s ((k:Int)+1))=lv at *
   generalize A8 s ((k:Int)+1)=fs at *
   generalize x5 s q (W3 M (M8 s q)) k=U at *
   generalize Jp q ((k:Int)+1)=ub at *
   repeat'((first|refine A1 hu ?_|refine A1 oB ?_|refine A1 ob ?_|refine A1 sw ?_|(refine B5 ?_ ?_;kernel_rfl) |refine S2 ?_|(refine T6 ?_ ?_<;>intro h<;>try exact V1 h)|intro el nX nY|intro el nX|exact T4|refine T5 ?_ ?_|intro ex)<;>try conv=>whnf)
   all_goals first
    |(exfalso;omega)
    |(rw[ph (by omega)];exact A0 rfl rfl)
    |(refine⟨k+1,by omega,by omega,?_⟩;rw[xI,if_pos (by assumption)];exact B3 h0 rfl ⟨rfl,rfl,rfl,congrArg (fun z:Int=>some (AV.i z)) (by omega),trivial⟩ ⟨rfl,rfl,trivial⟩ rfl rfl rfl)
    |(refine⟨k+1,by omega,by omega,?_⟩;rw[xI,if_neg (by simp[*])];exact B3 h0 rfl ⟨rfl,rfl,rfl,congrArg (fun z:Int=>some (AV.i z)) (by omega),trivial⟩ ⟨rfl,rfl,trivial⟩ rfl rfl rfl)
  ·have pq:ZP s q=[]:=if_neg hk
   rw[pq,show W3 (L3 s q.flt) []=L3 s q.flt from rfl]
   generalize L3 s q.flt=M at *
   refine C1 Tryz.func126 92 fun nd E h0=>?_
   clear nd
   repeat'((first|refine A1 h1 ?_|refine A1 h2 ?_|refine A1 h3 ?_ |refine S2 ?_|(refine T6 ?_ ?_<;>intro h<;>try exact V1 h)|intro el nX nY|intro el nX|exact T4|refine T5 ?_ ?_|intro ex)<;>try conv=>whnf)
   all_goals first
    |(exfalso;omega)
    |skip
   refine B2 (ι:=Nat) (fun k=>⟨[(2,.ref 0 0),(3,.ref 1 0),(5,.sl 2 ((W3 M ((M8 s q).take k)).map B6)),(8,.i k)],2,[(0,some (.box (sL s))),(1,some (.box (GR q)))]⟩) (fun k=>k≤q.dims.length) (fun k=>q.dims.length-k) 0 (Nat.zero_le _)
    (A6 h0) (fun k hk=>?_)
   by_cases nf:k<q.dims.length
   ·obtain⟨d,qb⟩:∃d,q.dims[k]?=some d:=⟨_,List.getElem?_eq_getElem nf⟩
    have vz:q.dims[((k:Nat):Int).toNat]?=some d:=qb
    have oe:=IC (l:=M) (hDg k d qb)
    have sW:=DV M (M8 s q) k (by omega)
    have ob:=rH d.col d.lev
    have sw:=Ar (W3 M ((M8 s q).take k)) d.col (I1 s d.col d.lev) (by omega)
    rw[show e9 (W3 M ((M8 s q).take k)) d.col (I1 s d.col d.lev)=_ from oe.symm]at sw
    clear oe
    generalize I1 s d.col d.lev=lv at *
    repeat'((first|(refine A2 (x:=d) vz (by omega) ?_)|refine A1 ob ?_|refine A1 sw ?_|(refine B5 ?_ ?_;kernel_rfl) |refine S2 ?_|(refine T6 ?_ ?_<;>intro h<;>try exact V1 h)|intro el nX nY|intro el nX|exact T4|refine T5 ?_ ?_|intro ex)<;>try conv=>whnf)
    all_goals first
     |(exfalso;omega)
     |exact⟨k+1,by omega,by omega,A6 h0⟩
   have qG:k=(M8 s q).length:=by omega
   rw[qG,List.take_length]
   have hN:=DV M (M8 s q) (M8 s q).length (Nat.le_refl _)
   rw[List.take_length]at hN
   repeat'((first|refine S2 ?_|(refine T6 ?_ ?_<;>intro h<;>try exact V1 h)|intro el nX nY|intro el nX|exact T4|refine T5 ?_ ?_|intro ex)<;>try conv=>whnf)
   all_goals first
    |(exfalso;omega)
    |skip
   refine B2 (ι:=Nat) (fun k=>⟨[(2,.ref 0 0),(3,.ref 1 0),(5,.sl 2 ((x5 s q (W3 M (M8 s q)) k).map B6)),(9,.i ((k:Int)+1))],2,[(0,some (.box (sL s))),(1,some (.box (GR q)))]⟩) (fun k=>k≤s.cols.length-1) (fun k=>s.cols.length-1-k) 0 (Nat.zero_le _)
    (A6 h0) (fun k hk=>?_)
   have xo:=PJ s q (W3 M (M8 s q)) k
   have xI:x5 s q (W3 M (M8 s q)) (k+1)=if Jp q ((k:Int)+1)=true then e9 (x5 s q (W3 M (M8 s q)) k) ((k:Int)+1) (I1 s ((k:Int)+1) (A8 s ((k:Int)+1)))else x5 s q (W3 M (M8 s q)) k:=rfl
   have oB:=sN ((k:Int)+1)
   have ob:=rH ((k:Int)+1) (A8 s ((k:Int)+1))
   have sw:=Ar (x5 s q (W3 M (M8 s q)) k) ((k:Int)+1) (I1 s ((k:Int)+1) (A8 s ((k:Int)+1))) (by omega)
   have hu:=Qn q ((k:Int)+1)
   have ph:k=s.cols.length-1→x5 s q (W3 M (M8 s q)) (s.cols.length-1)=x5 s q (W3 M (M8 s q)) k:=fun h=>by rw[h]
   generalize I1 s ((k:Int)+1) (A8 s ((k:Int)+1))=lv at *
   generalize A8 s ((k:Int)+1)=fs at *
   generalize x5 s q (W3 M (M8 s q)) k=U at *
   generalize Jp q ((k:Int)+1)=ub at *
   repeat'((first|refine A1 hu ?_|refine A1 oB ?_|refine A1 ob ?_|refine A1 sw ?_|(refine B5 ?_ ?_;kernel_rfl) |refine S2 ?_|(refine T6 ?_ ?_<;>intro h<;>try exact V1 h)|intro el nX nY|intro el nX|exact T4|refine T5 ?_ ?_|intro ex)<;>try conv=>whnf)
   all_goals first
    |(exfalso;omega)
    |(rw[ph (by omega)];exact A0 rfl rfl)
    |(refine⟨k+1,by omega,by omega,?_⟩;rw[xI,if_pos (by assumption)];exact B3 h0 rfl ⟨rfl,rfl,rfl,congrArg (fun z:Int=>some (AV.i z)) (by omega),trivial⟩ ⟨rfl,rfl,trivial⟩ rfl rfl rfl)
    |(refine⟨k+1,by omega,by omega,?_⟩;rw[xI,if_neg (by simp[*])];exact B3 h0 rfl ⟨rfl,rfl,rfl,congrArg (fun z:Int=>some (AV.i z)) (by omega),trivial⟩ ⟨rfl,rfl,trivial⟩ rfl rfl rfl)
 ·rw[if_neg hq]
  generalize O3 s q=e at *
  refine C1 Tryz.func126 92 fun nd E h0=>?_
  clear nd
  repeat'((first|refine A1 h1 ?_ |refine S2 ?_|(refine T6 ?_ ?_<;>intro h<;>try exact V1 h)|intro el nX nY|intro el nX|exact T4|refine T5 ?_ ?_|intro ex)<;>try conv=>whnf)
  all_goals first
   |(exfalso;omega)
   |exact x9 (sz:=2) rfl rfl
theorem ZR(s:A4)(hd:C3 s)(q:W2)(picks:List Pk):A3 Tryz.prog 145 [sA s,EA q,.sl 2 (picks.map B6)] (.b (UZ s q picks)):=by
 have h1:=GT s q
 have h2:=GN s picks
 have h3:=Vr s hd q
 have h4:=US (ID s q) picks
 unfold UZ
 generalize O3 s q=e1 at *
 generalize J7 s picks=e2 at *
 generalize ID s q=N at *
 generalize z4 picks N=b at *
 refine C1 Tryz.func145 24 fun nd E h0=>?_
 clear nd
 repeat'((first|refine A1 h1 ?_|refine A1 h2 ?_|refine A1 h3 ?_|refine A1 h4 ?_ |refine S2 ?_|(refine T6 ?_ ?_<;>intro h<;>try exact V1 h)|intro el nX nY|intro el nX|exact T4|refine T5 ?_ ?_|intro ex)<;>try conv=>whnf)
 all_goals first
  |(exfalso;omega)
  |exact A0 rfl (congrArg AV.b (by rw[decide_eq_true (by omega),decide_eq_true (by omega)];rfl))
  |exact A0 rfl (congrArg AV.b (by rw[decide_eq_false (by omega)];rfl))
  |exact A0 rfl (congrArg AV.b (by rw[decide_eq_true (by omega),decide_eq_false (by omega)];rfl))
theorem Vs(s:A4)(hd:C3 s)(d:Cq)(picks:List Pk):A3 Tryz.prog 93 [sA s,Jj d,.sl 2 (picks.map B6)] (.i (p9 s d picks)):=by
 have h1:=Jo s d
 have h2:=GN s picks
 have h3:=fun q=>ZR s hd q picks
 unfold p9
 have uE:DS s d=0→d.qs.length≤8:=ln
 generalize DS s d=e1 at *
 generalize J7 s picks=e2 at *
 generalize UZ s=SF at *
 refine C1 Tryz.func93 38 fun nd E h0=>?_
 clear nd
 repeat'((first|refine A1 h1 ?_|refine A1 h2 ?_ |refine S2 ?_|(refine T6 ?_ ?_<;>intro h<;>try exact V1 h)|intro el nX nY|intro el nX|exact T4|refine T5 ?_ ?_|intro ex)<;>try conv=>whnf)
 all_goals first
  |(exfalso;omega)
  |exact A0 rfl (congrArg AV.i (by rw[if_pos (by omega)]))
  |exact A0 rfl (congrArg AV.i (by rw[if_neg (by omega),if_pos (by omega)]))
  |skip
 have uE:=uE (by omega)
 rw[if_neg (by omega),if_neg (by omega)]
 refine B2 (ι:=Nat) (fun k=>⟨[(2,.sl 2 (picks.map B6)),(3,.ref 0 0),(4,.ref 1 0),(9,.i k)],2,[(0,some (.box (sL s))),(1,some (.box (MD d)))]⟩) (fun k=>k≤d.qs.length∧(d.qs.take k).all (fun q=>SF q picks)=true) (fun k=>d.qs.length-k) 0 ⟨Nat.zero_le _,rfl⟩
  (A6 h0) (fun k hI=>?_)
 obtain⟨hk,hI⟩:=hI
 by_cases nf:k<d.qs.length
 ·obtain⟨q,hq⟩:∃q,d.qs[k]?=some q:=⟨_,List.getElem?_eq_getElem nf⟩
  have pI:d.qs[((k:Nat):Int).toNat]?=some q:=hq
  have h3:=h3 q
  have ns:SF q picks=false→d.qs.all (fun q=>SF q picks)=false:=fun h=>Tx (p:=fun q=>SF q picks) hq h
  have px:SF q picks=true→(d.qs.take (k+1)).all (fun q=>SF q picks)=true:=fun h=>Qe (p:=fun q=>SF q picks) hq hI h
  generalize SF q picks=b at *
  repeat'((first|(refine A2 (x:=q) pI (by omega) ?_)|refine A1 h3 ?_|(refine B5 ?_ ?_;kernel_rfl) |refine S2 ?_|(refine T6 ?_ ?_<;>intro h<;>try exact V1 h)|intro el nX nY|intro el nX|exact T4|refine T5 ?_ ?_|intro ex)<;>try conv=>whnf)
  all_goals first
   |(exfalso;omega)
   |exact⟨k+1,⟨by omega,px (by simp_all)⟩,by omega,A6 h0⟩
   |exact A0 rfl (congrArg AV.i (by rw[ns (by simp_all),if_neg (by decide)]))
 ·rw[List.take_of_length_le (by omega)]at hI
  rw[if_pos hI]
  repeat'((first|refine S2 ?_|(refine T6 ?_ ?_<;>intro h<;>try exact V1 h)|intro el nX nY|intro el nX|exact T4|refine T5 ?_ ?_|intro ex)<;>try conv=>whnf)
  all_goals first
   |(exfalso;omega)
   |exact A0 rfl rfl
def cN(s:A4)(column level v:Int):Int :=
 if (B4 s column).kind=2 then (if (v8 (fun x=>F9 s column level x) v (H4 s column)).2=true then (v8 (fun x=>F9 s column level x) v (H4 s column)).1 else -1)
 else if 0<level∧v=(-1099511627776)then v else (f6 (B4 s column) level v).1
theorem fZ{s:A4}(hr:C5 s=0){column level:Int}{c:D6}(h1:1≤column)(hc:s.cols[column.toNat]?=some c)(h3:0≤level)(h4:level≤A8 s column)(v:Int):(N5 s column level v).2=PB s column level v∧(PB s column level v=true→(N5 s column level v).1=cN s column level v):=by
 have nt:=C0 hc
 obtain⟨hk,hm⟩:=Ox hr h1 hc
 unfold PB cN N5
 rw[if_pos (show 0≤level∧level≤A8 s column from ⟨h3,h4⟩),nt]
 by_cases nr:c.kind=2
 ·have rn:∀x∈H4 s column,QT s column level x=F9 s column level x:=fun x hx=>by
   unfold QT
   rw[nt]
   exact(Hq hr h1 hc nr h3 h4 hx).1.symm
  rw[if_neg (show ¬c.kind=3 by omega),if_pos nr,if_pos nr,LH rn]
  rcases Hl (f:=fun x:Nat=>F9 s column level x) (v:=v) (l:=H4 s column)with ⟨g1,x,hx,g2,g3⟩|⟨g1,g2⟩
  ·have:(H4 s column).any (fun x=>decide (F9 s column level x=v))=true:=List.any_eq_true.2 ⟨x,hx,decide_eq_true g2⟩
   rw[this,g1,if_pos rfl]
   exact⟨rfl,fun _=>rfl⟩
  ·have:(H4 s column).any (fun x=>decide (F9 s column level x=v))=false:=by
    rw[List.any_eq_false]
    intro x hx
    rw[decide_eq_true_iff]
    exact g2 x hx
   rw[this,g1]
   exact⟨rfl,fun h=>by cases h⟩
 ·have qi:c.kind=3:=by omega
  have nZ:level≤c.widths.length:=by
   have h5:=h4
   have nf:=D4 hc
   rw[A8,if_pos hr,F2,if_neg (by omega),nt,N0,if_neg nr]at h5
   exact h5
  rw[if_pos qi,if_neg nr,if_neg nr]
  by_cases h5:0<level∧v=(-1099511627776)
  ·rw[if_pos h5,if_pos h5,if_pos h5]
   exact⟨rfl,fun _=>rfl⟩
  ·rw[if_neg h5,if_neg h5,if_neg h5]
   obtain⟨e1,e2⟩:=Yi (hm qi) h3 nZ h5
   exact⟨e1,fun h=>(e2 h).1⟩
theorem jc{s:A4}(hd:C3 s){i:Nat}{c:D6}(hi:0<i)(hc:s.cols[i]?=some c){n:Nat}(hn:A8 s i=n){v:Int}(hv:i8 s c v){m:Nat}(hm:m≤n):
  (N5 s i m (F9 s i m v)).2=true∧i8 s c (N5 s i m (F9 s i m v)).1∧F9 s i m (N5 s i m (F9 s i m v)).1=F9 s i m v:=by
 have hr:=hd.ok
 have ut:s.cols[(i:Int).toNat]?=some c:=by simpa using hc
 have nt:=C0 ut
 have nf:=D4 hc
 have rn:∀w,F9 s i m w=P8 s c m w:=fun w=>by
  unfold F9
  rw[hn,if_neg (by omega),nt]
 have oB:(n:Int)=N0 s c:=by
  have h1:A8 s i=F2 s i:=by rw[A8,if_pos hr]
  rw[h1,F2,if_neg (by omega),nt]at hn
  exact hn.symm
 unfold N5
 rw[nt]
 by_cases hk:c.kind=2
 ·rw[if_neg (by omega)]
  obtain⟨k,rfl,sQ⟩:∃k:Nat,v=k∧k∈H4 s i:=by
   rcases hv with ⟨hw,_⟩|⟨_,k,hw,hm⟩|⟨hw,_⟩
   ·rw[hw]at hk;cases hk
   ·refine⟨k,hw,?_⟩
    unfold H4;rw[nt];exact hm
   ·omega
  have rm:∀x∈H4 s i,QT s i m x=F9 s i m x:=fun x hx=>by
   unfold QT
   rw[nt]
   exact(Hq hr (by omega) ut hk (by omega) (by omega) hx).1.symm
  rcases Hl (f:=QT s i m) (v:=F9 s i m k) (l:=H4 s i)with ⟨g1,y,hy,g2,g3⟩|⟨g1,g2⟩
  ·rw[g3]
   refine⟨g1,?_,by rw[←rm y hy,g2]⟩
   refine .inr (.inl ⟨hk,y,rfl,?_⟩)
   unfold H4 at hy;rw[nt]at hy;exact hy
  ·exact absurd (rm k sQ) (g2 k sQ)
 ·have pj:=(Ox hr (column:=i) (by omega) ut).1
  have qi:c.kind=3:=by omega
  rw[if_pos qi]
  obtain⟨nm,hM⟩:∃nm,R0 c nm:=by
   rcases hd.col hc with ⟨_,rfl⟩|⟨_,rfl|rfl⟩|⟨_,h⟩
   ·cases qi
   ·cases qi
   ·cases qi
   ·exact h
  have rj:=hM.low
  have qp:=hM.high
  have yL:Aw c v:=by
   rcases hv with ⟨hw,_⟩|⟨hw,_⟩|⟨_,hw⟩
   ·rw[hw]at qi;cases qi
   ·omega
   ·exact hw
  have hmn:m≤c.widths.length:=by
   have:N0 s c=c.widths.length:=by unfold N0;rw[if_neg hk]
   omega
  have ok:∀w,Aw c w→i8 s c w:=fun w hw=>.inr (.inr ⟨qi,hw⟩)
  have uy:Aw c c.low:=.inl ⟨Int.le_refl _,qp.1⟩
  rw[rn,N1 hM yL]
  by_cases rN:(m:Int)=0
  ·rw[if_pos rN,if_neg (by omega)]
   have e:M1 c m 0=(c.low,c.high,true):=by unfold M1;rw[if_pos rN];rfl
   rw[e]
   refine⟨rfl,ok _ uy,?_⟩
   rw[rn,N1 hM uy,if_pos rN]
  ·rw[if_neg rN]
   by_cases tX:v=(-1099511627776)
   ·have ho:c.opt=true:=by
     rcases yL with hv|hv
     ·omega
     ·exact hv.1
    rw[if_pos tX,if_pos ⟨by omega,rfl⟩]
    refine⟨ho,ok _ (.inr ⟨ho,rfl⟩),?_⟩
    rw[rn,N1 hM (.inr ⟨ho,rfl⟩),if_neg rN,if_pos rfl]
   ·have oo:c.low≤v∧v≤c.high:=by
     rcases yL with hv|hv
     ·exact hv
     ·exact absurd hv.2 tX
    obtain⟨hw,_,_⟩:=k9 hM (a:=m) (b:=m) (by omega) (Nat.le_refl _) hmn
    have d:=V3 v hw.1
    have qb:=Am hw.1 (Int.le_refl _) (show C9 v (A9 c m)<C9 v (A9 c m)+A9 c m by omega)
    have uU:M1 c m (C9 v (A9 c m))=(max (C9 v (A9 c m)) c.low,min (C9 v (A9 c m)+A9 c m-1) c.high,true):=by
     unfold M1
     rw[if_neg (by omega),if_neg (by omega),qb]
     have:max (C9 v (A9 c m)) c.low≤min (C9 v (A9 c m)+A9 c m-1) c.high:=by omega
     simp[this]
    rw[if_neg tX,if_neg (by omega),uU]
    have hV:Aw c (max (C9 v (A9 c m)) c.low):=.inl (by omega)
    refine⟨rfl,ok _ hV,?_⟩
    dsimp only
    rw[rn,N1 hM hV,if_neg rN,if_neg (by omega)]
    exact Am hw.1 (by omega) (by omega)
abbrev uW(z:Int):Int:=IntKind.u64.wrap z
abbrev Ua(g:Int)(k:Int):Int:=g.fdiv (2 ^ min k.toNat IntKind.u64.bits)
abbrev lq(a b:Int):Int:=IntKind.u64.wrap ((BitVec.ofInt IntKind.u64.bits a ^^^ BitVec.ofInt IntKind.u64.bits b).toNat:Int)
def ZS(g:Int):Int:=lq (uW (uW (g*6364136223846793005)+1442695040888963407)) (Ua (uW (uW (g*6364136223846793005)+1442695040888963407)) 29)
def Fu(f:Int→Int):Nat→Int→Int
 |0,g=>g
 |k+1,g=>Fu f k (f g)
def Rg(seed id:Int):Int:=IntKind.i64.wrap (Ua (Fu ZS 3 (uW (uW (uW (uW seed*2654435761)+uW (uW id*40503))+97))) 32)
theorem ZT(seed id:Int):A3 Tryz.prog 192 [.i seed,.i id] (.i (Rg seed id)):=by
 unfold Rg
 generalize hG:Fu ZS 3 (uW (uW (uW (uW seed*2654435761)+uW (uW id*40503))+97))=G
 refine C1 Tryz.func192 29 fun nd E h0=>?_
 clear nd
 repeat'((first|refine S2 ?_|(refine T6 ?_ ?_<;>intro h<;>try exact V1 h)|intro el nX nY|intro el nX|exact T4|refine T5 ?_ ?_|intro ex)<;>try conv=>whnf)
 refine B2 (ι:=Nat×Int) (fun x=>⟨[(5,.v (.int .u64 x.2)),(6,.i x.1)],0,[]⟩)
  (fun x=>x.1≤3∧Fu ZS (3-x.1) x.2=G) (fun x=>3-x.1) (0,uW (uW (uW (uW seed*2654435761)+uW (uW id*40503))+97)) ⟨Nat.zero_le _,hG⟩ (A6 h0) (fun x hI=>?_)
 obtain⟨k,g⟩:=x
 obtain⟨i1,i2⟩:=hI
 dsimp only at i1 i2 ⊢
 by_cases hk:k<3
 ·rw[show 3-k=(3-(k+1))+1 by omega,Fu]at i2
  repeat'((first|refine S2 ?_|(refine T6 ?_ ?_<;>intro h<;>try exact V1 h)|intro el nX nY|intro el nX|exact T4|refine T5 ?_ ?_|intro ex)<;>try conv=>whnf)
  all_goals first
   |(exfalso;omega)
   |exact⟨(k+1,ZS g),⟨by dsimp only;omega,i2⟩,by dsimp only;omega,A6 h0⟩
 ·rw[show 3-k=0 by omega,Fu]at i2
  subst i2
  repeat'((first|refine S2 ?_|(refine T6 ?_ ?_<;>intro h<;>try exact V1 h)|intro el nX nY|intro el nX|exact T4|refine T5 ?_ ?_|intro ex)<;>try conv=>whnf)
  all_goals first
   |(exfalso;omega)
   |exact A0 rfl rfl
def PK(part of seed:Int):Int:=if of<1∨1000<of∨part<1∨of<part∨seed<0∨1099511627776<seed then 2 else 0
theorem Ub(part of seed:Int):A3 Tryz.prog 191 [.agg [.i part,.i of,.i seed]] (.i (PK part of seed)):=by
 unfold PK
 refine C1 Tryz.func191 33 fun nd E h0=>?_
 clear nd
 repeat'((first|refine S2 ?_|(refine T6 ?_ ?_<;>intro h<;>try exact V1 h)|intro el nX nY|intro el nX|exact T4|refine T5 ?_ ?_|intro ex)<;>try conv=>whnf)
 all_goals first
  |(rw[if_pos (by omega)];exact A0 rfl rfl)
  |(rw[if_neg (by omega)];exact A0 rfl rfl)
def Uc(part of seed id:Int):Bool:=if PK part of seed=0∧1≤id∧id≤1048575 then decide ((Rg seed id).tmod of<part)else false
theorem fa(part of seed id:Int):A3 Tryz.prog 147 [.agg [.i part,.i of,.i seed],.i id] (.b (Uc part of seed id)):=by
 have h1:=Ub part of seed
 have h2:=ZT seed id
 unfold Uc
 have zd:PK part of seed=0→1≤of:=fun h=>by
  unfold PK at h
  split at h
  ·cases h
  ·omega
 generalize PK part of seed=e at *
 generalize Rg seed id=g at *
 by_cases hc:e=0∧1≤id∧id≤1048575
 ·rw[if_pos hc]
  obtain⟨rfl,qK,pf⟩:=hc
  have:=zd rfl
  refine C1 Tryz.func147 28 fun nd E h0=>?_
  clear nd
  repeat'((first|refine A1 h1 ?_|refine A1 h2 ?_|(refine B5 ?_ ?_;kernel_rfl) |refine S2 ?_|(refine T6 ?_ ?_<;>intro h<;>try exact V1 h)|intro el nX nY|intro el nX|exact T4|refine T5 ?_ ?_|intro ex)<;>try conv=>whnf)
  all_goals first
   |(exfalso;omega)
   |exact A0 rfl rfl
 ·rw[if_neg hc]
  refine C1 Tryz.func147 28 fun nd E h0=>?_
  clear nd
  repeat'((first|refine A1 h1 ?_|(refine B5 ?_ ?_;kernel_rfl) |refine S2 ?_|(refine T6 ?_ ?_<;>intro h<;>try exact V1 h)|intro el nX nY|intro el nX|exact T4|refine T5 ?_ ?_|intro ex)<;>try conv=>whnf)
  all_goals first
   |(exfalso;omega)
   |exact A0 rfl rfl
end Go.Proofs.YtiphlhoclaogjaaGreatDoor
