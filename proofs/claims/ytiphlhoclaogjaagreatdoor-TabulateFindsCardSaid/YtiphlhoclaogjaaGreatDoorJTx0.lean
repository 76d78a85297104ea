/- Chapter 18: both tables are the same. -/
import Derived.Test.YtiphlhoclaogjaaGreatDoorJTc8
import Derived.Test.YtiphlhoclaogjaaGreatDoorJTc0
import Derived.Test.YtiphlhoclaogjaaGreatDoorJCe9
import Derived.Test.YtiphlhoclaogjaaGreatDoorJF4
import Derived.Test.YtiphlhoclaogjaaGreatDoorJQn2
import Derived.Test.YtiphlhoclaogjaaGreatDoorJCe1
set_option linter.unusedVariables false
set_option linter.unnecessarySimpa false
set_option linter.unusedSimpArgs false
set_option maxHeartbeats 64000000
namespace Go.Proofs.YtiphlhoclaogjaaGreatDoor
open Go Go.Av
attribute [local irreducible] C9 B3 C8 D1 DQ D0 C7 St.le A3 B8
set_option maxRecDepth 100000
theorem VI(s:A4)(pQ:E4 s)(x:J9)(dims:List Pk)(mea:Int)(cnd:B7):A3 Tryz.prog 17 [sA s,X9 x,.sl 2 (dims.map A8),.i mea,D5 cnd] (.tup [S3 (GJ s x dims mea cnd),.i (k0 s x dims mea cnd)]):=by
 by_cases e1:¬L2 s x=0
 ·have hE:k0 s x dims mea cnd=L2 s x:=if_pos e1
  rw[Br (by rw[hE];exact e1),hE]
  exact fS s pQ x dims mea cnd e1
 have e1:=Decidable.of_not_not e1
 by_cases e2:¬L7 s (R9 dims mea cnd)=0
 ·have hE:k0 s x dims mea cnd=L7 s (R9 dims mea cnd):=by unfold k0;rw[if_neg (fun h=>h e1),if_pos e2]
  rw[Br (by rw[hE];exact e2),hE]
  exact fT s pQ x dims mea cnd e1 e2
 have e2:=Decidable.of_not_not e2
 cases e3:X8 x.picks (W8 s (j9 dims mea cnd))with
 |false =>
  have hE:k0 s x dims mea cnd=23:=by unfold k0;rw[if_neg (fun h=>h e1),if_neg (fun h=>h e2),if_pos e3]
  rw[Br (by rw[hE];decide),hE]
  exact fU s pQ x dims mea cnd e1 e2 e3
 |true =>
  have hE:k0 s x dims mea cnd=if (U9 s dims [[]]).isSome=false then 1 else 0:=by unfold k0;rw[if_neg (fun h=>h e1),if_neg (fun h=>h e2),if_neg (by rw[e3];decide)]
  rw[XS]at hE
  by_cases hb:2000<(G4 s dims).length
  ·rw[if_pos hb]at hE
   have hE:k0 s x dims mea cnd=1:=hE
   rw[Br (by rw[hE];decide),hE]
   exact fV s pQ x dims mea cnd e1 e2 e3 hb
  ·rw[if_neg hb]at hE
   have hE:k0 s x dims mea cnd=0:=hE
   have hT:GJ s x dims mea cnd=⟨dims,mea,(G4 s dims).map fun l=>P7 l ((b7 s x cnd (V0 mea)).map (BL s x dims mea))⟩:=by
    unfold GJ
    rw[if_pos hE,XS,if_neg hb,VF]
    rfl
   rw[hT,hE]
   by_cases hm:0≤mea
   ·exact ji s pQ x dims mea cnd e1 e2 e3 hb hm
   ·exact jh s pQ x dims mea cnd e1 e2 e3 hb hm
def Mz(q:Y3)(c:Int):Bool:=decide (q.mea=c) || q.trms.any fun x=>decide (x=c)
theorem Rc(q:Y3)(c:Int):A3 Tryz.prog 176 [Eu q,.i c] (.b (Mz q c)):=by
 have h1:=KT q.trms c
 unfold Mz
 generalize (q.trms.any fun x=>decide (x=c))=u at *
 refine B5 Tryz.func176 15 fun nL E h0=>?_
 clear nL
 repeat'((first|refine A0 h1 ?_ |refine S2 ?_|(refine T6 ?_ ?_<;>intro h<;>try exact V1 h)|intro el nJ nK|intro el nJ|exact T4|refine T5 ?_ ?_|intro ex)<;>try conv=>whnf)
 all_goals first
  |(exfalso;omega)
  |exact A1 rfl (congrArg AV.b (by simp[*]))
  |exact A1 rfl (congrArg AV.b (by rw[decide_eq_true (by omega)];rfl))
  |exact A1 rfl (congrArg AV.b (by rw[decide_eq_false (by omega)];rfl))
def W9(l ps:List Pk):List Pk:=ps.foldl (fun tV p=>u7 tV p.col p.lev) l
theorem JC{l ps:List Pk}{k:Nat}{p:Pk}(h:ps[k]?=some p):W9 l (ps.take (k+1))=u7 (W9 l (ps.take k)) p.col p.lev:=by
 unfold W9
 rw[F1 h,List.foldl_append]
 rfl
theorem Fa{col lev:Int}:∀(l:List Pk) (dn:Bool) (out:List Pk),(O5 col lev l dn out).length≤out.length+l.length+(if dn=true then 0 else 1)
 |[],dn,out=>by
  unfold O5
  split
  ·omega
  ·simp
 |x::r,dn,out=>by
  unfold O5
  split
  ·rename_i h
   have:=Fa (col:=col) (lev:=lev) r true (out++[⟨col,lev⟩]++[x])
   rw[if_pos rfl]at this
   rw[if_neg (by rw[h.2];decide)]
   simp only[List.length_append,List.length_cons,List.length_nil]at this ⊢
   omega
  ·split
   ·have:=Fa (col:=col) (lev:=lev) r true (out++[⟨x.col,max x.lev lev⟩])
    rw[if_pos rfl]at this
    simp only[List.length_append,List.length_cons,List.length_nil]at this ⊢
    omega
   ·have:=Fa (col:=col) (lev:=lev) r dn (out++[x])
    simp only[List.length_append,List.length_cons,List.length_nil]at this ⊢
    omega
theorem PA(l:List Pk)(col lev:Int):(u7 l col lev).length≤l.length+1:=by
 have:=Fa (col:=col) (lev:=lev) l (decide (lev≤0)) []
 unfold u7
 rw[List.length_nil]at this
 split at this<;>omega
theorem EM(l ps:List Pk):∀k:Nat,k≤ps.length→(W9 l (ps.take k)).length≤l.length+k
 |0,_=>by simp[W9]
 |k+1,h=>by
  obtain⟨p,hp⟩:∃p,ps[k]?=some p:=⟨_,List.getElem?_eq_getElem (by omega)⟩
  rw[JC hp]
  have h1:=PA (W9 l (ps.take k)) p.col p.lev
  have h2:=EM l ps k (by omega)
  omega
def Bs(s:A4)(q:Y3)(l:List Pk):Nat→List Pk
 |0=>l
 |k+1=>if Mz q ((k:Int)+1)=true then u7 (Bs s q l k) ((k:Int)+1) (H7 s ((k:Int)+1) (B4 s ((k:Int)+1)))else Bs s q l k
theorem QA(s:A4)(q:Y3)(l:List Pk):∀k,(Bs s q l k).length≤l.length+k
 |0=>by simp[Bs]
 |k+1=>by
  have:=QA s q l k
  unfold Bs
  split
  ·have h1:=PA (Bs s q l k) ((k:Int)+1) (H7 s ((k:Int)+1) (B4 s ((k:Int)+1)))
   omega
  ·omega
def N9(s:A4)(q:Y3):List Pk:=q.dims.map fun d=>⟨d.col,H7 s d.col d.lev⟩
def fW(s:A4)(q:Y3):List Pk:=if q.kind=3 then I3 s q.evt else []
def lh(s:A4)(q:Y3):List Pk:=W9 (W9 (I3 s q.flt) (fW s q)) (N9 s q)
def PB(s:A4)(q:Y3):List Pk:=if L7 s q=0 then Bs s q (lh s q) (s.cols.length-1)else []
theorem fX{s:A4}{q:Y3}(h:L7 s q=0):C3 s=0∧q.dims.length≤3:=by
 unfold L7 at h
 by_cases hr:C3 s=0
 ·refine⟨hr,?_⟩
  rw[if_neg (fun hh=>hh hr)]at h
  split at h
  ·cases h
  split at h
  ·cases h
  split at h
  ·contradiction
  split at h
  ·unfold KP at h
   split at h
   ·contradiction
   ·rename_i h2
    have h2:=Decidable.of_not_not h2
    unfold Q4 at h2
    split at h2
    ·cases h2
    ·omega
  split at h
  ·unfold KQ at h
   split at h
   ·cases h
   split at h
   ·contradiction
   split at h
   ·cases h
   ·omega
  ·unfold Mo at h
   split at h
   ·cases h
   split at h
   ·cases h
   split at h
   ·contradiction
   split at h
   ·cases h
   ·omega
 ·rw[if_pos hr]at h
  exact absurd h hr
def Zb(s:A4)(q:Y3)(picks:List Pk):Bool:=decide (L7 s q=0) && (decide (I7 s picks=0) && X8 picks (PB s q))
def Eb(s:A4)(d:Dm)(picks:List Pk):Int:=if ¬GH s d=0 then GH s d else if ¬I7 s picks=0 then I7 s picks else if (d.qs.all fun q=>Zb s q picks)=true then 0 else 23
theorem li{s:A4}{d:Dm}(h:GH s d=0):d.qs.length≤8:=by
 unfold GH at h
 split at h
 ·contradiction
 split at h
 ·cases h
 split at h
 ·contradiction
 split at h
 ·cases h
 split at h
 ·cases h
 ·omega
theorem WN(s:A4)(hd:E4 s)(q:Y3):A3 Tryz.prog 126 [sA s,Eu q] (.sl 2 ((PB s q).map A8)):=by
 have h1:=EZ s q
 have h2:=EX s q.flt
 have h3:=EX s q.evt
 have rB:=fun c l=>HM s c l hd
 have sn:=fun c=>N0 s c
 have ni:=hd.lens
 unfold PB
 by_cases hq:L7 s q=0
 ·rw[if_pos hq]
  rw[hq]at h1
  obtain⟨hr,qC⟩:=fX hq
  have zM:(N9 s q).length=q.dims.length:=by unfold N9;rw[List.length_map]
  have hDg:∀(k:Nat) d,q.dims[k]?=some d→(N9 s q)[k]?=some ⟨d.col,H7 s d.col d.lev⟩:=fun k d h=>by unfold N9;rw[List.getElem?_map,h];rfl
  have hFl:=CY s q.flt
  have hEl:=CY s q.evt
  unfold lh
  by_cases hk:q.kind=3
  ·have pm:fW s q=I3 s q.evt:=if_pos hk
   rw[pm]
   generalize I3 s q.flt=F at *
   generalize I3 s q.evt=R at *
   have hMl:=EM F R R.length (Nat.le_refl _)
   rw[List.take_length]at hMl
   refine B5 Tryz.func126 92 fun nL E h0=>?_
   clear nL
   repeat'((first|refine A0 h1 ?_|refine A0 h2 ?_|refine A0 h3 ?_ |refine S2 ?_|(refine T6 ?_ ?_<;>intro h<;>try exact V1 h)|intro el nJ nK|intro el nJ|exact T4|refine T5 ?_ ?_|intro ex)<;>try conv=>whnf)
   all_goals first
    |(exfalso;omega)
    |skip
   refine B0 (ι:=Nat) (fun k=>⟨[(2,.ref 0 0),(3,.ref 1 0),(5,.sl 2 ((W9 F (R.take k)).map A8)),(6,.sl 2 (R.map A8)),(7,.i k)],2,[(0,some (.box (sL s))),(1,some (.box (HI q)))]⟩) (fun k=>k≤R.length) (fun k=>R.length-k) 0 (Nat.zero_le _)
    (A6 h0) (fun k nX=>?_)
   by_cases nN:k<R.length
   ·obtain⟨p,hp⟩:∃p,R[k]?=some p:=⟨_,List.getElem?_eq_getElem nN⟩
    have hp2:R[((k:Nat):Int).toNat]?=some p:=hp
    have oq:=JC (l:=F) hp
    have sC:=EM F R k (by omega)
    have rQ:=Ar (W9 F (R.take k)) p.col p.lev (by omega)
    rw[←oq]at rQ
    clear oq
    repeat'((first|(refine A2 (x:=p) hp2 (by omega) ?_)|refine A0 rQ ?_|(refine A9 ?_ ?_;kernel_rfl) |refine S2 ?_|(refine T6 ?_ ?_<;>intro h<;>try exact V1 h)|intro el nJ nK|intro el nJ|exact T4|refine T5 ?_ ?_|intro ex)<;>try conv=>whnf)
    all_goals first
     |(exfalso;omega)
     |exact⟨k+1,by omega,by omega,A6 h0⟩
   have yL:k=R.length:=by omega
   rw[yL,List.take_length]
   clear nX nN yL k
   generalize W9 F R=M at *
   repeat'((first|refine S2 ?_|(refine T6 ?_ ?_<;>intro h<;>try exact V1 h)|intro el nJ nK|intro el nJ|exact T4|refine T5 ?_ ?_|intro ex)<;>try conv=>whnf)
   all_goals first
    |(exfalso;omega)
    |skip
   refine B0 (ι:=Nat) (fun k=>⟨[(2,.ref 0 0),(3,.ref 1 0),(5,.sl 2 ((W9 M ((N9 s q).take k)).map A8)),(8,.i k)],2,[(0,some (.box (sL s))),(1,some (.box (HI q)))]⟩) (fun k=>k≤q.dims.length) (fun k=>q.dims.length-k) 0 (Nat.zero_le _)
    (A6 h0) (fun k hk=>?_)
   by_cases nN:k<q.dims.length
   ·obtain⟨d,qm⟩:∃d,q.dims[k]?=some d:=⟨_,List.getElem?_eq_getElem nN⟩
    have wG:q.dims[((k:Nat):Int).toNat]?=some d:=qm
    have oq:=JC (l:=M) (hDg k d qm)
    have sC:=EM M (N9 s q) k (by omega)
    have oW:=rB d.col d.lev
    have rQ:=Ar (W9 M ((N9 s q).take k)) d.col (H7 s d.col d.lev) (by omega)
    rw[show u7 (W9 M ((N9 s q).take k)) d.col (H7 s d.col d.lev)=_ from oq.symm]at rQ
    clear oq
    generalize H7 s d.col d.lev=lv at *
    repeat'((first|(refine A2 (x:=d) wG (by omega) ?_)|refine A0 oW ?_|refine A0 rQ ?_|(refine A9 ?_ ?_;kernel_rfl) |refine S2 ?_|(refine T6 ?_ ?_<;>intro h<;>try exact V1 h)|intro el nJ nK|intro el nJ|exact T4|refine T5 ?_ ?_|intro ex)<;>try conv=>whnf)
    all_goals first
     |(exfalso;omega)
     |exact⟨k+1,by omega,by omega,A6 h0⟩
   have pB:k=(N9 s q).length:=by omega
   rw[pB,List.take_length]
   have hN:=EM M (N9 s q) (N9 s q).length (Nat.le_refl _)
   rw[List.take_length]at hN
   repeat'((first|refine S2 ?_|(refine T6 ?_ ?_<;>intro h<;>try exact V1 h)|intro el nJ nK|intro el nJ|exact T4|refine T5 ?_ ?_|intro ex)<;>try conv=>whnf)
   all_goals first
    |(exfalso;omega)
    |skip
   refine B0 (ι:=Nat) (fun k=>⟨[(2,.ref 0 0),(3,.ref 1 0),(5,.sl 2 ((Bs s q (W9 M (N9 s q)) k).map A8)),(9,.i ((k:Int)+1))],2,[(0,some (.box (sL s))),(1,some (.box (HI q)))]⟩) (fun k=>k≤s.cols.length-1) (fun k=>s.cols.length-1-k) 0 (Nat.zero_le _)
    (A6 h0) (fun k hk=>?_)
   have yC:=QA s q (W9 M (N9 s q)) k
   have wy:Bs s q (W9 M (N9 s q)) (k+1)=if Mz q ((k:Int)+1)=true then u7 (Bs s q (W9 M (N9 s q)) k) ((k:Int)+1) (H7 s ((k:Int)+1) (B4 s ((k:Int)+1)))else Bs s q (W9 M (N9 s q)) k:=rfl
   have ng:=sn ((k:Int)+1)
   have oW:=rB ((k:Int)+1) (B4 s ((k:Int)+1))
   have rQ:=Ar (Bs s q (W9 M (N9 s q)) k) ((k:Int)+1) (H7 s ((k:Int)+1) (B4 s ((k:Int)+1))) (by omega)
   have hu:=Rc q ((k:Int)+1)
   have oz:k=s.cols.length-1→Bs s q (W9 M (N9 s q)) (s.cols.length-1)=Bs s q (W9 M (N9 s q)) k:=fun h=>by rw[h]
   generalize H7 s ((k:Int)+1) (B4 s ((k:Int)+1))=lv at *
   generalize B4 s ((k:Int)+1)=fs at *
   generalize Bs s q (W9 M (N9 s q)) k=U at *
   generalize Mz q ((k:Int)+1)=ub at *
   repeat'((first|refine A0 hu ?_|refine A0 ng ?_|refine A0 oW ?_|refine A0 rQ ?_|(refine A9 ?_ ?_;kernel_rfl) |refine S2 ?_|(refine T6 ?_ ?_<;>intro h<;>try exact V1 h)|intro el nJ nK|intro el nJ|exact T4|refine T5 ?_ ?_|intro ex)<;>try conv=>whnf)
   all_goals first
    |(exfalso;omega)
    |(rw[oz (by omega)];exact A1 rfl rfl)
    |(refine⟨k+1,by omega,by omega,?_⟩;rw[wy,if_pos (by assumption)];exact A7 h0 rfl ⟨rfl,rfl,rfl,congrArg (fun z:Int=>some (AV.i z)) (by omega),trivial⟩ ⟨rfl,rfl,trivial⟩ rfl rfl rfl)
    |(refine⟨k+1,by omega,by omega,?_⟩;rw[wy,if_neg (by simp[*])];exact A7 h0 rfl ⟨rfl,rfl,rfl,congrArg (fun z:Int=>some (AV.i z)) (by omega),trivial⟩ ⟨rfl,rfl,trivial⟩ rfl rfl rfl)
  ·have pm:fW s q=[]:=if_neg hk
   rw[pm,show W9 (I3 s q.flt) []=I3 s q.flt from rfl]
   generalize I3 s q.flt=M at *
   refine B5 Tryz.func126 92 fun nL E h0=>?_
   clear nL
   repeat'((first|refine A0 h1 ?_|refine A0 h2 ?_|refine A0 h3 ?_ |refine S2 ?_|(refine T6 ?_ ?_<;>intro h<;>try exact V1 h)|intro el nJ nK|intro el nJ|exact T4|refine T5 ?_ ?_|intro ex)<;>try conv=>whnf)
   all_goals first
    |(exfalso;omega)
    |skip
   refine B0 (ι:=Nat) (fun k=>⟨[(2,.ref 0 0),(3,.ref 1 0),(5,.sl 2 ((W9 M ((N9 s q).take k)).map A8)),(8,.i k)],2,[(0,some (.box (sL s))),(1,some (.box (HI q)))]⟩) (fun k=>k≤q.dims.length) (fun k=>q.dims.length-k) 0 (Nat.zero_le _)
    (A6 h0) (fun k hk=>?_)
   by_cases nN:k<q.dims.length
   ·obtain⟨d,qm⟩:∃d,q.dims[k]?=some d:=⟨_,List.getElem?_eq_getElem nN⟩
    have wG:q.dims[((k:Nat):Int).toNat]?=some d:=qm
    have oq:=JC (l:=M) (hDg k d qm)
    have sC:=EM M (N9 s q) k (by omega)
    have oW:=rB d.col d.lev
    have rQ:=Ar (W9 M ((N9 s q).take k)) d.col (H7 s d.col d.lev) (by omega)
    rw[show u7 (W9 M ((N9 s q).take k)) d.col (H7 s d.col d.lev)=_ from oq.symm]at rQ
    clear oq
    generalize H7 s d.col d.lev=lv at *
    repeat'((first|(refine A2 (x:=d) wG (by omega) ?_)|refine A0 oW ?_|refine A0 rQ ?_|(refine A9 ?_ ?_;kernel_rfl) |refine S2 ?_|(refine T6 ?_ ?_<;>intro h<;>try exact V1 h)|intro el nJ nK|intro el nJ|exact T4|refine T5 ?_ ?_|intro ex)<;>try conv=>whnf)
    all_goals first
     |(exfalso;omega)
     |exact⟨k+1,by omega,by omega,A6 h0⟩
   have pB:k=(N9 s q).length:=by omega
   rw[pB,List.take_length]
   have hN:=EM M (N9 s q) (N9 s q).length (Nat.le_refl _)
   rw[List.take_length]at hN
   repeat'((first|refine S2 ?_|(refine T6 ?_ ?_<;>intro h<;>try exact V1 h)|intro el nJ nK|intro el nJ|exact T4|refine T5 ?_ ?_|intro ex)<;>try conv=>whnf)
   all_goals first
    |(exfalso;omega)
    |skip
   refine B0 (ι:=Nat) (fun k=>⟨[(2,.ref 0 0),(3,.ref 1 0),(5,.sl 2 ((Bs s q (W9 M (N9 s q)) k).map A8)),(9,.i ((k:Int)+1))],2,[(0,some (.box (sL s))),(1,some (.box (HI q)))]⟩) (fun k=>k≤s.cols.length-1) (fun k=>s.cols.length-1-k) 0 (Nat.zero_le _)
    (A6 h0) (fun k hk=>?_)
   have yC:=QA s q (W9 M (N9 s q)) k
   have wy:Bs s q (W9 M (N9 s q)) (k+1)=if Mz q ((k:Int)+1)=true then u7 (Bs s q (W9 M (N9 s q)) k) ((k:Int)+1) (H7 s ((k:Int)+1) (B4 s ((k:Int)+1)))else Bs s q (W9 M (N9 s q)) k:=rfl
   have ng:=sn ((k:Int)+1)
   have oW:=rB ((k:Int)+1) (B4 s ((k:Int)+1))
   have rQ:=Ar (Bs s q (W9 M (N9 s q)) k) ((k:Int)+1) (H7 s ((k:Int)+1) (B4 s ((k:Int)+1))) (by omega)
   have hu:=Rc q ((k:Int)+1)
   have oz:k=s.cols.length-1→Bs s q (W9 M (N9 s q)) (s.cols.length-1)=Bs s q (W9 M (N9 s q)) k:=fun h=>by rw[h]
   generalize H7 s ((k:Int)+1) (B4 s ((k:Int)+1))=lv at *
   generalize B4 s ((k:Int)+1)=fs at *
   generalize Bs s q (W9 M (N9 s q)) k=U at *
   generalize Mz q ((k:Int)+1)=ub at *
   repeat'((first|refine A0 hu ?_|refine A0 ng ?_|refine A0 oW ?_|refine A0 rQ ?_|(refine A9 ?_ ?_;kernel_rfl) |refine S2 ?_|(refine T6 ?_ ?_<;>intro h<;>try exact V1 h)|intro el nJ nK|intro el nJ|exact T4|refine T5 ?_ ?_|intro ex)<;>try conv=>whnf)
   all_goals first
    |(exfalso;omega)
    |(rw[oz (by omega)];exact A1 rfl rfl)
    |(refine⟨k+1,by omega,by omega,?_⟩;rw[wy,if_pos (by assumption)];exact A7 h0 rfl ⟨rfl,rfl,rfl,congrArg (fun z:Int=>some (AV.i z)) (by omega),trivial⟩ ⟨rfl,rfl,trivial⟩ rfl rfl rfl)
    |(refine⟨k+1,by omega,by omega,?_⟩;rw[wy,if_neg (by simp[*])];exact A7 h0 rfl ⟨rfl,rfl,rfl,congrArg (fun z:Int=>some (AV.i z)) (by omega),trivial⟩ ⟨rfl,rfl,trivial⟩ rfl rfl rfl)
 ·rw[if_neg hq]
  generalize L7 s q=e at *
  refine B5 Tryz.func126 92 fun nL E h0=>?_
  clear nL
  repeat'((first|refine A0 h1 ?_ |refine S2 ?_|(refine T6 ?_ ?_<;>intro h<;>try exact V1 h)|intro el nJ nK|intro el nJ|exact T4|refine T5 ?_ ?_|intro ex)<;>try conv=>whnf)
  all_goals first
   |(exfalso;omega)
   |exact p8 (sz:=2) rfl rfl
theorem Zc(s:A4)(hd:E4 s)(q:Y3)(picks:List Pk):A3 Tryz.prog 145 [sA s,Eu q,.sl 2 (picks.map A8)] (.b (Zb s q picks)):=by
 have h1:=EZ s q
 have h2:=EW s picks
 have h3:=WN s hd q
 have h4:=AW (PB s q) picks
 unfold Zb
 generalize L7 s q=e1 at *
 generalize I7 s picks=e2 at *
 generalize PB s q=N at *
 generalize X8 picks N=b at *
 refine B5 Tryz.func145 24 fun nL E h0=>?_
 clear nL
 repeat'((first|refine A0 h1 ?_|refine A0 h2 ?_|refine A0 h3 ?_|refine A0 h4 ?_ |refine S2 ?_|(refine T6 ?_ ?_<;>intro h<;>try exact V1 h)|intro el nJ nK|intro el nJ|exact T4|refine T5 ?_ ?_|intro ex)<;>try conv=>whnf)
 all_goals first
  |(exfalso;omega)
  |exact A1 rfl (congrArg AV.b (by rw[decide_eq_true (by omega),decide_eq_true (by omega)];rfl))
  |exact A1 rfl (congrArg AV.b (by rw[decide_eq_false (by omega)];rfl))
  |exact A1 rfl (congrArg AV.b (by rw[decide_eq_true (by omega),decide_eq_false (by omega)];rfl))
theorem WO(s:A4)(hd:E4 s)(d:Dm)(picks:List Pk):A3 Tryz.prog 93 [sA s,KO d,.sl 2 (picks.map A8)] (.i (Eb s d picks)):=by
 have h1:=Ke s d
 have h2:=EW s picks
 have h3:=fun q=>Zc s hd q picks
 unfold Eb
 have ru:GH s d=0→d.qs.length≤8:=li
 generalize GH s d=e1 at *
 generalize I7 s picks=e2 at *
 generalize Zb s=SF at *
 refine B5 Tryz.func93 38 fun nL E h0=>?_
 clear nL
 repeat'((first|refine A0 h1 ?_|refine A0 h2 ?_ |refine S2 ?_|(refine T6 ?_ ?_<;>intro h<;>try exact V1 h)|intro el nJ nK|intro el nJ|exact T4|refine T5 ?_ ?_|intro ex)<;>try conv=>whnf)
 all_goals first
  |(exfalso;omega)
  |exact A1 rfl (congrArg AV.i (by rw[if_pos (by omega)]))
  |exact A1 rfl (congrArg AV.i (by rw[if_neg (by omega),if_pos (by omega)]))
  |skip
 have ru:=ru (by omega)
 rw[if_neg (by omega),if_neg (by omega)]
 refine B0 (ι:=Nat) (fun k=>⟨[(2,.sl 2 (picks.map A8)),(3,.ref 0 0),(4,.ref 1 0),(9,.i k)],2,[(0,some (.box (sL s))),(1,some (.box (Mn d)))]⟩) (fun k=>k≤d.qs.length∧(d.qs.take k).all (fun q=>SF q picks)=true) (fun k=>d.qs.length-k) 0 ⟨Nat.zero_le _,rfl⟩
  (A6 h0) (fun k hI=>?_)
 obtain⟨hk,hI⟩:=hI
 by_cases nN:k<d.qs.length
 ·obtain⟨q,hq⟩:∃q,d.qs[k]?=some q:=⟨_,List.getElem?_eq_getElem nN⟩
  have oy:d.qs[((k:Nat):Int).toNat]?=some q:=hq
  have h3:=h3 q
  have nf:SF q picks=false→d.qs.all (fun q=>SF q picks)=false:=fun h=>Ml (p:=fun q=>SF q picks) hq h
  have pu:SF q picks=true→(d.qs.take (k+1)).all (fun q=>SF q picks)=true:=fun h=>KL (p:=fun q=>SF q picks) hq hI h
  generalize SF q picks=b at *
  repeat'((first|(refine A2 (x:=q) oy (by omega) ?_)|refine A0 h3 ?_|(refine A9 ?_ ?_;kernel_rfl) |refine S2 ?_|(refine T6 ?_ ?_<;>intro h<;>try exact V1 h)|intro el nJ nK|intro el nJ|exact T4|refine T5 ?_ ?_|intro ex)<;>try conv=>whnf)
  all_goals first
   |(exfalso;omega)
   |exact⟨k+1,⟨by omega,pu (by simp_all)⟩,by omega,A7 h0 rfl ⟨rfl,rfl,rfl,rfl,trivial⟩ ⟨rfl,rfl,trivial⟩ rfl rfl rfl⟩
   |exact A1 rfl (congrArg AV.i (by rw[nf (by simp_all),if_neg (by decide)]))
 ·rw[List.take_of_length_le (by omega)]at hI
  rw[if_pos hI]
  repeat'((first|refine S2 ?_|(refine T6 ?_ ?_<;>intro h<;>try exact V1 h)|intro el nJ nK|intro el nJ|exact T4|refine T5 ?_ ?_|intro ex)<;>try conv=>whnf)
  all_goals first
   |(exfalso;omega)
   |exact A1 rfl rfl
abbrev uW(z:Int):Int:=IntKind.u64.wrap z
abbrev VJ(g:Int)(k:Int):Int:=g.fdiv (2 ^ min k.toNat IntKind.u64.bits)
abbrev lj(a b:Int):Int:=IntKind.u64.wrap ((BitVec.ofInt IntKind.u64.bits a ^^^ BitVec.ofInt IntKind.u64.bits b).toNat:Int)
def Zd(g:Int):Int:=lj (uW (uW (g*6364136223846793005)+1442695040888963407)) (VJ (uW (uW (g*6364136223846793005)+1442695040888963407)) 29)
def Gn(f:Int→Int):Nat→Int→Int
 |0,g=>g
 |k+1,g=>Gn f k (f g)
def SM(seed id:Int):Int:=IntKind.i64.wrap (VJ (Gn Zd 3 (uW (uW (uW (uW seed*2654435761)+uW (uW id*40503))+97))) 32)
theorem Ze(seed id:Int):A3 Tryz.prog 192 [.i seed,.i id] (.i (SM seed id)):=by
 unfold SM
 generalize hG:Gn Zd 3 (uW (uW (uW (uW seed*2654435761)+uW (uW id*40503))+97))=G
 refine B5 Tryz.func192 29 fun nL E h0=>?_
 clear nL
 repeat'((first|refine S2 ?_|(refine T6 ?_ ?_<;>intro h<;>try exact V1 h)|intro el nJ nK|intro el nJ|exact T4|refine T5 ?_ ?_|intro ex)<;>try conv=>whnf)
 refine B0 (ι:=Nat×Int) (fun x=>⟨[(5,.v (.int .u64 x.2)),(6,.i x.1)],0,[]⟩)
  (fun x=>x.1≤3∧Gn Zd (3-x.1) x.2=G) (fun x=>3-x.1) (0,uW (uW (uW (uW seed*2654435761)+uW (uW id*40503))+97)) ⟨Nat.zero_le _,hG⟩ (A6 h0) (fun x hI=>?_)
 obtain⟨k,g⟩:=x
 obtain⟨i1,i2⟩:=hI
 dsimp only at i1 i2 ⊢
 by_cases hk:k<3
 ·rw[show 3-k=(3-(k+1))+1 by omega,Gn]at i2
  repeat'((first|refine S2 ?_|(refine T6 ?_ ?_<;>intro h<;>try exact V1 h)|intro el nJ nK|intro el nJ|exact T4|refine T5 ?_ ?_|intro ex)<;>try conv=>whnf)
  all_goals first
   |(exfalso;omega)
   |exact⟨(k+1,Zd g),⟨by dsimp only;omega,i2⟩,by dsimp only;omega,A6 h0⟩
 ·rw[show 3-k=0 by omega,Gn]at i2
  subst i2
  repeat'((first|refine S2 ?_|(refine T6 ?_ ?_<;>intro h<;>try exact V1 h)|intro el nJ nK|intro el nJ|exact T4|refine T5 ?_ ?_|intro ex)<;>try conv=>whnf)
  all_goals first
   |(exfalso;omega)
   |exact A1 rfl rfl
def QB(part of seed:Int):Int:=if of<1∨1000<of∨part<1∨of<part∨seed<0∨1099511627776<seed then 2 else 0
theorem VK(part of seed:Int):A3 Tryz.prog 191 [.agg [.i part,.i of,.i seed]] (.i (QB part of seed)):=by
 unfold QB
 refine B5 Tryz.func191 33 fun nL E h0=>?_
 clear nL
 repeat'((first|refine S2 ?_|(refine T6 ?_ ?_<;>intro h<;>try exact V1 h)|intro el nJ nK|intro el nJ|exact T4|refine T5 ?_ ?_|intro ex)<;>try conv=>whnf)
 all_goals first
  |(rw[if_pos (by omega)];exact A1 rfl rfl)
  |(rw[if_neg (by omega)];exact A1 rfl rfl)
def VL(part of seed id:Int):Bool:=if QB part of seed=0∧1≤id∧id≤1048575 then decide ((SM seed id).tmod of<part)else false
theorem fY(part of seed id:Int):A3 Tryz.prog 147 [.agg [.i part,.i of,.i seed],.i id] (.b (VL part of seed id)):=by
 have h1:=VK part of seed
 have h2:=Ze seed id
 unfold VL
 have uT:QB part of seed=0→1≤of:=fun h=>by
  unfold QB at h
  split at h
  ·cases h
  ·omega
 generalize QB part of seed=e at *
 generalize SM seed id=g at *
 by_cases hc:e=0∧1≤id∧id≤1048575
 ·rw[if_pos hc]
  obtain⟨rfl,pn,ow⟩:=hc
  have:=uT rfl
  refine B5 Tryz.func147 28 fun nL E h0=>?_
  clear nL
  repeat'((first|refine A0 h1 ?_|refine A0 h2 ?_|(refine A9 ?_ ?_;kernel_rfl) |refine S2 ?_|(refine T6 ?_ ?_<;>intro h<;>try exact V1 h)|intro el nJ nK|intro el nJ|exact T4|refine T5 ?_ ?_|intro ex)<;>try conv=>whnf)
  all_goals first
   |(exfalso;omega)
   |exact A1 rfl rfl
 ·rw[if_neg hc]
  refine B5 Tryz.func147 28 fun nL E h0=>?_
  clear nL
  repeat'((first|refine A0 h1 ?_|(refine A9 ?_ ?_;kernel_rfl) |refine S2 ?_|(refine T6 ?_ ?_<;>intro h<;>try exact V1 h)|intro el nJ nK|intro el nJ|exact T4|refine T5 ?_ ?_|intro ex)<;>try conv=>whnf)
  all_goals first
   |(exfalso;omega)
   |exact A1 rfl rfl
end Go.Proofs.YtiphlhoclaogjaaGreatDoor
