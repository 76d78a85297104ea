/- Chapter 18: both tables are the same. -/
import Derived.Test.YtiphlhoclaogjaaGreatDoorRTc8
set_option linter.unusedVariables false
set_option linter.unnecessarySimpa false
set_option linter.unusedSimpArgs false
set_option maxHeartbeats 64000000
namespace Go.Proofs.YtiphlhoclaogjaaGreatDoor
open Go Go.Av
attribute [local irreducible] C9 B3 C7 D1 DQ D0 C6 St.le A3 B7
set_option maxRecDepth 100000
theorem UP(s:A4)(oN:D9 s)(x:J7)(dims:List Pk)(mea:Int)(cnd:B6):A3 Tryz.prog 17 [sA s,T8 x,.sl 2 (dims.map A8),.i mea,D5 cnd] (.tup [X8 (EF s x dims mea cnd),.i (b7 s x dims mea cnd)]):=by
 by_cases e1:¬K9 s x=0
 ·have hE:b7 s x dims mea cnd=K9 s x:=if_pos e1
  rw[Ax (by rw[hE];exact e1),hE]
  exact eJ s oN x dims mea cnd e1
 have e1:=Decidable.of_not_not e1
 by_cases e2:¬L6 s (R5 dims mea cnd)=0
 ·have hE:b7 s x dims mea cnd=L6 s (R5 dims mea cnd):=by unfold b7;rw[if_neg (fun h=>h e1),if_pos e2]
  rw[Ax (by rw[hE];exact e2),hE]
  exact eK s oN x dims mea cnd e1 e2
 have e2:=Decidable.of_not_not e2
 cases e3:X5 x.picks (W4 s (e9 dims mea cnd))with
 |false =>
  have hE:b7 s x dims mea cnd=23:=by unfold b7;rw[if_neg (fun h=>h e1),if_neg (fun h=>h e2),if_pos e3]
  rw[Ax (by rw[hE];decide),hE]
  exact eL s oN x dims mea cnd e1 e2 e3
 |true =>
  have hE:b7 s x dims mea cnd=if (Y0 s dims [[]]).isSome=false then 1 else 0:=by unfold b7;rw[if_neg (fun h=>h e1),if_neg (fun h=>h e2),if_neg (by rw[e3];decide)]
  rw[Wc]at hE
  by_cases hb:2000<(G3 s dims).length
  ·rw[if_pos hb]at hE
   have hE:b7 s x dims mea cnd=1:=hE
   rw[Ax (by rw[hE];decide),hE]
   exact eM s oN x dims mea cnd e1 e2 e3 hb
  ·rw[if_neg hb]at hE
   have hE:b7 s x dims mea cnd=0:=hE
   have hT:EF s x dims mea cnd=⟨dims,mea,(G3 s dims).map fun l=>P5 l ((e8 s x cnd (W5 mea)).map (Ay s x dims mea))⟩:=by
    unfold EF
    rw[if_pos hE,Wc,if_neg hb,eI]
    rfl
   rw[hT,hE]
   by_cases hm:0≤mea
   ·exact ib s oN x dims mea cnd e1 e2 e3 hb hm
   ·exact ia s oN x dims mea cnd e1 e2 e3 hb hm
def ME(q:X7)(c:Int):Bool:=decide (q.mea=c) || q.trms.any fun x=>decide (x=c)
theorem Qr(q:X7)(c:Int):A3 Tryz.prog 176 [ED q,.i c] (.b (ME q c)):=by
 have h1:=JZ q.trms c
 unfold ME
 generalize (q.trms.any fun x=>decide (x=c))=u at *
 refine B5 Tryz.func176 15 fun mK E h0=>?_
 clear mK
 repeat'((first|refine A0 h1 ?_ |refine S2 ?_|(refine T6 ?_ ?_<;>intro h<;>try exact V1 h)|intro el mI mJ|intro el mI|exact T4|refine T5 ?_ ?_|intro ex)<;>try conv=>whnf)
 all_goals first
  |(exfalso;omega)
  |exact A1 rfl (congrArg AV.b (by simp[*]))
  |exact A1 rfl (congrArg AV.b (by rw[decide_eq_true (by omega)];rfl))
  |exact A1 rfl (congrArg AV.b (by rw[decide_eq_false (by omega)];rfl))
def W6(l ps:List Pk):List Pk:=ps.foldl (fun sH p=>o3 sH p.col p.lev) l
theorem IA{l ps:List Pk}{k:Nat}{p:Pk}(h:ps[k]?=some p):W6 l (ps.take (k+1))=o3 (W6 l (ps.take k)) p.col p.lev:=by
 unfold W6
 rw[E7 h,List.foldl_append]
 rfl
theorem FT{col lev:Int}:∀(l:List Pk) (dn:Bool) (out:List Pk),(O4 col lev l dn out).length≤out.length+l.length+(if dn=true then 0 else 1)
 |[],dn,out=>by
  unfold O4
  split
  ·omega
  ·simp
 |x::r,dn,out=>by
  unfold O4
  split
  ·rename_i h
   have:=FT (col:=col) (lev:=lev) r true (out++[⟨col,lev⟩]++[x])
   rw[if_pos rfl]at this
   rw[if_neg (by rw[h.2];decide)]
   simp only[List.length_append,List.length_cons,List.length_nil]at this ⊢
   omega
  ·split
   ·have:=FT (col:=col) (lev:=lev) r true (out++[⟨x.col,max x.lev lev⟩])
    rw[if_pos rfl]at this
    simp only[List.length_append,List.length_cons,List.length_nil]at this ⊢
    omega
   ·have:=FT (col:=col) (lev:=lev) r dn (out++[x])
    simp only[List.length_append,List.length_cons,List.length_nil]at this ⊢
    omega
theorem OC(l:List Pk)(col lev:Int):(o3 l col lev).length≤l.length+1:=by
 have:=FT (col:=col) (lev:=lev) l (decide (lev≤0)) []
 unfold o3
 rw[List.length_nil]at this
 split at this<;>omega
theorem Dh(l ps:List Pk):∀k:Nat,k≤ps.length→(W6 l (ps.take k)).length≤l.length+k
 |0,_=>by simp[W6]
 |k+1,h=>by
  obtain⟨p,hp⟩:∃p,ps[k]?=some p:=⟨_,List.getElem?_eq_getElem (by omega)⟩
  rw[IA hp]
  have h1:=OC (W6 l (ps.take k)) p.col p.lev
  have h2:=Dh l ps k (by omega)
  omega
def Az(s:A4)(q:X7)(l:List Pk):Nat→List Pk
 |0=>l
 |k+1=>if ME q ((k:Int)+1)=true then o3 (Az s q l k) ((k:Int)+1) (H8 s ((k:Int)+1) (B4 s ((k:Int)+1)))else Az s q l k
theorem PB(s:A4)(q:X7)(l:List Pk):∀k,(Az s q l k).length≤l.length+k
 |0=>by simp[Az]
 |k+1=>by
  have:=PB s q l k
  unfold Az
  split
  ·have h1:=OC (Az s q l k) ((k:Int)+1) (H8 s ((k:Int)+1) (B4 s ((k:Int)+1)))
   omega
  ·omega
def N7(s:A4)(q:X7):List Pk:=q.dims.map fun d=>⟨d.col,H8 s d.col d.lev⟩
def eN(s:A4)(q:X7):List Pk:=if q.kind=3 then I1 s q.evt else []
def kc(s:A4)(q:X7):List Pk:=W6 (W6 (I1 s q.flt) (eN s q)) (N7 s q)
def OD(s:A4)(q:X7):List Pk:=if L6 s q=0 then Az s q (kc s q) (s.cols.length-1)else []
theorem eO{s:A4}{q:X7}(h:L6 s q=0):C3 s=0∧q.dims.length≤3:=by
 unfold L6 at h
 by_cases hr:C3 s=0
 ·refine⟨hr,?_⟩
  rw[if_neg (fun hh=>hh hr)]at h
  split at h
  ·cases h
  split at h
  ·cases h
  split at h
  ·contradiction
  split at h
  ·unfold JX at h
   split at h
   ·contradiction
   ·rename_i h2
    have h2:=Decidable.of_not_not h2
    unfold Q2 at h2
    split at h2
    ·cases h2
    ·omega
  split at h
  ·unfold JY at h
   split at h
   ·cases h
   split at h
   ·contradiction
   split at h
   ·cases h
   ·omega
  ·unfold Lp at h
   split at h
   ·cases h
   split at h
   ·cases h
   split at h
   ·contradiction
   split at h
   ·cases h
   ·omega
 ·rw[if_pos hr]at h
  exact absurd h hr
def Ym(s:A4)(q:X7)(picks:List Pk):Bool:=decide (L6 s q=0) && (decide (I7 s picks=0) && X5 picks (OD s q))
def Dw(s:A4)(d:Ct)(picks:List Pk):Int:=if ¬FO s d=0 then FO s d else if ¬I7 s picks=0 then I7 s picks else if (d.qs.all fun q=>Ym s q picks)=true then 0 else 23
theorem kd{s:A4}{d:Ct}(h:FO s d=0):d.qs.length≤8:=by
 unfold FO at h
 split at h
 ·contradiction
 split at h
 ·cases h
 split at h
 ·contradiction
 split at h
 ·cases h
 split at h
 ·cases h
 ·omega
theorem VU(s:A4)(hd:D9 s)(q:X7):A3 Tryz.prog 126 [sA s,ED q] (.sl 2 ((OD s q).map A8)):=by
 have h1:=Di s q
 have h2:=Dg s q.flt
 have h3:=Dg s q.evt
 have sU:=fun c l=>GS s c l hd
 have sa:=fun c=>L5 s c
 have mf:=hd.lens
 unfold OD
 by_cases hq:L6 s q=0
 ·rw[if_pos hq]
  rw[hq]at h1
  obtain⟨hr,pB⟩:=eO hq
  have ym:(N7 s q).length=q.dims.length:=by unfold N7;rw[List.length_map]
  have hDg:∀(k:Nat) d,q.dims[k]?=some d→(N7 s q)[k]?=some ⟨d.col,H8 s d.col d.lev⟩:=fun k d h=>by unfold N7;rw[List.getElem?_map,h];rfl
  have hFl:=Bc s q.flt
  have hEl:=Bc s q.evt
  unfold kc
  by_cases hk:q.kind=3
  ·have om:eN s q=I1 s q.evt:=if_pos hk
   rw[om]
   generalize I1 s q.flt=F at *
   generalize I1 s q.evt=R at *
   have hMl:=Dh F R R.length (Nat.le_refl _)
   rw[List.take_length]at hMl
   refine B5 Tryz.func126 92 fun mK E h0=>?_
   clear mK
   repeat'((first|refine A0 h1 ?_|refine A0 h2 ?_|refine A0 h3 ?_ |refine S2 ?_|(refine T6 ?_ ?_<;>intro h<;>try exact V1 h)|intro el mI mJ|intro el mI|exact T4|refine T5 ?_ ?_|intro ex)<;>try conv=>whnf)
   all_goals first
    |(exfalso;omega)
    |skip
   refine A9 (ι:=Nat) (fun k=>⟨[(2,.ref 0 0),(3,.ref 1 0),(5,.sl 2 ((W6 F (R.take k)).map A8)),(6,.sl 2 (R.map A8)),(7,.i k)],2,[(0,some (.box (sL s))),(1,some (.box (GO q)))]⟩) (fun k=>k≤R.length) (fun k=>R.length-k) 0 (Nat.zero_le _)
    (A6 h0) (fun k mW=>?_)
   by_cases mM:k<R.length
   ·obtain⟨p,hp⟩:∃p,R[k]?=some p:=⟨_,List.getElem?_eq_getElem mM⟩
    have hp2:R[((k:Nat):Int).toNat]?=some p:=hp
    have nk:=IA (l:=F) hp
    have ql:=Dh F R k (by omega)
    have qO:=z6 (W6 F (R.take k)) p.col p.lev (by omega)
    rw[←nk]at qO
    clear nk
    repeat'((first|(refine A2 (x:=p) hp2 (by omega) ?_)|refine A0 qO ?_|(refine B0 ?_ ?_;kernel_rfl) |refine S2 ?_|(refine T6 ?_ ?_<;>intro h<;>try exact V1 h)|intro el mI mJ|intro el mI|exact T4|refine T5 ?_ ?_|intro ex)<;>try conv=>whnf)
    all_goals first
     |(exfalso;omega)
     |exact⟨k+1,by omega,by omega,A6 h0⟩
   have xu:k=R.length:=by omega
   rw[xu,List.take_length]
   clear mW mM xu k
   generalize W6 F R=M at *
   repeat'((first|refine S2 ?_|(refine T6 ?_ ?_<;>intro h<;>try exact V1 h)|intro el mI mJ|intro el mI|exact T4|refine T5 ?_ ?_|intro ex)<;>try conv=>whnf)
   all_goals first
    |(exfalso;omega)
    |skip
   refine A9 (ι:=Nat) (fun k=>⟨[(2,.ref 0 0),(3,.ref 1 0),(5,.sl 2 ((W6 M ((N7 s q).take k)).map A8)),(8,.i k)],2,[(0,some (.box (sL s))),(1,some (.box (GO q)))]⟩) (fun k=>k≤q.dims.length) (fun k=>q.dims.length-k) 0 (Nat.zero_le _)
    (A6 h0) (fun k hk=>?_)
   by_cases mM:k<q.dims.length
   ·obtain⟨d,qR⟩:∃d,q.dims[k]?=some d:=⟨_,List.getElem?_eq_getElem mM⟩
    have vf:q.dims[((k:Nat):Int).toNat]?=some d:=qR
    have nk:=IA (l:=M) (hDg k d qR)
    have ql:=Dh M (N7 s q) k (by omega)
    have nT:=sU d.col d.lev
    have qO:=z6 (W6 M ((N7 s q).take k)) d.col (H8 s d.col d.lev) (by omega)
    rw[show o3 (W6 M ((N7 s q).take k)) d.col (H8 s d.col d.lev)=_ from nk.symm]at qO
    clear nk
    generalize H8 s d.col d.lev=lv at *
    repeat'((first|(refine A2 (x:=d) vf (by omega) ?_)|refine A0 nT ?_|refine A0 qO ?_|(refine B0 ?_ ?_;kernel_rfl) |refine S2 ?_|(refine T6 ?_ ?_<;>intro h<;>try exact V1 h)|intro el mI mJ|intro el mI|exact T4|refine T5 ?_ ?_|intro ex)<;>try conv=>whnf)
    all_goals first
     |(exfalso;omega)
     |exact⟨k+1,by omega,by omega,A6 h0⟩
   have nu:k=(N7 s q).length:=by omega
   rw[nu,List.take_length]
   have hN:=Dh M (N7 s q) (N7 s q).length (Nat.le_refl _)
   rw[List.take_length]at hN
   repeat'((first|refine S2 ?_|(refine T6 ?_ ?_<;>intro h<;>try exact V1 h)|intro el mI mJ|intro el mI|exact T4|refine T5 ?_ ?_|intro ex)<;>try conv=>whnf)
   all_goals first
    |(exfalso;omega)
    |skip
   refine A9 (ι:=Nat) (fun k=>⟨[(2,.ref 0 0),(3,.ref 1 0),(5,.sl 2 ((Az s q (W6 M (N7 s q)) k).map A8)),(9,.i ((k:Int)+1))],2,[(0,some (.box (sL s))),(1,some (.box (GO q)))]⟩) (fun k=>k≤s.cols.length-1) (fun k=>s.cols.length-1-k) 0 (Nat.zero_le _)
    (A6 h0) (fun k hk=>?_)
   have vk:=PB s q (W6 M (N7 s q)) k
   have wj:Az s q (W6 M (N7 s q)) (k+1)=if ME q ((k:Int)+1)=true then o3 (Az s q (W6 M (N7 s q)) k) ((k:Int)+1) (H8 s ((k:Int)+1) (B4 s ((k:Int)+1)))else Az s q (W6 M (N7 s q)) k:=rfl
   have md:=sa ((k:Int)+1)
   have nT:=sU ((k:Int)+1) (B4 s ((k:Int)+1))
   have qO:=z6 (Az s q (W6 M (N7 s q)) k) ((k:Int)+1) (H8 s ((k:Int)+1) (B4 s ((k:Int)+1))) (by omega)
   have hu:=Qr q ((k:Int)+1)
   have nt:k=s.cols.length-1→Az s q (W6 M (N7 s q)) (s.cols.length-1)=Az s q (W6 M (N7 s q)) k:=fun h=>by rw[h]
   generalize H8 s ((k:Int)+1) (B4 s ((k:Int)+1))=lv at *
   generalize B4 s ((k:Int)+1)=fs at *
   generalize Az s q (W6 M (N7 s q)) k=U at *
   generalize ME q ((k:Int)+1)=ub at *
   repeat'((first|refine A0 hu ?_|refine A0 md ?_|refine A0 nT ?_|refine A0 qO ?_|(refine B0 ?_ ?_;kernel_rfl) |refine S2 ?_|(refine T6 ?_ ?_<;>intro h<;>try exact V1 h)|intro el mI mJ|intro el mI|exact T4|refine T5 ?_ ?_|intro ex)<;>try conv=>whnf)
   all_goals first
    |(exfalso;omega)
    |(rw[nt (by omega)];exact A1 rfl rfl)
    |(refine⟨k+1,by omega,by omega,?_⟩;rw[wj,if_pos (by assumption)];exact A7 h0 rfl ⟨rfl,rfl,rfl,congrArg (fun z:Int=>some (AV.i z)) (by omega),trivial⟩ ⟨rfl,rfl,trivial⟩ rfl rfl rfl)
    |(refine⟨k+1,by omega,by omega,?_⟩;rw[wj,if_neg (by simp[*])];exact A7 h0 rfl ⟨rfl,rfl,rfl,congrArg (fun z:Int=>some (AV.i z)) (by omega),trivial⟩ ⟨rfl,rfl,trivial⟩ rfl rfl rfl)
  ·have om:eN s q=[]:=if_neg hk
   rw[om,show W6 (I1 s q.flt) []=I1 s q.flt from rfl]
   generalize I1 s q.flt=M at *
   refine B5 Tryz.func126 92 fun mK E h0=>?_
   clear mK
   repeat'((first|refine A0 h1 ?_|refine A0 h2 ?_|refine A0 h3 ?_ |refine S2 ?_|(refine T6 ?_ ?_<;>intro h<;>try exact V1 h)|intro el mI mJ|intro el mI|exact T4|refine T5 ?_ ?_|intro ex)<;>try conv=>whnf)
   all_goals first
    |(exfalso;omega)
    |skip
   refine A9 (ι:=Nat) (fun k=>⟨[(2,.ref 0 0),(3,.ref 1 0),(5,.sl 2 ((W6 M ((N7 s q).take k)).map A8)),(8,.i k)],2,[(0,some (.box (sL s))),(1,some (.box (GO q)))]⟩) (fun k=>k≤q.dims.length) (fun k=>q.dims.length-k) 0 (Nat.zero_le _)
    (A6 h0) (fun k hk=>?_)
   by_cases mM:k<q.dims.length
   ·obtain⟨d,qR⟩:∃d,q.dims[k]?=some d:=⟨_,List.getElem?_eq_getElem mM⟩
    have vf:q.dims[((k:Nat):Int).toNat]?=some d:=qR
    have nk:=IA (l:=M) (hDg k d qR)
    have ql:=Dh M (N7 s q) k (by omega)
    have nT:=sU d.col d.lev
    have qO:=z6 (W6 M ((N7 s q).take k)) d.col (H8 s d.col d.lev) (by omega)
    rw[show o3 (W6 M ((N7 s q).take k)) d.col (H8 s d.col d.lev)=_ from nk.symm]at qO
    clear nk
    generalize H8 s d.col d.lev=lv at *
    repeat'((first|(refine A2 (x:=d) vf (by omega) ?_)|refine A0 nT ?_|refine A0 qO ?_|(refine B0 ?_ ?_;kernel_rfl) |refine S2 ?_|(refine T6 ?_ ?_<;>intro h<;>try exact V1 h)|intro el mI mJ|intro el mI|exact T4|refine T5 ?_ ?_|intro ex)<;>try conv=>whnf)
    all_goals first
     |(exfalso;omega)
     |exact⟨k+1,by omega,by omega,A6 h0⟩
   have nu:k=(N7 s q).length:=by omega
   rw[nu,List.take_length]
   have hN:=Dh M (N7 s q) (N7 s q).length (Nat.le_refl _)
   rw[List.take_length]at hN
   repeat'((first|refine S2 ?_|(refine T6 ?_ ?_<;>intro h<;>try exact V1 h)|intro el mI mJ|intro el mI|exact T4|refine T5 ?_ ?_|intro ex)<;>try conv=>whnf)
   all_goals first
    |(exfalso;omega)
    |skip
   refine A9 (ι:=Nat) (fun k=>⟨[(2,.ref 0 0),(3,.ref 1 0),(5,.sl 2 ((Az s q (W6 M (N7 s q)) k).map A8)),(9,.i ((k:Int)+1))],2,[(0,some (.box (sL s))),(1,some (.box (GO q)))]⟩) (fun k=>k≤s.cols.length-1) (fun k=>s.cols.length-1-k) 0 (Nat.zero_le _)
    (A6 h0) (fun k hk=>?_)
   have vk:=PB s q (W6 M (N7 s q)) k
   have wj:Az s q (W6 M (N7 s q)) (k+1)=if ME q ((k:Int)+1)=true then o3 (Az s q (W6 M (N7 s q)) k) ((k:Int)+1) (H8 s ((k:Int)+1) (B4 s ((k:Int)+1)))else Az s q (W6 M (N7 s q)) k:=rfl
   have md:=sa ((k:Int)+1)
   have nT:=sU ((k:Int)+1) (B4 s ((k:Int)+1))
   have qO:=z6 (Az s q (W6 M (N7 s q)) k) ((k:Int)+1) (H8 s ((k:Int)+1) (B4 s ((k:Int)+1))) (by omega)
   have hu:=Qr q ((k:Int)+1)
   have nt:k=s.cols.length-1→Az s q (W6 M (N7 s q)) (s.cols.length-1)=Az s q (W6 M (N7 s q)) k:=fun h=>by rw[h]
   generalize H8 s ((k:Int)+1) (B4 s ((k:Int)+1))=lv at *
   generalize B4 s ((k:Int)+1)=fs at *
   generalize Az s q (W6 M (N7 s q)) k=U at *
   generalize ME q ((k:Int)+1)=ub at *
   repeat'((first|refine A0 hu ?_|refine A0 md ?_|refine A0 nT ?_|refine A0 qO ?_|(refine B0 ?_ ?_;kernel_rfl) |refine S2 ?_|(refine T6 ?_ ?_<;>intro h<;>try exact V1 h)|intro el mI mJ|intro el mI|exact T4|refine T5 ?_ ?_|intro ex)<;>try conv=>whnf)
   all_goals first
    |(exfalso;omega)
    |(rw[nt (by omega)];exact A1 rfl rfl)
    |(refine⟨k+1,by omega,by omega,?_⟩;rw[wj,if_pos (by assumption)];exact A7 h0 rfl ⟨rfl,rfl,rfl,congrArg (fun z:Int=>some (AV.i z)) (by omega),trivial⟩ ⟨rfl,rfl,trivial⟩ rfl rfl rfl)
    |(refine⟨k+1,by omega,by omega,?_⟩;rw[wj,if_neg (by simp[*])];exact A7 h0 rfl ⟨rfl,rfl,rfl,congrArg (fun z:Int=>some (AV.i z)) (by omega),trivial⟩ ⟨rfl,rfl,trivial⟩ rfl rfl rfl)
 ·rw[if_neg hq]
  generalize L6 s q=e at *
  refine B5 Tryz.func126 92 fun mK E h0=>?_
  clear mK
  repeat'((first|refine A0 h1 ?_ |refine S2 ?_|(refine T6 ?_ ?_<;>intro h<;>try exact V1 h)|intro el mI mJ|intro el mI|exact T4|refine T5 ?_ ?_|intro ex)<;>try conv=>whnf)
  all_goals first
   |(exfalso;omega)
   |exact l5 (sz:=2) rfl rfl
theorem Yn(s:A4)(hd:D9 s)(q:X7)(picks:List Pk):A3 Tryz.prog 145 [sA s,ED q,.sl 2 (picks.map A8)] (.b (Ym s q picks)):=by
 have h1:=Di s q
 have h2:=Df s picks
 have h3:=VU s hd q
 have h4:=v6 (OD s q) picks
 unfold Ym
 generalize L6 s q=e1 at *
 generalize I7 s picks=e2 at *
 generalize OD s q=N at *
 generalize X5 picks N=b at *
 refine B5 Tryz.func145 24 fun mK E h0=>?_
 clear mK
 repeat'((first|refine A0 h1 ?_|refine A0 h2 ?_|refine A0 h3 ?_|refine A0 h4 ?_ |refine S2 ?_|(refine T6 ?_ ?_<;>intro h<;>try exact V1 h)|intro el mI mJ|intro el mI|exact T4|refine T5 ?_ ?_|intro ex)<;>try conv=>whnf)
 all_goals first
  |(exfalso;omega)
  |exact A1 rfl (congrArg AV.b (by rw[decide_eq_true (by omega),decide_eq_true (by omega)];rfl))
  |exact A1 rfl (congrArg AV.b (by rw[decide_eq_false (by omega)];rfl))
  |exact A1 rfl (congrArg AV.b (by rw[decide_eq_true (by omega),decide_eq_false (by omega)];rfl))
theorem VV(s:A4)(hd:D9 s)(d:Ct)(picks:List Pk):A3 Tryz.prog 93 [sA s,JW d,.sl 2 (picks.map A8)] (.i (Dw s d picks)):=by
 have h1:=Jj s d
 have h2:=Df s picks
 have h3:=fun q=>Yn s hd q picks
 unfold Dw
 have qo:FO s d=0→d.qs.length≤8:=kd
 generalize FO s d=e1 at *
 generalize I7 s picks=e2 at *
 generalize Ym s=SF at *
 refine B5 Tryz.func93 38 fun mK E h0=>?_
 clear mK
 repeat'((first|refine A0 h1 ?_|refine A0 h2 ?_ |refine S2 ?_|(refine T6 ?_ ?_<;>intro h<;>try exact V1 h)|intro el mI mJ|intro el mI|exact T4|refine T5 ?_ ?_|intro ex)<;>try conv=>whnf)
 all_goals first
  |(exfalso;omega)
  |exact A1 rfl (congrArg AV.i (by rw[if_pos (by omega)]))
  |exact A1 rfl (congrArg AV.i (by rw[if_neg (by omega),if_pos (by omega)]))
  |skip
 have qo:=qo (by omega)
 rw[if_neg (by omega),if_neg (by omega)]
 refine A9 (ι:=Nat) (fun k=>⟨[(2,.sl 2 (picks.map A8)),(3,.ref 0 0),(4,.ref 1 0),(9,.i k)],2,[(0,some (.box (sL s))),(1,some (.box (Lo d)))]⟩) (fun k=>k≤d.qs.length∧(d.qs.take k).all (fun q=>SF q picks)=true) (fun k=>d.qs.length-k) 0 ⟨Nat.zero_le _,rfl⟩
  (A6 h0) (fun k hI=>?_)
 obtain⟨hk,hI⟩:=hI
 by_cases mM:k<d.qs.length
 ·obtain⟨q,hq⟩:∃q,d.qs[k]?=some q:=⟨_,List.getElem?_eq_getElem mM⟩
  have nq:d.qs[((k:Nat):Int).toNat]?=some q:=hq
  have h3:=h3 q
  have mc:SF q picks=false→d.qs.all (fun q=>SF q picks)=false:=fun h=>Te (p:=fun q=>SF q picks) hq h
  have ox:SF q picks=true→(d.qs.take (k+1)).all (fun q=>SF q picks)=true:=fun h=>QT (p:=fun q=>SF q picks) hq hI h
  generalize SF q picks=b at *
  repeat'((first|(refine A2 (x:=q) nq (by omega) ?_)|refine A0 h3 ?_|(refine B0 ?_ ?_;kernel_rfl) |refine S2 ?_|(refine T6 ?_ ?_<;>intro h<;>try exact V1 h)|intro el mI mJ|intro el mI|exact T4|refine T5 ?_ ?_|intro ex)<;>try conv=>whnf)
  all_goals first
   |(exfalso;omega)
   |exact⟨k+1,⟨by omega,ox (by simp_all)⟩,by omega,A7 h0 rfl ⟨rfl,rfl,rfl,rfl,trivial⟩ ⟨rfl,rfl,trivial⟩ rfl rfl rfl⟩
   |exact A1 rfl (congrArg AV.i (by rw[mc (by simp_all),if_neg (by decide)]))
 ·rw[List.take_of_length_le (by omega)]at hI
  rw[if_pos hI]
  repeat'((first|refine S2 ?_|(refine T6 ?_ ?_<;>intro h<;>try exact V1 h)|intro el mI mJ|intro el mI|exact T4|refine T5 ?_ ?_|intro ex)<;>try conv=>whnf)
  all_goals first
   |(exfalso;omega)
   |exact A1 rfl rfl
abbrev uW(z:Int):Int:=IntKind.u64.wrap z
abbrev UQ(g:Int)(k:Int):Int:=g.fdiv (2 ^ min k.toNat IntKind.u64.bits)
abbrev ke(a b:Int):Int:=IntKind.u64.wrap ((BitVec.ofInt IntKind.u64.bits a ^^^ BitVec.ofInt IntKind.u64.bits b).toNat:Int)
def Yo(g:Int):Int:=ke (uW (uW (g*6364136223846793005)+1442695040888963407)) (UQ (uW (uW (g*6364136223846793005)+1442695040888963407)) 29)
def GV(f:Int→Int):Nat→Int→Int
 |0,g=>g
 |k+1,g=>GV f k (f g)
def UK(seed id:Int):Int:=IntKind.i64.wrap (UQ (GV Yo 3 (uW (uW (uW (uW seed*2654435761)+uW (uW id*40503))+97))) 32)
theorem Yp(seed id:Int):A3 Tryz.prog 192 [.i seed,.i id] (.i (UK seed id)):=by
 unfold UK
 generalize hG:GV Yo 3 (uW (uW (uW (uW seed*2654435761)+uW (uW id*40503))+97))=G
 refine B5 Tryz.func192 29 fun mK E h0=>?_
 clear mK
 repeat'((first|refine S2 ?_|(refine T6 ?_ ?_<;>intro h<;>try exact V1 h)|intro el mI mJ|intro el mI|exact T4|refine T5 ?_ ?_|intro ex)<;>try conv=>whnf)
 refine A9 (ι:=Nat×Int) (fun x=>⟨[(5,.v (.int .u64 x.2)),(6,.i x.1)],0,[]⟩)
  (fun x=>x.1≤3∧GV Yo (3-x.1) x.2=G) (fun x=>3-x.1) (0,uW (uW (uW (uW seed*2654435761)+uW (uW id*40503))+97)) ⟨Nat.zero_le _,hG⟩ (A6 h0) (fun x hI=>?_)
 obtain⟨k,g⟩:=x
 obtain⟨i1,i2⟩:=hI
 dsimp only at i1 i2 ⊢
 by_cases hk:k<3
 ·rw[show 3-k=(3-(k+1))+1 by omega,GV]at i2
  repeat'((first|refine S2 ?_|(refine T6 ?_ ?_<;>intro h<;>try exact V1 h)|intro el mI mJ|intro el mI|exact T4|refine T5 ?_ ?_|intro ex)<;>try conv=>whnf)
  all_goals first
   |(exfalso;omega)
   |exact⟨(k+1,Yo g),⟨by dsimp only;omega,i2⟩,by dsimp only;omega,A6 h0⟩
 ·rw[show 3-k=0 by omega,GV]at i2
  subst i2
  repeat'((first|refine S2 ?_|(refine T6 ?_ ?_<;>intro h<;>try exact V1 h)|intro el mI mJ|intro el mI|exact T4|refine T5 ?_ ?_|intro ex)<;>try conv=>whnf)
  all_goals first
   |(exfalso;omega)
   |exact A1 rfl rfl
def PC(part of seed:Int):Int:=if of<1∨1000<of∨part<1∨of<part∨seed<0∨1099511627776<seed then 2 else 0
theorem UR(part of seed:Int):A3 Tryz.prog 191 [.agg [.i part,.i of,.i seed]] (.i (PC part of seed)):=by
 unfold PC
 refine B5 Tryz.func191 33 fun mK E h0=>?_
 clear mK
 repeat'((first|refine S2 ?_|(refine T6 ?_ ?_<;>intro h<;>try exact V1 h)|intro el mI mJ|intro el mI|exact T4|refine T5 ?_ ?_|intro ex)<;>try conv=>whnf)
 all_goals first
  |(rw[if_pos (by omega)];exact A1 rfl rfl)
  |(rw[if_neg (by omega)];exact A1 rfl rfl)
def US(part of seed id:Int):Bool:=if PC part of seed=0∧1≤id∧id≤1048575 then decide ((UK seed id).tmod of<part)else false
theorem eP(part of seed id:Int):A3 Tryz.prog 147 [.agg [.i part,.i of,.i seed],.i id] (.b (US part of seed id)):=by
 have h1:=UR part of seed
 have h2:=Yp seed id
 unfold US
 have tF:PC part of seed=0→1≤of:=fun h=>by
  unfold PC at h
  split at h
  ·cases h
  ·omega
 generalize PC part of seed=e at *
 generalize UK seed id=g at *
 by_cases hc:e=0∧1≤id∧id≤1048575
 ·rw[if_pos hc]
  obtain⟨rfl,ol,oG⟩:=hc
  have:=tF rfl
  refine B5 Tryz.func147 28 fun mK E h0=>?_
  clear mK
  repeat'((first|refine A0 h1 ?_|refine A0 h2 ?_|(refine B0 ?_ ?_;kernel_rfl) |refine S2 ?_|(refine T6 ?_ ?_<;>intro h<;>try exact V1 h)|intro el mI mJ|intro el mI|exact T4|refine T5 ?_ ?_|intro ex)<;>try conv=>whnf)
  all_goals first
   |(exfalso;omega)
   |exact A1 rfl rfl
 ·rw[if_neg hc]
  refine B5 Tryz.func147 28 fun mK E h0=>?_
  clear mK
  repeat'((first|refine A0 h1 ?_|(refine B0 ?_ ?_;kernel_rfl) |refine S2 ?_|(refine T6 ?_ ?_<;>intro h<;>try exact V1 h)|intro el mI mJ|intro el mI|exact T4|refine T5 ?_ ?_|intro ex)<;>try conv=>whnf)
  all_goals first
   |(exfalso;omega)
   |exact A1 rfl rfl
end Go.Proofs.YtiphlhoclaogjaaGreatDoor
