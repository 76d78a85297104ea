/- Chapters 9 and 10: what questions use and need, which picks suffice, and the plan of a declaration: the references. -/
import Derived.Test.YtjkbhaaobhgkdabGreatDoorRC7
import Derived.Test.YtjkbhaaobhgkdabGreatDoorRCe6
import Derived.Test.YtjkbhaaobhgkdabGreatDoorRTa9
import Derived.Test.YtjkbhaaobhgkdabGreatDoorRQn2
import Derived.Test.YtjkbhaaobhgkdabGreatDoorRCe7
import Derived.Test.YtjkbhaaobhgkdabGreatDoorRB12
import Derived.Test.YtjkbhaaobhgkdabGreatDoorRCe1
import Derived.Test.YtjkbhaaobhgkdabGreatDoorRCf1
import Derived.Test.YtjkbhaaobhgkdabGreatDoorRTa2
set_option linter.unusedVariables false
set_option linter.unnecessarySimpa false
set_option linter.unusedSimpArgs false
set_option maxHeartbeats 64000000
namespace Go.Proofs.YtjkbhaaobhgkdabGreatDoor
open Go Go.Av
attribute [local irreducible] D0 B0 D2 C7 DQ D1 C8 St.le A3 B6
set_option maxRecDepth 100000
def Jw(q:U5)(c:Int):Bool:=decide (q.mea=c) || q.trms.any fun x=>decide (x=c)
theorem Qs(q:U5)(c:Int):A3 Tryz.prog 168 [ES q,.i c] (.b (Jw q c)):=by
 have h1:=Qj q.trms c
 unfold Jw
 generalize (q.trms.any fun x=>decide (x=c))=u at *
 refine C0 Tryz.func168 15 fun nQ E h0=>?_
 clear nQ
 repeat'((first|refine A1 h1 ?_ |refine S2 ?_|(refine T6 ?_ ?_<;>intro h<;>try exact V1 h)|intro el nN nP|intro el nN|exact T4|refine T5 ?_ ?_|intro ex)<;>try conv=>whnf)
 all_goals first
  |(exfalso;omega)
  |exact A0 rfl (congrArg AV.b (by simp[*]))
  |exact A0 rfl (congrArg AV.b (by rw[decide_eq_true (by omega)];rfl))
  |exact A0 rfl (congrArg AV.b (by rw[decide_eq_false (by omega)];rfl))
def U6(l ps:List Pk):List Pk:=ps.foldl (fun pa p=>a6 pa p.col p.lev) l
theorem IE{l ps:List Pk}{k:Nat}{p:Pk}(h:ps[k]?=some p):U6 l (ps.take (k+1))=a6 (U6 l (ps.take k)) p.col p.lev:=by
 unfold U6
 rw[I3 h,List.foldl_append]
 rfl
theorem Et{col lev:Int}:∀(l:List Pk) (dn:Bool) (out:List Pk),(M7 col lev l dn out).length≤out.length+l.length+(if dn=true then 0 else 1)
 |[],dn,out=>by
  unfold M7
  split
  ·omega
  ·simp
 |x::r,dn,out=>by
  unfold M7
  split
  ·rename_i h
   have:=Et (col:=col) (lev:=lev) r true (out++[⟨col,lev⟩]++[x])
   rw[if_pos rfl]at this
   rw[if_neg (by rw[h.2];decide)]
   simp only[List.length_append,List.length_cons,List.length_nil]at this ⊢
   omega
  ·split
   ·have:=Et (col:=col) (lev:=lev) r true (out++[⟨x.col,max x.lev lev⟩])
    rw[if_pos rfl]at this
    simp only[List.length_append,List.length_cons,List.length_nil]at this ⊢
    omega
   ·have:=Et (col:=col) (lev:=lev) r dn (out++[x])
    simp only[List.length_append,List.length_cons,List.length_nil]at this ⊢
    omega
theorem OJ(l:List Pk)(col lev:Int):(a6 l col lev).length≤l.length+1:=by
 have:=Et (col:=col) (lev:=lev) l (decide (lev≤0)) []
 unfold a6
 rw[List.length_nil]at this
 split at this<;>omega
theorem Dj(l ps:List Pk):∀k:Nat,k≤ps.length→(U6 l (ps.take k)).length≤l.length+k
 |0,_=>by simp[U6]
 |k+1,h=>by
  obtain⟨p,hp⟩:∃p,ps[k]?=some p:=⟨_,List.getElem?_eq_getElem (by omega)⟩
  rw[IE hp]
  have h1:=OJ (U6 l (ps.take k)) p.col p.lev
  have h2:=Dj l ps k (by omega)
  omega
def z6(s:A4)(q:U5)(l:List Pk):Nat→List Pk
 |0=>l
 |k+1=>if Jw q ((k:Int)+1)=true then a6 (z6 s q l k) ((k:Int)+1) (H7 s ((k:Int)+1) (B9 s ((k:Int)+1)))else z6 s q l k
theorem PQ(s:A4)(q:U5)(l:List Pk):∀k,(z6 s q l k).length≤l.length+k
 |0=>by simp[z6]
 |k+1=>by
  have:=PQ s q l k
  unfold z6
  split
  ·have h1:=OJ (z6 s q l k) ((k:Int)+1) (H7 s ((k:Int)+1) (B9 s ((k:Int)+1)))
   omega
  ·omega
def M3(s:A4)(q:U5):List Pk:=q.dims.map fun d=>⟨d.col,H7 s d.col d.lev⟩
def ZI(s:A4)(q:U5):List Pk:=if q.kind=3 then L5 s q.evt else []
def ZJ(s:A4)(q:U5):List Pk:=U6 (U6 (L5 s q.flt) (ZI s q)) (M3 s q)
def IG(s:A4)(q:U5):List Pk:=if N4 s q=0 then z6 s q (ZJ s q) (s.cols.length-1)else []
theorem fH{s:A4}{q:U5}(h:N4 s q=0):C5 s=0∧q.dims.length≤3:=by
 unfold N4 at h
 by_cases hr:C5 s=0
 ·refine⟨hr,?_⟩
  rw[if_neg (fun hh=>hh hr)]at h
  split at h
  ·cases h
  split at h
  ·cases h
  split at h
  ·contradiction
  split at h
  ·unfold IA at h
   split at h
   ·contradiction
   ·rename_i h2
    have h2:=Decidable.of_not_not h2
    unfold L0 at h2
    split at h2
    ·cases h2
    ·omega
  split at h
  ·unfold Jq at h
   split at h
   ·cases h
   split at h
   ·contradiction
   split at h
   ·cases h
   ·omega
  ·unfold MO at h
   split at h
   ·cases h
   split at h
   ·cases h
   split at h
   ·contradiction
   split at h
   ·cases h
   ·omega
 ·rw[if_pos hr]at h
  exact absurd h hr
def Ub(s:A4)(q:U5)(picks:List Pk):Bool:=decide (N4 s q=0) && (decide (K9 s picks=0) && AM picks (IG s q))
def p0(s:A4)(d:DD)(picks:List Pk):Int:=if ¬Df s d=0 then Df s d else if ¬K9 s picks=0 then K9 s picks else if (d.qs.all fun q=>Ub s q picks)=true then 0 else 23
theorem lX{s:A4}{d:DD}(h:Df s d=0):d.qs.length≤8:=by
 unfold Df at h
 split at h
 ·contradiction
 split at h
 ·cases h
 split at h
 ·contradiction
 split at h
 ·cases h
 split at h
 ·cases h
 ·omega
theorem Vp(s:A4)(hd:C4 s)(q:U5):A3 Tryz.prog 122 [sA s,ES q] (.sl 2 ((IG s q).map B5)):=by
 have h1:=Gg s q
 have h2:=Ld s q.flt
 have h3:=Ld s q.evt
 have qi:=fun c l=>Vn s c l hd
 have sD:=fun c=>u6 s c
 have nl:=hd.lens
 unfold IG
 by_cases hq:N4 s q=0
 ·rw[if_pos hq]
  rw[hq]at h1
  obtain⟨hr,qI⟩:=fH hq
  have hDl:(M3 s q).length=q.dims.length:=by unfold M3;rw[List.length_map]
  have hDg:∀(k:Nat) d,q.dims[k]?=some d→(M3 s q)[k]?=some ⟨d.col,H7 s d.col d.lev⟩:=fun k d h=>by unfold M3;rw[List.getElem?_map,h];rfl
  have hFl:=Ds s q.flt
  have hEl:=Ds s q.evt
  unfold ZJ
  by_cases hk:q.kind=3
  ·have pf:ZI s q=L5 s q.evt:=if_pos hk
   rw[pf]
   generalize L5 s q.flt=F at *
   generalize L5 s q.evt=R at *
   have hMl:=Dj F R R.length (Nat.le_refl _)
   rw[List.take_length]at hMl
   refine C0 Tryz.func122 92 fun nQ E h0=>?_
   clear nQ
   repeat'((first|refine A1 h1 ?_|refine A1 h2 ?_|refine A1 h3 ?_ |refine S2 ?_|(refine T6 ?_ ?_<;>intro h<;>try exact V1 h)|intro el nN nP|intro el nN|exact T4|refine T5 ?_ ?_|intro ex)<;>try conv=>whnf)
   all_goals first
    |(exfalso;omega)
    |skip
   refine B2 (ι:=Nat) (fun k=>⟨[(2,.ref 0 0),(3,.ref 1 0),(5,.sl 2 ((U6 F (R.take k)).map B5)),(6,.sl 2 (R.map B5)),(7,.i k)],2,[(0,some (.box (sL s))),(1,some (.box (Ge q)))]⟩) (fun k=>k≤R.length) (fun k=>R.length-k) 0 (Nat.zero_le _)
    (A6 h0) (fun k ni=>?_)
   by_cases nR:k<R.length
   ·obtain⟨p,hp⟩:∃p,R[k]?=some p:=⟨_,List.getElem?_eq_getElem nR⟩
    have hp2:R[((k:Nat):Int).toNat]?=some p:=hp
    have oy:=IE (l:=F) hp
    have uh:=Dj F R k (by omega)
    have sf:=BO (U6 F (R.take k)) p.col p.lev (by omega)
    rw[←oy]at sf
    clear oy
    repeat'((first|(refine A2 (x:=p) hp2 (by omega) ?_)|refine A1 sf ?_|(refine B8 ?_ ?_;kernel_rfl) |refine S2 ?_|(refine T6 ?_ ?_<;>intro h<;>try exact V1 h)|intro el nN nP|intro el nN|exact T4|refine T5 ?_ ?_|intro ex)<;>try conv=>whnf)
    all_goals first
     |(exfalso;omega)
     |exact⟨k+1,by omega,by omega,A6 h0⟩
   have xb:k=R.length:=by omega
   rw[xb,List.take_length]
   clear ni nR xb k
   generalize U6 F R=M at *
   repeat'((first|refine S2 ?_|(refine T6 ?_ ?_<;>intro h<;>try exact V1 h)|intro el nN nP|intro el nN|exact T4|refine T5 ?_ ?_|intro ex)<;>try conv=>whnf)
   all_goals first
    |(exfalso;omega)
    |skip
   refine B2 (ι:=Nat) (fun k=>⟨[(2,.ref 0 0),(3,.ref 1 0),(5,.sl 2 ((U6 M ((M3 s q).take k)).map B5)),(8,.i k)],2,[(0,some (.box (sL s))),(1,some (.box (Ge q)))]⟩) (fun k=>k≤q.dims.length) (fun k=>q.dims.length-k) 0 (Nat.zero_le _)
    (A6 h0) (fun k hk=>?_)
   by_cases nR:k<q.dims.length
   ·obtain⟨d,qS⟩:∃d,q.dims[k]?=some d:=⟨_,List.getElem?_eq_getElem nR⟩
    have vX:q.dims[((k:Nat):Int).toNat]?=some d:=qS
    have oy:=IE (l:=M) (hDg k d qS)
    have uh:=Dj M (M3 s q) k (by omega)
    have ob:=qi d.col d.lev
    have sf:=BO (U6 M ((M3 s q).take k)) d.col (H7 s d.col d.lev) (by omega)
    rw[show a6 (U6 M ((M3 s q).take k)) d.col (H7 s d.col d.lev)=_ from oy.symm]at sf
    clear oy
    generalize H7 s d.col d.lev=lv at *
    repeat'((first|(refine A2 (x:=d) vX (by omega) ?_)|refine A1 ob ?_|refine A1 sf ?_|(refine B8 ?_ ?_;kernel_rfl) |refine S2 ?_|(refine T6 ?_ ?_<;>intro h<;>try exact V1 h)|intro el nN nP|intro el nN|exact T4|refine T5 ?_ ?_|intro ex)<;>try conv=>whnf)
    all_goals first
     |(exfalso;omega)
     |exact⟨k+1,by omega,by omega,A6 h0⟩
   have qD:k=(M3 s q).length:=by omega
   rw[qD,List.take_length]
   have hN:=Dj M (M3 s q) (M3 s q).length (Nat.le_refl _)
   rw[List.take_length]at hN
   repeat'((first|refine S2 ?_|(refine T6 ?_ ?_<;>intro h<;>try exact V1 h)|intro el nN nP|intro el nN|exact T4|refine T5 ?_ ?_|intro ex)<;>try conv=>whnf)
   all_goals first
    |(exfalso;omega)
    |skip
   refine B2 (ι:=Nat) (fun k=>⟨[(2,.ref 0 0),(3,.ref 1 0),(5,.sl 2 ((z6 s q (U6 M (M3 s q)) k).map B5)),(9,.i ((k:Int)+1))],2,[(0,some (.box (sL s))),(1,some (.box (Ge q)))]⟩) (fun k=>k≤s.cols.length-1) (fun k=>s.cols.length-1-k) 0 (Nat.zero_le _)
    (A6 h0) (fun k hk=>?_)
   have xS:=PQ s q (U6 M (M3 s q)) k
   have wV:z6 s q (U6 M (M3 s q)) (k+1)=if Jw q ((k:Int)+1)=true then a6 (z6 s q (U6 M (M3 s q)) k) ((k:Int)+1) (H7 s ((k:Int)+1) (B9 s ((k:Int)+1)))else z6 s q (U6 M (M3 s q)) k:=rfl
   have nu:=sD ((k:Int)+1)
   have ob:=qi ((k:Int)+1) (B9 s ((k:Int)+1))
   have sf:=BO (z6 s q (U6 M (M3 s q)) k) ((k:Int)+1) (H7 s ((k:Int)+1) (B9 s ((k:Int)+1))) (by omega)
   have hu:=Qs q ((k:Int)+1)
   have pX:k=s.cols.length-1→z6 s q (U6 M (M3 s q)) (s.cols.length-1)=z6 s q (U6 M (M3 s q)) k:=fun h=>by rw[h]
   generalize H7 s ((k:Int)+1) (B9 s ((k:Int)+1))=lv at *
   generalize B9 s ((k:Int)+1)=fs at *
   generalize z6 s q (U6 M (M3 s q)) k=U at *
   generalize Jw q ((k:Int)+1)=ub at *
   repeat'((first|refine A1 hu ?_|refine A1 nu ?_|refine A1 ob ?_|refine A1 sf ?_|(refine B8 ?_ ?_;kernel_rfl) |refine S2 ?_|(refine T6 ?_ ?_<;>intro h<;>try exact V1 h)|intro el nN nP|intro el nN|exact T4|refine T5 ?_ ?_|intro ex)<;>try conv=>whnf)
   all_goals first
    |(exfalso;omega)
    |(rw[pX (by omega)];exact A0 rfl rfl)
    |(refine⟨k+1,by omega,by omega,?_⟩;rw[wV,if_pos (by assumption)];exact A8 h0 rfl ⟨rfl,rfl,rfl,congrArg (fun z:Int=>some (AV.i z)) (by omega),trivial⟩ ⟨rfl,rfl,trivial⟩ rfl rfl rfl)
    |(refine⟨k+1,by omega,by omega,?_⟩;rw[wV,if_neg (by simp[*])];exact A8 h0 rfl ⟨rfl,rfl,rfl,congrArg (fun z:Int=>some (AV.i z)) (by omega),trivial⟩ ⟨rfl,rfl,trivial⟩ rfl rfl rfl)
  ·have pf:ZI s q=[]:=if_neg hk
   rw[pf,show U6 (L5 s q.flt) []=L5 s q.flt from rfl]
   generalize L5 s q.flt=M at *
   refine C0 Tryz.func122 92 fun nQ E h0=>?_
   clear nQ
   repeat'((first|refine A1 h1 ?_|refine A1 h2 ?_|refine A1 h3 ?_ |refine S2 ?_|(refine T6 ?_ ?_<;>intro h<;>try exact V1 h)|intro el nN nP|intro el nN|exact T4|refine T5 ?_ ?_|intro ex)<;>try conv=>whnf)
   all_goals first
    |(exfalso;omega)
    |skip
   refine B2 (ι:=Nat) (fun k=>⟨[(2,.ref 0 0),(3,.ref 1 0),(5,.sl 2 ((U6 M ((M3 s q).take k)).map B5)),(8,.i k)],2,[(0,some (.box (sL s))),(1,some (.box (Ge q)))]⟩) (fun k=>k≤q.dims.length) (fun k=>q.dims.length-k) 0 (Nat.zero_le _)
    (A6 h0) (fun k hk=>?_)
   by_cases nR:k<q.dims.length
   ·obtain⟨d,qS⟩:∃d,q.dims[k]?=some d:=⟨_,List.getElem?_eq_getElem nR⟩
    have vX:q.dims[((k:Nat):Int).toNat]?=some d:=qS
    have oy:=IE (l:=M) (hDg k d qS)
    have uh:=Dj M (M3 s q) k (by omega)
    have ob:=qi d.col d.lev
    have sf:=BO (U6 M ((M3 s q).take k)) d.col (H7 s d.col d.lev) (by omega)
    rw[show a6 (U6 M ((M3 s q).take k)) d.col (H7 s d.col d.lev)=_ from oy.symm]at sf
    clear oy
    generalize H7 s d.col d.lev=lv at *
    repeat'((first|(refine A2 (x:=d) vX (by omega) ?_)|refine A1 ob ?_|refine A1 sf ?_|(refine B8 ?_ ?_;kernel_rfl) |refine S2 ?_|(refine T6 ?_ ?_<;>intro h<;>try exact V1 h)|intro el nN nP|intro el nN|exact T4|refine T5 ?_ ?_|intro ex)<;>try conv=>whnf)
    all_goals first
     |(exfalso;omega)
     |exact⟨k+1,by omega,by omega,A6 h0⟩
   have qD:k=(M3 s q).length:=by omega
   rw[qD,List.take_length]
   have hN:=Dj M (M3 s q) (M3 s q).length (Nat.le_refl _)
   rw[List.take_length]at hN
   repeat'((first|refine S2 ?_|(refine T6 ?_ ?_<;>intro h<;>try exact V1 h)|intro el nN nP|intro el nN|exact T4|refine T5 ?_ ?_|intro ex)<;>try conv=>whnf)
   all_goals first
    |(exfalso;omega)
    |skip
   refine B2 (ι:=Nat) (fun k=>⟨[(2,.ref 0 0),(3,.ref 1 0),(5,.sl 2 ((z6 s q (U6 M (M3 s q)) k).map B5)),(9,.i ((k:Int)+1))],2,[(0,some (.box (sL s))),(1,some (.box (Ge q)))]⟩) (fun k=>k≤s.cols.length-1) (fun k=>s.cols.length-1-k) 0 (Nat.zero_le _)
    (A6 h0) (fun k hk=>?_)
   have xS:=PQ s q (U6 M (M3 s q)) k
   have wV:z6 s q (U6 M (M3 s q)) (k+1)=if Jw q ((k:Int)+1)=true then a6 (z6 s q (U6 M (M3 s q)) k) ((k:Int)+1) (H7 s ((k:Int)+1) (B9 s ((k:Int)+1)))else z6 s q (U6 M (M3 s q)) k:=rfl
   have nu:=sD ((k:Int)+1)
   have ob:=qi ((k:Int)+1) (B9 s ((k:Int)+1))
   have sf:=BO (z6 s q (U6 M (M3 s q)) k) ((k:Int)+1) (H7 s ((k:Int)+1) (B9 s ((k:Int)+1))) (by omega)
   have hu:=Qs q ((k:Int)+1)
   have pX:k=s.cols.length-1→z6 s q (U6 M (M3 s q)) (s.cols.length-1)=z6 s q (U6 M (M3 s q)) k:=fun h=>by rw[h]
   generalize H7 s ((k:Int)+1) (B9 s ((k:Int)+1))=lv at *
   generalize B9 s ((k:Int)+1)=fs at *
   generalize z6 s q (U6 M (M3 s q)) k=U at *
   generalize Jw q ((k:Int)+1)=ub at *
   repeat'((first|refine A1 hu ?_|refine A1 nu ?_|refine A1 ob ?_|refine A1 sf ?_|(refine B8 ?_ ?_;kernel_rfl) |refine S2 ?_|(refine T6 ?_ ?_<;>intro h<;>try exact V1 h)|intro el nN nP|intro el nN|exact T4|refine T5 ?_ ?_|intro ex)<;>try conv=>whnf)
   all_goals first
    |(exfalso;omega)
    |(rw[pX (by omega)];exact A0 rfl rfl)
    |(refine⟨k+1,by omega,by omega,?_⟩;rw[wV,if_pos (by assumption)];exact A8 h0 rfl ⟨rfl,rfl,rfl,congrArg (fun z:Int=>some (AV.i z)) (by omega),trivial⟩ ⟨rfl,rfl,trivial⟩ rfl rfl rfl)
    |(refine⟨k+1,by omega,by omega,?_⟩;rw[wV,if_neg (by simp[*])];exact A8 h0 rfl ⟨rfl,rfl,rfl,congrArg (fun z:Int=>some (AV.i z)) (by omega),trivial⟩ ⟨rfl,rfl,trivial⟩ rfl rfl rfl)
 ·rw[if_neg hq]
  generalize N4 s q=e at *
  refine C0 Tryz.func122 92 fun nQ E h0=>?_
  clear nQ
  repeat'((first|refine A1 h1 ?_ |refine S2 ?_|(refine T6 ?_ ?_<;>intro h<;>try exact V1 h)|intro el nN nP|intro el nN|exact T4|refine T5 ?_ ?_|intro ex)<;>try conv=>whnf)
  all_goals first
   |(exfalso;omega)
   |exact AC (sz:=2) rfl rfl
theorem ZK(s:A4)(hd:C4 s)(q:U5)(picks:List Pk):A3 Tryz.prog 85 [sA s,ES q,.sl 2 (picks.map B5)] (.b (Ub s q picks)):=by
 have h1:=Gg s q
 have h2:=LR s picks
 have h3:=Vp s hd q
 have h4:=UU (IG s q) picks
 unfold Ub
 generalize N4 s q=e1 at *
 generalize K9 s picks=e2 at *
 generalize IG s q=N at *
 generalize AM picks N=b at *
 refine C0 Tryz.func85 24 fun nQ E h0=>?_
 clear nQ
 repeat'((first|refine A1 h1 ?_|refine A1 h2 ?_|refine A1 h3 ?_|refine A1 h4 ?_ |refine S2 ?_|(refine T6 ?_ ?_<;>intro h<;>try exact V1 h)|intro el nN nP|intro el nN|exact T4|refine T5 ?_ ?_|intro ex)<;>try conv=>whnf)
 all_goals first
  |(exfalso;omega)
  |exact A0 rfl (congrArg AV.b (by rw[decide_eq_true (by omega),decide_eq_true (by omega)];rfl))
  |exact A0 rfl (congrArg AV.b (by rw[decide_eq_false (by omega)];rfl))
  |exact A0 rfl (congrArg AV.b (by rw[decide_eq_true (by omega),decide_eq_false (by omega)];rfl))
theorem Vq(s:A4)(hd:C4 s)(d:DD)(picks:List Pk):A3 Tryz.prog 43 [sA s,Jp d,.sl 2 (picks.map B5)] (.i (p0 s d picks)):=by
 have h1:=Jv s d
 have h2:=LR s picks
 have h3:=fun q=>ZK s hd q picks
 unfold p0
 have tw:Df s d=0→d.qs.length≤8:=lX
 generalize Df s d=e1 at *
 generalize K9 s picks=e2 at *
 generalize Ub s=SF at *
 refine C0 Tryz.func43 38 fun nQ E h0=>?_
 clear nQ
 repeat'((first|refine A1 h1 ?_|refine A1 h2 ?_ |refine S2 ?_|(refine T6 ?_ ?_<;>intro h<;>try exact V1 h)|intro el nN nP|intro el nN|exact T4|refine T5 ?_ ?_|intro ex)<;>try conv=>whnf)
 all_goals first
  |(exfalso;omega)
  |exact A0 rfl (congrArg AV.i (by rw[if_pos (by omega)]))
  |exact A0 rfl (congrArg AV.i (by rw[if_neg (by omega),if_pos (by omega)]))
  |skip
 have tw:=tw (by omega)
 rw[if_neg (by omega),if_neg (by omega)]
 refine B2 (ι:=Nat) (fun k=>⟨[(2,.sl 2 (picks.map B5)),(3,.ref 0 0),(4,.ref 1 0),(9,.i k)],2,[(0,some (.box (sL s))),(1,some (.box (MN d)))]⟩) (fun k=>k≤d.qs.length∧(d.qs.take k).all (fun q=>SF q picks)=true) (fun k=>d.qs.length-k) 0 ⟨Nat.zero_le _,rfl⟩
  (A6 h0) (fun k hI=>?_)
 obtain⟨hk,hI⟩:=hI
 by_cases nR:k<d.qs.length
 ·obtain⟨q,hq⟩:∃q,d.qs[k]?=some q:=⟨_,List.getElem?_eq_getElem nR⟩
  have pI:d.qs[((k:Nat):Int).toNat]?=some q:=hq
  have h3:=h3 q
  have nf:SF q picks=false→d.qs.all (fun q=>SF q picks)=false:=fun h=>Tv (p:=fun q=>SF q picks) hq h
  have pm:SF q picks=true→(d.qs.take (k+1)).all (fun q=>SF q picks)=true:=fun h=>Qh (p:=fun q=>SF q picks) hq hI h
  generalize SF q picks=b at *
  repeat'((first|(refine A2 (x:=q) pI (by omega) ?_)|refine A1 h3 ?_|(refine B8 ?_ ?_;kernel_rfl) |refine S2 ?_|(refine T6 ?_ ?_<;>intro h<;>try exact V1 h)|intro el nN nP|intro el nN|exact T4|refine T5 ?_ ?_|intro ex)<;>try conv=>whnf)
  all_goals first
   |(exfalso;omega)
   |exact⟨k+1,⟨by omega,pm (by simp_all)⟩,by omega,A6 h0⟩
   |exact A0 rfl (congrArg AV.i (by rw[nf (by simp_all),if_neg (by decide)]))
 ·rw[List.take_of_length_le (by omega)]at hI
  rw[if_pos hI]
  repeat'((first|refine S2 ?_|(refine T6 ?_ ?_<;>intro h<;>try exact V1 h)|intro el nN nP|intro el nN|exact T4|refine T5 ?_ ?_|intro ex)<;>try conv=>whnf)
  all_goals first
   |(exfalso;omega)
   |exact A0 rfl rfl
theorem jU{s:A4}(hd:C4 s){i:Nat}{c:D4}(hi:0<i)(hc:s.cols[i]?=some c){n:Nat}(hn:B9 s i=n){v:Int}(hv:c9 s c v){m:Nat}(hm:m≤n):
  (R4 s i m (I0 s i m v)).2=true∧c9 s c (R4 s i m (I0 s i m v)).1∧I0 s i m (R4 s i m (I0 s i m v)).1=I0 s i m v:=by
 have hr:=hd.ok
 have uf:s.cols[(i:Int).toNat]?=some c:=by simpa using hc
 have nh:=B7 uf
 have nR:=D6 hc
 have sd:∀w,I0 s i m w=O9 s c m w:=fun w=>by
  unfold I0
  rw[hn,if_neg (by omega),nh]
 have nu:(n:Int)=N7 s c:=by
  have h1:B9 s i=F0 s i:=by rw[B9,if_pos hr]
  rw[h1,F0,if_neg (by omega),nh]at hn
  exact hn.symm
 unfold R4
 rw[nh]
 by_cases hk:c.kind=2
 ·rw[if_neg (by omega)]
  obtain⟨k,rfl,rn⟩:∃k:Nat,v=k∧k∈J3 s i:=by
   rcases hv with ⟨hw,_⟩|⟨_,k,hw,hm⟩|⟨hw,_⟩
   ·rw[hw]at hk;cases hk
   ·refine⟨k,hw,?_⟩
    unfold J3;rw[nh];exact hm
   ·omega
  have rS:∀x∈J3 s i,Wh s i m x=I0 s i m x:=fun x hx=>by
   unfold Wh
   rw[nh]
   exact(MJ hr (by omega) uf hk (by omega) (by omega) hx).1.symm
  rcases Nq (f:=Wh s i m) (v:=I0 s i m k) (l:=J3 s i)with ⟨g1,y,hy,g2,g3⟩|⟨g1,g2⟩
  ·rw[g3]
   refine⟨g1,?_,by rw[←rS y hy,g2]⟩
   refine .inr (.inl ⟨hk,y,rfl,?_⟩)
   unfold J3 at hy;rw[nh]at hy;exact hy
  ·exact absurd (rS k rn) (g2 k rn)
 ·have pY:=(Wi hr (column:=i) (by omega) uf).1
  have rT:c.kind=3:=by omega
  rw[if_pos rT]
  obtain⟨nm,hM⟩:∃nm,P8 c nm:=by
   rcases hd.col hc with ⟨_,rfl⟩|⟨_,rfl|rfl⟩|⟨_,h⟩
   ·cases rT
   ·cases rT
   ·cases rT
   ·exact h
  have rk:=hM.low
  have rN:=hM.high
  have wM:BS c v:=by
   rcases hv with ⟨hw,_⟩|⟨hw,_⟩|⟨_,hw⟩
   ·rw[hw]at rT;cases rT
   ·omega
   ·exact hw
  have hmn:m≤c.widths.length:=by
   have:N7 s c=c.widths.length:=by unfold N7;rw[if_neg hk]
   omega
  have ok:∀w,BS c w→c9 s c w:=fun w hw=>.inr (.inr ⟨rT,hw⟩)
  have ue:BS c c.low:=.inl ⟨Int.le_refl _,rN.1⟩
  rw[sd,M4 hM wM]
  by_cases qu:(m:Int)=0
  ·rw[if_pos qu,if_neg (by omega)]
   have e:N8 c m 0=(c.low,c.high,true):=by unfold N8;rw[if_pos qu];rfl
   rw[e]
   refine⟨rfl,ok _ ue,?_⟩
   rw[sd,M4 hM ue,if_pos qu]
  ·rw[if_neg qu]
   by_cases tF:v=(-1099511627776)
   ·have ho:c.opt=true:=by
     rcases wM with hv|hv
     ·omega
     ·exact hv.1
    rw[if_pos tF,if_pos ⟨by omega,rfl⟩]
    refine⟨ho,ok _ (.inr ⟨ho,rfl⟩),?_⟩
    rw[sd,M4 hM (.inr ⟨ho,rfl⟩),if_neg qu,if_pos rfl]
   ·have oY:c.low≤v∧v≤c.high:=by
     rcases wM with hv|hv
     ·exact hv
     ·exact absurd hv.2 tF
    obtain⟨hw,_,_⟩:=k6 hM (a:=m) (b:=m) (by omega) (Nat.le_refl _) hmn
    have d:=T9 v hw.1
    have qS:=BK hw.1 (Int.le_refl _) (show C6 v (A9 c m)<C6 v (A9 c m)+A9 c m by omega)
    have uG:N8 c m (C6 v (A9 c m))=(max (C6 v (A9 c m)) c.low,min (C6 v (A9 c m)+A9 c m-1) c.high,true):=by
     unfold N8
     rw[if_neg (by omega),if_neg (by omega),qS]
     have:max (C6 v (A9 c m)) c.low≤min (C6 v (A9 c m)+A9 c m-1) c.high:=by omega
     simp[this]
    rw[if_neg tF,if_neg (by omega),uG]
    have hV:BS c (max (C6 v (A9 c m)) c.low):=.inl (by omega)
    refine⟨rfl,ok _ hV,?_⟩
    dsimp only
    rw[sd,M4 hM hV,if_neg qu,if_neg (by omega)]
    exact BK hw.1 (by omega) (by omega)
end Go.Proofs.YtjkbhaaobhgkdabGreatDoor
