/- Chapter 16: the reference's parts of expressions. Chapter 16: the reference's check of expressions. Chapter 16: the reference's Right. -/
import Derived.Test.YtkcekccdcpmekaaGreatDoorQCm1
import Derived.Test.YtkcekccdcpmekaaGreatDoorQB11
import Derived.Test.YtkcekccdcpmekaaGreatDoorQRp3
set_option linter.unusedVariables false
set_option linter.unnecessarySimpa false
set_option linter.unusedSimpArgs false
set_option maxHeartbeats 64000000
namespace Go.Proofs.YtkcekccdcpmekaaGreatDoor
open Go Go.Av
attribute [local irreducible] E8 B5 E5 E1 DQ E7 E9 St.le A4 A9
set_option maxRecDepth 100000
theorem Lf(s:A5)(col kind:Int):A4 Tryz.prog 154 [sA s,.i col,.i kind] (.b (u5 s col kind)):=by
 refine D0 Tryz.func154 26 fun ki E h0=>?_
 clear ki
 repeat'((first|refine S2 ?_|(refine T6 ?_ ?_<;>intro h<;>try exact V1 h)|intro el ke kg|intro el ke|exact T4|refine T5 ?_ ?_|intro ex)<;>try conv=>whnf)
 all_goals first
  |exact A3 rfl (congrArg AV.b (by unfold u5;rw[decide_eq_false (by omega)]))
  |exact A3 rfl (congrArg AV.b (by unfold u5;rw[D4 ke,decide_eq_decide];omega))
theorem Yl(l:List Int)(v:Int):A4 Tryz.prog 175 [.sl 1 (l.map wA),.i v] (.b (l.any fun x=>decide (x=v))):=by
 refine D0 Tryz.func175 18 fun ki E h0=>?_
 have kf:l.length≤9223372036854775807:=by
  have:=(ki (.sl 1 (l.map wA)) (by simp)).sl
  simpa using this
 clear ki
 repeat'((first|refine S2 ?_|(refine T6 ?_ ?_<;>intro h<;>try exact V1 h)|intro el ke kg|intro el ke|exact T4|refine T5 ?_ ?_|intro ex)<;>try conv=>whnf)
 refine D5 (ι:=Nat) (fun k=>⟨[(0,.sl 1 (l.map wA)),(1,.i v),(5,.i k)],0,[]⟩) (fun k=>o9 (fun x=>decide (x=v)) l k) (fun k=>l.length-k) 0 (o9.zero _ _)
  (B2 h0) (fun k hI=>?_)
 have lJ:=hI.1
 repeat'((first|(refine I6 ?_ ?_;kernel_rfl) |refine S2 ?_|(refine T6 ?_ ?_<;>intro h<;>try exact V1 h)|intro el ke kg|intro el ke|exact T4|refine T5 ?_ ?_|intro ex)<;>try conv=>whnf)
 all_goals first
  |exact A3 rfl (congrArg AV.b (hI.hit ke (by rw[decide_eq_true_iff];assumption)))
  |exact A3 rfl (congrArg AV.b (hI.done (by assumption)))
  |exact⟨k+1,hI.step ke (by rw[decide_eq_false_iff_not];assumption),by omega,B2 h0⟩
theorem Ym(l:List Int)(k:Nat)(v:Int):A4 Tryz.prog 175 [.sl 1 ((l.map wA).take k),.i v] (.b ((l.take k).any fun x=>decide (x=v))):=by
 have h:=Yl (l.take k) v
 rw[List.map_take]at h
 exact h
theorem Yn{s:A5}{p:Pk}(h:c8 s p=0):0≤p.col∧p.col<s.cols.length:=by
 unfold c8 Gv U6 at h
 by_cases hc:p.col<1∨(s.cols.length:Int)≤p.col
 ·rw[if_pos hc]at h
  split at h
  ·rw[if_pos (show (-1:Int)<0 by omega)]at h
   omega
  ·exact absurd h (by assumption)
 ·omega
theorem WW(s:A5)(l:List Pk):A4 Tryz.prog 155 [sA s,.sl 2 (l.map N7)] (.i (AB s l)):=by
 have hp:=fun d=>WV s d
 have hi:=fun c=>Lf s c 2
 unfold AB
 refine D0 Tryz.func155 55 fun ki E h0=>?_
 have kf:l.length≤9223372036854775807:=by
  have:=(ki (.sl 2 (l.map N7)) (by simp)).sl
  simpa using this
 clear ki
 repeat'((first|refine S2 ?_|(refine T6 ?_ ?_<;>intro h<;>try exact V1 h)|intro el ke kg|intro el ke|exact T4|refine T5 ?_ ?_|intro ex)<;>try conv=>whnf)
 all_goals first
  |(rw[if_pos (by omega)];exact A3 rfl rfl)
  |skip
 rw[if_neg (by omega)]
 refine D5 (ι:=Nat) (fun k=>⟨[(1,.sl 2 (l.map N7)),(2,.ref 0 0),(5,.i k)],1,[(0,some (.box (sL s)))]⟩) (fun k=>M6 (Ar s l) l k) (fun k=>l.length-k) 0 (M6.zero _ _)
  (B2 h0) (fun k hI=>?_)
 have lJ:=hI.1
 by_cases kj:k<l.length
 ·obtain⟨d,hd⟩:∃d,l[k]?=some d:=⟨_,List.getElem?_eq_getElem kj⟩
  have h1:=hp d
  have h2:=hi d.col
  have lG:∀e:Int,Ar s l k d=e→¬e=0→e=J1 (Ar s l) 0 l:=fun e h3 h4=>by rw[←h3];exact hI.hit hd (by rw[h3];exact h4)
  have ny:Ar s l k d=0→M6 (Ar s l) l (k+1):=fun h=>hI.step hd h
  unfold Ar at lG ny
  by_cases qc:c8 s d=0
  ·obtain⟨qf,oD⟩:=Yn qc
   rw[qc]at h1
   by_cases lp:(C7 s d.col).kind=2
   ·rw[show u5 s d.col 2=true by unfold u5;rw[decide_eq_true_iff];exact⟨qf,oD,lp⟩]at h2
    repeat'((first|(refine A2 (x:=d) hd (by omega) ?_)|refine A0 h1 ?_|refine A0 h2 ?_|(refine I6 ?_ ?_;kernel_rfl) |refine S2 ?_|(refine T6 ?_ ?_<;>intro h<;>try exact V1 h)|intro el ke kg|intro el ke|exact T4|refine T5 ?_ ?_|intro ex)<;>try conv=>whnf)
    all_goals first
     |(exfalso;omega)
     |skip
    refine D5 (ι:=Nat) (fun j=>⟨[(1,.sl 2 (l.map N7)),(2,.ref 0 0),(5,.i k),(7,.i j)],1,[(0,some (.box (sL s)))]⟩) (fun j=>j≤k∧o9 (fun x=>decide (x.col=d.col)) (l.take k) j) (fun j=>k-j) 0 ⟨Nat.zero_le _,o9.zero _ _⟩
     (B2 h0) (fun j hJ=>?_)
    obtain⟨hj,hJ⟩:=hJ
    have tH:(l.take k).length=k:=by rw[List.length_take];omega
    repeat'((first|(refine A2 (x:=d) hd (by omega) ?_)|(refine I6 ?_ ?_;kernel_rfl) |refine S2 ?_|(refine T6 ?_ ?_<;>intro h<;>try exact V1 h)|intro el ke kg|intro el ke|exact T4|refine T5 ?_ ?_|intro ex)<;>try conv=>whnf)
    all_goals first
     |exact A3 rfl (congrArg AV.i (lG 10 (by rw[if_neg (by omega),if_neg (by omega),if_pos (hJ.hit (x:=el) (by rw[List.getElem?_take,if_pos (by omega)];exact ke) (decide_eq_true (by assumption))).symm]) (by omega)))
     |exact⟨j+1,⟨by omega,hJ.step (x:=el) (by rw[List.getElem?_take,if_pos (by omega)];exact ke) (decide_eq_false (by assumption))⟩,by omega,B2 h0⟩
     |exact⟨k+1,ny (by rw[if_neg (by omega),if_neg (by omega),if_neg (by rw[←hJ.done (by rw[tH];assumption)];exact Bool.false_ne_true)]),by omega,B2 h0⟩
   ·rw[show u5 s d.col 2=false by unfold u5;rw[decide_eq_false_iff_not];omega]at h2
    repeat'((first|(refine A2 (x:=d) hd (by omega) ?_)|refine A0 h1 ?_|refine A0 h2 ?_|(refine I6 ?_ ?_;kernel_rfl) |refine S2 ?_|(refine T6 ?_ ?_<;>intro h<;>try exact V1 h)|intro el ke kg|intro el ke|exact T4|refine T5 ?_ ?_|intro ex)<;>try conv=>whnf)
    all_goals first
     |(exfalso;omega)
     |exact A3 rfl (congrArg AV.i (lG 7 (by rw[if_neg (by omega),if_pos (by omega)]) (by omega)))
  ·repeat'((first|(refine A2 (x:=d) hd (by omega) ?_)|refine A0 h1 ?_|refine A0 h2 ?_|(refine I6 ?_ ?_;kernel_rfl) |refine S2 ?_|(refine T6 ?_ ?_<;>intro h<;>try exact V1 h)|intro el ke kg|intro el ke|exact T4|refine T5 ?_ ?_|intro ex)<;>try conv=>whnf)
   all_goals first
    |(exfalso;omega)
    |exact A3 rfl (congrArg AV.i (lG (c8 s d) (by rw[if_pos (by omega)]) qc))
 ·repeat'((first|refine S2 ?_|(refine T6 ?_ ?_<;>intro h<;>try exact V1 h)|intro el ke kg|intro el ke|exact T4|refine T5 ?_ ?_|intro ex)<;>try conv=>whnf)
  all_goals first
   |(exfalso;omega)
   |exact A3 rfl (congrArg AV.i (hI.done (by omega)).symm)
theorem Tb(s:A5)(m:Int)(l:List Int):A4 Tryz.prog 156 [sA s,.i m,.sl 1 (l.map wA)] (.i (Aa s m l)):=by
 have hi:=fun c=>Lf s c 3
 unfold Aa
 refine D0 Tryz.func156 45 fun ki E h0=>?_
 have kf:l.length≤9223372036854775807:=by
  have:=(ki (.sl 1 (l.map wA)) (by simp)).sl
  simpa using this
 clear ki
 repeat'((first|refine S2 ?_|(refine T6 ?_ ?_<;>intro h<;>try exact V1 h)|intro el ke kg|intro el ke|exact T4|refine T5 ?_ ?_|intro ex)<;>try conv=>whnf)
 all_goals first
  |(rw[if_pos (by omega)];exact A3 rfl rfl)
  |skip
 rw[if_neg (by omega)]
 refine D5 (ι:=Nat) (fun k=>⟨[(1,.i m),(2,.sl 1 (l.map wA)),(3,.ref 0 0),(7,.i k)],1,[(0,some (.box (sL s)))]⟩) (fun k=>M6 (As s m l) l k) (fun k=>l.length-k) 0 (M6.zero _ _)
  (B2 h0) (fun k hI=>?_)
 have lJ:=hI.1
 by_cases kj:k<l.length
 ·obtain⟨c,hc⟩:∃c,l[k]?=some c:=⟨_,List.getElem?_eq_getElem kj⟩
  have h1:=hi c
  have h2:=Ym l k c
  have lG:∀e:Int,As s m l k c=e→¬e=0→e=J1 (As s m l) 0 l:=fun e h3 h4=>by rw[←h3];exact hI.hit hc (by rw[h3];exact h4)
  have ny:As s m l k c=0→M6 (As s m l) l (k+1):=fun h=>hI.step hc h
  unfold As at lG ny
  generalize u5 s c 3=b at *
  generalize ((l.take k).any fun x=>decide (x=c))=u at *
  repeat'((first|(refine A2 (x:=c) hc (by omega) ?_)|refine A0 h1 ?_|refine A0 h2 ?_|(refine I6 ?_ ?_;kernel_rfl) |refine S2 ?_|(refine T6 ?_ ?_<;>intro h<;>try exact V1 h)|intro el ke kg|intro el ke|exact T4|refine T5 ?_ ?_|intro ex)<;>try conv=>whnf)
  all_goals first
   |exact A3 rfl (congrArg AV.i (lG 7 (by rw[if_pos (by assumption)]) (by omega)))
   |exact A3 rfl (congrArg AV.i (lG 10 (by rw[if_neg (by simp[*]),if_pos (.inl (by assumption))]) (by omega)))
   |exact A3 rfl (congrArg AV.i (lG 10 (by rw[if_neg (by simp[*]),if_pos (.inr (by assumption))]) (by omega)))
   |exact⟨k+1,ny (by rw[if_neg (by simp[*]),if_neg (by simp[*])]),by omega,B2 h0⟩
   |(exfalso;omega)
 ·repeat'((first|refine S2 ?_|(refine T6 ?_ ?_<;>intro h<;>try exact V1 h)|intro el ke kg|intro el ke|exact T4|refine T5 ?_ ?_|intro ex)<;>try conv=>whnf)
  all_goals first
   |(exfalso;omega)
   |exact A3 rfl (congrArg AV.i (hI.done (by omega)).symm)
theorem WX(c:A1):A4 Tryz.prog 50 [G9 c,.agg [.i 0,.i 0,.i 0,.i 0,.i 0,.v (.slice none 0 0)]] (.b (decide (a6 c))):=by
 rw[T7]
 refine D0 Tryz.func50 67 fun ki E h0=>?_
 have kf:c.kids.length≤9223372036854775807:=by
  have:=((ki _ (List.mem_cons_self ..)).agg (.sl 6 (c.kids.map I9)) (by simp)).sl
  simpa using this
 clear ki
 repeat'((first|(refine I6 ?_ ?_;kernel_rfl) |refine S2 ?_|(refine T6 ?_ ?_<;>intro h<;>try exact V1 h)|intro el ke kg|intro el ke|exact T4|refine T5 ?_ ?_|intro ex)<;>try conv=>whnf)
 all_goals first
  |exact A3 rfl (congrArg AV.b (decide_eq_false (by omega)).symm)
  |skip
 refine D5 (ι:=Nat) (fun k=>⟨[(2,.ref 0 0),(5,.i k)],1,[(0,some (.box (CJ c)))]⟩) (fun k=>k=0) (fun k=>1-k) 0 rfl
  (B2 h0) (fun k hk=>?_)
 subst hk
 repeat'((first|refine S2 ?_|(refine T6 ?_ ?_<;>intro h<;>try exact V1 h)|intro el ke kg|intro el ke|exact T4|refine T5 ?_ ?_|intro ex)<;>try conv=>whnf)
 all_goals first
  |exact A3 rfl (congrArg AV.b (decide_eq_true (by omega)).symm)
  |(exfalso;omega)
abbrev iw(e:R6):List AV:=[.i e.op,.i 0,.str [],.i 0,.v (.slice none 0 0),.v (.slice none 0 0),.i 0,.i 0,.i 0,.i 0,.i 0,.v (.slice none 0 0),.i 0,.i 0,.i 0,.i 0,.i 0,.v (.slice none 0 0),.v (.slice none 0 0)]
theorem WY(c:A1):A4 Tryz.prog 118 [G9 c] (.b (decide (a6 c))):=by
 have h:=WX c
 refine D0 Tryz.func118 6 fun ki E h0=>?_
 clear ki
 repeat'((first|refine A0 h ?_ |refine S2 ?_|(refine T6 ?_ ?_<;>intro h<;>try exact V1 h)|intro el ke kg|intro el ke|exact T4|refine T5 ?_ ?_|intro ex)<;>try conv=>whnf)
 all_goals first
  |exact A3 rfl rfl
def Nx(s:A5)(q:E3):Int:=if q.kind=1 then (if ¬AB s q.dims=0 then AB s q.dims else if ¬q.mea=-1∧¬W1 s q.mea=3 then 7 else 0)else if ¬W1 s q.mea=3 then 7 else if q.kind=2 then Aa s q.mea q.trms else if (C7 s q.mea).low<0 then 2 else G6 s q.evt
theorem jf{s:A5}{c:Int}{k:Int}(h:W1 s c=k)(hk:¬k=0):∃x,0≤c∧s.cols[c.toNat]?=some x:=by
 unfold W1 at h
 split at h
 ·exact⟨_,by omega,List.getElem?_eq_getElem (by omega)⟩
 ·omega
theorem Tc(s:A5)(q:E3):A4 Tryz.prog 117 [sA s,O9 q] (.i (Nx s q)):=by
 have h1:=Lf s q.mea 3
 have h2:=WW s q.dims
 have h3:=Tb s q.mea q.trms
 have h4:=Bs s q.evt
 rw[JB _ _ _ (by decide)]at h1
 unfold Nx
 generalize AB s q.dims=n1 at *
 generalize Aa s q.mea q.trms=n2 at *
 generalize G6 s q.evt=n3 at *
 by_cases hk:W1 s q.mea=3
 ·obtain⟨x,rQ,hx⟩:=jf hk (by decide)
  rw[D4 hx]
  rw[decide_eq_true hk]at h1
  refine D0 Tryz.func117 53 fun ki E h0=>?_
  clear ki
  repeat'((first|(refine A2 (x:=x) hx (by omega) ?_)|refine A0 h1 ?_|refine A0 h2 ?_|refine A0 h3 ?_|refine A0 h4 ?_|(refine I6 ?_ ?_;kernel_rfl) |refine S2 ?_|(refine T6 ?_ ?_<;>intro h<;>try exact V1 h)|intro el ke kg|intro el ke|exact T4|refine T5 ?_ ?_|intro ex)<;>try conv=>whnf)
  all_goals first
   |(exfalso;omega)
   |exact A3 rfl (congrArg AV.i (by rw[if_pos (by omega),if_pos (by omega)]))
   |exact A3 rfl (congrArg AV.i (by rw[if_pos (by omega),if_neg (by omega),if_neg (by omega)]))
   |exact A3 rfl (congrArg AV.i (by rw[if_neg (by omega),if_neg (by omega),if_pos (by omega)]))
   |exact A3 rfl (congrArg AV.i (by rw[if_neg (by omega),if_neg (by omega),if_neg (by omega),if_pos (by omega)]))
   |exact A3 rfl (congrArg AV.i (by rw[if_neg (by omega),if_neg (by omega),if_neg (by omega),if_neg (by omega)]))
 ·rw[decide_eq_false hk]at h1
  generalize W1 s q.mea=n4 at *
  refine D0 Tryz.func117 53 fun ki E h0=>?_
  clear ki
  repeat'((first|refine A0 h1 ?_|refine A0 h2 ?_|(refine I6 ?_ ?_;kernel_rfl) |refine S2 ?_|(refine T6 ?_ ?_<;>intro h<;>try exact V1 h)|intro el ke kg|intro el ke|exact T4|refine T5 ?_ ?_|intro ex)<;>try conv=>whnf)
  all_goals first
   |(exfalso;omega)
   |exact A3 rfl (congrArg AV.i (by rw[if_pos (by omega),if_pos (by omega)]))
   |exact A3 rfl (congrArg AV.i (by rw[if_pos (by omega),if_neg (by omega),if_pos (by omega)]))
   |exact A3 rfl (congrArg AV.i (by rw[if_pos (by omega),if_neg (by omega),if_neg (by omega)]))
   |exact A3 rfl (congrArg AV.i (by rw[if_neg (by omega),if_pos (by omega)]))
def bw(s:A5)(q:E3):Int:=if ¬C8 s=0 then C8 s else if D8 q.name=false then 3 else if q.kind<1∨3<q.kind then 4 else if ¬G6 s q.flt=0 then G6 s q.flt else if ¬Nx s q=0 then Nx s q else if ¬q.kind=1∧0<q.dims.length∨¬q.kind=2∧0<q.trms.length∨¬q.kind=3∧¬a6 q.evt then 11 else 0
theorem fY(s:A5)(q:E3):bw s q=u6 s q:=by
 unfold bw u6
 by_cases a1:¬C8 s=0
 ·rw[if_pos a1,if_pos a1]
 rw[if_neg a1,if_neg a1]
 by_cases a2:D8 q.name=false
 ·rw[if_pos a2,if_pos a2]
 rw[if_neg a2,if_neg a2]
 by_cases a3:q.kind<1∨3<q.kind
 ·rw[if_pos a3,if_pos a3]
 rw[if_neg a3,if_neg a3]
 by_cases a4:¬G6 s q.flt=0
 ·rw[if_pos a4,if_pos a4]
 rw[if_neg a4,if_neg a4]
 unfold Nx
 by_cases k1:q.kind=1
 ·rw[if_pos k1,if_pos k1]
  unfold JC
  by_cases b1:¬AB s q.dims=0
  ·rw[if_pos b1,if_pos b1,if_pos b1]
  rw[if_neg b1,if_neg b1]
  by_cases b2:¬q.mea=-1∧¬W1 s q.mea=3
  ·rw[if_pos b2,if_pos b2,if_pos (by decide)]
  rw[if_neg b2,if_neg b2,if_neg (by decide)]
  split<;>split<;>first|rfl|(exfalso;omega)
 ·rw[if_neg k1,if_neg k1]
  by_cases b2:¬W1 s q.mea=3
  ·unfold Ho JD
   rw[if_pos b2,if_pos (by decide),if_pos b2,if_pos b2]
   split<;>rfl
  rw[if_neg b2]
  by_cases k2:q.kind=2
  ·rw[if_pos k2,if_pos k2]
   unfold Ho
   rw[if_neg b2]
   by_cases b1:¬Aa s q.mea q.trms=0
   ·rw[if_pos b1,if_pos b1]
   rw[if_neg b1,if_neg b1]
   split<;>split<;>first|rfl|(exfalso;omega)
  ·rw[if_neg k2,if_neg k2]
   unfold JD
   rw[if_neg b2]
   by_cases b3:(C7 s q.mea).low<0
   ·rw[if_pos b3,if_pos b3,if_pos (by decide)]
   rw[if_neg b3,if_neg b3]
   by_cases b1:¬G6 s q.evt=0
   ·rw[if_pos b1,if_pos b1]
   rw[if_neg b1,if_neg b1]
   split<;>split<;>first|rfl|(exfalso;omega)
theorem Td(s:A5)(q:E3):A4 Tryz.prog 76 [sA s,O9 q] (.i (u6 s q)):=by
 rw[←fY]
 have h1:=v7 s
 have h2:=Bx q.name
 have h3:=Bs s q.flt
 have h4:=Tc s q
 have h5:=WY q.evt
 unfold bw
 generalize C8 s=n1 at *
 generalize D8 q.name=b at *
 generalize G6 s q.flt=n2 at *
 generalize Nx s q=n3 at *
 by_cases mJ:a6 q.evt
 ·rw[decide_eq_true mJ]at h5
  refine D0 Tryz.func76 69 fun ki E h0=>?_
  clear ki
  repeat'((first|refine A0 h1 ?_|refine A0 h2 ?_|refine A0 h3 ?_|refine A0 h4 ?_|refine A0 h5 ?_ |refine S2 ?_|(refine T6 ?_ ?_<;>intro h<;>try exact V1 h)|intro el ke kg|intro el ke|exact T4|refine T5 ?_ ?_|intro ex)<;>try conv=>whnf)
  all_goals first
   |(exfalso;omega)
   |exact A3 rfl (congrArg AV.i (by rw[if_pos (by omega)]))
   |exact A3 rfl (congrArg AV.i (by rw[if_neg (by omega),if_pos (by assumption)]))
   |exact A3 rfl (congrArg AV.i (by rw[if_neg (by omega),if_neg (fun h=>Bool.false_ne_true (h.symm.trans (show b=true by assumption))),if_pos (by omega)]))
   |exact A3 rfl (congrArg AV.i (by rw[if_neg (by omega),if_neg (fun h=>Bool.false_ne_true (h.symm.trans (show b=true by assumption))),if_neg (by omega),if_pos (by omega)]))
   |exact A3 rfl (congrArg AV.i (by rw[if_neg (by omega),if_neg (fun h=>Bool.false_ne_true (h.symm.trans (show b=true by assumption))),if_neg (by omega),if_neg (by omega),if_pos (by omega)]))
   |exact A3 rfl (congrArg AV.i (by rw[if_neg (by omega),if_neg (fun h=>Bool.false_ne_true (h.symm.trans (show b=true by assumption))),if_neg (by omega),if_neg (by omega),if_neg (by omega),if_pos (by omega)]))
   |exact A3 rfl (congrArg AV.i (by rw[if_neg (by omega),if_neg (fun h=>Bool.false_ne_true (h.symm.trans (show b=true by assumption))),if_neg (by omega),if_neg (by omega),if_neg (by omega),if_neg (by omega)]))
 ·rw[decide_eq_false mJ]at h5
  have lM:¬q.evt.op=0∨¬q.evt.col=0∨¬q.evt.code=0∨¬q.evt.lo=0∨¬q.evt.hi=0∨¬q.evt.kids.length=0:=by omega
  refine D0 Tryz.func76 69 fun ki E h0=>?_
  clear ki
  repeat'((first|refine A0 h1 ?_|refine A0 h2 ?_|refine A0 h3 ?_|refine A0 h4 ?_|refine A0 h5 ?_ |refine S2 ?_|(refine T6 ?_ ?_<;>intro h<;>try exact V1 h)|intro el ke kg|intro el ke|exact T4|refine T5 ?_ ?_|intro ex)<;>try conv=>whnf)
  all_goals first
   |(exfalso;clear mJ lM;omega)
   |exact A3 rfl (congrArg AV.i (by rw[if_pos (by clear mJ lM;omega)]))
   |exact A3 rfl (congrArg AV.i (by rw[if_neg (by clear mJ lM;omega),if_pos (by assumption)]))
   |exact A3 rfl (congrArg AV.i (by rw[if_neg (by clear mJ lM;omega),if_neg (fun h=>Bool.false_ne_true (h.symm.trans (show b=true by assumption))),if_pos (by clear mJ lM;omega)]))
   |exact A3 rfl (congrArg AV.i (by rw[if_neg (by clear mJ lM;omega),if_neg (fun h=>Bool.false_ne_true (h.symm.trans (show b=true by assumption))),if_neg (by clear mJ lM;omega),if_pos (by clear mJ lM;omega)]))
   |exact A3 rfl (congrArg AV.i (by rw[if_neg (by clear mJ lM;omega),if_neg (fun h=>Bool.false_ne_true (h.symm.trans (show b=true by assumption))),if_neg (by clear mJ lM;omega),if_neg (by clear mJ lM;omega),if_pos (by clear mJ lM;omega)]))
   |exact A3 rfl (congrArg AV.i (by rw[if_neg (by clear mJ lM;omega),if_neg (fun h=>Bool.false_ne_true (h.symm.trans (show b=true by assumption))),if_neg (by clear mJ lM;omega),if_neg (by clear mJ lM;omega),if_neg (by clear mJ lM;omega),if_pos (.inl ⟨by clear mJ lM;omega,by clear mJ lM;omega⟩)]))
   |exact A3 rfl (congrArg AV.i (by rw[if_neg (by clear mJ lM;omega),if_neg (fun h=>Bool.false_ne_true (h.symm.trans (show b=true by assumption))),if_neg (by clear mJ lM;omega),if_neg (by clear mJ lM;omega),if_neg (by clear mJ lM;omega),if_pos (.inr (.inl ⟨by clear mJ lM;omega,by clear mJ lM;omega⟩))]))
   |exact A3 rfl (congrArg AV.i (by rw[if_neg (by clear mJ lM;omega),if_neg (fun h=>Bool.false_ne_true (h.symm.trans (show b=true by assumption))),if_neg (by clear mJ lM;omega),if_neg (by clear mJ lM;omega),if_neg (by clear mJ lM;omega),if_pos (.inr (.inr ⟨by clear mJ lM;omega,mJ⟩))]))
   |exact A3 rfl (congrArg AV.i (by rw[if_neg (by clear mJ lM;omega),if_neg (fun h=>Bool.false_ne_true (h.symm.trans (show b=true by assumption))),if_neg (by clear mJ lM;omega),if_neg (by clear mJ lM;omega),if_neg (by clear mJ lM;omega),if_neg (by omega)]))
theorem Jj(s:A5)(d:G0):A4 Tryz.prog 40 [sA s,R3 d] (.i (j8 s d)):=by
 have h1:=v7 s
 have h2:=Bx d.prj
 have h3:=Bx d.src
 have h4:=Bs s d.coh
 have hq:=fun x=>Td s x
 unfold j8
 generalize C8 s=n1 at *
 generalize D8 d.prj=b1 at *
 generalize D8 d.src=b2 at *
 generalize G6 s d.coh=n2 at *
 refine D0 Tryz.func40 110 fun ki E h0=>?_
 have kf:d.qs.length≤9223372036854775807:=by
  have:=((ki (R3 d) (by simp)).agg (.sl 17 (d.qs.map C0)) (by simp)).sl
  simpa using this
 clear ki
 repeat'((first|refine A0 h1 ?_|refine A0 h2 ?_|refine A0 h3 ?_|refine A0 h4 ?_ |refine S2 ?_|(refine T6 ?_ ?_<;>intro h<;>try exact V1 h)|intro el ke kg|intro el ke|exact T4|refine T5 ?_ ?_|intro ex)<;>try conv=>whnf)
 all_goals first
  |(exfalso;omega)
  |exact A3 rfl (congrArg AV.i (by rw[if_pos (by omega)]))
  |exact A3 rfl (congrArg AV.i (by rw[if_neg (by omega),if_pos (.inl (by assumption))]))
  |exact A3 rfl (congrArg AV.i (by rw[if_neg (by omega),if_pos (.inr (by assumption))]))
  |exact A3 rfl (congrArg AV.i (by rw[if_neg (by omega),if_neg (fun h=>h.elim (fun h=>Bool.false_ne_true (h.symm.trans (show b1=true by assumption))) (fun h=>Bool.false_ne_true (h.symm.trans (show b2=true by assumption)))),if_pos (by omega)]))
  |exact A3 rfl (congrArg AV.i (by rw[if_neg (by omega),if_neg (fun h=>h.elim (fun h=>Bool.false_ne_true (h.symm.trans (show b1=true by assumption))) (fun h=>Bool.false_ne_true (h.symm.trans (show b2=true by assumption)))),if_neg (by omega),if_pos (by omega)]))
  |exact A3 rfl (congrArg AV.i (by rw[if_neg (by omega),if_neg (fun h=>h.elim (fun h=>Bool.false_ne_true (h.symm.trans (show b1=true by assumption))) (fun h=>Bool.false_ne_true (h.symm.trans (show b2=true by assumption)))),if_neg (by omega),if_neg (by omega),if_pos (by omega)]))
  |skip
 rw[if_neg (by omega),if_neg (fun h=>h.elim (fun h=>Bool.false_ne_true (h.symm.trans (show b1=true by assumption))) (fun h=>Bool.false_ne_true (h.symm.trans (show b2=true by assumption)))),if_neg (by omega),if_neg (by omega),if_neg (by omega)]
 clear h1 h2 h3 h4
 refine D5 (ι:=Nat) (fun k=>⟨[(2,.ref 0 0),(3,.ref 1 0),(8,.i k)],2,[(0,some (.box (sL s))),(1,some (.box (FZ d)))]⟩) (fun k=>M6 (Dh s d.qs) d.qs k) (fun k=>d.qs.length-k) 0 (M6.zero _ _)
  (B2 h0) (fun k hI=>?_)
 have lJ:=hI.1
 by_cases kj:k<d.qs.length
 ·obtain⟨x,hx⟩:∃x,d.qs[k]?=some x:=⟨_,List.getElem?_eq_getElem kj⟩
  have h1:=hq x
  have lG:∀e:Int,Dh s d.qs k x=e→¬e=0→e=J1 (Dh s d.qs) 0 d.qs:=fun e h3 h4=>by rw[←h3];exact hI.hit hx (by rw[h3];exact h4)
  have ny:Dh s d.qs k x=0→M6 (Dh s d.qs) d.qs (k+1):=fun h=>hI.step hx h
  unfold Dh at lG ny
  generalize u6 s x=n at *
  repeat'((first|(refine A2 (x:=x) hx (by omega) ?_)|refine A0 h1 ?_|(refine I6 ?_ ?_;kernel_rfl) |refine S2 ?_|(refine T6 ?_ ?_<;>intro h<;>try exact V1 h)|intro el ke kg|intro el ke|exact T4|refine T5 ?_ ?_|intro ex)<;>try conv=>whnf)
  all_goals first
   |exact A3 rfl (congrArg AV.i (lG n (by rw[if_pos (by omega)]) (by omega)))
   |(exfalso;omega)
   |skip
  refine D5 (ι:=Nat) (fun j=>⟨[(2,.ref 0 0),(3,.ref 1 0),(8,.i k),(10,.i j)],2,[(0,some (.box (sL s))),(1,some (.box (FZ d)))]⟩) (fun j=>j≤k∧o9 (fun y=>decide (y.name=x.name)) (d.qs.take k) j) (fun j=>k-j) 0 ⟨Nat.zero_le _,o9.zero _ _⟩
   (B2 h0) (fun j hJ=>?_)
  obtain⟨hj,hJ⟩:=hJ
  have tH:(d.qs.take k).length=k:=by rw[List.length_take];omega
  repeat'((first|(refine A2 (x:=x) hx (by omega) ?_)|(refine I6 ?_ ?_;kernel_rfl) |refine S2 ?_|(refine T6 ?_ ?_<;>intro h<;>try exact V1 h)|intro el ke kg|intro el ke|exact T4|refine T5 ?_ ?_|intro ex)<;>try conv=>whnf)
  all_goals first
   |exact A3 rfl (congrArg AV.i (lG 10 (by rw[if_neg (by omega),if_pos (hJ.hit (x:=el) (by rw[List.getElem?_take,if_pos (by omega)];exact ke) (decide_eq_true (by assumption))).symm]) (by omega)))
   |exact⟨j+1,⟨by omega,hJ.step (x:=el) (by rw[List.getElem?_take,if_pos (by omega)];exact ke) (decide_eq_false (by assumption))⟩,by omega,B2 h0⟩
   |exact⟨k+1,ny (by rw[if_neg (by omega),if_neg (by rw[←hJ.done (by rw[tH];assumption)];exact Bool.false_ne_true)]),by omega,B2 h0⟩
 ·repeat'((first|refine S2 ?_|(refine T6 ?_ ?_<;>intro h<;>try exact V1 h)|intro el ke kg|intro el ke|exact T4|refine T5 ?_ ?_|intro ex)<;>try conv=>whnf)
  all_goals first
   |(exfalso;omega)
   |exact A3 rfl (congrArg AV.i (hI.done (by omega)).symm)
end Go.Proofs.YtkcekccdcpmekaaGreatDoor
