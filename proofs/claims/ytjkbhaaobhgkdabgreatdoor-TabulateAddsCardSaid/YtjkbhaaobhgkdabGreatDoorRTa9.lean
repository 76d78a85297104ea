/- Chapter 16: the reference's parts of expressions. Chapter 16: the reference's check of expressions. Chapter 16: the reference's Right. -/
import Derived.Test.YtjkbhaaobhgkdabGreatDoorRF1
import Derived.Test.YtjkbhaaobhgkdabGreatDoorRTa2
import Derived.Test.YtjkbhaaobhgkdabGreatDoorRCe3
set_option linter.unusedVariables false
set_option linter.unnecessarySimpa false
set_option linter.unusedSimpArgs false
set_option maxHeartbeats 64000000
namespace Go.Proofs.YtjkbhaaobhgkdabGreatDoor
open Go Go.Av
attribute [local irreducible] D0 B0 D2 C7 DQ D1 C8 St.le A3 B6
set_option maxRecDepth 100000
theorem MP(s:A4)(col kind:Int):A3 Tryz.prog 192 [sA s,.i col,.i kind] (.b (P1 s col kind)):=by
 refine C0 Tryz.func192 26 fun nQ E h0=>?_
 clear nQ
 repeat'((first|refine S2 ?_|(refine T6 ?_ ?_<;>intro h<;>try exact V1 h)|intro el nN nP|intro el nN|exact T4|refine T5 ?_ ?_|intro ex)<;>try conv=>whnf)
 all_goals first
  |exact A0 rfl (congrArg AV.b (by unfold P1;rw[decide_eq_false (by omega)]))
  |exact A0 rfl (congrArg AV.b (by unfold P1;rw[B7 nN,decide_eq_decide];omega))
theorem Qj(l:List Int)(v:Int):A3 Tryz.prog 199 [.sl 1 (l.map wA),.i v] (.b (l.any fun x=>decide (x=v))):=by
 refine C0 Tryz.func199 18 fun nQ E h0=>?_
 have nO:l.length≤9223372036854775807:=by
  have:=(nQ (.sl 1 (l.map wA)) (by simp)).sl
  simpa using this
 clear nQ
 repeat'((first|refine S2 ?_|(refine T6 ?_ ?_<;>intro h<;>try exact V1 h)|intro el nN nP|intro el nN|exact T4|refine T5 ?_ ?_|intro ex)<;>try conv=>whnf)
 refine B2 (ι:=Nat) (fun k=>⟨[(0,.sl 1 (l.map wA)),(1,.i v),(5,.i k)],0,[]⟩) (fun k=>R0 (fun x=>decide (x=v)) l k) (fun k=>l.length-k) 0 (R0.zero _ _)
  (A6 h0) (fun k hI=>?_)
 have nZ:=hI.1
 repeat'((first|(refine B8 ?_ ?_;kernel_rfl) |refine S2 ?_|(refine T6 ?_ ?_<;>intro h<;>try exact V1 h)|intro el nN nP|intro el nN|exact T4|refine T5 ?_ ?_|intro ex)<;>try conv=>whnf)
 all_goals first
  |exact A0 rfl (congrArg AV.b (hI.hit nN (by rw[decide_eq_true_iff];assumption)))
  |exact A0 rfl (congrArg AV.b (hI.done (by assumption)))
  |exact⟨k+1,hI.step nN (by rw[decide_eq_false_iff_not];assumption),by omega,A6 h0⟩
theorem ba(l:List Int)(k:Nat)(v:Int):A3 Tryz.prog 199 [.sl 1 ((l.map wA).take k),.i v] (.b ((l.take k).any fun x=>decide (x=v))):=by
 have h:=Qj (l.take k) v
 rw[List.map_take]at h
 exact h
theorem Qk{s:A4}{p:Pk}(h:I4 s p=0):0≤p.col∧p.col<s.cols.length:=by
 unfold I4 l8 F0 at h
 by_cases hc:p.col<1∨(s.cols.length:Int)≤p.col
 ·rw[if_pos hc]at h
  split at h
  ·rw[if_pos (show (-1:Int)<0 by omega)]at h
   omega
  ·exact absurd h (by assumption)
 ·omega
theorem Yw(s:A4)(l:List Pk):A3 Tryz.prog 193 [sA s,.sl 2 (l.map B5)] (.i (L0 s l)):=by
 have hp:=fun d=>Nt s d
 have hi:=fun c=>MP s c 2
 unfold L0
 refine C0 Tryz.func193 55 fun nQ E h0=>?_
 have nO:l.length≤9223372036854775807:=by
  have:=(nQ (.sl 2 (l.map B5)) (by simp)).sl
  simpa using this
 clear nQ
 repeat'((first|refine S2 ?_|(refine T6 ?_ ?_<;>intro h<;>try exact V1 h)|intro el nN nP|intro el nN|exact T4|refine T5 ?_ ?_|intro ex)<;>try conv=>whnf)
 all_goals first
  |(rw[if_pos (by omega)];exact A0 rfl rfl)
  |skip
 rw[if_neg (by omega)]
 refine B2 (ι:=Nat) (fun k=>⟨[(1,.sl 2 (l.map B5)),(2,.ref 0 0),(5,.i k)],1,[(0,some (.box (sL s)))]⟩) (fun k=>F1 (P9 s l) l k) (fun k=>l.length-k) 0 (F1.zero _ _)
  (A6 h0) (fun k hI=>?_)
 have nZ:=hI.1
 by_cases nR:k<l.length
 ·obtain⟨d,hd⟩:∃d,l[k]?=some d:=⟨_,List.getElem?_eq_getElem nR⟩
  have h1:=hp d
  have h2:=hi d.col
  have nf:∀e:Int,P9 s l k d=e→¬e=0→e=E8 (P9 s l) 0 l:=fun e h3 h4=>by rw[←h3];exact hI.hit hd (by rw[h3];exact h4)
  have pm:P9 s l k d=0→F1 (P9 s l) l (k+1):=fun h=>hI.step hd h
  unfold P9 at nf pm
  by_cases qE:I4 s d=0
  ·obtain⟨qv,qC⟩:=Qk qE
   rw[qE]at h1
   by_cases ni:(B4 s d.col).kind=2
   ·rw[show P1 s d.col 2=true by unfold P1;rw[decide_eq_true_iff];exact⟨qv,qC,ni⟩]at h2
    repeat'((first|(refine A2 (x:=d) hd (by omega) ?_)|refine A1 h1 ?_|refine A1 h2 ?_|(refine B8 ?_ ?_;kernel_rfl) |refine S2 ?_|(refine T6 ?_ ?_<;>intro h<;>try exact V1 h)|intro el nN nP|intro el nN|exact T4|refine T5 ?_ ?_|intro ex)<;>try conv=>whnf)
    all_goals first
     |(exfalso;omega)
     |skip
    refine B2 (ι:=Nat) (fun j=>⟨[(1,.sl 2 (l.map B5)),(2,.ref 0 0),(5,.i k),(7,.i j)],1,[(0,some (.box (sL s)))]⟩) (fun j=>j≤k∧R0 (fun x=>decide (x.col=d.col)) (l.take k) j) (fun j=>k-j) 0 ⟨Nat.zero_le _,R0.zero _ _⟩
     (A6 h0) (fun j hJ=>?_)
    obtain⟨hj,hJ⟩:=hJ
    have wE:(l.take k).length=k:=by rw[List.length_take];omega
    repeat'((first|(refine A2 (x:=d) hd (by omega) ?_)|(refine B8 ?_ ?_;kernel_rfl) |refine S2 ?_|(refine T6 ?_ ?_<;>intro h<;>try exact V1 h)|intro el nN nP|intro el nN|exact T4|refine T5 ?_ ?_|intro ex)<;>try conv=>whnf)
    all_goals first
     |exact A0 rfl (congrArg AV.i (nf 10 (by rw[if_neg (by omega),if_neg (by omega),if_pos (hJ.hit (x:=el) (by rw[List.getElem?_take,if_pos (by omega)];exact nN) (decide_eq_true (by assumption))).symm]) (by omega)))
     |exact⟨j+1,⟨by omega,hJ.step (x:=el) (by rw[List.getElem?_take,if_pos (by omega)];exact nN) (decide_eq_false (by assumption))⟩,by omega,A6 h0⟩
     |exact⟨k+1,pm (by rw[if_neg (by omega),if_neg (by omega),if_neg (by rw[←hJ.done (by rw[wE];assumption)];exact Bool.false_ne_true)]),by omega,A6 h0⟩
   ·rw[show P1 s d.col 2=false by unfold P1;rw[decide_eq_false_iff_not];omega]at h2
    repeat'((first|(refine A2 (x:=d) hd (by omega) ?_)|refine A1 h1 ?_|refine A1 h2 ?_|(refine B8 ?_ ?_;kernel_rfl) |refine S2 ?_|(refine T6 ?_ ?_<;>intro h<;>try exact V1 h)|intro el nN nP|intro el nN|exact T4|refine T5 ?_ ?_|intro ex)<;>try conv=>whnf)
    all_goals first
     |(exfalso;omega)
     |exact A0 rfl (congrArg AV.i (nf 7 (by rw[if_neg (by omega),if_pos (by omega)]) (by omega)))
  ·repeat'((first|(refine A2 (x:=d) hd (by omega) ?_)|refine A1 h1 ?_|refine A1 h2 ?_|(refine B8 ?_ ?_;kernel_rfl) |refine S2 ?_|(refine T6 ?_ ?_<;>intro h<;>try exact V1 h)|intro el nN nP|intro el nN|exact T4|refine T5 ?_ ?_|intro ex)<;>try conv=>whnf)
   all_goals first
    |(exfalso;omega)
    |exact A0 rfl (congrArg AV.i (nf (I4 s d) (by rw[if_pos (by omega)]) qE))
 ·repeat'((first|refine S2 ?_|(refine T6 ?_ ?_<;>intro h<;>try exact V1 h)|intro el nN nP|intro el nN|exact T4|refine T5 ?_ ?_|intro ex)<;>try conv=>whnf)
  all_goals first
   |(exfalso;omega)
   |exact A0 rfl (congrArg AV.i (hI.done (by omega)).symm)
theorem Vi(s:A4)(m:Int)(l:List Int):A3 Tryz.prog 194 [sA s,.i m,.sl 1 (l.map wA)] (.i (W2 s m l)):=by
 have hi:=fun c=>MP s c 3
 unfold W2
 refine C0 Tryz.func194 45 fun nQ E h0=>?_
 have nO:l.length≤9223372036854775807:=by
  have:=(nQ (.sl 1 (l.map wA)) (by simp)).sl
  simpa using this
 clear nQ
 repeat'((first|refine S2 ?_|(refine T6 ?_ ?_<;>intro h<;>try exact V1 h)|intro el nN nP|intro el nN|exact T4|refine T5 ?_ ?_|intro ex)<;>try conv=>whnf)
 all_goals first
  |(rw[if_pos (by omega)];exact A0 rfl rfl)
  |skip
 rw[if_neg (by omega)]
 refine B2 (ι:=Nat) (fun k=>⟨[(1,.i m),(2,.sl 1 (l.map wA)),(3,.ref 0 0),(7,.i k)],1,[(0,some (.box (sL s)))]⟩) (fun k=>F1 (V7 s m l) l k) (fun k=>l.length-k) 0 (F1.zero _ _)
  (A6 h0) (fun k hI=>?_)
 have nZ:=hI.1
 by_cases nR:k<l.length
 ·obtain⟨c,hc⟩:∃c,l[k]?=some c:=⟨_,List.getElem?_eq_getElem nR⟩
  have h1:=hi c
  have h2:=ba l k c
  have nf:∀e:Int,V7 s m l k c=e→¬e=0→e=E8 (V7 s m l) 0 l:=fun e h3 h4=>by rw[←h3];exact hI.hit hc (by rw[h3];exact h4)
  have pm:V7 s m l k c=0→F1 (V7 s m l) l (k+1):=fun h=>hI.step hc h
  unfold V7 at nf pm
  generalize P1 s c 3=b at *
  generalize ((l.take k).any fun x=>decide (x=c))=u at *
  repeat'((first|(refine A2 (x:=c) hc (by omega) ?_)|refine A1 h1 ?_|refine A1 h2 ?_|(refine B8 ?_ ?_;kernel_rfl) |refine S2 ?_|(refine T6 ?_ ?_<;>intro h<;>try exact V1 h)|intro el nN nP|intro el nN|exact T4|refine T5 ?_ ?_|intro ex)<;>try conv=>whnf)
  all_goals first
   |exact A0 rfl (congrArg AV.i (nf 7 (by rw[if_pos (by assumption)]) (by omega)))
   |exact A0 rfl (congrArg AV.i (nf 10 (by rw[if_neg (by simp[*]),if_pos (.inl (by assumption))]) (by omega)))
   |exact A0 rfl (congrArg AV.i (nf 10 (by rw[if_neg (by simp[*]),if_pos (.inr (by assumption))]) (by omega)))
   |exact⟨k+1,pm (by rw[if_neg (by simp[*]),if_neg (by simp[*])]),by omega,A6 h0⟩
   |(exfalso;omega)
 ·repeat'((first|refine S2 ?_|(refine T6 ?_ ?_<;>intro h<;>try exact V1 h)|intro el nN nP|intro el nN|exact T4|refine T5 ?_ ?_|intro ex)<;>try conv=>whnf)
  all_goals first
   |(exfalso;omega)
   |exact A0 rfl (congrArg AV.i (hI.done (by omega)).symm)
theorem Yx(c:B1):A3 Tryz.prog 195 [E7 c,.agg [.i 0,.i 0,.i 0,.i 0,.i 0,.v (.slice none 0 0)]] (.b (decide (V6 c))):=by
 rw[F8]
 refine C0 Tryz.func195 67 fun nQ E h0=>?_
 have nO:c.kids.length≤9223372036854775807:=by
  have:=((nQ _ (List.mem_cons_self ..)).agg (.sl 6 (c.kids.map K2)) (by simp)).sl
  simpa using this
 clear nQ
 repeat'((first|(refine B8 ?_ ?_;kernel_rfl) |refine S2 ?_|(refine T6 ?_ ?_<;>intro h<;>try exact V1 h)|intro el nN nP|intro el nN|exact T4|refine T5 ?_ ?_|intro ex)<;>try conv=>whnf)
 all_goals first
  |exact A0 rfl (congrArg AV.b (decide_eq_false (by omega)).symm)
  |skip
 refine B2 (ι:=Nat) (fun k=>⟨[(2,.ref 0 0),(5,.i k)],1,[(0,some (.box (O4 c)))]⟩) (fun k=>k=0) (fun k=>1-k) 0 rfl
  (A6 h0) (fun k hk=>?_)
 subst hk
 repeat'((first|refine S2 ?_|(refine T6 ?_ ?_<;>intro h<;>try exact V1 h)|intro el nN nP|intro el nN|exact T4|refine T5 ?_ ?_|intro ex)<;>try conv=>whnf)
 all_goals first
  |exact A0 rfl (congrArg AV.b (decide_eq_true (by omega)).symm)
  |(exfalso;omega)
abbrev lO(e:G0):List AV:=[.i e.op,.i 0,.str [],.i 0,.v (.slice none 0 0),.v (.slice none 0 0),.i 0,.i 0,.i 0,.i 0,.i 0,.v (.slice none 0 0),.i 0,.i 0,.i 0,.i 0,.i 0,.v (.slice none 0 0),.v (.slice none 0 0)]
theorem UD(l:List Int)(hl:l.length≤1000000):B6 Tryz.prog 62 0 [] [.sl 1 (l.map wA)] 1 [(0,some (.row 3 1 0 (l.map wA)))] (.row 0 0 l.length):=by
 refine X6 Tryz.func62 8 fun E h0=>?_
 repeat'((first|(refine Nv rfl rfl rfl (fun b hb=>?_);cases b)|refine Y6 (T:=30) rfl ?_ |refine S2 ?_|(refine T6 ?_ ?_<;>intro h<;>try exact V1 h)|intro el nN nP|intro el nN|exact T4|refine T5 ?_ ?_|intro ex)<;>try conv=>whnf)
 all_goals first
  |(exfalso;omega)
  |exact G9 (A8 h0 rfl ⟨congrArg (fun z:Nat=>some (AV.row 0 0 z)) (by simp),trivial⟩ ⟨⟨_,congrArg (C9.row 3 1 _) (by simp[M0])⟩,trivial⟩ rfl rfl rfl)
  |(have e:=List.map_eq_nil_iff.1 (hb rfl);subst e;exact G9 (C2 (K4 (d:=2) (e:=3) (sz:=1) rfl) (A6 h0)))
theorem Lb(l:List Pk)(hl:l.length≤1000000):A3 Tryz.prog 24 [.sl 2 (l.map B5)] (.sl 2 (l.map B5)):=by
 refine C0 Tryz.func24 8 fun nQ E h0=>?_
 clear nQ
 repeat'((first|(refine Nv rfl rfl rfl (fun b hb=>?_);cases b)|refine Y6 (T:=33) rfl ?_ |refine S2 ?_|(refine T6 ?_ ?_<;>intro h<;>try exact V1 h)|intro el nN nP|intro el nN|exact T4|refine T5 ?_ ?_|intro ex)<;>try conv=>whnf)
 all_goals first
  |(exfalso;omega)
  |exact A0 rfl rfl
  |(have e:=List.map_eq_nil_iff.1 (hb rfl);subst e;exact AC rfl rfl)
def j6(s:A4)(d:Pk):List Int:=-1::(H6 (C1 s (B4 s d.col)).1 (C1 s (B4 s d.col)).2 d.lev).map fun n:Nat=>(n:Int)
def AQ(own:List Int)(out:List (List Int)):List (List Int):=out.flatMap fun l=>own.map fun c=>l++[c]
def V8(s:A4):List Pk→List (List Int)→Option (List (List Int))
 |[],out=>some out
 |d::r,out=>if 2000<out.length*(j6 s d).length then none else V8 s r (AQ (j6 s d) out)
abbrev mz(o:Option (List (List Int))):AV:=.tup [.sl 1 ((o.getD []).map H1),.b o.isSome]
theorem CD(own:List Int):∀out:List (List Int),(AQ own out).length=out.length*own.length
 |[]=>by simp[AQ]
 |a::r=>by
  have:=CD own r
  unfold AQ at this ⊢
  rw[List.flatMap_cons,List.length_append,this,List.length_map,List.length_cons,Nat.succ_mul,Nat.add_comm]
theorem bb{own:List Int}{out:List (List Int)}{k:Nat}{l:List Int}(h:out[k]?=some l):AQ own (out.take (k+1))=AQ own (out.take k)++own.map fun c=>l++[c]:=by
 rw[I3 h]
 unfold AQ
 rw[List.flatMap_append]
 simp
theorem UE{own:List Int}{out:List (List Int)}{x:List Int}(h:x∈AQ own out):∃l∈out,x.length=l.length+1:=by
 unfold AQ at h
 rw[List.mem_flatMap]at h
 obtain⟨l,h1,h2⟩:=h
 rw[List.mem_map]at h2
 obtain⟨c,_,rfl⟩:=h2
 exact⟨l,h1,by simp⟩
theorem Ql{s:A4}(hr:C5 s=0){d:Pk}(h1:I4 s d=0)(h2:(B4 s d.col).kind=2):∃x L,s.cols[d.col.toNat]?=some x∧B4 s d.col=x∧1≤d.col∧(0≤x.lst∧x.lst<s.lists.length)∧s.lists[x.lst.toNat]?=some L∧C1 s x=L∧chk L.1 L.2=0:=by
 obtain⟨h3,h4⟩:=Qk h1
 obtain⟨x,hx⟩:∃x,s.cols[d.col.toNat]?=some x:=⟨_,List.getElem?_eq_getElem (by omega)⟩
 have nh:B4 s d.col=x:=B7 hx
 have h5:1≤d.col:=by
  unfold I4 l8 F0 at h1
  rw[if_pos hr]at h1
  by_cases hc:d.col<1∨(s.cols.length:Int)≤d.col
  ·rw[if_pos hc]at h1;cases h1
  ·omega
 rw[nh]at h2
 rcases CR hr h5 hx with h6|h6
 ·obtain⟨L,hL⟩:∃L,s.lists[x.lst.toNat]?=some L:=⟨_,List.getElem?_eq_getElem (by omega)⟩
  exact⟨x,L,hx,nh,h5,h6.2,hL,D3 hL,(F2 hr).2.2.1 L (List.mem_of_getElem? hL)⟩
 ·omega
theorem lP{P:Program}{E:Env}{n:Nat}{ops:Array Oper}{rest:List Oper}{σ:St}{K:St→Prop}{d:Option Nat}{T m t:Nat}{ty:TypeId}{pos:String}{after:Array Edge}{i ver len:Nat}(hx:Go.Av.look σ.sl t=some (.row i ver len))(h:B0 P E n ops (⟨d,.buildSlice T m #[(0,.tmp t)],ty,pos,after,none⟩::rest) (σ.frz i) K):
  B0 P E n ops (⟨d,.buildSlice T m #[(0,.tmp t)],ty,pos,after,none⟩::rest) σ K:=Ex (Gk i) h
theorem Fc(s:A4)(hr:C5 s=0)(dims:List Pk)(qI:dims.length≤3)(hd:∀d∈dims,I4 s d=0∧(B4 s d.col).kind=2):A3 Tryz.prog 23 [sA s,.sl 2 (dims.map B5)] (mz (V8 s dims [[]])):=by
 generalize hR:V8 s dims [[]]=R
 refine C0 Tryz.func23 69 fun nQ E h0=>?_
 clear nQ
 repeat'((first|refine Y6 (T:=29) rfl ?_ |refine S2 ?_|(refine T6 ?_ ?_<;>intro h<;>try exact V1 h)|intro el nN nP|intro el nN|exact T4|refine T5 ?_ ?_|intro ex)<;>try conv=>whnf)
 all_goals first
  |(exfalso;omega)
  |skip
 refine B2 (ι:=Nat×List (List Int)) (fun x=>⟨[(2,.iptr (sL s)),(6,.sl 1 (x.2.map H1)),(16,.sl 2 (dims.map B5)),(17,.i dims.length),(18,.i x.1)],0,[]⟩)
  (fun x=>x.1≤dims.length∧V8 s (dims.drop x.1) x.2=R∧x.2.length≤2000∧∀l∈x.2,l.length≤x.1) (fun x=>dims.length-x.1) (0,[[]]) ⟨Nat.zero_le _,hR,by decide,fun l hl=>by simp at hl;subst hl;exact Nat.le_refl _⟩
  (C2 (YR 1 [[.sl 1 []]] rfl ⟨⟨.nil 1,trivial⟩,trivial⟩) (A6 h0)) (fun x hI=>?_)
 obtain⟨k,out⟩:=x
 obtain⟨i1,i2,i3,i4⟩:=hI
 dsimp only at i1 i2 i3 i4 ⊢
 by_cases nZ:k<dims.length
 ·obtain⟨d,zT⟩:∃d,dims[k]?=some d:=⟨_,List.getElem?_eq_getElem nZ⟩
  have xh:dims[((k:Nat):Int).toNat]?=some d:=zT
  obtain⟨uL,ru⟩:=hd d (List.mem_of_getElem? zT)
  obtain⟨x,L,hx,nh,uJ,⟨xw,qb⟩,hL,rI,zm⟩:=Ql hr uL ru
  obtain⟨nm,cs⟩:=L
  have oe:=(H9 zm).2.2
  have qB:=Gs nm cs d.lev (by dsimp only at oe;omega)
  have nT:(j6 s d).map wA=[[.i (-1)]]++(H6 nm cs d.lev).map iA:=by unfold j6;rw[nh,rI,List.map_cons,List.map_map];rfl
  have rQ:(j6 s d).length=(H6 nm cs d.lev).length+1:=by unfold j6;rw[nh,rI];simp
  have si:(H6 nm cs d.lev).length≤cs.length:=by unfold H6;split<;>first|exact Gr _ _ _|exact Nat.zero_le _
  dsimp only at oe
  rw[G6 zT,V8]at i2
  generalize j6 s d=own at *
  generalize H6 nm cs d.lev=atl at *
  have qu:out.length*own.length≤2000*61:=Nat.mul_le_mul i3 (by omega)
  by_cases hbig:2000<out.length*own.length
  ·rw[if_pos hbig]at i2
   subst i2
   repeat'((first|(refine G3 5 ?_;refine P5 (id:=5) (σ':=⟨[(2,.iptr (sL s)),(6,.sl 1 (out.map H1)),(8,.iptr (B5 d)),(16,.sl 2 (dims.map B5)),(17,.i dims.length),(18,.i k)],0,[]⟩) (A6 h0) ?_;refine H4 (id:=5) ⟨[(6,.sl 1 (out.map H1)),(9,.sl 1 (own.map wA))],0,[]⟩ ?_ ?_)|(refine Cz ?_ ?_ ?_;kernel_rfl;kernel_rfl)|refine Y6 (T:=30) rfl ?_|(refine A2 (x:=d) xh (by omega) ?_)|(refine A2 (x:=x) hx (by omega) ?_)|(refine A2 (x:=(nm,cs)) hL (by omega) ?_)|refine A1 qB ?_ |refine S2 ?_|(refine T6 ?_ ?_<;>intro h<;>try exact V1 h)|intro el nN nP|intro el nN|exact T4|refine T5 ?_ ?_|intro ex)<;>try conv=>whnf)
   all_goals first
    |(exfalso;omega)
    |exact A8 h0 rfl ⟨rfl,congrArg (fun z=>some (AV.sl 1 z)) nT.symm,trivial⟩ trivial rfl rfl rfl
    |exact SN (rs:=[.tmp 4,.tmp 5]) (vs:=[.sl 1 [],.b false]) rfl ⟨SO rfl (.nil 1),SO rfl (.refl _),trivial⟩ rfl
  ·rw[if_neg hbig]at i2
   repeat'((first|(refine G3 5 ?_;refine P5 (id:=5) (σ':=⟨[(2,.iptr (sL s)),(6,.sl 1 (out.map H1)),(8,.iptr (B5 d)),(16,.sl 2 (dims.map B5)),(17,.i dims.length),(18,.i k)],0,[]⟩) (A6 h0) ?_;refine H4 (id:=5) ⟨[(2,.iptr (sL s)),(6,.sl 1 (out.map H1)),(9,.sl 1 (own.map wA)),(16,.sl 2 (dims.map B5)),(17,.i dims.length),(18,.i k)],0,[]⟩ ?_ ?_)|(refine Cz ?_ ?_ ?_;kernel_rfl;kernel_rfl)|refine Y6 (T:=30) rfl ?_|(refine A2 (x:=d) xh (by omega) ?_)|(refine A2 (x:=x) hx (by omega) ?_)|(refine A2 (x:=(nm,cs)) hL (by omega) ?_)|refine A1 qB ?_ |refine S2 ?_|(refine T6 ?_ ?_<;>intro h<;>try exact V1 h)|intro el nN nP|intro el nN|exact T4|refine T5 ?_ ?_|intro ex)<;>try conv=>whnf)
   all_goals first
    |(exfalso;omega)
    |exact A8 h0 rfl ⟨rfl,rfl,congrArg (fun z=>some (AV.sl 1 z)) nT.symm,rfl,rfl,rfl,trivial⟩ trivial rfl rfl rfl
    |skip
   refine B2 (ι:=Nat) (fun i=>⟨[(2,.iptr (sL s)),(9,.sl 1 (own.map wA)),(10,.row 0 0 (AQ own (out.take i)).length),(16,.sl 2 (dims.map B5)),(17,.i dims.length),(18,.i k),(44,.sl 1 (out.map H1)),(45,.i out.length),(46,.i i)],1,[(0,some (.row 30 1 0 ((AQ own (out.take i)).map H1)))]⟩)
    (fun i=>i≤out.length) (fun i=>out.length-i) 0 (Nat.zero_le _)
    (C2 (K4 (d:=10) (e:=30) (sz:=1) rfl) (A8 h0 rfl ⟨rfl,rfl,rfl,rfl,rfl,rfl,rfl,rfl,rfl,trivial⟩ ⟨⟨0,rfl⟩,trivial⟩ rfl rfl rfl)) (fun i hi=>?_)
   by_cases tZ:i<out.length
   ·obtain⟨l,uI⟩:∃l,out[i]?=some l:=⟨_,List.getElem?_eq_getElem tZ⟩
    have zV:out[((i:Nat):Int).toNat]?=some l:=uI
    have rl:=i4 l (List.mem_of_getElem? uI)
    have nl:=UD l (by omega)
    have uE:(AQ own (out.take i)).length+own.length≤2000:=by
     rw[CD,List.length_take,Nat.min_eq_left (by omega)]
     have:=Nat.mul_le_mul_right own.length (show i+1≤out.length by omega)
     rw[Nat.succ_mul]at this
     omega
    have tH:=bb (own:=own) uI
    generalize hA:AQ own (out.take i)=A at *
    repeat'((first|(refine A2 (x:=l) zV (by omega) ?_) |refine S2 ?_|(refine T6 ?_ ?_<;>intro h<;>try exact V1 h)|intro el nN nP|intro el nN|exact T4|refine T5 ?_ ?_|intro ex)<;>try conv=>whnf)
    all_goals first
     |(exfalso;omega)
     |skip
    refine B2 (ι:=Nat) (fun j=>⟨[(2,.iptr (sL s)),(9,.sl 1 (own.map wA)),(10,.row 0 0 (A.length+j)),(12,.sl 1 (l.map wA)),(16,.sl 2 (dims.map B5)),(17,.i dims.length),(18,.i k),(44,.sl 1 (out.map H1)),(45,.i out.length),(46,.i i),(50,.sl 1 (own.map wA)),(51,.i own.length),(52,.i j)],1,[(0,some (.row 30 1 0 ((A++(own.take j).map fun c=>l++[c]).map H1)))]⟩)
     (fun j=>j≤own.length) (fun j=>own.length-j) 0 (Nat.zero_le _)
     (A8 h0 rfl ⟨rfl,rfl,rfl,rfl,rfl,rfl,rfl,rfl,rfl,rfl,rfl,rfl,rfl,trivial⟩ ⟨⟨_,congrArg (C9.row 30 1 _) (by simp)⟩,trivial⟩ rfl rfl rfl) (fun j hj=>?_)
    by_cases uD:j<own.length
    ·obtain⟨c,hcj⟩:∃c,own[j]?=some c:=⟨_,List.getElem?_eq_getElem uD⟩
     have yx:own[((j:Nat):Int).toNat]?=some c:=hcj
     have htj:A++(own.take (j+1)).map (fun c=>l++[c])=(A++(own.take j).map fun c=>l++[c])++[l++[c]]:=by rw[I3 hcj,List.map_append,List.append_assoc];rfl
     have uR:(A++(own.take j).map fun c=>l++[c]).length=A.length+j:=by rw[List.length_append,List.length_map,List.length_take];omega
     generalize (A++(own.take j).map fun c=>l++[c])=B at *
     repeat'((first|(refine A2 (x:=c) yx (by omega) ?_)|refine lP (T:=29) rfl ?_|refine Y9 [] [] nl rfl rfl rfl rfl rfl trivial rfl rfl rfl rfl rfl ?_ |refine S2 ?_|(refine T6 ?_ ?_<;>intro h<;>try exact V1 h)|intro el nN nP|intro el nN|exact T4|refine T5 ?_ ?_|intro ex)<;>try conv=>whnf)
     all_goals first
      |(exfalso;omega)
      |exact⟨j+1,by omega,by omega,A8 h0 rfl ⟨rfl,rfl,rfl,rfl,rfl,rfl,rfl,rfl,rfl,rfl,rfl,rfl,rfl,trivial⟩ ⟨⟨_,congrArg (C9.row 30 1 _) (by rw[htj];simp[H1];rfl)⟩,trivial⟩ rfl rfl rfl⟩
    ·have hje:own.take j=own:=List.take_of_length_le (by omega)
     have yk:j=own.length:=by omega
     rw[hje,←tH]
     subst yk
     repeat'((first|refine S2 ?_|(refine T6 ?_ ?_<;>intro h<;>try exact V1 h)|intro el nN nP|intro el nN|exact T4|refine T5 ?_ ?_|intro ex)<;>try conv=>whnf)
     all_goals first
      |(exfalso;omega)
      |exact⟨i+1,by omega,by omega,A8 h0 rfl ⟨rfl,rfl,congrArg (fun z:Nat=>some (AV.row 0 0 z)) (by rw[tH,List.length_append,List.length_map]),rfl,rfl,rfl,rfl,rfl,rfl,trivial⟩ ⟨⟨_,rfl⟩,trivial⟩ rfl rfl rfl⟩
   ·have hie:out.take i=out:=List.take_of_length_le (by omega)
    rw[hie]
    repeat'((first|refine S2 ?_|(refine T6 ?_ ?_<;>intro h<;>try exact V1 h)|intro el nN nP|intro el nN|exact T4|refine T5 ?_ ?_|intro ex)<;>try conv=>whnf)
    all_goals first
     |(exfalso;omega)
     |exact⟨(k+1,AQ own out),⟨by omega,i2,by dsimp only;rw[CD];omega,fun x hx=>by obtain⟨l,h1,h2⟩:=UE hx;have:=i4 l h1;dsimp only;omega⟩,by dsimp only;omega,A6 h0⟩
 ·have he:dims.drop k=[]:=List.drop_eq_nil_of_le (by omega)
  rw[he,V8]at i2
  subst i2
  repeat'((first|refine S2 ?_|(refine T6 ?_ ?_<;>intro h<;>try exact V1 h)|intro el nN nP|intro el nN|exact T4|refine T5 ?_ ?_|intro ex)<;>try conv=>whnf)
  all_goals first
   |(exfalso;omega)
   |exact T8 rfl rfl rfl
end Go.Proofs.YtjkbhaaobhgkdabGreatDoor
