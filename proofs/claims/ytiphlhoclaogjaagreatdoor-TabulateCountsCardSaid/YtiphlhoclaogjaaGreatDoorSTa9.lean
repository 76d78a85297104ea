/- Chapter 16: the reference's parts of expressions. Chapter 16: the reference's check of expressions. Chapter 16: the reference's Right. -/
import Derived.Test.YtiphlhoclaogjaaGreatDoorSF1
import Derived.Test.YtiphlhoclaogjaaGreatDoorSTa2
import Derived.Test.YtiphlhoclaogjaaGreatDoorSCe3
set_option linter.unusedVariables false
set_option linter.unnecessarySimpa false
set_option linter.unusedSimpArgs false
set_option maxHeartbeats 64000000
namespace Go.Proofs.YtiphlhoclaogjaaGreatDoor
open Go Go.Av
attribute [local irreducible] C7 B2 D3 C9 DQ D0 C8 St.le A3 B9
set_option maxRecDepth 100000
theorem MC(s:A4)(col kind:Int):A3 Tryz.prog 168 [sA s,.i col,.i kind] (.b (j6 s col kind)):=by
 refine B6 Tryz.func168 26 fun lW E h0=>?_
 clear lW
 repeat'((first|refine S2 ?_|(refine T6 ?_ ?_<;>intro h<;>try exact V1 h)|intro el lU lV|intro el lU|exact T4|refine T5 ?_ ?_|intro ex)<;>try conv=>whnf)
 all_goals first
  |exact A0 rfl (congrArg AV.b (by unfold j6;rw[decide_eq_false (by omega)]))
  |exact A0 rfl (congrArg AV.b (by unfold j6;rw[C1 lU,decide_eq_decide];omega))
theorem Qc(l:List Int)(v:Int):A3 Tryz.prog 31 [.sl 1 (l.map wA),.i v] (.b (l.any fun x=>decide (x=v))):=by
 refine B6 Tryz.func31 18 fun lW E h0=>?_
 have lX:l.length≤9223372036854775807:=by
  have:=(lW (.sl 1 (l.map wA)) (by simp)).sl
  simpa using this
 clear lW
 repeat'((first|refine S2 ?_|(refine T6 ?_ ?_<;>intro h<;>try exact V1 h)|intro el lU lV|intro el lU|exact T4|refine T5 ?_ ?_|intro ex)<;>try conv=>whnf)
 refine B0 (ι:=Nat) (fun k=>⟨[(0,.sl 1 (l.map wA)),(1,.i v),(5,.i k)],0,[]⟩) (fun k=>P7 (fun x=>decide (x=v)) l k) (fun k=>l.length-k) 0 (P7.zero _ _)
  (A6 h0) (fun k hI=>?_)
 have lk:=hI.1
 repeat'((first|(refine B3 ?_ ?_;kernel_rfl) |refine S2 ?_|(refine T6 ?_ ?_<;>intro h<;>try exact V1 h)|intro el lU lV|intro el lU|exact T4|refine T5 ?_ ?_|intro ex)<;>try conv=>whnf)
 all_goals first
  |exact A0 rfl (congrArg AV.b (hI.hit lU (by rw[decide_eq_true_iff];assumption)))
  |exact A0 rfl (congrArg AV.b (hI.done (by assumption)))
  |exact⟨k+1,hI.step lU (by rw[decide_eq_false_iff_not];assumption),by omega,A6 h0⟩
theorem am(l:List Int)(k:Nat)(v:Int):A3 Tryz.prog 31 [.sl 1 ((l.map wA).take k),.i v] (.b ((l.take k).any fun x=>decide (x=v))):=by
 have h:=Qc (l.take k) v
 rw[List.map_take]at h
 exact h
theorem Qd{s:A4}{p:Pk}(h:P4 s p=0):0≤p.col∧p.col<s.cols.length:=by
 unfold P4 Cc E5 at h
 by_cases hc:p.col<1∨(s.cols.length:Int)≤p.col
 ·rw[if_pos hc]at h
  split at h
  ·rw[if_pos (show (-1:Int)<0 by omega)]at h
   omega
  ·exact absurd h (by assumption)
 ·omega
theorem YS(s:A4)(l:List Pk):A3 Tryz.prog 169 [sA s,.sl 2 (l.map B4)] (.i (Q8 s l)):=by
 have hp:=fun d=>Nn s d
 have hi:=fun c=>MC s c 2
 unfold Q8
 refine B6 Tryz.func169 55 fun lW E h0=>?_
 have lX:l.length≤9223372036854775807:=by
  have:=(lW (.sl 2 (l.map B4)) (by simp)).sl
  simpa using this
 clear lW
 repeat'((first|refine S2 ?_|(refine T6 ?_ ?_<;>intro h<;>try exact V1 h)|intro el lU lV|intro el lU|exact T4|refine T5 ?_ ?_|intro ex)<;>try conv=>whnf)
 all_goals first
  |(rw[if_pos (by omega)];exact A0 rfl rfl)
  |skip
 rw[if_neg (by omega)]
 refine B0 (ι:=Nat) (fun k=>⟨[(1,.sl 2 (l.map B4)),(2,.ref 0 0),(5,.i k)],1,[(0,some (.box (sL s)))]⟩) (fun k=>E9 (W0 s l) l k) (fun k=>l.length-k) 0 (E9.zero _ _)
  (A6 h0) (fun k hI=>?_)
 have lk:=hI.1
 by_cases lY:k<l.length
 ·obtain⟨d,hd⟩:∃d,l[k]?=some d:=⟨_,List.getElem?_eq_getElem lY⟩
  have h1:=hp d
  have h2:=hi d.col
  have ln:∀e:Int,W0 s l k d=e→¬e=0→e=F0 (W0 s l) 0 l:=fun e h3 h4=>by rw[←h3];exact hI.hit hd (by rw[h3];exact h4)
  have oA:W0 s l k d=0→E9 (W0 s l) l (k+1):=fun h=>hI.step hd h
  unfold W0 at ln oA
  by_cases oL:P4 s d=0
  ·obtain⟨pH,nt⟩:=Qd oL
   rw[oL]at h1
   by_cases lg:(C0 s d.col).kind=2
   ·rw[show j6 s d.col 2=true by unfold j6;rw[decide_eq_true_iff];exact⟨pH,nt,lg⟩]at h2
    repeat'((first|(refine A2 (x:=d) hd (by omega) ?_)|refine A1 h1 ?_|refine A1 h2 ?_|(refine B3 ?_ ?_;kernel_rfl) |refine S2 ?_|(refine T6 ?_ ?_<;>intro h<;>try exact V1 h)|intro el lU lV|intro el lU|exact T4|refine T5 ?_ ?_|intro ex)<;>try conv=>whnf)
    all_goals first
     |(exfalso;omega)
     |skip
    refine B0 (ι:=Nat) (fun j=>⟨[(1,.sl 2 (l.map B4)),(2,.ref 0 0),(5,.i k),(7,.i j)],1,[(0,some (.box (sL s)))]⟩) (fun j=>j≤k∧P7 (fun x=>decide (x.col=d.col)) (l.take k) j) (fun j=>k-j) 0 ⟨Nat.zero_le _,P7.zero _ _⟩
     (A6 h0) (fun j hJ=>?_)
    obtain⟨hj,hJ⟩:=hJ
    have vQ:(l.take k).length=k:=by rw[List.length_take];omega
    repeat'((first|(refine A2 (x:=d) hd (by omega) ?_)|(refine B3 ?_ ?_;kernel_rfl) |refine S2 ?_|(refine T6 ?_ ?_<;>intro h<;>try exact V1 h)|intro el lU lV|intro el lU|exact T4|refine T5 ?_ ?_|intro ex)<;>try conv=>whnf)
    all_goals first
     |exact A0 rfl (congrArg AV.i (ln 10 (by rw[if_neg (by omega),if_neg (by omega),if_pos (hJ.hit (x:=el) (by rw[List.getElem?_take,if_pos (by omega)];exact lU) (decide_eq_true (by assumption))).symm]) (by omega)))
     |exact⟨j+1,⟨by omega,hJ.step (x:=el) (by rw[List.getElem?_take,if_pos (by omega)];exact lU) (decide_eq_false (by assumption))⟩,by omega,A6 h0⟩
     |exact⟨k+1,oA (by rw[if_neg (by omega),if_neg (by omega),if_neg (by rw[←hJ.done (by rw[vQ];assumption)];exact Bool.false_ne_true)]),by omega,A6 h0⟩
   ·rw[show j6 s d.col 2=false by unfold j6;rw[decide_eq_false_iff_not];omega]at h2
    repeat'((first|(refine A2 (x:=d) hd (by omega) ?_)|refine A1 h1 ?_|refine A1 h2 ?_|(refine B3 ?_ ?_;kernel_rfl) |refine S2 ?_|(refine T6 ?_ ?_<;>intro h<;>try exact V1 h)|intro el lU lV|intro el lU|exact T4|refine T5 ?_ ?_|intro ex)<;>try conv=>whnf)
    all_goals first
     |(exfalso;omega)
     |exact A0 rfl (congrArg AV.i (ln 7 (by rw[if_neg (by omega),if_pos (by omega)]) (by omega)))
  ·repeat'((first|(refine A2 (x:=d) hd (by omega) ?_)|refine A1 h1 ?_|refine A1 h2 ?_|(refine B3 ?_ ?_;kernel_rfl) |refine S2 ?_|(refine T6 ?_ ?_<;>intro h<;>try exact V1 h)|intro el lU lV|intro el lU|exact T4|refine T5 ?_ ?_|intro ex)<;>try conv=>whnf)
   all_goals first
    |(exfalso;omega)
    |exact A0 rfl (congrArg AV.i (ln (P4 s d) (by rw[if_pos (by omega)]) oL))
 ·repeat'((first|refine S2 ?_|(refine T6 ?_ ?_<;>intro h<;>try exact V1 h)|intro el lU lV|intro el lU|exact T4|refine T5 ?_ ?_|intro ex)<;>try conv=>whnf)
  all_goals first
   |(exfalso;omega)
   |exact A0 rfl (congrArg AV.i (hI.done (by omega)).symm)
theorem VO(s:A4)(m:Int)(l:List Int):A3 Tryz.prog 170 [sA s,.i m,.sl 1 (l.map wA)] (.i (Z7 s m l)):=by
 have hi:=fun c=>MC s c 3
 unfold Z7
 refine B6 Tryz.func170 45 fun lW E h0=>?_
 have lX:l.length≤9223372036854775807:=by
  have:=(lW (.sl 1 (l.map wA)) (by simp)).sl
  simpa using this
 clear lW
 repeat'((first|refine S2 ?_|(refine T6 ?_ ?_<;>intro h<;>try exact V1 h)|intro el lU lV|intro el lU|exact T4|refine T5 ?_ ?_|intro ex)<;>try conv=>whnf)
 all_goals first
  |(rw[if_pos (by omega)];exact A0 rfl rfl)
  |skip
 rw[if_neg (by omega)]
 refine B0 (ι:=Nat) (fun k=>⟨[(1,.i m),(2,.sl 1 (l.map wA)),(3,.ref 0 0),(7,.i k)],1,[(0,some (.box (sL s)))]⟩) (fun k=>E9 (Y3 s m l) l k) (fun k=>l.length-k) 0 (E9.zero _ _)
  (A6 h0) (fun k hI=>?_)
 have lk:=hI.1
 by_cases lY:k<l.length
 ·obtain⟨c,hc⟩:∃c,l[k]?=some c:=⟨_,List.getElem?_eq_getElem lY⟩
  have h1:=hi c
  have h2:=am l k c
  have ln:∀e:Int,Y3 s m l k c=e→¬e=0→e=F0 (Y3 s m l) 0 l:=fun e h3 h4=>by rw[←h3];exact hI.hit hc (by rw[h3];exact h4)
  have oA:Y3 s m l k c=0→E9 (Y3 s m l) l (k+1):=fun h=>hI.step hc h
  unfold Y3 at ln oA
  generalize j6 s c 3=b at *
  generalize ((l.take k).any fun x=>decide (x=c))=u at *
  repeat'((first|(refine A2 (x:=c) hc (by omega) ?_)|refine A1 h1 ?_|refine A1 h2 ?_|(refine B3 ?_ ?_;kernel_rfl) |refine S2 ?_|(refine T6 ?_ ?_<;>intro h<;>try exact V1 h)|intro el lU lV|intro el lU|exact T4|refine T5 ?_ ?_|intro ex)<;>try conv=>whnf)
  all_goals first
   |exact A0 rfl (congrArg AV.i (ln 7 (by rw[if_pos (by assumption)]) (by omega)))
   |exact A0 rfl (congrArg AV.i (ln 10 (by rw[if_neg (by simp[*]),if_pos (.inl (by assumption))]) (by omega)))
   |exact A0 rfl (congrArg AV.i (ln 10 (by rw[if_neg (by simp[*]),if_pos (.inr (by assumption))]) (by omega)))
   |exact⟨k+1,oA (by rw[if_neg (by simp[*]),if_neg (by simp[*])]),by omega,A6 h0⟩
   |(exfalso;omega)
 ·repeat'((first|refine S2 ?_|(refine T6 ?_ ?_<;>intro h<;>try exact V1 h)|intro el lU lV|intro el lU|exact T4|refine T5 ?_ ?_|intro ex)<;>try conv=>whnf)
  all_goals first
   |(exfalso;omega)
   |exact A0 rfl (congrArg AV.i (hI.done (by omega)).symm)
theorem YT(c:B1):A3 Tryz.prog 171 [E0 c,.agg [.i 0,.i 0,.i 0,.i 0,.i 0,.v (.slice none 0 0)]] (.b (decide (Y0 c))):=by
 rw[F7]
 refine B6 Tryz.func171 67 fun lW E h0=>?_
 have lX:c.kids.length≤9223372036854775807:=by
  have:=((lW _ (List.mem_cons_self ..)).agg (.sl 6 (c.kids.map I6)) (by simp)).sl
  simpa using this
 clear lW
 repeat'((first|(refine B3 ?_ ?_;kernel_rfl) |refine S2 ?_|(refine T6 ?_ ?_<;>intro h<;>try exact V1 h)|intro el lU lV|intro el lU|exact T4|refine T5 ?_ ?_|intro ex)<;>try conv=>whnf)
 all_goals first
  |exact A0 rfl (congrArg AV.b (decide_eq_false (by omega)).symm)
  |skip
 refine B0 (ι:=Nat) (fun k=>⟨[(2,.ref 0 0),(5,.i k)],1,[(0,some (.box (M8 c)))]⟩) (fun k=>k=0) (fun k=>1-k) 0 rfl
  (A6 h0) (fun k hk=>?_)
 subst hk
 repeat'((first|refine S2 ?_|(refine T6 ?_ ?_<;>intro h<;>try exact V1 h)|intro el lU lV|intro el lU|exact T4|refine T5 ?_ ?_|intro ex)<;>try conv=>whnf)
 all_goals first
  |exact A0 rfl (congrArg AV.b (decide_eq_true (by omega)).symm)
  |(exfalso;omega)
abbrev jk(e:G8):List AV:=[.i e.op,.i 0,.str [],.i 0,.v (.slice none 0 0),.v (.slice none 0 0),.i 0,.i 0,.i 0,.i 0,.i 0,.v (.slice none 0 0),.i 0,.i 0,.i 0,.i 0,.i 0,.v (.slice none 0 0),.v (.slice none 0 0)]
theorem Tq(l:List Int)(hl:l.length≤1000000):B9 Tryz.prog 109 0 [] [.sl 1 (l.map wA)] 1 [(0,some (.row 3 1 0 (l.map wA)))] (.row 0 0 l.length):=by
 refine V9 Tryz.func109 8 fun E h0=>?_
 repeat'((first|(refine Nt rfl rfl rfl (fun b hb=>?_);cases b)|refine Z9 (T:=37) rfl ?_ |refine S2 ?_|(refine T6 ?_ ?_<;>intro h<;>try exact V1 h)|intro el lU lV|intro el lU|exact T4|refine T5 ?_ ?_|intro ex)<;>try conv=>whnf)
 all_goals first
  |(exfalso;omega)
  |exact H4 (A9 h0 rfl ⟨congrArg (fun z:Nat=>some (AV.row 0 0 z)) (by simp),trivial⟩ ⟨⟨_,congrArg (C6.row 3 1 _) (by simp[L9])⟩,trivial⟩ rfl rfl rfl)
  |(have e:=List.map_eq_nil_iff.1 (hb rfl);subst e;exact H4 (B5 (I9 (d:=2) (e:=3) (sz:=1) rfl) (A6 h0)))
theorem LN(l:List Pk)(hl:l.length≤1000000):A3 Tryz.prog 48 [.sl 2 (l.map B4)] (.sl 2 (l.map B4)):=by
 refine B6 Tryz.func48 8 fun lW E h0=>?_
 clear lW
 repeat'((first|(refine Nt rfl rfl rfl (fun b hb=>?_);cases b)|refine Z9 (T:=23) rfl ?_ |refine S2 ?_|(refine T6 ?_ ?_<;>intro h<;>try exact V1 h)|intro el lU lV|intro el lU|exact T4|refine T5 ?_ ?_|intro ex)<;>try conv=>whnf)
 all_goals first
  |(exfalso;omega)
  |exact A0 rfl rfl
  |(have e:=List.map_eq_nil_iff.1 (hb rfl);subst e;exact u4 rfl rfl)
def MD(s:A4)(d:Pk):List Int:=-1::(K3 (C2 s (C0 s d.col)).1 (C2 s (C0 s d.col)).2 d.lev).map fun n:Nat=>(n:Int)
def DL(own:List Int)(out:List (List Int)):List (List Int):=out.flatMap fun l=>own.map fun c=>l++[c]
def AP(s:A4):List Pk→List (List Int)→Option (List (List Int))
 |[],out=>some out
 |d::r,out=>if 2000<out.length*(MD s d).length then none else AP s r (DL (MD s d) out)
abbrev lJ(o:Option (List (List Int))):AV:=.tup [.sl 1 ((o.getD []).map F8),.b o.isSome]
theorem Hy(own:List Int):∀out:List (List Int),(DL own out).length=out.length*own.length
 |[]=>by simp[DL]
 |a::r=>by
  have:=Hy own r
  unfold DL at this ⊢
  rw[List.flatMap_cons,List.length_append,this,List.length_map,List.length_cons,Nat.succ_mul,Nat.add_comm]
theorem an{own:List Int}{out:List (List Int)}{k:Nat}{l:List Int}(h:out[k]?=some l):DL own (out.take (k+1))=DL own (out.take k)++own.map fun c=>l++[c]:=by
 rw[H6 h]
 unfold DL
 rw[List.flatMap_append]
 simp
theorem Tr{own:List Int}{out:List (List Int)}{x:List Int}(h:x∈DL own out):∃l∈out,x.length=l.length+1:=by
 unfold DL at h
 rw[List.mem_flatMap]at h
 obtain⟨l,h1,h2⟩:=h
 rw[List.mem_map]at h2
 obtain⟨c,_,rfl⟩:=h2
 exact⟨l,h1,by simp⟩
theorem ao{s:A4}(hr:C3 s=0){d:Pk}(h1:P4 s d=0)(h2:(C0 s d.col).kind=2):∃x L,s.cols[d.col.toNat]?=some x∧C0 s d.col=x∧1≤d.col∧(0≤x.lst∧x.lst<s.lists.length)∧s.lists[x.lst.toNat]?=some L∧C2 s x=L∧chk L.1 L.2=0:=by
 obtain⟨h3,h4⟩:=Qd h1
 obtain⟨x,hx⟩:∃x,s.cols[d.col.toNat]?=some x:=⟨_,List.getElem?_eq_getElem (by omega)⟩
 have lm:C0 s d.col=x:=C1 hx
 have h5:1≤d.col:=by
  unfold P4 Cc E5 at h1
  rw[if_pos hr]at h1
  by_cases hc:d.col<1∨(s.cols.length:Int)≤d.col
  ·rw[if_pos hc]at h1;cases h1
  ·omega
 rw[lm]at h2
 rcases o0 hr h5 hx with h6|h6
 ·obtain⟨L,hL⟩:∃L,s.lists[x.lst.toNat]?=some L:=⟨_,List.getElem?_eq_getElem (by omega)⟩
  exact⟨x,L,hx,lm,h5,h6.2,hL,E4 hL,(D5 hr).2.2.1 L (List.mem_of_getElem? hL)⟩
 ·omega
theorem jl{P:Program}{E:Env}{n:Nat}{ops:Array Oper}{rest:List Oper}{σ:St}{K:St→Prop}{d:Option Nat}{T m t:Nat}{ty:TypeId}{pos:String}{after:Array Edge}{i ver len:Nat}(hx:Go.Av.look σ.sl t=some (.row i ver len))(h:B2 P E n ops (⟨d,.buildSlice T m #[(0,.tmp t)],ty,pos,after,none⟩::rest) (σ.frz i) K):
  B2 P E n ops (⟨d,.buildSlice T m #[(0,.tmp t)],ty,pos,after,none⟩::rest) σ K:=En (Gg i) h
theorem FO(s:A4)(hr:C3 s=0)(dims:List Pk)(oa:dims.length≤3)(hd:∀d∈dims,P4 s d=0∧(C0 s d.col).kind=2):A3 Tryz.prog 47 [sA s,.sl 2 (dims.map B4)] (lJ (AP s dims [[]])):=by
 generalize hR:AP s dims [[]]=R
 refine B6 Tryz.func47 69 fun lW E h0=>?_
 clear lW
 repeat'((first|refine Z9 (T:=24) rfl ?_ |refine S2 ?_|(refine T6 ?_ ?_<;>intro h<;>try exact V1 h)|intro el lU lV|intro el lU|exact T4|refine T5 ?_ ?_|intro ex)<;>try conv=>whnf)
 all_goals first
  |(exfalso;omega)
  |skip
 refine B0 (ι:=Nat×List (List Int)) (fun x=>⟨[(2,.iptr (sL s)),(6,.sl 1 (x.2.map F8)),(16,.sl 2 (dims.map B4)),(17,.i dims.length),(18,.i x.1)],0,[]⟩)
  (fun x=>x.1≤dims.length∧AP s (dims.drop x.1) x.2=R∧x.2.length≤2000∧∀l∈x.2,l.length≤x.1) (fun x=>dims.length-x.1) (0,[[]]) ⟨Nat.zero_le _,hR,by decide,fun l hl=>by simp at hl;subst hl;exact Nat.le_refl _⟩
  (B5 (Xn 1 [[.sl 1 []]] rfl ⟨⟨.nil 1,trivial⟩,trivial⟩) (A6 h0)) (fun x hI=>?_)
 obtain⟨k,out⟩:=x
 obtain⟨i1,i2,i3,i4⟩:=hI
 dsimp only at i1 i2 i3 i4 ⊢
 by_cases lk:k<dims.length
 ·obtain⟨d,xZ⟩:∃d,dims[k]?=some d:=⟨_,List.getElem?_eq_getElem lk⟩
  have vt:dims[((k:Nat):Int).toNat]?=some d:=xZ
  obtain⟨sY,qR⟩:=hd d (List.mem_of_getElem? xZ)
  obtain⟨x,L,hx,lm,tB,⟨wo,ox⟩,hL,qQ,hck⟩:=ao hr sY qR
  obtain⟨nm,cs⟩:=L
  have mz:=(I1 hck).2.2
  have oy:=Gp nm cs d.lev (by dsimp only at mz;omega)
  have la:(MD s d).map wA=[[.i (-1)]]++(K3 nm cs d.lev).map iA:=by unfold MD;rw[lm,qQ,List.map_cons,List.map_map];rfl
  have pW:(MD s d).length=(K3 nm cs d.lev).length+1:=by unfold MD;rw[lm,qQ];simp
  have rj:(K3 nm cs d.lev).length≤cs.length:=by unfold K3;split<;>first|exact NO _ _ _|exact Nat.zero_le _
  dsimp only at mz
  rw[G3 xZ,AP]at i2
  generalize MD s d=own at *
  generalize K3 nm cs d.lev=atl at *
  have pG:out.length*own.length≤2000*61:=Nat.mul_le_mul i3 (by omega)
  by_cases hbig:2000<out.length*own.length
  ·rw[if_pos hbig]at i2
   subst i2
   repeat'((first|(refine F6 5 ?_;refine O0 (id:=5) (σ':=⟨[(2,.iptr (sL s)),(6,.sl 1 (out.map F8)),(8,.iptr (B4 d)),(16,.sl 2 (dims.map B4)),(17,.i dims.length),(18,.i k)],0,[]⟩) (A6 h0) ?_;refine G9 (id:=5) ⟨[(6,.sl 1 (out.map F8)),(9,.sl 1 (own.map wA))],0,[]⟩ ?_ ?_)|(refine DG ?_ ?_ ?_;kernel_rfl;kernel_rfl)|refine Z9 (T:=37) rfl ?_|(refine A2 (x:=d) vt (by omega) ?_)|(refine A2 (x:=x) hx (by omega) ?_)|(refine A2 (x:=(nm,cs)) hL (by omega) ?_)|refine A1 oy ?_ |refine S2 ?_|(refine T6 ?_ ?_<;>intro h<;>try exact V1 h)|intro el lU lV|intro el lU|exact T4|refine T5 ?_ ?_|intro ex)<;>try conv=>whnf)
   all_goals first
    |(exfalso;omega)
    |exact A9 h0 rfl ⟨rfl,congrArg (fun z=>some (AV.sl 1 z)) la.symm,trivial⟩ trivial rfl rfl rfl
    |exact Mx (rs:=[.tmp 4,.tmp 5]) (vs:=[.sl 1 [],.b false]) rfl ⟨SC rfl (.nil 1),SC rfl (.refl _),trivial⟩ rfl
  ·rw[if_neg hbig]at i2
   repeat'((first|(refine F6 5 ?_;refine O0 (id:=5) (σ':=⟨[(2,.iptr (sL s)),(6,.sl 1 (out.map F8)),(8,.iptr (B4 d)),(16,.sl 2 (dims.map B4)),(17,.i dims.length),(18,.i k)],0,[]⟩) (A6 h0) ?_;refine G9 (id:=5) ⟨[(2,.iptr (sL s)),(6,.sl 1 (out.map F8)),(9,.sl 1 (own.map wA)),(16,.sl 2 (dims.map B4)),(17,.i dims.length),(18,.i k)],0,[]⟩ ?_ ?_)|(refine DG ?_ ?_ ?_;kernel_rfl;kernel_rfl)|refine Z9 (T:=37) rfl ?_|(refine A2 (x:=d) vt (by omega) ?_)|(refine A2 (x:=x) hx (by omega) ?_)|(refine A2 (x:=(nm,cs)) hL (by omega) ?_)|refine A1 oy ?_ |refine S2 ?_|(refine T6 ?_ ?_<;>intro h<;>try exact V1 h)|intro el lU lV|intro el lU|exact T4|refine T5 ?_ ?_|intro ex)<;>try conv=>whnf)
   all_goals first
    |(exfalso;omega)
    |exact A9 h0 rfl ⟨rfl,rfl,congrArg (fun z=>some (AV.sl 1 z)) la.symm,rfl,rfl,rfl,trivial⟩ trivial rfl rfl rfl
    |skip
   refine B0 (ι:=Nat) (fun i=>⟨[(2,.iptr (sL s)),(9,.sl 1 (own.map wA)),(10,.row 0 0 (DL own (out.take i)).length),(16,.sl 2 (dims.map B4)),(17,.i dims.length),(18,.i k),(44,.sl 1 (out.map F8)),(45,.i out.length),(46,.i i)],1,[(0,some (.row 37 1 0 ((DL own (out.take i)).map F8)))]⟩)
    (fun i=>i≤out.length) (fun i=>out.length-i) 0 (Nat.zero_le _)
    (B5 (I9 (d:=10) (e:=37) (sz:=1) rfl) (A9 h0 rfl ⟨rfl,rfl,rfl,rfl,rfl,rfl,rfl,rfl,rfl,trivial⟩ ⟨⟨0,rfl⟩,trivial⟩ rfl rfl rfl)) (fun i hi=>?_)
   by_cases qi:i<out.length
   ·obtain⟨l,sW⟩:∃l,out[i]?=some l:=⟨_,List.getElem?_eq_getElem qi⟩
    have xb:out[((i:Nat):Int).toNat]?=some l:=sW
    have pp:=i4 l (List.mem_of_getElem? sW)
    have ly:=Tq l (by omega)
    have uQ:(DL own (out.take i)).length+own.length≤2000:=by
     rw[Hy,List.length_take,Nat.min_eq_left (by omega)]
     have:=Nat.mul_le_mul_right own.length (show i+1≤out.length by omega)
     rw[Nat.succ_mul]at this
     omega
    have rU:=an (own:=own) sW
    generalize hA:DL own (out.take i)=A at *
    repeat'((first|(refine A2 (x:=l) xb (by omega) ?_) |refine S2 ?_|(refine T6 ?_ ?_<;>intro h<;>try exact V1 h)|intro el lU lV|intro el lU|exact T4|refine T5 ?_ ?_|intro ex)<;>try conv=>whnf)
    all_goals first
     |(exfalso;omega)
     |skip
    refine B0 (ι:=Nat) (fun j=>⟨[(2,.iptr (sL s)),(9,.sl 1 (own.map wA)),(10,.row 0 0 (A.length+j)),(12,.sl 1 (l.map wA)),(16,.sl 2 (dims.map B4)),(17,.i dims.length),(18,.i k),(44,.sl 1 (out.map F8)),(45,.i out.length),(46,.i i),(50,.sl 1 (own.map wA)),(51,.i own.length),(52,.i j)],1,[(0,some (.row 37 1 0 ((A++(own.take j).map fun c=>l++[c]).map F8)))]⟩)
     (fun j=>j≤own.length) (fun j=>own.length-j) 0 (Nat.zero_le _)
     (A9 h0 rfl ⟨rfl,rfl,rfl,rfl,rfl,rfl,rfl,rfl,rfl,rfl,rfl,rfl,rfl,trivial⟩ ⟨⟨_,congrArg (C6.row 37 1 _) (by simp)⟩,trivial⟩ rfl rfl rfl) (fun j hj=>?_)
    by_cases sk:j<own.length
    ·obtain⟨c,yM⟩:∃c,own[j]?=some c:=⟨_,List.getElem?_eq_getElem sk⟩
     have xG:own[((j:Nat):Int).toNat]?=some c:=yM
     have htj:A++(own.take (j+1)).map (fun c=>l++[c])=(A++(own.take j).map fun c=>l++[c])++[l++[c]]:=by rw[H6 yM,List.map_append,List.append_assoc];rfl
     have qK:(A++(own.take j).map fun c=>l++[c]).length=A.length+j:=by rw[List.length_append,List.length_map,List.length_take];omega
     generalize (A++(own.take j).map fun c=>l++[c])=B at *
     repeat'((first|(refine A2 (x:=c) xG (by omega) ?_)|refine jl (T:=24) rfl ?_|refine b5 [] [] ly rfl rfl rfl rfl rfl trivial rfl rfl rfl rfl rfl ?_ |refine S2 ?_|(refine T6 ?_ ?_<;>intro h<;>try exact V1 h)|intro el lU lV|intro el lU|exact T4|refine T5 ?_ ?_|intro ex)<;>try conv=>whnf)
     all_goals first
      |(exfalso;omega)
      |exact⟨j+1,by omega,by omega,A9 h0 rfl ⟨rfl,rfl,rfl,rfl,rfl,rfl,rfl,rfl,rfl,rfl,rfl,rfl,rfl,trivial⟩ ⟨⟨_,congrArg (C6.row 37 1 _) (by rw[htj];simp[F8];rfl)⟩,trivial⟩ rfl rfl rfl⟩
    ·have hje:own.take j=own:=List.take_of_length_le (by omega)
     have zc:j=own.length:=by omega
     rw[hje,←rU]
     subst zc
     repeat'((first|refine S2 ?_|(refine T6 ?_ ?_<;>intro h<;>try exact V1 h)|intro el lU lV|intro el lU|exact T4|refine T5 ?_ ?_|intro ex)<;>try conv=>whnf)
     all_goals first
      |(exfalso;omega)
      |exact⟨i+1,by omega,by omega,A9 h0 rfl ⟨rfl,rfl,congrArg (fun z:Nat=>some (AV.row 0 0 z)) (by rw[rU,List.length_append,List.length_map]),rfl,rfl,rfl,rfl,rfl,rfl,trivial⟩ ⟨⟨_,rfl⟩,trivial⟩ rfl rfl rfl⟩
   ·have hie:out.take i=out:=List.take_of_length_le (by omega)
    rw[hie]
    repeat'((first|refine S2 ?_|(refine T6 ?_ ?_<;>intro h<;>try exact V1 h)|intro el lU lV|intro el lU|exact T4|refine T5 ?_ ?_|intro ex)<;>try conv=>whnf)
    all_goals first
     |(exfalso;omega)
     |exact⟨(k+1,DL own out),⟨by omega,i2,by dsimp only;rw[Hy];omega,fun x hx=>by obtain⟨l,h1,h2⟩:=Tr hx;have:=i4 l h1;dsimp only;omega⟩,by dsimp only;omega,A6 h0⟩
 ·have he:dims.drop k=[]:=List.drop_eq_nil_of_le (by omega)
  rw[he,AP]at i2
  subst i2
  repeat'((first|refine S2 ?_|(refine T6 ?_ ?_<;>intro h<;>try exact V1 h)|intro el lU lV|intro el lU|exact T4|refine T5 ?_ ?_|intro ex)<;>try conv=>whnf)
  all_goals first
   |(exfalso;omega)
   |exact I0 rfl rfl rfl
end Go.Proofs.YtiphlhoclaogjaaGreatDoor
