/- Chapter 5: the reference's check is the program's. -/
import Derived.Test.YtiphlhoclaogjaaGreatDoorQCe2
import Derived.Test.YtiphlhoclaogjaaGreatDoorQB9
import Derived.Test.YtiphlhoclaogjaaGreatDoorQQn0
import Derived.Test.YtiphlhoclaogjaaGreatDoorQTa2
import Derived.Test.YtiphlhoclaogjaaGreatDoorQCd1
set_option linter.unusedVariables false
set_option linter.unnecessarySimpa false
set_option linter.unusedSimpArgs false
set_option maxHeartbeats 64000000
namespace Go.Proofs.YtiphlhoclaogjaaGreatDoor
open Go Go.Av
attribute [local irreducible] C7 B1 D1 C8 DQ D0 C6 St.le A3 B8
set_option maxRecDepth 100000
theorem t6(s:A4)(c:B0):A3 Tryz.prog 35 [sA s,E0 c] (.i (H0 s c)):=by
 have h1:=S7 s
 have h2:=Tz c 41 (by omega) (by omega)
 have h3:(P2 c:Int)≤40→A3 Tryz.prog 87 [E0 c] (.i (P9 c)):=fun h=>Vb c (by have:=WX c;omega)
 have h4:=fun hr=>bu s hr c
 have t1:=fH c 41 (by omega)
 rw[G0]at *
 refine C1 Tryz.func35 20 fun nd E h0=>?_
 clear nd
 unfold H0
 repeat'((first|refine A1 h1 ?_|refine A1 h2 ?_|refine A1 (h3 (by omega)) ?_|refine A1 (h4 (Decidable.of_not_not (by assumption))) ?_ |refine S2 ?_|(refine T6 ?_ ?_<;>intro h<;>try exact V1 h)|intro el nX nY|intro el nX|exact T4|refine T5 ?_ ?_|intro ex)<;>try conv=>whnf)
 all_goals first
  |exact A0 rfl (congrArg AV.i (by rw[if_neg (by assumption)]))
  |exact A0 rfl (congrArg AV.i (by rw[if_pos (Decidable.of_not_not (by assumption)),if_pos (by omega)]))
  |exact A0 rfl (congrArg AV.i (by rw[if_pos (Decidable.of_not_not (by assumption)),if_neg (by omega),if_pos (by omega)]))
  |exact A0 rfl (congrArg AV.i (by rw[if_pos (Decidable.of_not_not (by assumption)),if_neg (by omega),if_neg (by omega)]))
theorem MF(s:A4)(col kind:Int):A3 Tryz.prog 168 [sA s,.i col,.i kind] (.b (P6 s col kind)):=by
 refine C1 Tryz.func168 26 fun nd E h0=>?_
 clear nd
 repeat'((first|refine S2 ?_|(refine T6 ?_ ?_<;>intro h<;>try exact V1 h)|intro el nX nY|intro el nX|exact T4|refine T5 ?_ ?_|intro ex)<;>try conv=>whnf)
 all_goals first
  |exact A0 rfl (congrArg AV.b (by unfold P6;rw[decide_eq_false (by omega)]))
  |exact A0 rfl (congrArg AV.b (by unfold P6;rw[C0 nX,decide_eq_decide];omega))
theorem Dq(l:List Int)(v:Int):A3 Tryz.prog 31 [.sl 1 (l.map wA),.i v] (.b (l.any fun x=>decide (x=v))):=by
 refine C1 Tryz.func31 18 fun nd E h0=>?_
 have nZ:l.length≤9223372036854775807:=by
  have:=(nd (.sl 1 (l.map wA)) (by simp)).sl
  simpa using this
 clear nd
 repeat'((first|refine S2 ?_|(refine T6 ?_ ?_<;>intro h<;>try exact V1 h)|intro el nX nY|intro el nX|exact T4|refine T5 ?_ ?_|intro ex)<;>try conv=>whnf)
 refine B2 (ι:=Nat) (fun k=>⟨[(0,.sl 1 (l.map wA)),(1,.i v),(5,.i k)],0,[]⟩) (fun k=>Q1 (fun x=>decide (x=v)) l k) (fun k=>l.length-k) 0 (Q1.zero _ _)
  (A6 h0) (fun k hI=>?_)
 have no:=hI.1
 repeat'((first|(refine B5 ?_ ?_;kernel_rfl) |refine S2 ?_|(refine T6 ?_ ?_<;>intro h<;>try exact V1 h)|intro el nX nY|intro el nX|exact T4|refine T5 ?_ ?_|intro ex)<;>try conv=>whnf)
 all_goals first
  |exact A0 rfl (congrArg AV.b (hI.hit nX (by rw[decide_eq_true_iff];assumption)))
  |exact A0 rfl (congrArg AV.b (hI.done (by assumption)))
  |exact⟨k+1,hI.step nX (by rw[decide_eq_false_iff_not];assumption),by omega,A6 h0⟩
theorem bv(l:List Int)(k:Nat)(v:Int):A3 Tryz.prog 31 [.sl 1 ((l.map wA).take k),.i v] (.b ((l.take k).any fun x=>decide (x=v))):=by
 have h:=Dq (l.take k) v
 rw[List.map_take]at h
 exact h
theorem Qg{s:A4}{p:Pk}(h:I4 s p=0):0≤p.col∧p.col<s.cols.length:=by
 unfold I4 j3 F2 at h
 by_cases hc:p.col<1∨(s.cols.length:Int)≤p.col
 ·rw[if_pos hc]at h
  split at h
  ·rw[if_pos (show (-1:Int)<0 by omega)]at h
   omega
  ·exact absurd h (by assumption)
 ·omega
theorem ZD(s:A4)(l:List Pk):A3 Tryz.prog 169 [sA s,.sl 2 (l.map B6)] (.i (J4 s l)):=by
 have hp:=fun d=>Nn s d
 have hi:=fun c=>MF s c 2
 unfold J4
 refine C1 Tryz.func169 55 fun nd E h0=>?_
 have nZ:l.length≤9223372036854775807:=by
  have:=(nd (.sl 2 (l.map B6)) (by simp)).sl
  simpa using this
 clear nd
 repeat'((first|refine S2 ?_|(refine T6 ?_ ?_<;>intro h<;>try exact V1 h)|intro el nX nY|intro el nX|exact T4|refine T5 ?_ ?_|intro ex)<;>try conv=>whnf)
 all_goals first
  |(rw[if_pos (by omega)];exact A0 rfl rfl)
  |skip
 rw[if_neg (by omega)]
 refine B2 (ι:=Nat) (fun k=>⟨[(1,.sl 2 (l.map B6)),(2,.ref 0 0),(5,.i k)],1,[(0,some (.box (sL s)))]⟩) (fun k=>E8 (Q0 s l) l k) (fun k=>l.length-k) 0 (E8.zero _ _)
  (A6 h0) (fun k hI=>?_)
 have no:=hI.1
 by_cases nf:k<l.length
 ·obtain⟨d,hd⟩:∃d,l[k]?=some d:=⟨_,List.getElem?_eq_getElem nf⟩
  have h1:=hp d
  have h2:=hi d.col
  have ns:∀e:Int,Q0 s l k d=e→¬e=0→e=E4 (Q0 s l) 0 l:=fun e h3 h4=>by rw[←h3];exact hI.hit hd (by rw[h3];exact h4)
  have px:Q0 s l k d=0→E8 (Q0 s l) l (k+1):=fun h=>hI.step hd h
  unfold Q0 at ns px
  by_cases qM:I4 s d=0
  ·obtain⟨qt,qK⟩:=Qg qM
   rw[qM]at h1
   by_cases nr:(B4 s d.col).kind=2
   ·rw[show P6 s d.col 2=true by unfold P6;rw[decide_eq_true_iff];exact⟨qt,qK,nr⟩]at h2
    repeat'((first|(refine A2 (x:=d) hd (by omega) ?_)|refine A1 h1 ?_|refine A1 h2 ?_|(refine B5 ?_ ?_;kernel_rfl) |refine S2 ?_|(refine T6 ?_ ?_<;>intro h<;>try exact V1 h)|intro el nX nY|intro el nX|exact T4|refine T5 ?_ ?_|intro ex)<;>try conv=>whnf)
    all_goals first
     |(exfalso;omega)
     |skip
    refine B2 (ι:=Nat) (fun j=>⟨[(1,.sl 2 (l.map B6)),(2,.ref 0 0),(5,.i k),(7,.i j)],1,[(0,some (.box (sL s)))]⟩) (fun j=>j≤k∧Q1 (fun x=>decide (x.col=d.col)) (l.take k) j) (fun j=>k-j) 0 ⟨Nat.zero_le _,Q1.zero _ _⟩
     (A6 h0) (fun j hJ=>?_)
    obtain⟨hj,hJ⟩:=hJ
    have wI:(l.take k).length=k:=by rw[List.length_take];omega
    repeat'((first|(refine A2 (x:=d) hd (by omega) ?_)|(refine B5 ?_ ?_;kernel_rfl) |refine S2 ?_|(refine T6 ?_ ?_<;>intro h<;>try exact V1 h)|intro el nX nY|intro el nX|exact T4|refine T5 ?_ ?_|intro ex)<;>try conv=>whnf)
    all_goals first
     |exact A0 rfl (congrArg AV.i (ns 10 (by rw[if_neg (by omega),if_neg (by omega),if_pos (hJ.hit (x:=el) (by rw[List.getElem?_take,if_pos (by omega)];exact nX) (decide_eq_true (by assumption))).symm]) (by omega)))
     |exact⟨j+1,⟨by omega,hJ.step (x:=el) (by rw[List.getElem?_take,if_pos (by omega)];exact nX) (decide_eq_false (by assumption))⟩,by omega,A6 h0⟩
     |exact⟨k+1,px (by rw[if_neg (by omega),if_neg (by omega),if_neg (by rw[←hJ.done (by rw[wI];assumption)];exact Bool.false_ne_true)]),by omega,A6 h0⟩
   ·rw[show P6 s d.col 2=false by unfold P6;rw[decide_eq_false_iff_not];omega]at h2
    repeat'((first|(refine A2 (x:=d) hd (by omega) ?_)|refine A1 h1 ?_|refine A1 h2 ?_|(refine B5 ?_ ?_;kernel_rfl) |refine S2 ?_|(refine T6 ?_ ?_<;>intro h<;>try exact V1 h)|intro el nX nY|intro el nX|exact T4|refine T5 ?_ ?_|intro ex)<;>try conv=>whnf)
    all_goals first
     |(exfalso;omega)
     |exact A0 rfl (congrArg AV.i (ns 7 (by rw[if_neg (by omega),if_pos (by omega)]) (by omega)))
  ·repeat'((first|(refine A2 (x:=d) hd (by omega) ?_)|refine A1 h1 ?_|refine A1 h2 ?_|(refine B5 ?_ ?_;kernel_rfl) |refine S2 ?_|(refine T6 ?_ ?_<;>intro h<;>try exact V1 h)|intro el nX nY|intro el nX|exact T4|refine T5 ?_ ?_|intro ex)<;>try conv=>whnf)
   all_goals first
    |(exfalso;omega)
    |exact A0 rfl (congrArg AV.i (ns (I4 s d) (by rw[if_pos (by omega)]) qM))
 ·repeat'((first|refine S2 ?_|(refine T6 ?_ ?_<;>intro h<;>try exact V1 h)|intro el nX nY|intro el nX|exact T4|refine T5 ?_ ?_|intro ex)<;>try conv=>whnf)
  all_goals first
   |(exfalso;omega)
   |exact A0 rfl (congrArg AV.i (hI.done (by omega)).symm)
theorem Vk(s:A4)(m:Int)(l:List Int):A3 Tryz.prog 170 [sA s,.i m,.sl 1 (l.map wA)] (.i (Y7 s m l)):=by
 have hi:=fun c=>MF s c 3
 unfold Y7
 refine C1 Tryz.func170 45 fun nd E h0=>?_
 have nZ:l.length≤9223372036854775807:=by
  have:=(nd (.sl 1 (l.map wA)) (by simp)).sl
  simpa using this
 clear nd
 repeat'((first|refine S2 ?_|(refine T6 ?_ ?_<;>intro h<;>try exact V1 h)|intro el nX nY|intro el nX|exact T4|refine T5 ?_ ?_|intro ex)<;>try conv=>whnf)
 all_goals first
  |(rw[if_pos (by omega)];exact A0 rfl rfl)
  |skip
 rw[if_neg (by omega)]
 refine B2 (ι:=Nat) (fun k=>⟨[(1,.i m),(2,.sl 1 (l.map wA)),(3,.ref 0 0),(7,.i k)],1,[(0,some (.box (sL s)))]⟩) (fun k=>E8 (X8 s m l) l k) (fun k=>l.length-k) 0 (E8.zero _ _)
  (A6 h0) (fun k hI=>?_)
 have no:=hI.1
 by_cases nf:k<l.length
 ·obtain⟨c,hc⟩:∃c,l[k]?=some c:=⟨_,List.getElem?_eq_getElem nf⟩
  have h1:=hi c
  have h2:=bv l k c
  have ns:∀e:Int,X8 s m l k c=e→¬e=0→e=E4 (X8 s m l) 0 l:=fun e h3 h4=>by rw[←h3];exact hI.hit hc (by rw[h3];exact h4)
  have px:X8 s m l k c=0→E8 (X8 s m l) l (k+1):=fun h=>hI.step hc h
  unfold X8 at ns px
  generalize P6 s c 3=b at *
  generalize ((l.take k).any fun x=>decide (x=c))=u at *
  repeat'((first|(refine A2 (x:=c) hc (by omega) ?_)|refine A1 h1 ?_|refine A1 h2 ?_|(refine B5 ?_ ?_;kernel_rfl) |refine S2 ?_|(refine T6 ?_ ?_<;>intro h<;>try exact V1 h)|intro el nX nY|intro el nX|exact T4|refine T5 ?_ ?_|intro ex)<;>try conv=>whnf)
  all_goals first
   |exact A0 rfl (congrArg AV.i (ns 7 (by rw[if_pos (by assumption)]) (by omega)))
   |exact A0 rfl (congrArg AV.i (ns 10 (by rw[if_neg (by simp[*]),if_pos (.inl (by assumption))]) (by omega)))
   |exact A0 rfl (congrArg AV.i (ns 10 (by rw[if_neg (by simp[*]),if_pos (.inr (by assumption))]) (by omega)))
   |exact⟨k+1,px (by rw[if_neg (by simp[*]),if_neg (by simp[*])]),by omega,A6 h0⟩
   |(exfalso;omega)
 ·repeat'((first|refine S2 ?_|(refine T6 ?_ ?_<;>intro h<;>try exact V1 h)|intro el nX nY|intro el nX|exact T4|refine T5 ?_ ?_|intro ex)<;>try conv=>whnf)
  all_goals first
   |(exfalso;omega)
   |exact A0 rfl (congrArg AV.i (hI.done (by omega)).symm)
theorem ZE(c:B0):A3 Tryz.prog 171 [E0 c,.agg [.i 0,.i 0,.i 0,.i 0,.i 0,.v (.slice none 0 0)]] (.b (decide (X7 c))):=by
 rw[G0]
 refine C1 Tryz.func171 67 fun nd E h0=>?_
 have nZ:c.kids.length≤9223372036854775807:=by
  have:=((nd _ (List.mem_cons_self ..)).agg (.sl 6 (c.kids.map J2)) (by simp)).sl
  simpa using this
 clear nd
 repeat'((first|(refine B5 ?_ ?_;kernel_rfl) |refine S2 ?_|(refine T6 ?_ ?_<;>intro h<;>try exact V1 h)|intro el nX nY|intro el nX|exact T4|refine T5 ?_ ?_|intro ex)<;>try conv=>whnf)
 all_goals first
  |exact A0 rfl (congrArg AV.b (decide_eq_false (by omega)).symm)
  |skip
 refine B2 (ι:=Nat) (fun k=>⟨[(2,.ref 0 0),(5,.i k)],1,[(0,some (.box (P1 c)))]⟩) (fun k=>k=0) (fun k=>1-k) 0 rfl
  (A6 h0) (fun k hk=>?_)
 subst hk
 repeat'((first|refine S2 ?_|(refine T6 ?_ ?_<;>intro h<;>try exact V1 h)|intro el nX nY|intro el nX|exact T4|refine T5 ?_ ?_|intro ex)<;>try conv=>whnf)
 all_goals first
  |exact A0 rfl (congrArg AV.b (decide_eq_true (by omega)).symm)
  |(exfalso;omega)
abbrev lc(e:G2):List AV:=[.i e.op,.i 0,.str [],.i 0,.v (.slice none 0 0),.v (.slice none 0 0),.i 0,.i 0,.i 0,.i 0,.i 0,.v (.slice none 0 0),.i 0,.i 0,.i 0,.i 0,.i 0,.v (.slice none 0 0),.v (.slice none 0 0)]
theorem UE(l:List Int)(hl:l.length≤1000000):B8 Tryz.prog 109 0 [] [.sl 1 (l.map wA)] 1 [(0,some (.row 3 1 0 (l.map wA)))] (.row 0 0 l.length):=by
 refine a8 Tryz.func109 8 fun E h0=>?_
 repeat'((first|(refine Nq rfl rfl rfl (fun b hb=>?_);cases b)|refine b9 (T:=37) rfl ?_ |refine S2 ?_|(refine T6 ?_ ?_<;>intro h<;>try exact V1 h)|intro el nX nY|intro el nX|exact T4|refine T5 ?_ ?_|intro ex)<;>try conv=>whnf)
 all_goals first
  |(exfalso;omega)
  |exact H7 (B3 h0 rfl ⟨congrArg (fun z:Nat=>some (AV.row 0 0 z)) (by simp),trivial⟩ ⟨⟨_,congrArg (D3.row 3 1 _) (by simp[M4])⟩,trivial⟩ rfl rfl rfl)
  |(have e:=List.map_eq_nil_iff.1 (hb rfl);subst e;exact H7 (C2 (K7 (d:=2) (e:=3) (sz:=1) rfl) (A6 h0)))
theorem LQ(l:List Pk)(hl:l.length≤1000000):A3 Tryz.prog 48 [.sl 2 (l.map B6)] (.sl 2 (l.map B6)):=by
 refine C1 Tryz.func48 8 fun nd E h0=>?_
 clear nd
 repeat'((first|(refine Nq rfl rfl rfl (fun b hb=>?_);cases b)|refine b9 (T:=23) rfl ?_ |refine S2 ?_|(refine T6 ?_ ?_<;>intro h<;>try exact V1 h)|intro el nX nY|intro el nX|exact T4|refine T5 ?_ ?_|intro ex)<;>try conv=>whnf)
 all_goals first
  |(exfalso;omega)
  |exact A0 rfl rfl
  |(have e:=List.map_eq_nil_iff.1 (hb rfl);subst e;exact x9 rfl rfl)
def X9(s:A4)(d:Pk):List Int:=-1::(I5 (B9 s (B4 s d.col)).1 (B9 s (B4 s d.col)).2 d.lev).map fun n:Nat=>(n:Int)
def z7(own:List Int)(out:List (List Int)):List (List Int):=out.flatMap fun l=>own.map fun c=>l++[c]
def Y0(s:A4):List Pk→List (List Int)→Option (List (List Int))
 |[],out=>some out
 |d::r,out=>if 2000<out.length*(X9 s d).length then none else Y0 s r (z7 (X9 s d) out)
abbrev nH(o:Option (List (List Int))):AV:=.tup [.sl 1 ((o.getD []).map G3),.b o.isSome]
theorem Bj(own:List Int):∀out:List (List Int),(z7 own out).length=out.length*own.length
 |[]=>by simp[z7]
 |a::r=>by
  have:=Bj own r
  unfold z7 at this ⊢
  rw[List.flatMap_cons,List.length_append,this,List.length_map,List.length_cons,Nat.succ_mul,Nat.add_comm]
theorem bw{own:List Int}{out:List (List Int)}{k:Nat}{l:List Int}(h:out[k]?=some l):z7 own (out.take (k+1))=z7 own (out.take k)++own.map fun c=>l++[c]:=by
 rw[I0 h]
 unfold z7
 rw[List.flatMap_append]
 simp
theorem UF{own:List Int}{out:List (List Int)}{x:List Int}(h:x∈z7 own out):∃l∈out,x.length=l.length+1:=by
 unfold z7 at h
 rw[List.mem_flatMap]at h
 obtain⟨l,h1,h2⟩:=h
 rw[List.mem_map]at h2
 obtain⟨c,_,rfl⟩:=h2
 exact⟨l,h1,by simp⟩
theorem bz{s:A4}(hr:C5 s=0){d:Pk}(h1:I4 s d=0)(h2:(B4 s d.col).kind=2):∃x L,s.cols[d.col.toNat]?=some x∧B4 s d.col=x∧1≤d.col∧(0≤x.lst∧x.lst<s.lists.length)∧s.lists[x.lst.toNat]?=some L∧B9 s x=L∧chk L.1 L.2=0:=by
 obtain⟨h3,h4⟩:=Qg h1
 obtain⟨x,hx⟩:∃x,s.cols[d.col.toNat]?=some x:=⟨_,List.getElem?_eq_getElem (by omega)⟩
 have nt:B4 s d.col=x:=C0 hx
 have h5:1≤d.col:=by
  unfold I4 j3 F2 at h1
  rw[if_pos hr]at h1
  by_cases hc:d.col<1∨(s.cols.length:Int)≤d.col
  ·rw[if_pos hc]at h1;cases h1
  ·omega
 rw[nt]at h2
 rcases AQ hr h5 hx with h6|h6
 ·obtain⟨L,hL⟩:∃L,s.lists[x.lst.toNat]?=some L:=⟨_,List.getElem?_eq_getElem (by omega)⟩
  exact⟨x,L,hx,nt,h5,h6.2,hL,D2 hL,(E9 hr).2.2.1 L (List.mem_of_getElem? hL)⟩
 ·omega
theorem ld{P:Program}{E:Env}{n:Nat}{ops:Array Oper}{rest:List Oper}{σ:St}{K:St→Prop}{d:Option Nat}{T m t:Nat}{ty:TypeId}{pos:String}{after:Array Edge}{i ver len:Nat}(hx:Go.Av.look σ.sl t=some (.row i ver len))(h:B1 P E n ops (⟨d,.buildSlice T m #[(0,.tmp t)],ty,pos,after,none⟩::rest) (σ.frz i) K):
  B1 P E n ops (⟨d,.buildSlice T m #[(0,.tmp t)],ty,pos,after,none⟩::rest) σ K:=Em (GY i) h
theorem FO(s:A4)(hr:C5 s=0)(dims:List Pk)(qW:dims.length≤3)(hd:∀d∈dims,I4 s d=0∧(B4 s d.col).kind=2):A3 Tryz.prog 47 [sA s,.sl 2 (dims.map B6)] (nH (Y0 s dims [[]])):=by
 generalize hR:Y0 s dims [[]]=R
 refine C1 Tryz.func47 69 fun nd E h0=>?_
 clear nd
 repeat'((first|refine b9 (T:=24) rfl ?_ |refine S2 ?_|(refine T6 ?_ ?_<;>intro h<;>try exact V1 h)|intro el nX nY|intro el nX|exact T4|refine T5 ?_ ?_|intro ex)<;>try conv=>whnf)
 all_goals first
  |(exfalso;omega)
  |skip
 refine B2 (ι:=Nat×List (List Int)) (fun x=>⟨[(2,.iptr (sL s)),(6,.sl 1 (x.2.map G3)),(16,.sl 2 (dims.map B6)),(17,.i dims.length),(18,.i x.1)],0,[]⟩)
  (fun x=>x.1≤dims.length∧Y0 s (dims.drop x.1) x.2=R∧x.2.length≤2000∧∀l∈x.2,l.length≤x.1) (fun x=>dims.length-x.1) (0,[[]]) ⟨Nat.zero_le _,hR,by decide,fun l hl=>by simp at hl;subst hl;exact Nat.le_refl _⟩
  (C2 (YY 1 [[.sl 1 []]] rfl ⟨⟨.nil 1,trivial⟩,trivial⟩) (A6 h0)) (fun x hI=>?_)
 obtain⟨k,out⟩:=x
 obtain⟨i1,i2,i3,i4⟩:=hI
 dsimp only at i1 i2 i3 i4 ⊢
 by_cases no:k<dims.length
 ·obtain⟨d,zi⟩:∃d,dims[k]?=some d:=⟨_,List.getElem?_eq_getElem no⟩
  have yN:dims[((k:Nat):Int).toNat]?=some d:=zi
  obtain⟨uh,sU⟩:=hd d (List.mem_of_getElem? zi)
  obtain⟨x,L,hx,nt,vG,⟨hx1,qc⟩,hL,rK,yb⟩:=bz hr uh sU
  obtain⟨nm,cs⟩:=L
  have oz:=(I2 yb).2.2
  have qo:=Ge nm cs d.lev (by dsimp only at oz;omega)
  have nh:(X9 s d).map wA=[[.i (-1)]]++(I5 nm cs d.lev).map iA:=by unfold X9;rw[nt,rK,List.map_cons,List.map_map];rfl
  have rp:(X9 s d).length=(I5 nm cs d.lev).length+1:=by unfold X9;rw[nt,rK];simp
  have tA:(I5 nm cs d.lev).length≤cs.length:=by unfold I5;split<;>first|exact JJ _ _ _|exact Nat.zero_le _
  dsimp only at oz
  rw[H1 zi,Y0]at i2
  generalize X9 s d=own at *
  generalize I5 nm cs d.lev=atl at *
  have rN:out.length*own.length≤2000*61:=Nat.mul_le_mul i3 (by omega)
  by_cases hbig:2000<out.length*own.length
  ·rw[if_pos hbig]at i2
   subst i2
   repeat'((first|(refine G9 5 ?_;refine S9 (id:=5) (σ':=⟨[(2,.iptr (sL s)),(6,.sl 1 (out.map G3)),(8,.iptr (B6 d)),(16,.sl 2 (dims.map B6)),(17,.i dims.length),(18,.i k)],0,[]⟩) (A6 h0) ?_;refine H9 (id:=5) ⟨[(6,.sl 1 (out.map G3)),(9,.sl 1 (own.map wA))],0,[]⟩ ?_ ?_)|(refine Cm ?_ ?_ ?_;kernel_rfl;kernel_rfl)|refine b9 (T:=37) rfl ?_|(refine A2 (x:=d) yN (by omega) ?_)|(refine A2 (x:=x) hx (by omega) ?_)|(refine A2 (x:=(nm,cs)) hL (by omega) ?_)|refine A1 qo ?_ |refine S2 ?_|(refine T6 ?_ ?_<;>intro h<;>try exact V1 h)|intro el nX nY|intro el nX|exact T4|refine T5 ?_ ?_|intro ex)<;>try conv=>whnf)
   all_goals first
    |(exfalso;omega)
    |exact B3 h0 rfl ⟨rfl,congrArg (fun z=>some (AV.sl 1 z)) nh.symm,trivial⟩ trivial rfl rfl rfl
    |exact SR (rs:=[.tmp 4,.tmp 5]) (vs:=[.sl 1 [],.b false]) rfl ⟨SS rfl (.nil 1),SS rfl (.refl _),trivial⟩ rfl
  ·rw[if_neg hbig]at i2
   repeat'((first|(refine G9 5 ?_;refine S9 (id:=5) (σ':=⟨[(2,.iptr (sL s)),(6,.sl 1 (out.map G3)),(8,.iptr (B6 d)),(16,.sl 2 (dims.map B6)),(17,.i dims.length),(18,.i k)],0,[]⟩) (A6 h0) ?_;refine H9 (id:=5) ⟨[(2,.iptr (sL s)),(6,.sl 1 (out.map G3)),(9,.sl 1 (own.map wA)),(16,.sl 2 (dims.map B6)),(17,.i dims.length),(18,.i k)],0,[]⟩ ?_ ?_)|(refine Cm ?_ ?_ ?_;kernel_rfl;kernel_rfl)|refine b9 (T:=37) rfl ?_|(refine A2 (x:=d) yN (by omega) ?_)|(refine A2 (x:=x) hx (by omega) ?_)|(refine A2 (x:=(nm,cs)) hL (by omega) ?_)|refine A1 qo ?_ |refine S2 ?_|(refine T6 ?_ ?_<;>intro h<;>try exact V1 h)|intro el nX nY|intro el nX|exact T4|refine T5 ?_ ?_|intro ex)<;>try conv=>whnf)
   all_goals first
    |(exfalso;omega)
    |exact B3 h0 rfl ⟨rfl,rfl,congrArg (fun z=>some (AV.sl 1 z)) nh.symm,rfl,rfl,rfl,trivial⟩ trivial rfl rfl rfl
    |skip
   refine B2 (ι:=Nat) (fun i=>⟨[(2,.iptr (sL s)),(9,.sl 1 (own.map wA)),(10,.row 0 0 (z7 own (out.take i)).length),(16,.sl 2 (dims.map B6)),(17,.i dims.length),(18,.i k),(44,.sl 1 (out.map G3)),(45,.i out.length),(46,.i i)],1,[(0,some (.row 37 1 0 ((z7 own (out.take i)).map G3)))]⟩)
    (fun i=>i≤out.length) (fun i=>out.length-i) 0 (Nat.zero_le _)
    (C2 (K7 (d:=10) (e:=37) (sz:=1) rfl) (B3 h0 rfl ⟨rfl,rfl,rfl,rfl,rfl,rfl,rfl,rfl,rfl,trivial⟩ ⟨⟨0,rfl⟩,trivial⟩ rfl rfl rfl)) (fun i hi=>?_)
   by_cases sy:i<out.length
   ·obtain⟨l,uL⟩:∃l,out[i]?=some l:=⟨_,List.getElem?_eq_getElem sy⟩
    have zT:out[((i:Nat):Int).toNat]?=some l:=uL
    have sO:=i4 l (List.mem_of_getElem? uL)
    have nz:=UE l (by omega)
    have wV:(z7 own (out.take i)).length+own.length≤2000:=by
     rw[Bj,List.length_take,Nat.min_eq_left (by omega)]
     have:=Nat.mul_le_mul_right own.length (show i+1≤out.length by omega)
     rw[Nat.succ_mul]at this
     omega
    have tW:=bw (own:=own) uL
    generalize hA:z7 own (out.take i)=A at *
    repeat'((first|(refine A2 (x:=l) zT (by omega) ?_) |refine S2 ?_|(refine T6 ?_ ?_<;>intro h<;>try exact V1 h)|intro el nX nY|intro el nX|exact T4|refine T5 ?_ ?_|intro ex)<;>try conv=>whnf)
    all_goals first
     |(exfalso;omega)
     |skip
    refine B2 (ι:=Nat) (fun j=>⟨[(2,.iptr (sL s)),(9,.sl 1 (own.map wA)),(10,.row 0 0 (A.length+j)),(12,.sl 1 (l.map wA)),(16,.sl 2 (dims.map B6)),(17,.i dims.length),(18,.i k),(44,.sl 1 (out.map G3)),(45,.i out.length),(46,.i i),(50,.sl 1 (own.map wA)),(51,.i own.length),(52,.i j)],1,[(0,some (.row 37 1 0 ((A++(own.take j).map fun c=>l++[c]).map G3)))]⟩)
     (fun j=>j≤own.length) (fun j=>own.length-j) 0 (Nat.zero_le _)
     (B3 h0 rfl ⟨rfl,rfl,rfl,rfl,rfl,rfl,rfl,rfl,rfl,rfl,rfl,rfl,rfl,trivial⟩ ⟨⟨_,congrArg (D3.row 37 1 _) (by simp)⟩,trivial⟩ rfl rfl rfl) (fun j hj=>?_)
    by_cases re:j<own.length
    ·obtain⟨c,hcj⟩:∃c,own[j]?=some c:=⟨_,List.getElem?_eq_getElem re⟩
     have zZ:own[((j:Nat):Int).toNat]?=some c:=hcj
     have htj:A++(own.take (j+1)).map (fun c=>l++[c])=(A++(own.take j).map fun c=>l++[c])++[l++[c]]:=by rw[I0 hcj,List.map_append,List.append_assoc];rfl
     have uD:(A++(own.take j).map fun c=>l++[c]).length=A.length+j:=by rw[List.length_append,List.length_map,List.length_take];omega
     generalize (A++(own.take j).map fun c=>l++[c])=B at *
     repeat'((first|(refine A2 (x:=c) zZ (by omega) ?_)|refine ld (T:=24) rfl ?_|refine S8 [] [] nz rfl rfl rfl rfl rfl trivial rfl rfl rfl rfl rfl ?_ |refine S2 ?_|(refine T6 ?_ ?_<;>intro h<;>try exact V1 h)|intro el nX nY|intro el nX|exact T4|refine T5 ?_ ?_|intro ex)<;>try conv=>whnf)
     all_goals first
      |(exfalso;omega)
      |exact⟨j+1,by omega,by omega,B3 h0 rfl ⟨rfl,rfl,rfl,rfl,rfl,rfl,rfl,rfl,rfl,rfl,rfl,rfl,rfl,trivial⟩ ⟨⟨_,congrArg (D3.row 37 1 _) (by rw[htj];simp[G3];rfl)⟩,trivial⟩ rfl rfl rfl⟩
    ·have hje:own.take j=own:=List.take_of_length_le (by omega)
     have xj:j=own.length:=by omega
     rw[hje,←tW]
     subst xj
     repeat'((first|refine S2 ?_|(refine T6 ?_ ?_<;>intro h<;>try exact V1 h)|intro el nX nY|intro el nX|exact T4|refine T5 ?_ ?_|intro ex)<;>try conv=>whnf)
     all_goals first
      |(exfalso;omega)
      |exact⟨i+1,by omega,by omega,B3 h0 rfl ⟨rfl,rfl,congrArg (fun z:Nat=>some (AV.row 0 0 z)) (by rw[tW,List.length_append,List.length_map]),rfl,rfl,rfl,rfl,rfl,rfl,trivial⟩ ⟨⟨_,rfl⟩,trivial⟩ rfl rfl rfl⟩
   ·have hie:out.take i=out:=List.take_of_length_le (by omega)
    rw[hie]
    repeat'((first|refine S2 ?_|(refine T6 ?_ ?_<;>intro h<;>try exact V1 h)|intro el nX nY|intro el nX|exact T4|refine T5 ?_ ?_|intro ex)<;>try conv=>whnf)
    all_goals first
     |(exfalso;omega)
     |exact⟨(k+1,z7 own out),⟨by omega,i2,by dsimp only;rw[Bj];omega,fun x hx=>by obtain⟨l,h1,h2⟩:=UF hx;have:=i4 l h1;dsimp only;omega⟩,by dsimp only;omega,A6 h0⟩
 ·have he:dims.drop k=[]:=List.drop_eq_nil_of_le (by omega)
  rw[he,Y0]at i2
  subst i2
  repeat'((first|refine S2 ?_|(refine T6 ?_ ?_<;>intro h<;>try exact V1 h)|intro el nX nY|intro el nX|exact T4|refine T5 ?_ ?_|intro ex)<;>try conv=>whnf)
  all_goals first
   |(exfalso;omega)
   |exact V2 rfl rfl rfl
structure DT(s:A4)(e:G2):Prop where
 op:1≤e.op∧e.op≤14
 unu:MA e
 par:GQ s e=true
 cnd:Hv e.op→H0 s e.cnd=0
 evt:Hw e.op→H0 s e.evt=0
 pair:CS e.op→e.kids.length=2
 kid:∀k∈e.kids,PG k.op∧z6 s k=true
theorem Qh{s:A4}{e:G2}(h:z6 s e=true):DT s e:=by
 rw[Ws]at h
 simp only[Bool.and_eq_true,Bool.not_eq_true',Yu]at h
 obtain⟨⟨⟨⟨⟨⟨h1,h2⟩,h3⟩,h4⟩,h5⟩,h6⟩,h7⟩:=h
 refine⟨of_decide_eq_true h1,of_decide_eq_true h2,h3,fun hc=>?_,fun hc=>?_,fun hc=>?_,fun k hk=>?_⟩
 ·rw[decide_eq_false (fun hn=>hn hc),Bool.false_or]at h4;exact of_decide_eq_true h4
 ·rw[decide_eq_false (fun hn=>hn hc),Bool.false_or]at h5;exact of_decide_eq_true h5
 ·rw[decide_eq_false (fun hn=>hn hc),Bool.false_or]at h6;exact of_decide_eq_true h6
 ·have:=List.any_eq_false.1 h7 k hk
  simp only[MC,Bool.or_eq_true,not_or,Bool.not_eq_true',Bool.not_eq_false]at this
  exact⟨of_decide_eq_true this.1,this.2⟩
theorem Aq{s:A4}{col kind:Int}(h:P6 s col kind=true):0≤col∧col<s.cols.length∧∃c,s.cols[col.toNat]?=some c∧c.kind=kind:=by
 obtain⟨h0,h1,h2⟩:0≤col∧col<s.cols.length∧(B4 s col).kind=kind:=by simpa [P6]using h
 have hc:s.cols[col.toNat]?=some (s.cols[col.toNat]'(by omega)):=List.getElem?_eq_getElem (by omega)
 exact⟨h0,h1,_,hc,by rw[C0 hc]at h2;exact h2⟩
theorem DT.col{s:A4}{e:G2}(h:DT s e)(ho:BU e.op):(e.op=10∧e.col=-1)∨P6 s e.col 3=true:=by
 have hp:=h.par
 have qZ:=h.op
 simp only[BU]at ho
 unfold GQ at hp
 rw[if_neg (by omega),if_neg (by omega)]at hp
 by_cases h4:e.op=4∨e.op=5∨e.op=14
 ·rw[if_pos h4]at hp;exact .inr hp
 rw[if_neg h4]at hp
 by_cases sT:e.op=10
 ·rw[if_pos sT]at hp
  simp only[Bool.and_eq_true,Bool.or_eq_true]at hp
  rcases hp.2 with h|h
  ·exact .inl ⟨sT,of_decide_eq_true h⟩
  ·exact .inr h
 rw[if_neg sT]at hp
 by_cases uv:e.op=11
 ·rw[if_pos uv]at hp
  simp only[Bool.and_eq_true]at hp
  exact .inr hp.1
 rw[if_neg uv]at hp
 by_cases h12:e.op=12
 ·rw[if_pos h12]at hp
  simp only[Bool.and_eq_true]at hp
  exact .inr hp.1
 rw[if_neg h12,if_pos (by omega)]at hp
 simp only[Bool.and_eq_true]at hp
 exact .inr hp.1
theorem DT.lens{s:A4}{e:G2}(h:DT s e):e.dims.length≤3∧e.cols.length≤3∧e.kids.length≤2:=by
 obtain⟨_,_,_,h4,h5,_,_,h8⟩:=h.unu
 have hp:=h.par
 unfold GQ at hp
 refine⟨?_,?_,?_⟩
 ·rcases h5 with h5|h5
  ·have sT:e.op=10:=h5
   rw[if_neg (by omega),if_neg (by omega),if_neg (by omega),if_pos sT]at hp
   simp only[Bool.and_eq_true]at hp
   have:=of_decide_eq_true hp.1
   unfold J4 at this
   split at this
   ·cases this
   ·omega
  ·omega
 ·rcases h4 with h4|h4
  ·have uv:e.op=11:=h4
   rw[if_neg (by omega),if_neg (by omega),if_neg (by omega),if_neg (by omega),if_pos uv]at hp
   simp only[Bool.and_eq_true]at hp
   have:=of_decide_eq_true hp.2
   unfold Y7 at this
   split at this
   ·cases this
   ·omega
  ·omega
 ·rcases h8 with h8|h8
  ·have:=h.pair h8;omega
  ·omega
theorem DT.trm{s:A4}{e:G2}(h:DT s e):∀c∈e.cols,P6 s c 3=true:=by
 intro c hc
 have pL:=h.par
 have h4:=h.unu.2.2.2.1
 unfold GQ at pL
 have uv:e.op=11:=by
  rcases h4 with h|h
  ·exact h
  ·rw[List.eq_nil_of_length_eq_zero h]at hc;cases hc
 rw[if_neg (by omega),if_neg (by omega),if_neg (by omega),if_neg (by omega),if_pos uv]at pL
 simp only[Bool.and_eq_true]at pL
 have pn:=of_decide_eq_true pL.2
 unfold Y7 at pn
 split at pn
 ·cases pn
 ·obtain⟨i,hi,he⟩:=List.getElem_of_mem hc
  have:=O5 pn i c (by rw[List.getElem?_eq_getElem hi,he])
  unfold X8 at this
  split at this
  ·cases this
  ·rename_i hb;simpa using hb
theorem DT.dim{s:A4}{e:G2}(h:DT s e):∀d∈e.dims,I4 s d=0:=by
 intro d hd
 have pL:=h.par
 have h5:=h.unu.2.2.2.2.1
 unfold GQ at pL
 have sT:e.op=10:=by
  rcases h5 with h|h
  ·exact h
  ·rw[List.eq_nil_of_length_eq_zero h]at hd;cases hd
 rw[if_neg (by omega),if_neg (by omega),if_neg (by omega),if_pos sT]at pL
 simp only[Bool.and_eq_true]at pL
 have pn:=of_decide_eq_true pL.1
 unfold J4 at pn
 split at pn
 ·cases pn
 ·obtain⟨i,hi,he⟩:=List.getElem_of_mem hd
  have:=O5 pn i d (by rw[List.getElem?_eq_getElem hi,he])
  unfold Q0 at this
  split at this
  ·exact absurd this (by assumption)
  ·rename_i qM;exact Decidable.of_not_not qM
end Go.Proofs.YtiphlhoclaogjaaGreatDoor
