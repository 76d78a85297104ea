/- Chapter 18: the lists of codes of a table's cells: the program. -/
import Derived.Test.YtiphlhoclaogjaaGreatDoorRTa8
import Derived.Test.YtiphlhoclaogjaaGreatDoorRF2
import Derived.Test.YtiphlhoclaogjaaGreatDoorRF1
import Derived.Test.YtiphlhoclaogjaaGreatDoorRCd1
set_option linter.unusedVariables false
set_option linter.unnecessarySimpa false
set_option linter.unusedSimpArgs false
set_option maxHeartbeats 64000000
namespace Go.Proofs.YtiphlhoclaogjaaGreatDoor
open Go Go.Av
attribute [local irreducible] C9 B3 C7 D1 DQ D0 C6 St.le A3 B7
set_option maxRecDepth 100000
theorem To(l:List Int)(hl:l.length≤1000000):B7 Tryz.prog 109 0 [] [.sl 1 (l.map wA)] 1 [(0,some (.row 3 1 0 (l.map wA)))] (.row 0 0 l.length):=by
 refine Y6 Tryz.func109 8 fun E h0=>?_
 repeat'((first|(refine Ng rfl rfl rfl (fun b hb=>?_);cases b)|refine R1 (T:=37) rfl ?_ |refine S2 ?_|(refine T6 ?_ ?_<;>intro h<;>try exact V1 h)|intro el mI mJ|intro el mI|exact T4|refine T5 ?_ ?_|intro ex)<;>try conv=>whnf)
 all_goals first
  |(exfalso;omega)
  |exact H4 (A7 h0 rfl ⟨congrArg (fun z:Nat=>some (AV.row 0 0 z)) (by simp),trivial⟩ ⟨⟨_,congrArg (C4.row 3 1 _) (by simp[L4])⟩,trivial⟩ rfl rfl rfl)
  |(have e:=List.map_eq_nil_iff.1 (hb rfl);subst e;exact H4 (B9 (H7 (d:=2) (e:=3) (sz:=1) rfl) (A6 h0)))
theorem LC(l:List Pk)(hl:l.length≤1000000):A3 Tryz.prog 48 [.sl 2 (l.map A8)] (.sl 2 (l.map A8)):=by
 refine B5 Tryz.func48 8 fun mK E h0=>?_
 clear mK
 repeat'((first|(refine Ng rfl rfl rfl (fun b hb=>?_);cases b)|refine R1 (T:=23) rfl ?_ |refine S2 ?_|(refine T6 ?_ ?_<;>intro h<;>try exact V1 h)|intro el mI mJ|intro el mI|exact T4|refine T5 ?_ ?_|intro ex)<;>try conv=>whnf)
 all_goals first
  |(exfalso;omega)
  |exact A1 rfl rfl
  |(have e:=List.map_eq_nil_iff.1 (hb rfl);subst e;exact l5 rfl rfl)
def O7(s:A4)(d:Pk):List Int:=-1::(H1 (C2 s (B8 s d.col)).1 (C2 s (B8 s d.col)).2 d.lev).map fun n:Nat=>(n:Int)
def AO(own:List Int)(out:List (List Int)):List (List Int):=out.flatMap fun l=>own.map fun c=>l++[c]
def Y0(s:A4):List Pk→List (List Int)→Option (List (List Int))
 |[],out=>some out
 |d::r,out=>if 2000<out.length*(O7 s d).length then none else Y0 s r (AO (O7 s d) out)
abbrev lr(o:Option (List (List Int))):AV:=.tup [.sl 1 ((o.getD []).map D2),.b o.isSome]
theorem Bw(own:List Int):∀out:List (List Int),(AO own out).length=out.length*own.length
 |[]=>by simp[AO]
 |a::r=>by
  have:=Bw own r
  unfold AO at this ⊢
  rw[List.flatMap_cons,List.length_append,this,List.length_map,List.length_cons,Nat.succ_mul,Nat.add_comm]
theorem ap{own:List Int}{out:List (List Int)}{k:Nat}{l:List Int}(h:out[k]?=some l):AO own (out.take (k+1))=AO own (out.take k)++own.map fun c=>l++[c]:=by
 rw[E7 h]
 unfold AO
 rw[List.flatMap_append]
 simp
theorem Tp{own:List Int}{out:List (List Int)}{x:List Int}(h:x∈AO own out):∃l∈out,x.length=l.length+1:=by
 unfold AO at h
 rw[List.mem_flatMap]at h
 obtain⟨l,h1,h2⟩:=h
 rw[List.mem_map]at h2
 obtain⟨c,_,rfl⟩:=h2
 exact⟨l,h1,by simp⟩
theorem Dv{s:A4}(hr:C3 s=0){d:Pk}(h1:N3 s d=0)(h2:(B8 s d.col).kind=2):∃x L,s.cols[d.col.toNat]?=some x∧B8 s d.col=x∧1≤d.col∧(0≤x.lst∧x.lst<s.lists.length)∧s.lists[x.lst.toNat]?=some L∧C2 s x=L∧chk L.1 L.2=0:=by
 obtain⟨h3,h4⟩:=Ja h1
 obtain⟨x,hx⟩:∃x,s.cols[d.col.toNat]?=some x:=⟨_,List.getElem?_eq_getElem (by omega)⟩
 have mX:B8 s d.col=x:=C1 hx
 have h5:1≤d.col:=by
  unfold N3 BZ E5 at h1
  rw[if_pos hr]at h1
  by_cases hc:d.col<1∨(s.cols.length:Int)≤d.col
  ·rw[if_pos hc]at h1;cases h1
  ·omega
 rw[mX]at h2
 rcases n9 hr h5 hx with h6|h6
 ·obtain⟨L,hL⟩:∃L,s.lists[x.lst.toNat]?=some L:=⟨_,List.getElem?_eq_getElem (by omega)⟩
  exact⟨x,L,hx,mX,h5,h6.2,hL,D7 hL,(D3 hr).2.2.1 L (List.mem_of_getElem? hL)⟩
 ·omega
theorem kM{P:Program}{E:Env}{n:Nat}{ops:Array Oper}{rest:List Oper}{σ:St}{K:St→Prop}{d:Option Nat}{T m t:Nat}{ty:TypeId}{pos:String}{after:Array Edge}{i ver len:Nat}(hx:Go.Av.look σ.sl t=some (.row i ver len))(h:B3 P E n ops (⟨d,.buildSlice T m #[(0,.tmp t)],ty,pos,after,none⟩::rest) (σ.frz i) K):
  B3 P E n ops (⟨d,.buildSlice T m #[(0,.tmp t)],ty,pos,after,none⟩::rest) σ K:=DG (Et i) h
theorem FQ(s:A4)(hr:C3 s=0)(dims:List Pk)(pB:dims.length≤3)(hd:∀d∈dims,N3 s d=0∧(B8 s d.col).kind=2):A3 Tryz.prog 47 [sA s,.sl 2 (dims.map A8)] (lr (Y0 s dims [[]])):=by
 generalize hR:Y0 s dims [[]]=R
 refine B5 Tryz.func47 69 fun mK E h0=>?_
 clear mK
 repeat'((first|refine R1 (T:=24) rfl ?_ |refine S2 ?_|(refine T6 ?_ ?_<;>intro h<;>try exact V1 h)|intro el mI mJ|intro el mI|exact T4|refine T5 ?_ ?_|intro ex)<;>try conv=>whnf)
 all_goals first
  |(exfalso;omega)
  |skip
 refine A9 (ι:=Nat×List (List Int)) (fun x=>⟨[(2,.iptr (sL s)),(6,.sl 1 (x.2.map D2)),(16,.sl 2 (dims.map A8)),(17,.i dims.length),(18,.i x.1)],0,[]⟩)
  (fun x=>x.1≤dims.length∧Y0 s (dims.drop x.1) x.2=R∧x.2.length≤2000∧∀l∈x.2,l.length≤x.1) (fun x=>dims.length-x.1) (0,[[]]) ⟨Nat.zero_le _,hR,by decide,fun l hl=>by simp at hl;subst hl;exact Nat.le_refl _⟩
  (B9 (RL 1 [[.sl 1 []]] rfl ⟨⟨.nil 1,trivial⟩,trivial⟩) (A6 h0)) (fun x hI=>?_)
 obtain⟨k,out⟩:=x
 obtain⟨i1,i2,i3,i4⟩:=hI
 dsimp only at i1 i2 i3 i4 ⊢
 by_cases mT:k<dims.length
 ·obtain⟨d,zY⟩:∃d,dims[k]?=some d:=⟨_,List.getElem?_eq_getElem mT⟩
  have vq:dims[((k:Nat):Int).toNat]?=some d:=zY
  obtain⟨rW,po⟩:=hd d (List.mem_of_getElem? zY)
  obtain⟨x,L,hx,mX,qj,⟨sx,pD⟩,hL,pT,tg⟩:=Dv hr rW po
  obtain⟨nm,cs⟩:=L
  have nJ:=(G9 tg).2.2
  have pC:=Gg nm cs d.lev (by dsimp only at nJ;omega)
  have mO:(O7 s d).map wA=[[.i (-1)]]++(H1 nm cs d.lev).map iA:=by unfold O7;rw[mX,pT,List.map_cons,List.map_map];rfl
  have pL:(O7 s d).length=(H1 nm cs d.lev).length+1:=by unfold O7;rw[mX,pT];simp
  have rQ:(H1 nm cs d.lev).length≤cs.length:=by unfold H1;split<;>first|exact Dp _ _ _|exact Nat.zero_le _
  dsimp only at nJ
  rw[G1 zY,Y0]at i2
  generalize O7 s d=own at *
  generalize H1 nm cs d.lev=px at *
  have qC:out.length*own.length≤2000*61:=Nat.mul_le_mul i3 (by omega)
  by_cases qe:2000<out.length*own.length
  ·rw[if_pos qe]at i2
   subst i2
   repeat'((first|(refine E6 5 ?_;refine R2 (id:=5) (σ':=⟨[(2,.iptr (sL s)),(6,.sl 1 (out.map D2)),(8,.iptr (A8 d)),(16,.sl 2 (dims.map A8)),(17,.i dims.length),(18,.i k)],0,[]⟩) (A6 h0) ?_;refine F3 (id:=5) ⟨[(6,.sl 1 (out.map D2)),(9,.sl 1 (own.map wA))],0,[]⟩ ?_ ?_)|(refine BI ?_ ?_ ?_;kernel_rfl;kernel_rfl)|refine R1 (T:=37) rfl ?_|(refine A2 (x:=d) vq (by omega) ?_)|(refine A2 (x:=x) hx (by omega) ?_)|(refine A2 (x:=(nm,cs)) hL (by omega) ?_)|refine A0 pC ?_ |refine S2 ?_|(refine T6 ?_ ?_<;>intro h<;>try exact V1 h)|intro el mI mJ|intro el mI|exact T4|refine T5 ?_ ?_|intro ex)<;>try conv=>whnf)
   all_goals first
    |(exfalso;omega)
    |exact A7 h0 rfl ⟨rfl,congrArg (fun z=>some (AV.sl 1 z)) mO.symm,trivial⟩ trivial rfl rfl rfl
    |exact SA (rs:=[.tmp 4,.tmp 5]) (vs:=[.sl 1 [],.b false]) rfl ⟨SB rfl (.nil 1),SB rfl (.refl _),trivial⟩ rfl
  ·rw[if_neg qe]at i2
   repeat'((first|(refine E6 5 ?_;refine R2 (id:=5) (σ':=⟨[(2,.iptr (sL s)),(6,.sl 1 (out.map D2)),(8,.iptr (A8 d)),(16,.sl 2 (dims.map A8)),(17,.i dims.length),(18,.i k)],0,[]⟩) (A6 h0) ?_;refine F3 (id:=5) ⟨[(2,.iptr (sL s)),(6,.sl 1 (out.map D2)),(9,.sl 1 (own.map wA)),(16,.sl 2 (dims.map A8)),(17,.i dims.length),(18,.i k)],0,[]⟩ ?_ ?_)|(refine BI ?_ ?_ ?_;kernel_rfl;kernel_rfl)|refine R1 (T:=37) rfl ?_|(refine A2 (x:=d) vq (by omega) ?_)|(refine A2 (x:=x) hx (by omega) ?_)|(refine A2 (x:=(nm,cs)) hL (by omega) ?_)|refine A0 pC ?_ |refine S2 ?_|(refine T6 ?_ ?_<;>intro h<;>try exact V1 h)|intro el mI mJ|intro el mI|exact T4|refine T5 ?_ ?_|intro ex)<;>try conv=>whnf)
   all_goals first
    |(exfalso;omega)
    |exact A7 h0 rfl ⟨rfl,rfl,congrArg (fun z=>some (AV.sl 1 z)) mO.symm,rfl,rfl,rfl,trivial⟩ trivial rfl rfl rfl
    |skip
   refine A9 (ι:=Nat) (fun i=>⟨[(2,.iptr (sL s)),(9,.sl 1 (own.map wA)),(10,.row 0 0 (AO own (out.take i)).length),(16,.sl 2 (dims.map A8)),(17,.i dims.length),(18,.i k),(44,.sl 1 (out.map D2)),(45,.i out.length),(46,.i i)],1,[(0,some (.row 37 1 0 ((AO own (out.take i)).map D2)))]⟩)
    (fun i=>i≤out.length) (fun i=>out.length-i) 0 (Nat.zero_le _)
    (B9 (H7 (d:=10) (e:=37) (sz:=1) rfl) (A7 h0 rfl ⟨rfl,rfl,rfl,rfl,rfl,rfl,rfl,rfl,rfl,trivial⟩ ⟨⟨0,rfl⟩,trivial⟩ rfl rfl rfl)) (fun i hi=>?_)
   by_cases pg:i<out.length
   ·obtain⟨l,tX⟩:∃l,out[i]?=some l:=⟨_,List.getElem?_eq_getElem pg⟩
    have yF:out[((i:Nat):Int).toNat]?=some l:=tX
    have rN:=i4 l (List.mem_of_getElem? tX)
    have mf:=To l (by omega)
    have uw:(AO own (out.take i)).length+own.length≤2000:=by
     rw[Bw,List.length_take,Nat.min_eq_left (by omega)]
     have:=Nat.mul_le_mul_right own.length (show i+1≤out.length by omega)
     rw[Nat.succ_mul]at this
     omega
    have pM:=ap (own:=own) tX
    generalize hA:AO own (out.take i)=A at *
    repeat'((first|(refine A2 (x:=l) yF (by omega) ?_) |refine S2 ?_|(refine T6 ?_ ?_<;>intro h<;>try exact V1 h)|intro el mI mJ|intro el mI|exact T4|refine T5 ?_ ?_|intro ex)<;>try conv=>whnf)
    all_goals first
     |(exfalso;omega)
     |skip
    refine A9 (ι:=Nat) (fun j=>⟨[(2,.iptr (sL s)),(9,.sl 1 (own.map wA)),(10,.row 0 0 (A.length+j)),(12,.sl 1 (l.map wA)),(16,.sl 2 (dims.map A8)),(17,.i dims.length),(18,.i k),(44,.sl 1 (out.map D2)),(45,.i out.length),(46,.i i),(50,.sl 1 (own.map wA)),(51,.i own.length),(52,.i j)],1,[(0,some (.row 37 1 0 ((A++(own.take j).map fun c=>l++[c]).map D2)))]⟩)
     (fun j=>j≤own.length) (fun j=>own.length-j) 0 (Nat.zero_le _)
     (A7 h0 rfl ⟨rfl,rfl,rfl,rfl,rfl,rfl,rfl,rfl,rfl,rfl,rfl,rfl,rfl,trivial⟩ ⟨⟨_,congrArg (C4.row 37 1 _) (by simp)⟩,trivial⟩ rfl rfl rfl) (fun j hj=>?_)
    by_cases su:j<own.length
    ·obtain⟨c,zi⟩:∃c,own[j]?=some c:=⟨_,List.getElem?_eq_getElem su⟩
     have zD:own[((j:Nat):Int).toNat]?=some c:=zi
     have yL:A++(own.take (j+1)).map (fun c=>l++[c])=(A++(own.take j).map fun c=>l++[c])++[l++[c]]:=by rw[E7 zi,List.map_append,List.append_assoc];rfl
     have rC:(A++(own.take j).map fun c=>l++[c]).length=A.length+j:=by rw[List.length_append,List.length_map,List.length_take];omega
     generalize (A++(own.take j).map fun c=>l++[c])=B at *
     repeat'((first|(refine A2 (x:=c) zD (by omega) ?_)|refine kM (T:=24) rfl ?_|refine f9 [] [] mf rfl rfl rfl rfl rfl trivial rfl rfl rfl rfl rfl ?_ |refine S2 ?_|(refine T6 ?_ ?_<;>intro h<;>try exact V1 h)|intro el mI mJ|intro el mI|exact T4|refine T5 ?_ ?_|intro ex)<;>try conv=>whnf)
     all_goals first
      |(exfalso;omega)
      |exact⟨j+1,by omega,by omega,A7 h0 rfl ⟨rfl,rfl,rfl,rfl,rfl,rfl,rfl,rfl,rfl,rfl,rfl,rfl,rfl,trivial⟩ ⟨⟨_,congrArg (C4.row 37 1 _) (by rw[yL];simp[D2];rfl)⟩,trivial⟩ rfl rfl rfl⟩
    ·have yN:own.take j=own:=List.take_of_length_le (by omega)
     have ya:j=own.length:=by omega
     rw[yN,←pM]
     subst ya
     repeat'((first|refine S2 ?_|(refine T6 ?_ ?_<;>intro h<;>try exact V1 h)|intro el mI mJ|intro el mI|exact T4|refine T5 ?_ ?_|intro ex)<;>try conv=>whnf)
     all_goals first
      |(exfalso;omega)
      |exact⟨i+1,by omega,by omega,A7 h0 rfl ⟨rfl,rfl,congrArg (fun z:Nat=>some (AV.row 0 0 z)) (by rw[pM,List.length_append,List.length_map]),rfl,rfl,rfl,rfl,rfl,rfl,trivial⟩ ⟨⟨_,rfl⟩,trivial⟩ rfl rfl rfl⟩
   ·have sI:out.take i=out:=List.take_of_length_le (by omega)
    rw[sI]
    repeat'((first|refine S2 ?_|(refine T6 ?_ ?_<;>intro h<;>try exact V1 h)|intro el mI mJ|intro el mI|exact T4|refine T5 ?_ ?_|intro ex)<;>try conv=>whnf)
    all_goals first
     |(exfalso;omega)
     |exact⟨(k+1,AO own out),⟨by omega,i2,by dsimp only;rw[Bw];omega,fun x hx=>by obtain⟨l,h1,h2⟩:=Tp hx;have:=i4 l h1;dsimp only;omega⟩,by dsimp only;omega,A6 h0⟩
 ·have he:dims.drop k=[]:=List.drop_eq_nil_of_le (by omega)
  rw[he,Y0]at i2
  subst i2
  repeat'((first|refine S2 ?_|(refine T6 ?_ ?_<;>intro h<;>try exact V1 h)|intro el mI mJ|intro el mI|exact T4|refine T5 ?_ ?_|intro ex)<;>try conv=>whnf)
  all_goals first
   |(exfalso;omega)
   |exact I3 rfl rfl rfl
structure BO(s:A4)(e:F6):Prop where
 op:1≤e.op∧e.op≤14
 unu:FN e
 par:DR s e=true
 cnd:o6 e.op→J6 s e.cnd=0
 evt:o7 e.op→J6 s e.evt=0
 pair:P2 e.op→e.kids.length=2
 kid:∀k∈e.kids,Ou k.op∧Aw s k=true
theorem QV{s:A4}{e:F6}(h:Aw s e=true):BO s e:=by
 rw[DT]at h
 simp only[Bool.and_eq_true,Bool.not_eq_true',JV]at h
 obtain⟨⟨⟨⟨⟨⟨h1,h2⟩,h3⟩,h4⟩,h5⟩,h6⟩,h7⟩:=h
 refine⟨of_decide_eq_true h1,of_decide_eq_true h2,h3,fun hc=>?_,fun hc=>?_,fun hc=>?_,fun k hk=>?_⟩
 ·rw[decide_eq_false (fun hn=>hn hc),Bool.false_or]at h4;exact of_decide_eq_true h4
 ·rw[decide_eq_false (fun hn=>hn hc),Bool.false_or]at h5;exact of_decide_eq_true h5
 ·rw[decide_eq_false (fun hn=>hn hc),Bool.false_or]at h6;exact of_decide_eq_true h6
 ·have:=List.any_eq_false.1 h7 k hk
  simp only[DS,Bool.or_eq_true,not_or,Bool.not_eq_true',Bool.not_eq_false]at this
  exact⟨of_decide_eq_true this.1,this.2⟩
theorem v4{s:A4}{col kind:Int}(h:Q5 s col kind=true):0≤col∧col<s.cols.length∧∃c,s.cols[col.toNat]?=some c∧c.kind=kind:=by
 obtain⟨h0,h1,h2⟩:0≤col∧col<s.cols.length∧(B8 s col).kind=kind:=by simpa [Q5]using h
 have hc:s.cols[col.toNat]?=some (s.cols[col.toNat]'(by omega)):=List.getElem?_eq_getElem (by omega)
 exact⟨h0,h1,_,hc,by rw[C1 hc]at h2;exact h2⟩
theorem BO.col{s:A4}{e:F6}(h:BO s e)(ho:j6 e.op):(e.op=10∧e.col=-1)∨Q5 s e.col 3=true:=by
 have hp:=h.par
 have pJ:=h.op
 simp only[j6]at ho
 unfold DR at hp
 rw[if_neg (by omega),if_neg (by omega)]at hp
 by_cases h4:e.op=4∨e.op=5∨e.op=14
 ·rw[if_pos h4]at hp;exact .inr hp
 rw[if_neg h4]at hp
 by_cases rU:e.op=10
 ·rw[if_pos rU]at hp
  simp only[Bool.and_eq_true,Bool.or_eq_true]at hp
  rcases hp.2 with h|h
  ·exact .inl ⟨rU,of_decide_eq_true h⟩
  ·exact .inr h
 rw[if_neg rU]at hp
 by_cases uM:e.op=11
 ·rw[if_pos uM]at hp
  simp only[Bool.and_eq_true]at hp
  exact .inr hp.1
 rw[if_neg uM]at hp
 by_cases h12:e.op=12
 ·rw[if_pos h12]at hp
  simp only[Bool.and_eq_true]at hp
  exact .inr hp.1
 rw[if_neg h12,if_pos (by omega)]at hp
 simp only[Bool.and_eq_true]at hp
 exact .inr hp.1
theorem BO.lens{s:A4}{e:F6}(h:BO s e):e.dims.length≤3∧e.cols.length≤3∧e.kids.length≤2:=by
 obtain⟨_,_,_,h4,h5,_,_,h8⟩:=h.unu
 have hp:=h.par
 unfold DR at hp
 refine⟨?_,?_,?_⟩
 ·rcases h5 with h5|h5
  ·have rU:e.op=10:=h5
   rw[if_neg (by omega),if_neg (by omega),if_neg (by omega),if_pos rU]at hp
   simp only[Bool.and_eq_true]at hp
   have:=of_decide_eq_true hp.1
   unfold Q2 at this
   split at this
   ·cases this
   ·omega
  ·omega
 ·rcases h4 with h4|h4
  ·have uM:e.op=11:=h4
   rw[if_neg (by omega),if_neg (by omega),if_neg (by omega),if_neg (by omega),if_pos uM]at hp
   simp only[Bool.and_eq_true]at hp
   have:=of_decide_eq_true hp.2
   unfold W8 at this
   split at this
   ·cases this
   ·omega
  ·omega
 ·rcases h8 with h8|h8
  ·have:=h.pair h8;omega
  ·omega
theorem BO.trm{s:A4}{e:F6}(h:BO s e):∀c∈e.cols,Q5 s c 3=true:=by
 intro c hc
 have nz:=h.par
 have h4:=h.unu.2.2.2.1
 unfold DR at nz
 have uM:e.op=11:=by
  rcases h4 with h|h
  ·exact h
  ·rw[List.eq_nil_of_length_eq_zero h]at hc;cases hc
 rw[if_neg (by omega),if_neg (by omega),if_neg (by omega),if_neg (by omega),if_pos uM]at nz
 simp only[Bool.and_eq_true]at nz
 have nw:=of_decide_eq_true nz.2
 unfold W8 at nw
 split at nw
 ·cases nw
 ·obtain⟨i,hi,he⟩:=List.getElem_of_mem hc
  have:=O9 nw i c (by rw[List.getElem?_eq_getElem hi,he])
  unfold X6 at this
  split at this
  ·cases this
  ·rename_i hb;simpa using hb
theorem BO.dim{s:A4}{e:F6}(h:BO s e):∀d∈e.dims,N3 s d=0:=by
 intro d hd
 have nz:=h.par
 have h5:=h.unu.2.2.2.2.1
 unfold DR at nz
 have rU:e.op=10:=by
  rcases h5 with h|h
  ·exact h
  ·rw[List.eq_nil_of_length_eq_zero h]at hd;cases hd
 rw[if_neg (by omega),if_neg (by omega),if_neg (by omega),if_pos rU]at nz
 simp only[Bool.and_eq_true]at nz
 have nw:=of_decide_eq_true nz.1
 unfold Q2 at nw
 split at nw
 ·cases nw
 ·obtain⟨i,hi,he⟩:=List.getElem_of_mem hd
  have:=O9 nw i d (by rw[List.getElem?_eq_getElem hi,he])
  unfold W0 at this
  split at this
  ·exact absurd this (by assumption)
  ·rename_i pN;exact Decidable.of_not_not pN
end Go.Proofs.YtiphlhoclaogjaaGreatDoor
