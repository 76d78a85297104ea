/- Chapter 18: the lists of codes of a table's cells: the program. -/
import Derived.Test.YtiphlhoclaogjaaGreatDoorJTa8
import Derived.Test.YtiphlhoclaogjaaGreatDoorJF2
import Derived.Test.YtiphlhoclaogjaaGreatDoorJF1
import Derived.Test.YtiphlhoclaogjaaGreatDoorJCd1
set_option linter.unusedVariables false
set_option linter.unnecessarySimpa false
set_option linter.unusedSimpArgs false
set_option maxHeartbeats 64000000
namespace Go.Proofs.YtiphlhoclaogjaaGreatDoor
open Go Go.Av
attribute [local irreducible] C9 B3 C8 D1 DQ D0 C7 St.le A3 B8
set_option maxRecDepth 100000
theorem Uh(l:List Int)(hl:l.length≤1000000):B8 Tryz.prog 109 0 [] [.sl 1 (l.map wA)] 1 [(0,some (.row 3 1 0 (l.map wA)))] (.row 0 0 l.length):=by
 refine c9 Tryz.func109 8 fun E h0=>?_
 repeat'((first|(refine Of rfl rfl rfl (fun b hb=>?_);cases b)|refine R5 (T:=37) rfl ?_ |refine S2 ?_|(refine T6 ?_ ?_<;>intro h<;>try exact V1 h)|intro el nJ nK|intro el nJ|exact T4|refine T5 ?_ ?_|intro ex)<;>try conv=>whnf)
 all_goals first
  |(exfalso;omega)
  |exact H6 (A7 h0 rfl ⟨congrArg (fun z:Nat=>some (AV.row 0 0 z)) (by simp),trivial⟩ ⟨⟨_,congrArg (C4.row 3 1 _) (by simp[L6])⟩,trivial⟩ rfl rfl rfl)
  |(have e:=List.map_eq_nil_iff.1 (hb rfl);subst e;exact H6 (C0 (I0 (d:=2) (e:=3) (sz:=1) rfl) (A6 h0)))
theorem MA(l:List Pk)(hl:l.length≤1000000):A3 Tryz.prog 48 [.sl 2 (l.map A8)] (.sl 2 (l.map A8)):=by
 refine B5 Tryz.func48 8 fun nL E h0=>?_
 clear nL
 repeat'((first|(refine Of rfl rfl rfl (fun b hb=>?_);cases b)|refine R5 (T:=23) rfl ?_ |refine S2 ?_|(refine T6 ?_ ?_<;>intro h<;>try exact V1 h)|intro el nJ nK|intro el nJ|exact T4|refine T5 ?_ ?_|intro ex)<;>try conv=>whnf)
 all_goals first
  |(exfalso;omega)
  |exact A1 rfl rfl
  |(have e:=List.map_eq_nil_iff.1 (hb rfl);subst e;exact p8 rfl rfl)
def O9(s:A4)(d:Pk):List Int:=-1::(H1 (C2 s (B6 s d.col)).1 (C2 s (B6 s d.col)).2 d.lev).map fun n:Nat=>(n:Int)
def BJ(own:List Int)(out:List (List Int)):List (List Int):=out.flatMap fun l=>own.map fun c=>l++[c]
def U9(s:A4):List Pk→List (List Int)→Option (List (List Int))
 |[],out=>some out
 |d::r,out=>if 2000<out.length*(O9 s d).length then none else U9 s r (BJ (O9 s d) out)
abbrev mw(o:Option (List (List Int))):AV:=.tup [.sl 1 ((o.getD []).map D4),.b o.isSome]
theorem Cs(own:List Int):∀out:List (List Int),(BJ own out).length=out.length*own.length
 |[]=>by simp[BJ]
 |a::r=>by
  have:=Cs own r
  unfold BJ at this ⊢
  rw[List.flatMap_cons,List.length_append,this,List.length_map,List.length_cons,Nat.succ_mul,Nat.add_comm]
theorem br{own:List Int}{out:List (List Int)}{k:Nat}{l:List Int}(h:out[k]?=some l):BJ own (out.take (k+1))=BJ own (out.take k)++own.map fun c=>l++[c]:=by
 rw[F1 h]
 unfold BJ
 rw[List.flatMap_append]
 simp
theorem Ui{own:List Int}{out:List (List Int)}{x:List Int}(h:x∈BJ own out):∃l∈out,x.length=l.length+1:=by
 unfold BJ at h
 rw[List.mem_flatMap]at h
 obtain⟨l,h1,h2⟩:=h
 rw[List.mem_map]at h2
 obtain⟨c,_,rfl⟩:=h2
 exact⟨l,h1,by simp⟩
theorem El{s:A4}(hr:C3 s=0){d:Pk}(h1:N5 s d=0)(h2:(B6 s d.col).kind=2):∃x L,s.cols[d.col.toNat]?=some x∧B6 s d.col=x∧1≤d.col∧(0≤x.lst∧x.lst<s.lists.length)∧s.lists[x.lst.toNat]?=some L∧C2 s x=L∧chk L.1 L.2=0:=by
 obtain⟨h3,h4⟩:=KU h1
 obtain⟨x,hx⟩:∃x,s.cols[d.col.toNat]?=some x:=⟨_,List.getElem?_eq_getElem (by omega)⟩
 have nY:B6 s d.col=x:=B9 hx
 have h5:1≤d.col:=by
  unfold N5 CV E6 at h1
  rw[if_pos hr]at h1
  by_cases hc:d.col<1∨(s.cols.length:Int)≤d.col
  ·rw[if_pos hc]at h1;cases h1
  ·omega
 rw[nY]at h2
 rcases u5 hr h5 hx with h6|h6
 ·obtain⟨L,hL⟩:∃L,s.lists[x.lst.toNat]?=some L:=⟨_,List.getElem?_eq_getElem (by omega)⟩
  exact⟨x,L,hx,nY,h5,h6.2,hL,D7 hL,(D2 hr).2.2.1 L (List.mem_of_getElem? hL)⟩
 ·omega
theorem lU{P:Program}{E:Env}{n:Nat}{ops:Array Oper}{rest:List Oper}{σ:St}{K:St→Prop}{d:Option Nat}{T m t:Nat}{ty:TypeId}{pos:String}{after:Array Edge}{i ver len:Nat}(hx:Go.Av.look σ.sl t=some (.row i ver len))(h:B3 P E n ops (⟨d,.buildSlice T m #[(0,.tmp t)],ty,pos,after,none⟩::rest) (σ.frz i) K):
  B3 P E n ops (⟨d,.buildSlice T m #[(0,.tmp t)],ty,pos,after,none⟩::rest) σ K:=Dx (Fq i) h
theorem GI(s:A4)(hr:C3 s=0)(dims:List Pk)(qC:dims.length≤3)(hd:∀d∈dims,N5 s d=0∧(B6 s d.col).kind=2):A3 Tryz.prog 47 [sA s,.sl 2 (dims.map A8)] (mw (U9 s dims [[]])):=by
 generalize hR:U9 s dims [[]]=R
 refine B5 Tryz.func47 69 fun nL E h0=>?_
 clear nL
 repeat'((first|refine R5 (T:=24) rfl ?_ |refine S2 ?_|(refine T6 ?_ ?_<;>intro h<;>try exact V1 h)|intro el nJ nK|intro el nJ|exact T4|refine T5 ?_ ?_|intro ex)<;>try conv=>whnf)
 all_goals first
  |(exfalso;omega)
  |skip
 refine B0 (ι:=Nat×List (List Int)) (fun x=>⟨[(2,.iptr (sL s)),(6,.sl 1 (x.2.map D4)),(16,.sl 2 (dims.map A8)),(17,.i dims.length),(18,.i x.1)],0,[]⟩)
  (fun x=>x.1≤dims.length∧U9 s (dims.drop x.1) x.2=R∧x.2.length≤2000∧∀l∈x.2,l.length≤x.1) (fun x=>dims.length-x.1) (0,[[]]) ⟨Nat.zero_le _,hR,by decide,fun l hl=>by simp at hl;subst hl;exact Nat.le_refl _⟩
  (C0 (SI 1 [[.sl 1 []]] rfl ⟨⟨.nil 1,trivial⟩,trivial⟩) (A6 h0)) (fun x hI=>?_)
 obtain⟨k,out⟩:=x
 obtain⟨i1,i2,i3,i4⟩:=hI
 dsimp only at i1 i2 i3 i4 ⊢
 by_cases nU:k<dims.length
 ·obtain⟨d,hdk⟩:∃d,dims[k]?=some d:=⟨_,List.getElem?_eq_getElem nU⟩
  have yS:dims[((k:Nat):Int).toNat]?=some d:=hdk
  obtain⟨sf,qa⟩:=hd d (List.mem_of_getElem? hdk)
  obtain⟨x,L,hx,nY,rh,⟨vf,qV⟩,hL,qY,uv⟩:=El hr sf qa
  obtain⟨nm,cs⟩:=L
  have oN:=(G9 uv).2.2
  have pt:=Hb nm cs d.lev (by dsimp only at oN;omega)
  have nP:(O9 s d).map wA=[[.i (-1)]]++(H1 nm cs d.lev).map iA:=by unfold O9;rw[nY,qY,List.map_cons,List.map_map];rfl
  have qJ:(O9 s d).length=(H1 nm cs d.lev).length+1:=by unfold O9;rw[nY,qY];simp
  have sk:(H1 nm cs d.lev).length≤cs.length:=by unfold H1;split<;>first|exact Eg _ _ _|exact Nat.zero_le _
  dsimp only at oN
  rw[F7 hdk,U9]at i2
  generalize O9 s d=own at *
  generalize H1 nm cs d.lev=qz at *
  have qw:out.length*own.length≤2000*61:=Nat.mul_le_mul i3 (by omega)
  by_cases rU:2000<out.length*own.length
  ·rw[if_pos rU]at i2
   subst i2
   repeat'((first|(refine E7 5 ?_;refine R6 (id:=5) (σ':=⟨[(2,.iptr (sL s)),(6,.sl 1 (out.map D4)),(8,.iptr (A8 d)),(16,.sl 2 (dims.map A8)),(17,.i dims.length),(18,.i k)],0,[]⟩) (A6 h0) ?_;refine F5 (id:=5) ⟨[(6,.sl 1 (out.map D4)),(9,.sl 1 (own.map wA))],0,[]⟩ ?_ ?_)|(refine CE ?_ ?_ ?_;kernel_rfl;kernel_rfl)|refine R5 (T:=37) rfl ?_|(refine A2 (x:=d) yS (by omega) ?_)|(refine A2 (x:=x) hx (by omega) ?_)|(refine A2 (x:=(nm,cs)) hL (by omega) ?_)|refine A0 pt ?_ |refine S2 ?_|(refine T6 ?_ ?_<;>intro h<;>try exact V1 h)|intro el nJ nK|intro el nJ|exact T4|refine T5 ?_ ?_|intro ex)<;>try conv=>whnf)
   all_goals first
    |(exfalso;omega)
    |exact A7 h0 rfl ⟨rfl,congrArg (fun z=>some (AV.sl 1 z)) nP.symm,trivial⟩ trivial rfl rfl rfl
    |exact Sy (rs:=[.tmp 4,.tmp 5]) (vs:=[.sl 1 [],.b false]) rfl ⟨Sz rfl (.nil 1),Sz rfl (.refl _),trivial⟩ rfl
  ·rw[if_neg rU]at i2
   repeat'((first|(refine E7 5 ?_;refine R6 (id:=5) (σ':=⟨[(2,.iptr (sL s)),(6,.sl 1 (out.map D4)),(8,.iptr (A8 d)),(16,.sl 2 (dims.map A8)),(17,.i dims.length),(18,.i k)],0,[]⟩) (A6 h0) ?_;refine F5 (id:=5) ⟨[(2,.iptr (sL s)),(6,.sl 1 (out.map D4)),(9,.sl 1 (own.map wA)),(16,.sl 2 (dims.map A8)),(17,.i dims.length),(18,.i k)],0,[]⟩ ?_ ?_)|(refine CE ?_ ?_ ?_;kernel_rfl;kernel_rfl)|refine R5 (T:=37) rfl ?_|(refine A2 (x:=d) yS (by omega) ?_)|(refine A2 (x:=x) hx (by omega) ?_)|(refine A2 (x:=(nm,cs)) hL (by omega) ?_)|refine A0 pt ?_ |refine S2 ?_|(refine T6 ?_ ?_<;>intro h<;>try exact V1 h)|intro el nJ nK|intro el nJ|exact T4|refine T5 ?_ ?_|intro ex)<;>try conv=>whnf)
   all_goals first
    |(exfalso;omega)
    |exact A7 h0 rfl ⟨rfl,rfl,congrArg (fun z=>some (AV.sl 1 z)) nP.symm,rfl,rfl,rfl,trivial⟩ trivial rfl rfl rfl
    |skip
   refine B0 (ι:=Nat) (fun i=>⟨[(2,.iptr (sL s)),(9,.sl 1 (own.map wA)),(10,.row 0 0 (BJ own (out.take i)).length),(16,.sl 2 (dims.map A8)),(17,.i dims.length),(18,.i k),(44,.sl 1 (out.map D4)),(45,.i out.length),(46,.i i)],1,[(0,some (.row 37 1 0 ((BJ own (out.take i)).map D4)))]⟩)
    (fun i=>i≤out.length) (fun i=>out.length-i) 0 (Nat.zero_le _)
    (C0 (I0 (d:=10) (e:=37) (sz:=1) rfl) (A7 h0 rfl ⟨rfl,rfl,rfl,rfl,rfl,rfl,rfl,rfl,rfl,trivial⟩ ⟨⟨0,rfl⟩,trivial⟩ rfl rfl rfl)) (fun i hi=>?_)
   by_cases qi:i<out.length
   ·obtain⟨l,uq⟩:∃l,out[i]?=some l:=⟨_,List.getElem?_eq_getElem qi⟩
    have AA6:out[((i:Nat):Int).toNat]?=some l:=uq
    have ry:=i4 l (List.mem_of_getElem? uq)
    have ni:=Uh l (by omega)
    have vu:(BJ own (out.take i)).length+own.length≤2000:=by
     rw[Cs,List.length_take,Nat.min_eq_left (by omega)]
     have:=Nat.mul_le_mul_right own.length (show i+1≤out.length by omega)
     rw[Nat.succ_mul]at this
     omega
    have qL:=br (own:=own) uq
    generalize hA:BJ own (out.take i)=A at *
    repeat'((first|(refine A2 (x:=l) AA6 (by omega) ?_) |refine S2 ?_|(refine T6 ?_ ?_<;>intro h<;>try exact V1 h)|intro el nJ nK|intro el nJ|exact T4|refine T5 ?_ ?_|intro ex)<;>try conv=>whnf)
    all_goals first
     |(exfalso;omega)
     |skip
    refine B0 (ι:=Nat) (fun j=>⟨[(2,.iptr (sL s)),(9,.sl 1 (own.map wA)),(10,.row 0 0 (A.length+j)),(12,.sl 1 (l.map wA)),(16,.sl 2 (dims.map A8)),(17,.i dims.length),(18,.i k),(44,.sl 1 (out.map D4)),(45,.i out.length),(46,.i i),(50,.sl 1 (own.map wA)),(51,.i own.length),(52,.i j)],1,[(0,some (.row 37 1 0 ((A++(own.take j).map fun c=>l++[c]).map D4)))]⟩)
     (fun j=>j≤own.length) (fun j=>own.length-j) 0 (Nat.zero_le _)
     (A7 h0 rfl ⟨rfl,rfl,rfl,rfl,rfl,rfl,rfl,rfl,rfl,rfl,rfl,rfl,rfl,trivial⟩ ⟨⟨_,congrArg (C4.row 37 1 _) (by simp)⟩,trivial⟩ rfl rfl rfl) (fun j hj=>?_)
    by_cases uQ:j<own.length
    ·obtain⟨c,hcj⟩:∃c,own[j]?=some c:=⟨_,List.getElem?_eq_getElem uQ⟩
     have zf:own[((j:Nat):Int).toNat]?=some c:=hcj
     have zu:A++(own.take (j+1)).map (fun c=>l++[c])=(A++(own.take j).map fun c=>l++[c])++[l++[c]]:=by rw[F1 hcj,List.map_append,List.append_assoc];rfl
     have sJ:(A++(own.take j).map fun c=>l++[c]).length=A.length+j:=by rw[List.length_append,List.length_map,List.length_take];omega
     generalize (A++(own.take j).map fun c=>l++[c])=B at *
     repeat'((first|(refine A2 (x:=c) zf (by omega) ?_)|refine lU (T:=24) rfl ?_|refine l4 [] [] ni rfl rfl rfl rfl rfl trivial rfl rfl rfl rfl rfl ?_ |refine S2 ?_|(refine T6 ?_ ?_<;>intro h<;>try exact V1 h)|intro el nJ nK|intro el nJ|exact T4|refine T5 ?_ ?_|intro ex)<;>try conv=>whnf)
     all_goals first
      |(exfalso;omega)
      |exact⟨j+1,by omega,by omega,A7 h0 rfl ⟨rfl,rfl,rfl,rfl,rfl,rfl,rfl,rfl,rfl,rfl,rfl,rfl,rfl,trivial⟩ ⟨⟨_,congrArg (C4.row 37 1 _) (by rw[zu];simp[D4];rfl)⟩,trivial⟩ rfl rfl rfl⟩
    ·have hje:own.take j=own:=List.take_of_length_le (by omega)
     have zT:j=own.length:=by omega
     rw[hje,←qL]
     subst zT
     repeat'((first|refine S2 ?_|(refine T6 ?_ ?_<;>intro h<;>try exact V1 h)|intro el nJ nK|intro el nJ|exact T4|refine T5 ?_ ?_|intro ex)<;>try conv=>whnf)
     all_goals first
      |(exfalso;omega)
      |exact⟨i+1,by omega,by omega,A7 h0 rfl ⟨rfl,rfl,congrArg (fun z:Nat=>some (AV.row 0 0 z)) (by rw[qL,List.length_append,List.length_map]),rfl,rfl,rfl,rfl,rfl,rfl,trivial⟩ ⟨⟨_,rfl⟩,trivial⟩ rfl rfl rfl⟩
   ·have tn:out.take i=out:=List.take_of_length_le (by omega)
    rw[tn]
    repeat'((first|refine S2 ?_|(refine T6 ?_ ?_<;>intro h<;>try exact V1 h)|intro el nJ nK|intro el nJ|exact T4|refine T5 ?_ ?_|intro ex)<;>try conv=>whnf)
    all_goals first
     |(exfalso;omega)
     |exact⟨(k+1,BJ own out),⟨by omega,i2,by dsimp only;rw[Cs];omega,fun x hx=>by obtain⟨l,h1,h2⟩:=Ui hx;have:=i4 l h1;dsimp only;omega⟩,by dsimp only;omega,A6 h0⟩
 ·have he:dims.drop k=[]:=List.drop_eq_nil_of_le (by omega)
  rw[he,U9]at i2
  subst i2
  repeat'((first|refine S2 ?_|(refine T6 ?_ ?_<;>intro h<;>try exact V1 h)|intro el nJ nK|intro el nJ|exact T4|refine T5 ?_ ?_|intro ex)<;>try conv=>whnf)
  all_goals first
   |(exfalso;omega)
   |exact I5 rfl rfl rfl
structure CK(s:A4)(e:F6):Prop where
 op:1≤e.op∧e.op≤14
 unu:GG e
 par:EI s e=true
 cnd:v7 e.op→J6 s e.cnd=0
 evt:v8 e.op→J6 s e.evt=0
 pair:P4 e.op→e.kids.length=2
 kid:∀k∈e.kids,Pu k.op∧Bq s k=true
theorem RR{s:A4}{e:F6}(h:Bq s e=true):CK s e:=by
 rw[EK]at h
 simp only[Bool.and_eq_true,Bool.not_eq_true',KN]at h
 obtain⟨⟨⟨⟨⟨⟨h1,h2⟩,h3⟩,h4⟩,h5⟩,h6⟩,h7⟩:=h
 refine⟨of_decide_eq_true h1,of_decide_eq_true h2,h3,fun hc=>?_,fun hc=>?_,fun hc=>?_,fun k hk=>?_⟩
 ·rw[decide_eq_false (fun hn=>hn hc),Bool.false_or]at h4;exact of_decide_eq_true h4
 ·rw[decide_eq_false (fun hn=>hn hc),Bool.false_or]at h5;exact of_decide_eq_true h5
 ·rw[decide_eq_false (fun hn=>hn hc),Bool.false_or]at h6;exact of_decide_eq_true h6
 ·have:=List.any_eq_false.1 h7 k hk
  simp only[EJ,Bool.or_eq_true,not_or,Bool.not_eq_true',Bool.not_eq_false]at this
  exact⟨of_decide_eq_true this.1,this.2⟩
theorem AR{s:A4}{col kind:Int}(h:Q7 s col kind=true):0≤col∧col<s.cols.length∧∃c,s.cols[col.toNat]?=some c∧c.kind=kind:=by
 obtain⟨h0,h1,h2⟩:0≤col∧col<s.cols.length∧(B6 s col).kind=kind:=by simpa [Q7]using h
 have hc:s.cols[col.toNat]?=some (s.cols[col.toNat]'(by omega)):=List.getElem?_eq_getElem (by omega)
 exact⟨h0,h1,_,hc,by rw[B9 hc]at h2;exact h2⟩
theorem CK.col{s:A4}{e:F6}(h:CK s e)(ho:o0 e.op):(e.op=10∧e.col=-1)∨Q7 s e.col 3=true:=by
 have hp:=h.par
 have qK:=h.op
 simp only[o0]at ho
 unfold EI at hp
 rw[if_neg (by omega),if_neg (by omega)]at hp
 by_cases h4:e.op=4∨e.op=5∨e.op=14
 ·rw[if_pos h4]at hp;exact .inr hp
 rw[if_neg h4]at hp
 by_cases sg:e.op=10
 ·rw[if_pos sg]at hp
  simp only[Bool.and_eq_true,Bool.or_eq_true]at hp
  rcases hp.2 with h|h
  ·exact .inl ⟨sg,of_decide_eq_true h⟩
  ·exact .inr h
 rw[if_neg sg]at hp
 by_cases vQ:e.op=11
 ·rw[if_pos vQ]at hp
  simp only[Bool.and_eq_true]at hp
  exact .inr hp.1
 rw[if_neg vQ]at hp
 by_cases h12:e.op=12
 ·rw[if_pos h12]at hp
  simp only[Bool.and_eq_true]at hp
  exact .inr hp.1
 rw[if_neg h12,if_pos (by omega)]at hp
 simp only[Bool.and_eq_true]at hp
 exact .inr hp.1
theorem CK.lens{s:A4}{e:F6}(h:CK s e):e.dims.length≤3∧e.cols.length≤3∧e.kids.length≤2:=by
 obtain⟨_,_,_,h4,h5,_,_,h8⟩:=h.unu
 have hp:=h.par
 unfold EI at hp
 refine⟨?_,?_,?_⟩
 ·rcases h5 with h5|h5
  ·have sg:e.op=10:=h5
   rw[if_neg (by omega),if_neg (by omega),if_neg (by omega),if_pos sg]at hp
   simp only[Bool.and_eq_true]at hp
   have:=of_decide_eq_true hp.1
   unfold Q4 at this
   split at this
   ·cases this
   ·omega
  ·omega
 ·rcases h4 with h4|h4
  ·have vQ:e.op=11:=h4
   rw[if_neg (by omega),if_neg (by omega),if_neg (by omega),if_neg (by omega),if_pos vQ]at hp
   simp only[Bool.and_eq_true]at hp
   have:=of_decide_eq_true hp.2
   unfold X3 at this
   split at this
   ·cases this
   ·omega
  ·omega
 ·rcases h8 with h8|h8
  ·have:=h.pair h8;omega
  ·omega
theorem CK.trm{s:A4}{e:F6}(h:CK s e):∀c∈e.cols,Q7 s c 3=true:=by
 intro c hc
 have pF:=h.par
 have h4:=h.unu.2.2.2.1
 unfold EI at pF
 have vQ:e.op=11:=by
  rcases h4 with h|h
  ·exact h
  ·rw[List.eq_nil_of_length_eq_zero h]at hc;cases hc
 rw[if_neg (by omega),if_neg (by omega),if_neg (by omega),if_neg (by omega),if_pos vQ]at pF
 simp only[Bool.and_eq_true]at pF
 have pA:=of_decide_eq_true pF.2
 unfold X3 at pA
 split at pA
 ·cases pA
 ·obtain⟨i,hi,he⟩:=List.getElem_of_mem hc
  have:=P2 pA i c (by rw[List.getElem?_eq_getElem hi,he])
  unfold Y0 at this
  split at this
  ·cases this
  ·rename_i hb;simpa using hb
theorem CK.dim{s:A4}{e:F6}(h:CK s e):∀d∈e.dims,N5 s d=0:=by
 intro d hd
 have pF:=h.par
 have h5:=h.unu.2.2.2.2.1
 unfold EI at pF
 have sg:e.op=10:=by
  rcases h5 with h|h
  ·exact h
  ·rw[List.eq_nil_of_length_eq_zero h]at hd;cases hd
 rw[if_neg (by omega),if_neg (by omega),if_neg (by omega),if_pos sg]at pF
 simp only[Bool.and_eq_true]at pF
 have pA:=of_decide_eq_true pF.1
 unfold Q4 at pA
 split at pA
 ·cases pA
 ·obtain⟨i,hi,he⟩:=List.getElem_of_mem hd
  have:=P2 pA i d (by rw[List.getElem?_eq_getElem hi,he])
  unfold W5 at this
  split at this
  ·exact absurd this (by assumption)
  ·rename_i qM;exact Decidable.of_not_not qM
end Go.Proofs.YtiphlhoclaogjaaGreatDoor
