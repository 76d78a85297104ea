/- Chapter 18: one cell: the reference. -/
import Derived.Test.YtiphlhoclaogjaaGreatDoorRTb1
import Derived.Test.YtiphlhoclaogjaaGreatDoorRTc4
import Derived.Test.YtiphlhoclaogjaaGreatDoorRTa5
import Derived.Test.YtiphlhoclaogjaaGreatDoorRTa8
set_option linter.unusedVariables false
set_option linter.unnecessarySimpa false
set_option linter.unusedSimpArgs false
set_option maxHeartbeats 64000000
namespace Go.Proofs.YtiphlhoclaogjaaGreatDoor
open Go Go.Av
attribute [local irreducible] C9 B3 C7 D1 DQ D0 C6 St.le A3 B7
set_option maxRecDepth 100000
structure Nz where
 key:Int
 val:Int
 codes:List Int
abbrev AQ(l:Nz):List AV:=[.i l.key,.i l.val,.sl 1 (l.codes.map wA)]
def Dj(c:G8)(l:Nz):G8:=if z1 l.codes c.codes=true then N2 l.key l.val true c else c
def P5(codes:List Int)(ls:List Nz):G8:=ls.foldl Dj (AP codes)
structure Hy(c:G8):Prop where
 lo:0≤c.snd
 le:c.snd≤c.fst
theorem Hy.add{c:G8}(h:Hy c)(key v:Int)(b:Bool):Hy (N2 key v b c):=by
 obtain⟨h1,h2⟩:=h
 generalize hm:max v (-v)=a
 have:0≤a:=by omega
 unfold N2
 rw[hm]
 split
 ·exact⟨h1,h2⟩
 ·split
  ·exact⟨by dsimp only;omega,by dsimp only;omega⟩
  ·split
   ·exact⟨by dsimp only;omega,by dsimp only;omega⟩
   ·exact⟨h1,h2⟩
theorem Yl(key v:Int)(b:Bool)(c:G8):(N2 key v b c).codes=c.codes:=by
 unfold N2
 split
 ·rfl
 ·split
  ·rfl
  ·split<;>rfl
theorem OA{codes:List Int}{ls:List Nz}{k:Nat}{l:Nz}(h:ls[k]?=some l):P5 codes (ls.take (k+1))=Dj (P5 codes (ls.take k)) l:=by
 unfold P5
 rw[E7 h,List.foldl_append]
 rfl
theorem UL{codes:List Int}{ls:List Nz}(hv:∀l∈ls,-1099511627776≤l.val∧l.val≤1099511627776):∀k:Nat,k≤ls.length→EG codes.length k (P5 codes (ls.take k))∧Hy (P5 codes (ls.take k))∧(P5 codes (ls.take k)).codes=codes
 |0,_=>⟨⟨rfl,by simp[P5,AP],by simp[P5,AP],by simp[P5,AP],by simp[P5,AP]⟩,⟨by simp[P5,AP],by simp[P5,AP]⟩,rfl⟩
 |k+1,hk=>by
  obtain⟨l,hl⟩:∃l,ls[k]?=some l:=⟨_,List.getElem?_eq_getElem (by omega)⟩
  obtain⟨h1,h2,h3⟩:=UL (codes:=codes) hv k (by omega)
  rw[OA hl]
  unfold Dj
  split
  ·exact⟨h1.add (hv l (List.mem_of_getElem? hl)) true,h2.add _ _ _,by rw[Yl];exact h3⟩
  ·exact⟨h1.more,h2,h3⟩
theorem kY{key v:Int}{c:G8}(h:c.fst<max v (-v)):N2 key v true c={ c with cnt:=c.cnt+1,rows:=c.rows++[key],sum:=c.sum+v,amo:=c.amo+max v (-v),fst:=max v (-v),snd:=c.fst }:=by
 unfold N2;rw[if_neg (by decide),if_pos h]
theorem kZ{key v:Int}{c:G8}(h:¬c.fst<max v (-v))(ho:c.snd≤c.fst):N2 key v true c={ c with cnt:=c.cnt+1,rows:=c.rows++[key],sum:=c.sum+v,amo:=c.amo+max v (-v),snd:=max c.snd (max v (-v)) }:=by
 unfold N2;rw[if_neg (by decide),if_neg h]
 split
 ·rw[show max c.snd (max v (-v))=max v (-v) by omega]
 ·rw[show max c.snd (max v (-v))=c.snd by omega]
theorem OB(codes:List Int)(ls:List Nz)(hn:ls.length≤500)(hv:∀l∈ls,-1099511627776≤l.val∧l.val≤1099511627776)(hc:∀l∈ls,codes.length≤l.codes.length)(mf:codes.length≤1000):A3 Tryz.prog 58 [.sl 3 (ls.map AQ),.sl 1 (codes.map wA)] (.agg (U5 (P5 codes ls))):=by
 have np:=UL (codes:=codes) hv
 have nk:=fun k l h=>@OA codes ls k l h
 have xJ:P5 codes (ls.take 0)=AP codes:=rfl
 have nt:P5 codes ls=P5 codes (ls.take ls.length):=by rw[List.take_length]
 rw[nt]
 generalize P5 codes=CR at *
 refine Ke (n:=103) Tryz.func58 (by kernel_rfl) rfl rfl rfl rfl rfl (by intro t T h;cases h;exact⟨7,inferInstance,fun l h=>by cases h;rfl⟩) (fun mK E h0=>?_)
 clear mK
 repeat'((first|refine S2 ?_|(refine T6 ?_ ?_<;>intro h<;>try exact V1 h)|intro el mI mJ|intro el mI|exact T4|refine T5 ?_ ?_|intro ex)<;>try conv=>whnf)
 all_goals first
  |(exfalso;omega)
  |skip
 refine A9 (ι:=Nat) (fun k=>⟨[(0,.sl 3 (ls.map AQ)),(1,.sl 1 (codes.map wA)),(4,.ref 0 0),(5,.ref 1 0),(6,.i k)],3,[(0,some (.box [.v (.slice none 0 0),.i 0,.i 0,.i 0,.i 0,.i 0,.v (.slice none 0 0)])),(1,some (.box [.sl 1 (codes.map wA),.i (CR (ls.take k)).cnt,.i (CR (ls.take k)).sum,.i (CR (ls.take k)).amo,.i (CR (ls.take k)).fst,.i (CR (ls.take k)).snd,.row 2 0 (CR (ls.take k)).rows.length])),(2,some (.row 3 1 0 ((CR (ls.take k)).rows.map wA)))]⟩)
  (fun k=>k≤ls.length) (fun k=>ls.length-k) 0 (Nat.zero_le _)
  (B9 (w6 1 6 (e:=3) (sz:=1) rfl rfl) (A7 h0 rfl ⟨rfl,rfl,rfl,rfl,rfl,trivial⟩ ⟨rfl,congrArg (fun c:G8=>C4.box [.sl 1 (codes.map wA),.i c.cnt,.i c.sum,.i c.amo,.i c.fst,.i c.snd,.row 2 0 c.rows.length]) xJ,⟨0,congrArg (fun c:G8=>C4.row 3 1 0 (c.rows.map wA)) xJ⟩,trivial⟩ rfl rfl rfl)) (fun k hK=>?_)
 obtain⟨oX,mW,pG⟩:=np k hK
 by_cases mT:k<ls.length
 ·obtain⟨l,hl⟩:∃l,ls[k]?=some l:=⟨_,List.getElem?_eq_getElem mT⟩
  have mt:ls[((k:Nat):Int).toNat]?=some l:=hl
  have ul:=List.mem_of_getElem? hl
  have oV:=hv l ul
  have vF:=hc l ul
  have mR:=nk k l hl
  unfold Dj at mR
  rw[pG]at mR
  unfold z1 at mR
  have wm:(codes.zip l.codes).length=codes.length:=by rw[List.length_zip];omega
  have hzg:∀(q:Nat) a b,codes[q]?=some a→l.codes[q]?=some b→(codes.zip l.codes)[q]?=some (a,b):=fun q a b h1 h2=>by rw[List.getElem?_zip_eq_some];exact⟨h1,h2⟩
  generalize codes.zip l.codes=zs at *
  generalize CR (ls.take k)=C at *
  obtain⟨cc,cnt,sum,amo,fst,snd,sc⟩:=C
  obtain⟨qu,nq,hq3,hq4,hq5⟩:=oX
  obtain⟨sY,qn⟩:=mW
  dsimp only at qu nq hq3 hq4 hq5 sY qn pG ⊢
  repeat'((first|refine S2 ?_|(refine T6 ?_ ?_<;>intro h<;>try exact V1 h)|intro el mI mJ|intro el mI|exact T4|refine T5 ?_ ?_|intro ex)<;>try conv=>whnf)
  all_goals first
   |(exfalso;omega)
   |skip
  refine A9 (ι:=Nat×Bool) (fun y=>⟨[(0,.sl 3 (ls.map AQ)),(1,.sl 1 (codes.map wA)),(4,.ref 0 0),(5,.ref 1 0),(6,.i k),(7,.b y.2),(8,.i y.1)],3,[(0,some (.box [.v (.slice none 0 0),.i 0,.i 0,.i 0,.i 0,.i 0,.v (.slice none 0 0)])),(1,some (.box [.sl 1 (codes.map wA),.i cnt,.i sum,.i amo,.i fst,.i snd,.row 2 0 sc.length])),(2,some (.row 3 1 0 (sc.map wA)))]⟩)
   (fun y=>y.1≤codes.length∧y.2=(zs.take y.1).all fun q=>decide (q.1=-1∨q.1=q.2)) (fun y=>codes.length-y.1) (0,true) ⟨Nat.zero_le _,rfl⟩
   (A6 h0) (fun y hI=>?_)
  obtain⟨q,f⟩:=y
  obtain⟨i1,i2⟩:=hI
  dsimp only at i1 i2 ⊢
  by_cases qo:q<codes.length
  ·obtain⟨a,ha⟩:∃a,codes[q]?=some a:=⟨_,List.getElem?_eq_getElem qo⟩
   obtain⟨b,hb⟩:∃b,l.codes[q]?=some b:=⟨_,List.getElem?_eq_getElem (by omega)⟩
   have td:codes[((q:Nat):Int).toNat]?=some a:=ha
   have mj:l.codes[((q:Nat):Int).toNat]?=some b:=hb
   have nC:(zs.take (q+1)).all (fun q=>decide (q.1=-1∨q.1=q.2))=(f && decide (a=-1∨a=b)):=by rw[E7 (hzg q a b ha hb),List.all_append,i2];simp
   cases f
   ·repeat'((first|(refine A2 (x:=a) td (by omega) ?_)|(refine A2 (x:=b) mj (by omega) ?_)|(refine A2 (x:=l) mt (by omega) ?_)|(refine B0 ?_ ?_;kernel_rfl) |refine S2 ?_|(refine T6 ?_ ?_<;>intro h<;>try exact V1 h)|intro el mI mJ|intro el mI|exact T4|refine T5 ?_ ?_|intro ex)<;>try conv=>whnf)
    all_goals first
     |(exfalso;omega)
     |exact⟨(q+1,false),⟨by dsimp only;omega,by dsimp only;rw[nC];rfl⟩,by dsimp only;omega,A6 h0⟩
   ·by_cases h1:a=-1
    ·rw[decide_eq_true (Or.inl h1)]at nC
     repeat'((first|(refine A2 (x:=a) td (by omega) ?_)|(refine A2 (x:=b) mj (by omega) ?_)|(refine A2 (x:=l) mt (by omega) ?_)|(refine B0 ?_ ?_;kernel_rfl) |refine S2 ?_|(refine T6 ?_ ?_<;>intro h<;>try exact V1 h)|intro el mI mJ|intro el mI|exact T4|refine T5 ?_ ?_|intro ex)<;>try conv=>whnf)
     all_goals first
      |(exfalso;omega)
      |exact⟨(q+1,true),⟨by dsimp only;omega,by dsimp only;rw[nC];rfl⟩,by dsimp only;omega,A7 h0 rfl ⟨rfl,rfl,rfl,rfl,rfl,rfl,rfl,trivial⟩ ⟨rfl,rfl,⟨_,rfl⟩,trivial⟩ rfl rfl rfl⟩
      |exact⟨(q+1,true),⟨by dsimp only;omega,by dsimp only;rw[nC];rfl⟩,by dsimp only;omega,A7 h0 rfl ⟨rfl,rfl,rfl,rfl,rfl,congrArg (fun z:Bool=>some (AV.b z)) (by simp[h1]),rfl,trivial⟩ ⟨rfl,rfl,⟨_,rfl⟩,trivial⟩ rfl rfl rfl⟩
    ·by_cases h2:a=b
     ·rw[decide_eq_true (Or.inr h2)]at nC
      repeat'((first|(refine A2 (x:=a) td (by omega) ?_)|(refine A2 (x:=b) mj (by omega) ?_)|(refine A2 (x:=l) mt (by omega) ?_)|(refine B0 ?_ ?_;kernel_rfl) |refine S2 ?_|(refine T6 ?_ ?_<;>intro h<;>try exact V1 h)|intro el mI mJ|intro el mI|exact T4|refine T5 ?_ ?_|intro ex)<;>try conv=>whnf)
      all_goals first
       |(exfalso;omega)
       |exact⟨(q+1,true),⟨by dsimp only;omega,by dsimp only;rw[nC];rfl⟩,by dsimp only;omega,A7 h0 rfl ⟨rfl,rfl,rfl,rfl,rfl,rfl,rfl,trivial⟩ ⟨rfl,rfl,⟨_,rfl⟩,trivial⟩ rfl rfl rfl⟩
       |exact⟨(q+1,true),⟨by dsimp only;omega,by dsimp only;rw[nC];rfl⟩,by dsimp only;omega,A7 h0 rfl ⟨rfl,rfl,rfl,rfl,rfl,congrArg (fun z:Bool=>some (AV.b z)) (by simp[h2]),rfl,trivial⟩ ⟨rfl,rfl,⟨_,rfl⟩,trivial⟩ rfl rfl rfl⟩
     ·rw[decide_eq_false (fun h=>h.elim h1 h2)]at nC
      repeat'((first|(refine A2 (x:=a) td (by omega) ?_)|(refine A2 (x:=b) mj (by omega) ?_)|(refine A2 (x:=l) mt (by omega) ?_)|(refine B0 ?_ ?_;kernel_rfl) |refine S2 ?_|(refine T6 ?_ ?_<;>intro h<;>try exact V1 h)|intro el mI mJ|intro el mI|exact T4|refine T5 ?_ ?_|intro ex)<;>try conv=>whnf)
      all_goals first
       |(exfalso;omega)
       |exact⟨(q+1,false),⟨by dsimp only;omega,by dsimp only;rw[nC];rfl⟩,by dsimp only;omega,A7 h0 rfl ⟨rfl,rfl,rfl,rfl,rfl,rfl,rfl,trivial⟩ ⟨rfl,rfl,⟨_,rfl⟩,trivial⟩ rfl rfl rfl⟩
       |exact⟨(q+1,false),⟨by dsimp only;omega,by dsimp only;rw[nC];rfl⟩,by dsimp only;omega,A7 h0 rfl ⟨rfl,rfl,rfl,rfl,rfl,congrArg (fun z:Bool=>some (AV.b z)) (by simp[h2]),rfl,trivial⟩ ⟨rfl,rfl,⟨_,rfl⟩,trivial⟩ rfl rfl rfl⟩
  have hze:zs.take q=zs:=List.take_of_length_le (by omega)
  rw[hze]at i2
  rw[←i2]at mR
  cases f
  ·rw[if_neg (by decide)]at mR
   repeat'((first|refine S2 ?_|(refine T6 ?_ ?_<;>intro h<;>try exact V1 h)|intro el mI mJ|intro el mI|exact T4|refine T5 ?_ ?_|intro ex)<;>try conv=>whnf)
   all_goals first
    |(exfalso;omega)
    |exact⟨k+1,by omega,by omega,A7 h0 rfl ⟨rfl,rfl,rfl,rfl,rfl,trivial⟩ ⟨rfl,congrArg (fun c:G8=>C4.box [.sl 1 (codes.map wA),.i c.cnt,.i c.sum,.i c.amo,.i c.fst,.i c.snd,.row 2 0 c.rows.length]) mR,⟨_,congrArg (fun c:G8=>C4.row 3 1 _ (c.rows.map wA)) mR⟩,trivial⟩ rfl rfl rfl⟩
  rw[if_pos rfl]at mR
  by_cases hf:fst<max l.val (-l.val)
  ·rw[kY hf]at mR
   have tJ:max snd fst=fst:=by omega
   have rT:CR (ls.take (k+1))=⟨cc,cnt+1,sum+l.val,amo+max l.val (-l.val),max l.val (-l.val),max snd fst,sc++[l.key]⟩:=by rw[mR,tJ]
   repeat'((first|(refine A2 (x:=l) mt (by omega) ?_)|(refine F3 (id:=12) ⟨[(0,.sl 3 (ls.map AQ)),(1,.sl 1 (codes.map wA)),(4,.ref 0 0),(5,.ref 1 0),(6,.i k)],3,[(0,some (.box [.v (.slice none 0 0),.i 0,.i 0,.i 0,.i 0,.i 0,.v (.slice none 0 0)])),(1,some (.box [.sl 1 (codes.map wA),.i (cnt+1),.i sum,.i amo,.i fst,.i snd,.row 2 0 (sc++[l.key]).length])),(2,some (.row 3 1 0 ((sc++[l.key]).map wA)))]⟩ ?_ ?_)|(refine F3 (id:=13) ⟨[(0,.sl 3 (ls.map AQ)),(1,.sl 1 (codes.map wA)),(4,.ref 0 0),(5,.ref 1 0),(6,.i k)],3,[(0,some (.box [.v (.slice none 0 0),.i 0,.i 0,.i 0,.i 0,.i 0,.v (.slice none 0 0)])),(1,some (.box [.sl 1 (codes.map wA),.i (cnt+1),.i (sum+l.val),.i amo,.i fst,.i snd,.row 2 0 (sc++[l.key]).length])),(2,some (.row 3 1 0 ((sc++[l.key]).map wA)))]⟩ ?_ ?_)|(refine E6 14 ?_;refine B0 ?_ ?_;kernel_rfl) |refine S2 ?_|(refine T6 ?_ ?_<;>intro h<;>try exact V1 h)|intro el mI mJ|intro el mI|exact T4|refine T5 ?_ ?_|intro ex)<;>try conv=>whnf)
   all_goals first
    |(exfalso;omega)
    |exact A7 h0 rfl ⟨rfl,rfl,rfl,rfl,rfl,trivial⟩ ⟨rfl,congrArg (fun z:Nat=>C4.box [.sl 1 (codes.map wA),.i (cnt+1),.i sum,.i amo,.i fst,.i snd,.row 2 0 z]) (by simp[L4]),⟨_,congrArg (C4.row 3 1 _) (by rw[List.map_append];rfl)⟩,trivial⟩ rfl rfl rfl
    |exact A7 h0 rfl ⟨rfl,rfl,rfl,rfl,rfl,trivial⟩ ⟨rfl,rfl,⟨_,rfl⟩,trivial⟩ rfl rfl rfl
    |exact⟨k+1,by omega,by omega,A7 h0 rfl ⟨rfl,rfl,rfl,rfl,rfl,trivial⟩ ⟨rfl,congrArg (fun c:G8=>C4.box [.sl 1 (codes.map wA),.i c.cnt,.i c.sum,.i c.amo,.i c.fst,.i c.snd,.row 2 0 c.rows.length]) rT,⟨_,congrArg (fun c:G8=>C4.row 3 1 _ (c.rows.map wA)) rT⟩,trivial⟩ rfl rfl rfl⟩
  ·rw[kZ hf qn]at mR
   repeat'((first|(refine A2 (x:=l) mt (by omega) ?_)|(refine F3 (id:=12) ⟨[(0,.sl 3 (ls.map AQ)),(1,.sl 1 (codes.map wA)),(4,.ref 0 0),(5,.ref 1 0),(6,.i k)],3,[(0,some (.box [.v (.slice none 0 0),.i 0,.i 0,.i 0,.i 0,.i 0,.v (.slice none 0 0)])),(1,some (.box [.sl 1 (codes.map wA),.i (cnt+1),.i sum,.i amo,.i fst,.i snd,.row 2 0 (sc++[l.key]).length])),(2,some (.row 3 1 0 ((sc++[l.key]).map wA)))]⟩ ?_ ?_)|(refine F3 (id:=13) ⟨[(0,.sl 3 (ls.map AQ)),(1,.sl 1 (codes.map wA)),(4,.ref 0 0),(5,.ref 1 0),(6,.i k)],3,[(0,some (.box [.v (.slice none 0 0),.i 0,.i 0,.i 0,.i 0,.i 0,.v (.slice none 0 0)])),(1,some (.box [.sl 1 (codes.map wA),.i (cnt+1),.i (sum+l.val),.i amo,.i fst,.i snd,.row 2 0 (sc++[l.key]).length])),(2,some (.row 3 1 0 ((sc++[l.key]).map wA)))]⟩ ?_ ?_)|(refine E6 14 ?_;refine B0 ?_ ?_;kernel_rfl) |refine S2 ?_|(refine T6 ?_ ?_<;>intro h<;>try exact V1 h)|intro el mI mJ|intro el mI|exact T4|refine T5 ?_ ?_|intro ex)<;>try conv=>whnf)
   all_goals first
    |(exfalso;omega)
    |exact A7 h0 rfl ⟨rfl,rfl,rfl,rfl,rfl,trivial⟩ ⟨rfl,congrArg (fun z:Nat=>C4.box [.sl 1 (codes.map wA),.i (cnt+1),.i sum,.i amo,.i fst,.i snd,.row 2 0 z]) (by simp[L4]),⟨_,congrArg (C4.row 3 1 _) (by rw[List.map_append];rfl)⟩,trivial⟩ rfl rfl rfl
    |exact A7 h0 rfl ⟨rfl,rfl,rfl,rfl,rfl,trivial⟩ ⟨rfl,rfl,⟨_,rfl⟩,trivial⟩ rfl rfl rfl
    |exact⟨k+1,by omega,by omega,A7 h0 rfl ⟨rfl,rfl,rfl,rfl,rfl,trivial⟩ ⟨rfl,congrArg (fun c:G8=>C4.box [.sl 1 (codes.map wA),.i c.cnt,.i c.sum,.i c.amo,.i c.fst,.i c.snd,.row 2 0 c.rows.length]) mR,⟨_,congrArg (fun c:G8=>C4.row 3 1 _ (c.rows.map wA)) mR⟩,trivial⟩ rfl rfl rfl⟩
 ·have he:ls.take k=ls:=List.take_of_length_le (by omega)
  have nP:k=ls.length:=by omega
  rw[he]
  subst nP
  rw[List.take_length]at pG ⊢
  generalize CR ls=C at *
  obtain⟨cc,cnt,sum,amo,fst,snd,sc⟩:=C
  dsimp only at pG ⊢
  subst pG
  repeat'((first|refine S2 ?_|(refine T6 ?_ ?_<;>intro h<;>try exact V1 h)|intro el mI mJ|intro el mI|exact T4|refine T5 ?_ ?_|intro ex)<;>try conv=>whnf)
  all_goals first
   |(exfalso;omega)
   |exact cC rfl rfl rfl
theorem eD(s:A4)(d:Pk):1≤(O7 s d).length:=by unfold O7;simp
theorem UM(s:A4):∀ds:List Pk,1≤(G3 s ds).length
 |[]=>by simp[G3]
 |d::r=>by
  have h1:=eD s d
  have h2:=UM s r
  have h3:(G3 s (d::r)).length=(O7 s d).length*(G3 s r).length:=w7 _ _
  rw[h3]
  have:=Nat.mul_le_mul h1 h2
  omega
theorem LG(own:List Int)(R:List (List Int)):∀out:List (List Int),(AO own out).flatMap (fun l=>R.map fun m=>l++m)=out.flatMap fun l=>(BL own R).map fun m=>l++m
 |[]=>rfl
 |a::r=>by
  have ih:=LG own R r
  have hk:AO own (a::r)=(own.map fun c=>a++[c])++AO own r:=by simp[AO]
  rw[hk,List.flatMap_append,ih,List.flatMap_cons]
  congr 1
  unfold BL
  rw[List.flatMap_map,List.map_flatMap]
  congr 1
  funext c
  rw[List.map_map]
  congr 1
  funext m
  simp
theorem Qg{s:A4}:∀{ds:List Pk} {out:List (List Int)},out.length*(G3 s ds).length≤2000→Y0 s ds out=some (out.flatMap fun l=>(G3 s ds).map fun m=>l++m)
 |[],out,_=>by simp[Y0,G3]
 |d::r,out,h=>by
  have h3:(G3 s (d::r)).length=(O7 s d).length*(G3 s r).length:=w7 _ _
  have hp:=UM s r
  rw[h3,←Nat.mul_assoc]at h
  have h4:out.length*(O7 s d).length*1≤out.length*(O7 s d).length*(G3 s r).length:=Nat.mul_le_mul_left _ hp
  unfold Y0
  rw[if_neg (by omega),Qg (by rw[Bw];exact h),LG]
  rfl
theorem Qh{s:A4}:∀{ds:List Pk} {out:List (List Int)},out.length≤2000→2000<out.length*(G3 s ds).length→Y0 s ds out=none
 |[],out,h1,h2=>by simp[G3]at h2;omega
 |d::r,out,h1,h2=>by
  have h3:(G3 s (d::r)).length=(O7 s d).length*(G3 s r).length:=w7 _ _
  rw[h3,←Nat.mul_assoc]at h2
  unfold Y0
  split
  ·rfl
  ·exact Qh (by rw[Bw];omega) (by rw[Bw];exact h2)
theorem Wc(s:A4)(ds:List Pk):Y0 s ds [[]]=if 2000<(G3 s ds).length then none else some (G3 s ds):=by
 by_cases h:2000<(G3 s ds).length
 ·rw[if_pos h,Qh (by simp) (by simpa using h)]
 ·rw[if_neg h,Qg (by simp;omega)]
  simp
def Ay(s:A4)(x:J7)(dims:List Pk)(mea i:Int):Nz:=⟨z4 x i,Ab s x mea i,b6 s x dims i⟩
theorem bO{key:Int}{c:G8}(h:Hy c):N2 key 0 false c=N2 key 0 true c:=by
 obtain⟨h1,h2⟩:=h
 obtain⟨a,b,cc,d,e,f,g⟩:=c
 dsimp only at h1 h2
 unfold N2
 rw[if_pos rfl,if_neg (by decide),if_neg (by dsimp only;omega),if_neg (by dsimp only;omega)]
 simp
theorem eH{s:A4}{x:J7}{dims:List Pk}{mea i:Int}{c:G8}(h:Hy c):(if z1 (b6 s x dims i) c.codes=true then N2 (z4 x i) (Ab s x mea i) (decide (0≤mea)) c else c)=Dj c (Ay s x dims mea i):=by
 unfold Dj Ay
 dsimp only
 by_cases hm:0≤mea
 ·rw[decide_eq_true hm]
 ·have hv:Ab s x mea i=0:=if_neg hm
  rw[decide_eq_false hm,hv,bO h]
theorem bP{c:G8}(h:Hy c)(l:Nz):Hy (Dj c l):=by
 unfold Dj
 split
 ·exact h.add _ _ _
 ·exact h
theorem UN{s:A4}{x:J7}{dims:List Pk}{mea:Int}:∀(is:List Int) (C:List G8),(∀c∈C,Hy c)→is.foldl (EE s x dims mea) C=C.map fun c=>(is.map (Ay s x dims mea)).foldl Dj c
 |[],C,_=>by simp
 |i::r,C,h=>by
  have e:EE s x dims mea C i=C.map fun c=>Dj c (Ay s x dims mea i):=by
   unfold EE
   exact List.map_congr_left fun c hc=>eH (h c hc)
  rw[List.foldl_cons,e,UN r _ (fun c hc=>by
   rw[List.mem_map]at hc
   obtain⟨d,hd,rfl⟩:=hc
   exact bP (h d hd) _),List.map_map]
  rfl
theorem eI(s:A4)(x:J7)(dims:List Pk)(mea:Int)(L:List (List Int))(is:List Int):W9 s x dims mea L is=L.map fun l=>P5 l (is.map (Ay s x dims mea)):=by
 unfold W9
 rw[UN is _ (fun c hc=>by
  rw[List.mem_map]at hc
  obtain⟨l,_,rfl⟩:=hc
  exact⟨by simp[AP],by simp[AP]⟩),List.map_map]
 rfl
theorem Qv(c:G8):A3 Tryz.prog 60 [.agg (U5 c),.agg (U5 c)] (.b true):=by
 have h1:=Nk c.codes c.codes
 have h2:=Nk c.rows c.rows
 rw[decide_eq_true rfl]at h1 h2
 obtain⟨cs,cnt,sum,amo,fst,snd,rows⟩:=c
 dsimp only at *
 refine B5 Tryz.func60 52 fun mK E h0=>?_
 clear mK
 repeat'((first|refine A0 h1 ?_|refine A0 h2 ?_ |refine S2 ?_|(refine T6 ?_ ?_<;>intro h<;>try exact V1 h)|intro el mI mJ|intro el mI|exact T4|refine T5 ?_ ?_|intro ex)<;>try conv=>whnf)
 all_goals first
  |exact A1 rfl rfl
  |(exfalso;omega)
theorem VT(t:Kz):A3 Tryz.prog 18 [X8 t,X8 t] (.b true):=by
 have h1:=Ok t.dims t.dims
 rw[decide_eq_true rfl]at h1
 obtain⟨dims,mea,cells⟩:=t
 dsimp only at *
 have hX:X8 ⟨dims,mea,cells⟩=.agg [.sl 2 (dims.map A8),.i mea,.sl 7 (cells.map U5)]:=rfl
 rw[hX]
 refine B5 Tryz.func18 47 fun mK E h0=>?_
 have mL:cells.length≤9223372036854775807:=by
  have:=((mK (.agg [.sl 2 (dims.map A8),.i mea,.sl 7 (cells.map U5)]) (by simp)).agg (.sl 7 (cells.map U5)) (by simp)).sl
  simpa using this
 clear mK
 repeat'((first|refine A0 h1 ?_ |refine S2 ?_|(refine T6 ?_ ?_<;>intro h<;>try exact V1 h)|intro el mI mJ|intro el mI|exact T4|refine T5 ?_ ?_|intro ex)<;>try conv=>whnf)
 all_goals first
  |(exfalso;omega)
  |skip
 refine A9 (ι:=Nat) (fun k=>⟨[(2,.ref 0 0),(3,.ref 1 0),(5,.i k)],2,[(0,some (.box [.sl 2 (dims.map A8),.i mea,.sl 7 (cells.map U5)])),(1,some (.box [.sl 2 (dims.map A8),.i mea,.sl 7 (cells.map U5)]))]⟩)
  (fun k=>k≤cells.length) (fun k=>cells.length-k) 0 (Nat.zero_le _)
  (A6 h0) (fun k hK=>?_)
 by_cases mT:k<cells.length
 ·obtain⟨c,hc⟩:∃c,cells[k]?=some c:=⟨_,List.getElem?_eq_getElem mT⟩
  have oG:cells[((k:Nat):Int).toNat]?=some c:=hc
  have h2:=Qv c
  repeat'((first|(refine A2 (x:=c) oG (by omega) ?_)|refine A0 h2 ?_|(refine B0 ?_ ?_;kernel_rfl) |refine S2 ?_|(refine T6 ?_ ?_<;>intro h<;>try exact V1 h)|intro el mI mJ|intro el mI|exact T4|refine T5 ?_ ?_|intro ex)<;>try conv=>whnf)
  all_goals first
   |(exfalso;omega)
   |exact⟨k+1,by omega,by omega,A6 h0⟩
 ·repeat'((first|refine S2 ?_|(refine T6 ?_ ?_<;>intro h<;>try exact V1 h)|intro el mI mJ|intro el mI|exact T4|refine T5 ?_ ?_|intro ex)<;>try conv=>whnf)
  all_goals first
   |(exfalso;omega)
   |exact A1 rfl rfl
end Go.Proofs.YtiphlhoclaogjaaGreatDoor
