/- Chapter 18: one cell: the reference. -/
import Derived.Test.YtiphlhoclaogjaaGreatDoorJTb1
import Derived.Test.YtiphlhoclaogjaaGreatDoorJTc4
import Derived.Test.YtiphlhoclaogjaaGreatDoorJTa5
import Derived.Test.YtiphlhoclaogjaaGreatDoorJTa8
set_option linter.unusedVariables false
set_option linter.unnecessarySimpa false
set_option linter.unusedSimpArgs false
set_option maxHeartbeats 64000000
namespace Go.Proofs.YtiphlhoclaogjaaGreatDoor
open Go Go.Av
attribute [local irreducible] C9 B3 C8 D1 DQ D0 C7 St.le A3 B8
set_option maxRecDepth 100000
structure Ox where
 key:Int
 val:Int
 codes:List Int
abbrev k5(l:Ox):List AV:=[.i l.key,.i l.val,.sl 1 (l.codes.map wA)]
def EY(c:G2)(l:Ox):G2:=if AP l.codes c.codes=true then N4 l.key l.val true c else c
def P7(codes:List Int)(ls:List Ox):G2:=ls.foldl EY (BK codes)
structure JA(c:G2):Prop where
 lo:0≤c.snd
 le:c.snd≤c.fst
theorem JA.add{c:G2}(h:JA c)(key v:Int)(b:Bool):JA (N4 key v b c):=by
 obtain⟨h1,h2⟩:=h
 generalize hm:max v (-v)=a
 have:0≤a:=by omega
 unfold N4
 rw[hm]
 split
 ·exact⟨h1,h2⟩
 ·split
  ·exact⟨by dsimp only;omega,by dsimp only;omega⟩
  ·split
   ·exact⟨by dsimp only;omega,by dsimp only;omega⟩
   ·exact⟨h1,h2⟩
theorem ZX(key v:Int)(b:Bool)(c:G2):(N4 key v b c).codes=c.codes:=by
 unfold N4
 split
 ·rfl
 ·split
  ·rfl
  ·split<;>rfl
theorem Oy{codes:List Int}{ls:List Ox}{k:Nat}{l:Ox}(h:ls[k]?=some l):P7 codes (ls.take (k+1))=EY (P7 codes (ls.take k)) l:=by
 unfold P7
 rw[F1 h,List.foldl_append]
 rfl
theorem VC{codes:List Int}{ls:List Ox}(hv:∀l∈ls,-1099511627776≤l.val∧l.val≤1099511627776):∀k:Nat,k≤ls.length→Ex codes.length k (P7 codes (ls.take k))∧JA (P7 codes (ls.take k))∧(P7 codes (ls.take k)).codes=codes
 |0,_=>⟨⟨rfl,by simp[P7,BK],by simp[P7,BK],by simp[P7,BK],by simp[P7,BK]⟩,⟨by simp[P7,BK],by simp[P7,BK]⟩,rfl⟩
 |k+1,hk=>by
  obtain⟨l,hl⟩:∃l,ls[k]?=some l:=⟨_,List.getElem?_eq_getElem (by omega)⟩
  obtain⟨h1,h2,h3⟩:=VC (codes:=codes) hv k (by omega)
  rw[Oy hl]
  unfold EY
  split
  ·exact⟨h1.add (hv l (List.mem_of_getElem? hl)) true,h2.add _ _ _,by rw[ZX];exact h3⟩
  ·exact⟨h1.more,h2,h3⟩
theorem lb{key v:Int}{c:G2}(h:c.fst<max v (-v)):N4 key v true c={ c with cnt:=c.cnt+1,rows:=c.rows++[key],sum:=c.sum+v,amo:=c.amo+max v (-v),fst:=max v (-v),snd:=c.fst }:=by
 unfold N4;rw[if_neg (by decide),if_pos h]
theorem lc{key v:Int}{c:G2}(h:¬c.fst<max v (-v))(ho:c.snd≤c.fst):N4 key v true c={ c with cnt:=c.cnt+1,rows:=c.rows++[key],sum:=c.sum+v,amo:=c.amo+max v (-v),snd:=max c.snd (max v (-v)) }:=by
 unfold N4;rw[if_neg (by decide),if_neg h]
 split
 ·rw[show max c.snd (max v (-v))=max v (-v) by omega]
 ·rw[show max c.snd (max v (-v))=c.snd by omega]
theorem Oz(codes:List Int)(ls:List Ox)(hn:ls.length≤500)(hv:∀l∈ls,-1099511627776≤l.val∧l.val≤1099511627776)(hc:∀l∈ls,codes.length≤l.codes.length)(ni:codes.length≤1000):A3 Tryz.prog 58 [.sl 3 (ls.map k5),.sl 1 (codes.map wA)] (.agg (O8 (P7 codes ls))):=by
 have ol:=VC (codes:=codes) hv
 have oq:=fun k l h=>@Oy codes ls k l h
 have xZ:P7 codes (ls.take 0)=BK codes:=rfl
 have oz:P7 codes ls=P7 codes (ls.take ls.length):=by rw[List.take_length]
 rw[oz]
 generalize P7 codes=CR at *
 refine Lb (n:=103) Tryz.func58 (by kernel_rfl) rfl rfl rfl rfl rfl (by intro t T h;cases h;exact⟨7,inferInstance,fun l h=>by cases h;rfl⟩) (fun nL E h0=>?_)
 clear nL
 repeat'((first|refine S2 ?_|(refine T6 ?_ ?_<;>intro h<;>try exact V1 h)|intro el nJ nK|intro el nJ|exact T4|refine T5 ?_ ?_|intro ex)<;>try conv=>whnf)
 all_goals first
  |(exfalso;omega)
  |skip
 refine B0 (ι:=Nat) (fun k=>⟨[(0,.sl 3 (ls.map k5)),(1,.sl 1 (codes.map wA)),(4,.ref 0 0),(5,.ref 1 0),(6,.i k)],3,[(0,some (.box [.v (.slice none 0 0),.i 0,.i 0,.i 0,.i 0,.i 0,.v (.slice none 0 0)])),(1,some (.box [.sl 1 (codes.map wA),.i (CR (ls.take k)).cnt,.i (CR (ls.take k)).sum,.i (CR (ls.take k)).amo,.i (CR (ls.take k)).fst,.i (CR (ls.take k)).snd,.row 2 0 (CR (ls.take k)).rows.length])),(2,some (.row 3 1 0 ((CR (ls.take k)).rows.map wA)))]⟩)
  (fun k=>k≤ls.length) (fun k=>ls.length-k) 0 (Nat.zero_le _)
  (C0 (Ab 1 6 (e:=3) (sz:=1) rfl rfl) (A7 h0 rfl ⟨rfl,rfl,rfl,rfl,rfl,trivial⟩ ⟨rfl,congrArg (fun c:G2=>C4.box [.sl 1 (codes.map wA),.i c.cnt,.i c.sum,.i c.amo,.i c.fst,.i c.snd,.row 2 0 c.rows.length]) xZ,⟨0,congrArg (fun c:G2=>C4.row 3 1 0 (c.rows.map wA)) xZ⟩,trivial⟩ rfl rfl rfl)) (fun k hK=>?_)
 obtain⟨pd,nX,qI⟩:=ol k hK
 by_cases nU:k<ls.length
 ·obtain⟨l,hl⟩:∃l,ls[k]?=some l:=⟨_,List.getElem?_eq_getElem nU⟩
  have nv:ls[((k:Nat):Int).toNat]?=some l:=hl
  have ve:=List.mem_of_getElem? hl
  have pX:=hv l ve
  have vy:=hc l ve
  have nS:=oq k l hl
  unfold EY at nS
  rw[qI]at nS
  unfold AP at nS
  have wh:(codes.zip l.codes).length=codes.length:=by rw[List.length_zip];omega
  have hzg:∀(q:Nat) a b,codes[q]?=some a→l.codes[q]?=some b→(codes.zip l.codes)[q]?=some (a,b):=fun q a b h1 h2=>by rw[List.getElem?_zip_eq_some];exact⟨h1,h2⟩
  generalize codes.zip l.codes=zs at *
  generalize CR (ls.take k)=C at *
  obtain⟨cc,cnt,sum,amo,fst,snd,tL⟩:=C
  obtain⟨sR,oy,hq3,hq4,hq5⟩:=pd
  obtain⟨uB,sD⟩:=nX
  dsimp only at sR oy hq3 hq4 hq5 uB sD qI ⊢
  repeat'((first|refine S2 ?_|(refine T6 ?_ ?_<;>intro h<;>try exact V1 h)|intro el nJ nK|intro el nJ|exact T4|refine T5 ?_ ?_|intro ex)<;>try conv=>whnf)
  all_goals first
   |(exfalso;omega)
   |skip
  refine B0 (ι:=Nat×Bool) (fun y=>⟨[(0,.sl 3 (ls.map k5)),(1,.sl 1 (codes.map wA)),(4,.ref 0 0),(5,.ref 1 0),(6,.i k),(7,.b y.2),(8,.i y.1)],3,[(0,some (.box [.v (.slice none 0 0),.i 0,.i 0,.i 0,.i 0,.i 0,.v (.slice none 0 0)])),(1,some (.box [.sl 1 (codes.map wA),.i cnt,.i sum,.i amo,.i fst,.i snd,.row 2 0 tL.length])),(2,some (.row 3 1 0 (tL.map wA)))]⟩)
   (fun y=>y.1≤codes.length∧y.2=(zs.take y.1).all fun q=>decide (q.1=-1∨q.1=q.2)) (fun y=>codes.length-y.1) (0,true) ⟨Nat.zero_le _,rfl⟩
   (A6 h0) (fun y hI=>?_)
  obtain⟨q,f⟩:=y
  obtain⟨i1,i2⟩:=hI
  dsimp only at i1 i2 ⊢
  by_cases ru:q<codes.length
  ·obtain⟨a,ha⟩:∃a,codes[q]?=some a:=⟨_,List.getElem?_eq_getElem ru⟩
   obtain⟨b,hb⟩:∃b,l.codes[q]?=some b:=⟨_,List.getElem?_eq_getElem (by omega)⟩
   have vB:codes[((q:Nat):Int).toNat]?=some a:=ha
   have nl:l.codes[((q:Nat):Int).toNat]?=some b:=hb
   have oE:(zs.take (q+1)).all (fun q=>decide (q.1=-1∨q.1=q.2))=(f && decide (a=-1∨a=b)):=by rw[F1 (hzg q a b ha hb),List.all_append,i2];simp
   cases f
   ·repeat'((first|(refine A2 (x:=a) vB (by omega) ?_)|(refine A2 (x:=b) nl (by omega) ?_)|(refine A2 (x:=l) nv (by omega) ?_)|(refine A9 ?_ ?_;kernel_rfl) |refine S2 ?_|(refine T6 ?_ ?_<;>intro h<;>try exact V1 h)|intro el nJ nK|intro el nJ|exact T4|refine T5 ?_ ?_|intro ex)<;>try conv=>whnf)
    all_goals first
     |(exfalso;omega)
     |exact⟨(q+1,false),⟨by dsimp only;omega,by dsimp only;rw[oE];rfl⟩,by dsimp only;omega,A6 h0⟩
   ·by_cases h1:a=-1
    ·rw[decide_eq_true (Or.inl h1)]at oE
     repeat'((first|(refine A2 (x:=a) vB (by omega) ?_)|(refine A2 (x:=b) nl (by omega) ?_)|(refine A2 (x:=l) nv (by omega) ?_)|(refine A9 ?_ ?_;kernel_rfl) |refine S2 ?_|(refine T6 ?_ ?_<;>intro h<;>try exact V1 h)|intro el nJ nK|intro el nJ|exact T4|refine T5 ?_ ?_|intro ex)<;>try conv=>whnf)
     all_goals first
      |(exfalso;omega)
      |exact⟨(q+1,true),⟨by dsimp only;omega,by dsimp only;rw[oE];rfl⟩,by dsimp only;omega,A7 h0 rfl ⟨rfl,rfl,rfl,rfl,rfl,rfl,rfl,trivial⟩ ⟨rfl,rfl,⟨_,rfl⟩,trivial⟩ rfl rfl rfl⟩
      |exact⟨(q+1,true),⟨by dsimp only;omega,by dsimp only;rw[oE];rfl⟩,by dsimp only;omega,A7 h0 rfl ⟨rfl,rfl,rfl,rfl,rfl,congrArg (fun z:Bool=>some (AV.b z)) (by simp[h1]),rfl,trivial⟩ ⟨rfl,rfl,⟨_,rfl⟩,trivial⟩ rfl rfl rfl⟩
    ·by_cases h2:a=b
     ·rw[decide_eq_true (Or.inr h2)]at oE
      repeat'((first|(refine A2 (x:=a) vB (by omega) ?_)|(refine A2 (x:=b) nl (by omega) ?_)|(refine A2 (x:=l) nv (by omega) ?_)|(refine A9 ?_ ?_;kernel_rfl) |refine S2 ?_|(refine T6 ?_ ?_<;>intro h<;>try exact V1 h)|intro el nJ nK|intro el nJ|exact T4|refine T5 ?_ ?_|intro ex)<;>try conv=>whnf)
      all_goals first
       |(exfalso;omega)
       |exact⟨(q+1,true),⟨by dsimp only;omega,by dsimp only;rw[oE];rfl⟩,by dsimp only;omega,A7 h0 rfl ⟨rfl,rfl,rfl,rfl,rfl,rfl,rfl,trivial⟩ ⟨rfl,rfl,⟨_,rfl⟩,trivial⟩ rfl rfl rfl⟩
       |exact⟨(q+1,true),⟨by dsimp only;omega,by dsimp only;rw[oE];rfl⟩,by dsimp only;omega,A7 h0 rfl ⟨rfl,rfl,rfl,rfl,rfl,congrArg (fun z:Bool=>some (AV.b z)) (by simp[h2]),rfl,trivial⟩ ⟨rfl,rfl,⟨_,rfl⟩,trivial⟩ rfl rfl rfl⟩
     ·rw[decide_eq_false (fun h=>h.elim h1 h2)]at oE
      repeat'((first|(refine A2 (x:=a) vB (by omega) ?_)|(refine A2 (x:=b) nl (by omega) ?_)|(refine A2 (x:=l) nv (by omega) ?_)|(refine A9 ?_ ?_;kernel_rfl) |refine S2 ?_|(refine T6 ?_ ?_<;>intro h<;>try exact V1 h)|intro el nJ nK|intro el nJ|exact T4|refine T5 ?_ ?_|intro ex)<;>try conv=>whnf)
      all_goals first
       |(exfalso;omega)
       |exact⟨(q+1,false),⟨by dsimp only;omega,by dsimp only;rw[oE];rfl⟩,by dsimp only;omega,A7 h0 rfl ⟨rfl,rfl,rfl,rfl,rfl,rfl,rfl,trivial⟩ ⟨rfl,rfl,⟨_,rfl⟩,trivial⟩ rfl rfl rfl⟩
       |exact⟨(q+1,false),⟨by dsimp only;omega,by dsimp only;rw[oE];rfl⟩,by dsimp only;omega,A7 h0 rfl ⟨rfl,rfl,rfl,rfl,rfl,congrArg (fun z:Bool=>some (AV.b z)) (by simp[h2]),rfl,trivial⟩ ⟨rfl,rfl,⟨_,rfl⟩,trivial⟩ rfl rfl rfl⟩
  have hze:zs.take q=zs:=List.take_of_length_le (by omega)
  rw[hze]at i2
  rw[←i2]at nS
  cases f
  ·rw[if_neg (by decide)]at nS
   repeat'((first|refine S2 ?_|(refine T6 ?_ ?_<;>intro h<;>try exact V1 h)|intro el nJ nK|intro el nJ|exact T4|refine T5 ?_ ?_|intro ex)<;>try conv=>whnf)
   all_goals first
    |(exfalso;omega)
    |exact⟨k+1,by omega,by omega,A7 h0 rfl ⟨rfl,rfl,rfl,rfl,rfl,trivial⟩ ⟨rfl,congrArg (fun c:G2=>C4.box [.sl 1 (codes.map wA),.i c.cnt,.i c.sum,.i c.amo,.i c.fst,.i c.snd,.row 2 0 c.rows.length]) nS,⟨_,congrArg (fun c:G2=>C4.row 3 1 _ (c.rows.map wA)) nS⟩,trivial⟩ rfl rfl rfl⟩
  rw[if_pos rfl]at nS
  by_cases hf:fst<max l.val (-l.val)
  ·rw[lb hf]at nS
   have ul:max snd fst=fst:=by omega
   have sa:CR (ls.take (k+1))=⟨cc,cnt+1,sum+l.val,amo+max l.val (-l.val),max l.val (-l.val),max snd fst,tL++[l.key]⟩:=by rw[nS,ul]
   repeat'((first|(refine A2 (x:=l) nv (by omega) ?_)|(refine F5 (id:=12) ⟨[(0,.sl 3 (ls.map k5)),(1,.sl 1 (codes.map wA)),(4,.ref 0 0),(5,.ref 1 0),(6,.i k)],3,[(0,some (.box [.v (.slice none 0 0),.i 0,.i 0,.i 0,.i 0,.i 0,.v (.slice none 0 0)])),(1,some (.box [.sl 1 (codes.map wA),.i (cnt+1),.i sum,.i amo,.i fst,.i snd,.row 2 0 (tL++[l.key]).length])),(2,some (.row 3 1 0 ((tL++[l.key]).map wA)))]⟩ ?_ ?_)|(refine F5 (id:=13) ⟨[(0,.sl 3 (ls.map k5)),(1,.sl 1 (codes.map wA)),(4,.ref 0 0),(5,.ref 1 0),(6,.i k)],3,[(0,some (.box [.v (.slice none 0 0),.i 0,.i 0,.i 0,.i 0,.i 0,.v (.slice none 0 0)])),(1,some (.box [.sl 1 (codes.map wA),.i (cnt+1),.i (sum+l.val),.i amo,.i fst,.i snd,.row 2 0 (tL++[l.key]).length])),(2,some (.row 3 1 0 ((tL++[l.key]).map wA)))]⟩ ?_ ?_)|(refine E7 14 ?_;refine A9 ?_ ?_;kernel_rfl) |refine S2 ?_|(refine T6 ?_ ?_<;>intro h<;>try exact V1 h)|intro el nJ nK|intro el nJ|exact T4|refine T5 ?_ ?_|intro ex)<;>try conv=>whnf)
   all_goals first
    |(exfalso;omega)
    |exact A7 h0 rfl ⟨rfl,rfl,rfl,rfl,rfl,trivial⟩ ⟨rfl,congrArg (fun z:Nat=>C4.box [.sl 1 (codes.map wA),.i (cnt+1),.i sum,.i amo,.i fst,.i snd,.row 2 0 z]) (by simp[L6]),⟨_,congrArg (C4.row 3 1 _) (by rw[List.map_append];rfl)⟩,trivial⟩ rfl rfl rfl
    |exact A7 h0 rfl ⟨rfl,rfl,rfl,rfl,rfl,trivial⟩ ⟨rfl,rfl,⟨_,rfl⟩,trivial⟩ rfl rfl rfl
    |exact⟨k+1,by omega,by omega,A7 h0 rfl ⟨rfl,rfl,rfl,rfl,rfl,trivial⟩ ⟨rfl,congrArg (fun c:G2=>C4.box [.sl 1 (codes.map wA),.i c.cnt,.i c.sum,.i c.amo,.i c.fst,.i c.snd,.row 2 0 c.rows.length]) sa,⟨_,congrArg (fun c:G2=>C4.row 3 1 _ (c.rows.map wA)) sa⟩,trivial⟩ rfl rfl rfl⟩
  ·rw[lc hf sD]at nS
   repeat'((first|(refine A2 (x:=l) nv (by omega) ?_)|(refine F5 (id:=12) ⟨[(0,.sl 3 (ls.map k5)),(1,.sl 1 (codes.map wA)),(4,.ref 0 0),(5,.ref 1 0),(6,.i k)],3,[(0,some (.box [.v (.slice none 0 0),.i 0,.i 0,.i 0,.i 0,.i 0,.v (.slice none 0 0)])),(1,some (.box [.sl 1 (codes.map wA),.i (cnt+1),.i sum,.i amo,.i fst,.i snd,.row 2 0 (tL++[l.key]).length])),(2,some (.row 3 1 0 ((tL++[l.key]).map wA)))]⟩ ?_ ?_)|(refine F5 (id:=13) ⟨[(0,.sl 3 (ls.map k5)),(1,.sl 1 (codes.map wA)),(4,.ref 0 0),(5,.ref 1 0),(6,.i k)],3,[(0,some (.box [.v (.slice none 0 0),.i 0,.i 0,.i 0,.i 0,.i 0,.v (.slice none 0 0)])),(1,some (.box [.sl 1 (codes.map wA),.i (cnt+1),.i (sum+l.val),.i amo,.i fst,.i snd,.row 2 0 (tL++[l.key]).length])),(2,some (.row 3 1 0 ((tL++[l.key]).map wA)))]⟩ ?_ ?_)|(refine E7 14 ?_;refine A9 ?_ ?_;kernel_rfl) |refine S2 ?_|(refine T6 ?_ ?_<;>intro h<;>try exact V1 h)|intro el nJ nK|intro el nJ|exact T4|refine T5 ?_ ?_|intro ex)<;>try conv=>whnf)
   all_goals first
    |(exfalso;omega)
    |exact A7 h0 rfl ⟨rfl,rfl,rfl,rfl,rfl,trivial⟩ ⟨rfl,congrArg (fun z:Nat=>C4.box [.sl 1 (codes.map wA),.i (cnt+1),.i sum,.i amo,.i fst,.i snd,.row 2 0 z]) (by simp[L6]),⟨_,congrArg (C4.row 3 1 _) (by rw[List.map_append];rfl)⟩,trivial⟩ rfl rfl rfl
    |exact A7 h0 rfl ⟨rfl,rfl,rfl,rfl,rfl,trivial⟩ ⟨rfl,rfl,⟨_,rfl⟩,trivial⟩ rfl rfl rfl
    |exact⟨k+1,by omega,by omega,A7 h0 rfl ⟨rfl,rfl,rfl,rfl,rfl,trivial⟩ ⟨rfl,congrArg (fun c:G2=>C4.box [.sl 1 (codes.map wA),.i c.cnt,.i c.sum,.i c.amo,.i c.fst,.i c.snd,.row 2 0 c.rows.length]) nS,⟨_,congrArg (fun c:G2=>C4.row 3 1 _ (c.rows.map wA)) nS⟩,trivial⟩ rfl rfl rfl⟩
 ·have he:ls.take k=ls:=List.take_of_length_le (by omega)
  have oS:k=ls.length:=by omega
  rw[he]
  subst oS
  rw[List.take_length]at qI ⊢
  generalize CR ls=C at *
  obtain⟨cc,cnt,sum,amo,fst,snd,tL⟩:=C
  dsimp only at qI ⊢
  subst qI
  repeat'((first|refine S2 ?_|(refine T6 ?_ ?_<;>intro h<;>try exact V1 h)|intro el nJ nK|intro el nJ|exact T4|refine T5 ?_ ?_|intro ex)<;>try conv=>whnf)
  all_goals first
   |(exfalso;omega)
   |exact dA rfl rfl rfl
theorem fN(s:A4)(d:Pk):1≤(O9 s d).length:=by unfold O9;simp
theorem VD(s:A4):∀ds:List Pk,1≤(G4 s ds).length
 |[]=>by simp[G4]
 |d::r=>by
  have h1:=fN s d
  have h2:=VD s r
  have h3:(G4 s (d::r)).length=(O9 s d).length*(G4 s r).length:=Ac _ _
  rw[h3]
  have:=Nat.mul_le_mul h1 h2
  omega
theorem MC(own:List Int)(R:List (List Int)):∀out:List (List Int),(BJ own out).flatMap (fun l=>R.map fun m=>l++m)=out.flatMap fun l=>(CH own R).map fun m=>l++m
 |[]=>rfl
 |a::r=>by
  have ih:=MC own R r
  have hk:BJ own (a::r)=(own.map fun c=>a++[c])++BJ own r:=by simp[BJ]
  rw[hk,List.flatMap_append,ih,List.flatMap_cons]
  congr 1
  unfold CH
  rw[List.flatMap_map,List.map_flatMap]
  congr 1
  funext c
  rw[List.map_map]
  congr 1
  funext m
  simp
theorem RZ{s:A4}:∀{ds:List Pk} {out:List (List Int)},out.length*(G4 s ds).length≤2000→U9 s ds out=some (out.flatMap fun l=>(G4 s ds).map fun m=>l++m)
 |[],out,_=>by simp[U9,G4]
 |d::r,out,h=>by
  have h3:(G4 s (d::r)).length=(O9 s d).length*(G4 s r).length:=Ac _ _
  have hp:=VD s r
  rw[h3,←Nat.mul_assoc]at h
  have h4:out.length*(O9 s d).length*1≤out.length*(O9 s d).length*(G4 s r).length:=Nat.mul_le_mul_left _ hp
  unfold U9
  rw[if_neg (by omega),RZ (by rw[Cs];exact h),MC]
  rfl
theorem Ra{s:A4}:∀{ds:List Pk} {out:List (List Int)},out.length≤2000→2000<out.length*(G4 s ds).length→U9 s ds out=none
 |[],out,h1,h2=>by simp[G4]at h2;omega
 |d::r,out,h1,h2=>by
  have h3:(G4 s (d::r)).length=(O9 s d).length*(G4 s r).length:=Ac _ _
  rw[h3,←Nat.mul_assoc]at h2
  unfold U9
  split
  ·rfl
  ·exact Ra (by rw[Cs];omega) (by rw[Cs];exact h2)
theorem XS(s:A4)(ds:List Pk):U9 s ds [[]]=if 2000<(G4 s ds).length then none else some (G4 s ds):=by
 by_cases h:2000<(G4 s ds).length
 ·rw[if_pos h,Ra (by simp) (by simpa using h)]
 ·rw[if_neg h,RZ (by simp;omega)]
  simp
def BL(s:A4)(x:J9)(dims:List Pk)(mea i:Int):Ox:=⟨Ap x i,BU s x mea i,b9 s x dims i⟩
theorem cK{key:Int}{c:G2}(h:JA c):N4 key 0 false c=N4 key 0 true c:=by
 obtain⟨h1,h2⟩:=h
 obtain⟨a,b,cc,d,e,f,g⟩:=c
 dsimp only at h1 h2
 unfold N4
 rw[if_pos rfl,if_neg (by decide),if_neg (by dsimp only;omega),if_neg (by dsimp only;omega)]
 simp
theorem fO{s:A4}{x:J9}{dims:List Pk}{mea i:Int}{c:G2}(h:JA c):(if AP (b9 s x dims i) c.codes=true then N4 (Ap x i) (BU s x mea i) (decide (0≤mea)) c else c)=EY c (BL s x dims mea i):=by
 unfold EY BL
 dsimp only
 by_cases hm:0≤mea
 ·rw[decide_eq_true hm]
 ·have hv:BU s x mea i=0:=if_neg hm
  rw[decide_eq_false hm,hv,cK h]
theorem cL{c:G2}(h:JA c)(l:Ox):JA (EY c l):=by
 unfold EY
 split
 ·exact h.add _ _ _
 ·exact h
theorem VE{s:A4}{x:J9}{dims:List Pk}{mea:Int}:∀(is:List Int) (C:List G2),(∀c∈C,JA c)→is.foldl (Ew s x dims mea) C=C.map fun c=>(is.map (BL s x dims mea)).foldl EY c
 |[],C,_=>by simp
 |i::r,C,h=>by
  have e:Ew s x dims mea C i=C.map fun c=>EY c (BL s x dims mea i):=by
   unfold Ew
   exact List.map_congr_left fun c hc=>fO (h c hc)
  rw[List.foldl_cons,e,VE r _ (fun c hc=>by
   rw[List.mem_map]at hc
   obtain⟨d,hd,rfl⟩:=hc
   exact cL (h d hd) _),List.map_map]
  rfl
theorem VF(s:A4)(x:J9)(dims:List Pk)(mea:Int)(L:List (List Int))(is:List Int):V8 s x dims mea L is=L.map fun l=>P7 l (is.map (BL s x dims mea)):=by
 unfold V8
 rw[VE is _ (fun c hc=>by
  rw[List.mem_map]at hc
  obtain⟨l,_,rfl⟩:=hc
  exact⟨by simp[BK],by simp[BK]⟩),List.map_map]
 rfl
theorem VG(t:Ez)(codes:List Int):A3 Tryz.prog 27 [S3 t,.sl 1 (codes.map wA)] (.i (D9 (fun c:G2=>decide (c.codes=codes)) t.cells 0)):=by
 obtain⟨dims,mea,cells⟩:=t
 have hX:S3 ⟨dims,mea,cells⟩=.agg [.sl 2 (dims.map A8),.i mea,.sl 7 (cells.map O8)]:=rfl
 rw[hX]
 dsimp only
 generalize hp:(fun c:G2=>decide (c.codes=codes))=p
 have ug:∀c,p c=decide (c.codes=codes):=fun c=>by rw[←hp]
 have h1:=fun c:G2=>Yy c.codes codes
 refine B5 Tryz.func27 22 fun nL E h0=>?_
 have nM:cells.length≤9223372036854775807:=by
  have:=((nL (.agg [.sl 2 (dims.map A8),.i mea,.sl 7 (cells.map O8)]) (by simp)).agg (.sl 7 (cells.map O8)) (by simp)).sl
  simpa using this
 clear nL
 repeat'((first|refine S2 ?_|(refine T6 ?_ ?_<;>intro h<;>try exact V1 h)|intro el nJ nK|intro el nJ|exact T4|refine T5 ?_ ?_|intro ex)<;>try conv=>whnf)
 refine B0 (ι:=Nat) (fun k=>⟨[(1,.sl 1 (codes.map wA)),(2,.ref 0 0),(5,.i k)],1,[(0,some (.box [.sl 2 (dims.map A8),.i mea,.sl 7 (cells.map O8)]))]⟩)
  (fun k=>k≤cells.length∧D9 p cells 0=D9 p (cells.drop k) k) (fun k=>cells.length-k) 0 ⟨Nat.zero_le _,rfl⟩ (A6 h0) (fun k hI=>?_)
 obtain⟨hk,hI⟩:=hI
 by_cases nU:k<cells.length
 ·obtain⟨c,hc⟩:∃c,cells[k]?=some c:=⟨_,List.getElem?_eq_getElem nU⟩
  have ow:cells[((k:Nat):Int).toNat]?=some c:=hc
  have h2:=h1 c
  rw[←ug]at h2
  rw[F7 hc,D9]at hI
  cases tE:p c with
  |true =>
   rw[tE]at h2
   rw[if_pos tE]at hI
   repeat'((first|(refine A2 (x:=c) ow (by omega) ?_)|refine A0 h2 ?_|(refine A9 ?_ ?_;kernel_rfl) |refine S2 ?_|(refine T6 ?_ ?_<;>intro h<;>try exact V1 h)|intro el nJ nK|intro el nJ|exact T4|refine T5 ?_ ?_|intro ex)<;>try conv=>whnf)
   all_goals first
    |(exfalso;omega)
    |exact A1 rfl (congrArg AV.i hI.symm)
  |false =>
   rw[tE]at h2
   rw[if_neg (by rw[tE];decide)]at hI
   repeat'((first|(refine A2 (x:=c) ow (by omega) ?_)|refine A0 h2 ?_|(refine A9 ?_ ?_;kernel_rfl) |refine S2 ?_|(refine T6 ?_ ?_<;>intro h<;>try exact V1 h)|intro el nJ nK|intro el nJ|exact T4|refine T5 ?_ ?_|intro ex)<;>try conv=>whnf)
   all_goals first
    |(exfalso;omega)
    |exact⟨k+1,⟨by omega,hI⟩,by omega,A6 h0⟩
 ·rw[List.drop_eq_nil_of_le (by omega),D9]at hI
  repeat'((first|refine S2 ?_|(refine T6 ?_ ?_<;>intro h<;>try exact V1 h)|intro el nJ nK|intro el nJ|exact T4|refine T5 ?_ ?_|intro ex)<;>try conv=>whnf)
  all_goals first
   |(exfalso;omega)
   |exact A1 rfl (congrArg AV.i hI.symm)
theorem Py(t:Ez)(a b:Int):A3 Tryz.prog 29 [S3 t,.i a,.i b] (.b (KR t a b)):=by
 by_cases hn:a<0∨(t.cells.length:Int)≤a∨b<0∨(t.cells.length:Int)≤b
 ·rw[bn hn]
  obtain⟨dims,mea,cells⟩:=t
  dsimp only at *
  have hX:S3 ⟨dims,mea,cells⟩=.agg [.sl 2 (dims.map A8),.i mea,.sl 7 (cells.map O8)]:=rfl
  rw[hX]
  refine B5 Tryz.func29 78 fun nL E h0=>?_
  have nM:cells.length≤9223372036854775807:=by
   have:=((nL (.agg [.sl 2 (dims.map A8),.i mea,.sl 7 (cells.map O8)]) (by simp)).agg (.sl 7 (cells.map O8)) (by simp)).sl
   simpa using this
  clear nL
  repeat'((first|refine S2 ?_|(refine T6 ?_ ?_<;>intro h<;>try exact V1 h)|intro el nJ nK|intro el nJ|exact T4|refine T5 ?_ ?_|intro ex)<;>try conv=>whnf)
  all_goals first
   |(exfalso;omega)
   |exact A1 rfl rfl
 obtain⟨x,hx⟩:∃x,t.cells[a.toNat]?=some x:=⟨_,List.getElem?_eq_getElem (by omega)⟩
 obtain⟨y,hy⟩:∃y,t.cells[b.toNat]?=some y:=⟨_,List.getElem?_eq_getElem (by omega)⟩
 rw[XK hn hx hy]
 obtain⟨dims,mea,cells⟩:=t
 dsimp only at *
 have hX:S3 ⟨dims,mea,cells⟩=.agg [.sl 2 (dims.map A8),.i mea,.sl 7 (cells.map O8)]:=rfl
 rw[hX]
 by_cases hd:¬(x.codes.length=dims.length∧y.codes.length=dims.length)
 ·rw[if_neg hd]
  refine B5 Tryz.func29 78 fun nL E h0=>?_
  have nM:cells.length≤9223372036854775807:=by
   have:=((nL (.agg [.sl 2 (dims.map A8),.i mea,.sl 7 (cells.map O8)]) (by simp)).agg (.sl 7 (cells.map O8)) (by simp)).sl
   simpa using this
  clear nL
  repeat'((first|(refine A2 (x:=x) hx (by omega) ?_)|(refine A2 (x:=y) hy (by omega) ?_)|(refine A9 ?_ ?_;kernel_rfl) |refine S2 ?_|(refine T6 ?_ ?_<;>intro h<;>try exact V1 h)|intro el nJ nK|intro el nJ|exact T4|refine T5 ?_ ?_|intro ex)<;>try conv=>whnf)
  all_goals first
   |(exfalso;omega)
   |exact A1 rfl rfl
 have hd:=Decidable.of_not_not hd
 rw[if_pos hd]
 unfold AP
 have wh:(y.codes.zip x.codes).length=x.codes.length:=by rw[List.length_zip];omega
 have hzg:∀(q:Nat) a b,y.codes[q]?=some a→x.codes[q]?=some b→(y.codes.zip x.codes)[q]?=some (a,b):=fun q a b h1 h2=>by rw[List.getElem?_zip_eq_some];exact⟨h1,h2⟩
 generalize y.codes.zip x.codes=zs at *
 refine B5 Tryz.func29 78 fun nL E h0=>?_
 have nM:cells.length≤9223372036854775807:=by
  have:=((nL (.agg [.sl 2 (dims.map A8),.i mea,.sl 7 (cells.map O8)]) (by simp)).agg (.sl 7 (cells.map O8)) (by simp)).sl
  simpa using this
 have rp:dims.length≤9223372036854775807:=by
  have:=((nL (.agg [.sl 2 (dims.map A8),.i mea,.sl 7 (cells.map O8)]) (by simp)).agg (.sl 2 (dims.map A8)) (by simp)).sl
  simpa using this
 clear nL
 repeat'((first|(refine A2 (x:=x) hx (by omega) ?_)|(refine A2 (x:=y) hy (by omega) ?_)|(refine A9 ?_ ?_;kernel_rfl) |refine S2 ?_|(refine T6 ?_ ?_<;>intro h<;>try exact V1 h)|intro el nJ nK|intro el nJ|exact T4|refine T5 ?_ ?_|intro ex)<;>try conv=>whnf)
 all_goals first
  |(exfalso;omega)
  |skip
 refine B0 (ι:=Nat) (fun k=>⟨[(7,.sl 1 (x.codes.map wA)),(8,.sl 1 (y.codes.map wA)),(9,.i k)],0,[]⟩)
  (fun k=>k≤x.codes.length∧(zs.take k).all (fun q=>decide (q.1=-1∨q.1=q.2))=true) (fun k=>x.codes.length-k) 0 ⟨Nat.zero_le _,rfl⟩
  (A6 h0) (fun k hI=>?_)
 obtain⟨hk,hI⟩:=hI
 by_cases nU:k<x.codes.length
 ·obtain⟨c,hc⟩:∃c,y.codes[k]?=some c:=⟨_,List.getElem?_eq_getElem (by omega)⟩
  obtain⟨d,qm⟩:∃d,x.codes[k]?=some d:=⟨_,List.getElem?_eq_getElem nU⟩
  have hq:=hzg k c d hc qm
  have ow:y.codes[((k:Nat):Int).toNat]?=some c:=hc
  have qa:x.codes[((k:Nat):Int).toNat]?=some d:=qm
  have rE:¬c=-1→¬c=d→zs.all (fun q=>decide (q.1=-1∨q.1=q.2))=false:=fun h1 h2=>Ml hq (by simp[h1,h2])
  have ol:c=-1∨c=d→(zs.take (k+1)).all (fun q=>decide (q.1=-1∨q.1=q.2))=true:=fun h=>KL hq hI (by simpa using h)
  repeat'((first|(refine A2 (x:=c) ow (by omega) ?_)|(refine A2 (x:=d) qa (by omega) ?_)|(refine A9 ?_ ?_;kernel_rfl) |refine S2 ?_|(refine T6 ?_ ?_<;>intro h<;>try exact V1 h)|intro el nJ nK|intro el nJ|exact T4|refine T5 ?_ ?_|intro ex)<;>try conv=>whnf)
  all_goals first
   |(exfalso;omega)
   |exact⟨k+1,⟨by omega,ol (by omega)⟩,by omega,A7 h0 rfl ⟨rfl,rfl,rfl,trivial⟩ trivial rfl rfl rfl⟩
   |exact A1 rfl (congrArg AV.b (rE (by omega) (by omega)).symm)
 ·have he:zs.take k=zs:=List.take_of_length_le (by omega)
  rw[he]at hI
  rw[hI]
  repeat'((first|refine S2 ?_|(refine T6 ?_ ?_<;>intro h<;>try exact V1 h)|intro el nJ nK|intro el nJ|exact T4|refine T5 ?_ ?_|intro ex)<;>try conv=>whnf)
  all_goals first
   |(exfalso;omega)
   |exact A1 rfl rfl
end Go.Proofs.YtiphlhoclaogjaaGreatDoor
