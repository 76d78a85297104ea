/- Chapter 5: the program's truth values from coarse values. -/
import Derived.Test.YtiphlhoclaogjaaGreatDoorRC3
import Derived.Test.YtiphlhoclaogjaaGreatDoorRD2
import Derived.Test.YtiphlhoclaogjaaGreatDoorRB13
import Derived.Test.YtiphlhoclaogjaaGreatDoorRSx
import Derived.Test.YtiphlhoclaogjaaGreatDoorRAvTy
import Derived.Test.YtiphlhoclaogjaaGreatDoorRE3
import Derived.Test.YtiphlhoclaogjaaGreatDoorRB12
import Derived.Lib.ItoaNum
import Derived.Lib.AtoiAll
import Derived.Shelf.LaysM
import Derived.Shelf.Strconv.Itoa3
import Derived.Test.YtiphlhoclaogjaaGreatDoorProg
import Derived.Lib.AppendIntMem
import Derived.Lib.AtoiErrMem
set_option linter.unusedVariables false
set_option linter.unnecessarySimpa false
set_option linter.unusedSimpArgs false
set_option maxHeartbeats 64000000
namespace Go.Proofs.YtiphlhoclaogjaaGreatDoor
open Go Go.Av
attribute [local irreducible] C9 B3 C7 D1 DQ D0 C6 St.le A3 B7
set_option maxRecDepth 100000
theorem WI{s:A4}(hr:C3 s=0){column level:Int}{c:D4}(h1:1≤column)(hc:s.cols[column.toNat]?=some c)(h4:level≤E5 s column)(hk:c.kind=3):level≤c.widths.length:=by
 have mM:=F0 hc
 unfold E5 at h4
 rw[if_neg (by omega),C1 hc,M0,if_neg (by omega)]at h4
 exact h4
theorem JN(s:A4)(hr:C3 s=0)(column level v:Int)(c:D4)(h1:1≤column)(hc:s.cols[column.toNat]?=some c)(h3:0≤level)(h4:level≤E5 s column):A3 Tryz.prog 158 [sA s,.i column,.i level,.i v] (.tup [.i (M3 s column level v).1,.b (M3 s column level v).2]):=by
 obtain⟨hk,hm⟩:=KH hr h1 hc
 unfold M3
 rw[C1 hc]
 by_cases pG:c.kind=3
 ·rw[if_pos pG]
  have nT:=WI hr h1 hc h4 pG
  have tO:=Pu c level v (hm pG) h3 nT
  by_cases hmv:0<level∧v=(-1099511627776)
  ·rw[if_pos hmv]
   refine B5 Tryz.func158 68 fun mK E h0=>?_
   clear mK
   repeat'((first|(refine A2 (x:=c) hc (by omega) ?_) |refine S2 ?_|(refine T6 ?_ ?_<;>intro h<;>try exact V1 h)|intro el mI mJ|intro el mI|exact T4|refine T5 ?_ ?_|intro ex)<;>try conv=>whnf)
   all_goals first
    |(exfalso;omega)
    |exact I3 rfl rfl rfl
  ·rw[if_neg hmv]
   generalize M1 c level v=S at *
   obtain⟨a,b,ok⟩:=S
   refine B5 Tryz.func158 68 fun mK E h0=>?_
   clear mK
   repeat'((first|(refine A2 (x:=c) hc (by omega) ?_)|refine A0 tO ?_ |refine S2 ?_|(refine T6 ?_ ?_<;>intro h<;>try exact V1 h)|intro el mI mJ|intro el mI|exact T4|refine T5 ?_ ?_|intro ex)<;>try conv=>whnf)
   all_goals first
    |(exfalso;omega)
    |exact I3 rfl rfl rfl
 ·rw[if_neg pG]
  have mW:c.kind=2:=by omega
  have hl:=z8.lst hr (List.mem_of_getElem? hc) mW
  obtain⟨lx,nA⟩:∃l,s.lists[c.lst.toNat]?=some l:=⟨_,List.getElem?_eq_getElem (by omega)⟩
  have nM:chk lx.1 lx.2=0:=(D3 hr).2.2.1 _ (List.mem_of_getElem? nA)
  have hg:=An nM
  have tG:=n8 (nm:=lx.1) (cs:=lx.2) (by omega)
  have mh:=x9 lx.1 lx.2 (C5 lx.1 lx.2-1)
  have pa:=Dd lx.1 lx.2 (by omega)
  have tY:=Gg lx.1 lx.2 (C5 lx.1 lx.2-1) (by omega)
  have qp:=fun (leaf:Nat)=>Jz lx.1 lx.2 leaf level (by omega)
  have e1:F9 s column=H1 lx.1 lx.2 (C5 lx.1 lx.2-1):=by
   unfold F9
   rw[C1 hc,H6 nA]
  have e2:QH s column level=fun x:Nat=>L1 lx.1 lx.2 x level:=by
   funext x
   unfold QH
   rw[C1 hc,H6 nA]
  rw[e1,e2]
  generalize H1 lx.1 lx.2 (C5 lx.1 lx.2-1)=L at *
  refine B5 Tryz.func158 68 fun mK E h0=>?_
  clear mK
  repeat'((first|(refine A2 (x:=c) hc (by omega) ?_)|(refine A2 (x:=lx) nA (by omega) ?_)|refine A0 pa ?_|refine A0 tY ?_|(refine B0 ?_ ?_;kernel_rfl) |refine S2 ?_|(refine T6 ?_ ?_<;>intro h<;>try exact V1 h)|intro el mI mJ|intro el mI|exact T4|refine T5 ?_ ?_|intro ex)<;>try conv=>whnf)
  all_goals first
   |(exfalso;omega)
   |skip
  refine A9 (ι:=Nat) (fun k=>⟨[(2,.i level),(3,.i v),(14,.ref 2 0),(54,.sl 1 (L.map iA)),(55,.i L.length),(56,.i k)],3,[(2,some (.box (z7 lx)))]⟩)
   (fun k=>k≤L.length∧d9 (fun x:Nat=>L1 lx.1 lx.2 x level) v L=d9 (fun x:Nat=>L1 lx.1 lx.2 x level) v (L.drop k)) (fun k=>L.length-k) 0 ⟨Nat.zero_le _,rfl⟩
   (A6 h0) (fun k hI=>?_)
  obtain⟨oX,hI⟩:=hI
  repeat'((first|refine A0 (qp _) ?_ |refine S2 ?_|(refine T6 ?_ ?_<;>intro h<;>try exact V1 h)|intro el mI mJ|intro el mI|exact T4|refine T5 ?_ ?_|intro ex)<;>try conv=>whnf)
  all_goals first
   |exact I3 rfl rfl (by rw[hI,G1 mI,d9,if_pos h];rfl)
   |exact I3 rfl rfl (by rw[hI,T0 h];rfl)
   |exact⟨k+1,⟨by omega,by rw[hI,G1 mI,d9,if_neg h]⟩,by omega,A6 h0⟩
theorem Xp{s:A4}{l:List (Pk×Int)}{q:Pk×Int}(h1:1≤q.1.col)(i:Nat):y8 s (l++[q]) i=if q.1.col.toNat=i then (M3 s q.1.col q.1.lev q.2).1 else y8 s l i:=by
 unfold y8
 rw[NX]
 by_cases e:q.1.col.toNat=i
 ·have e2:q.1.col=(i:Int):=by omega
  rw[if_pos e2,if_pos e,if_neg (by omega),e2]
 ·rw[if_neg (show ¬q.1.col=(i:Int) by omega),if_neg e]
theorem EZ{f g:Nat→Int}{n:Nat}(h:∀i,i<n→f i=g i):U8 f n=U8 g n:=by
 unfold U8
 refine List.map_congr_left fun i hi=>?_
 rw[h i (List.mem_range.1 hi)]
def s8(s:A4)(pv:List (Pk×Int)):Bool:=pv.all fun q=>(M3 s q.1.col q.1.lev q.2).2
def Li(s:A4)(c:B6)(pv:List (Pk×Int)):Int:=if s8 s pv=true then Cj s c ((List.range s.cols.length).map (y8 s pv))else 0
theorem KI{α:Type}{p:α→Bool}{l:List α}{k:Nat}{x:α}(hx:l[k]?=some x)(h:p x=false):l.all p=false:=by
 rw[List.all_eq_false]
 exact⟨x,List.mem_of_getElem? hx,by rw[h];decide⟩
theorem dK{α:Type}{p:α→Bool}{l:List α}{k:Nat}{x:α}(hx:l[k]?=some x)(h:(l.take k).all p=true)(hp:p x=true):(l.take (k+1)).all p=true:=by
 rw[E7 hx,List.all_append,h]
 simp[hp]
theorem w5{s:A4}{l:List Pk}(h:I7 s l=0):∀(k:Nat) p,l[k]?=some p→1≤p.col∧p.col<s.cols.length∧0≤p.lev∧p.lev≤E5 s p.col:=by
 unfold I7 at h
 by_cases hr:C3 s=0
 ·rw[if_pos hr]at h
  intro k p hp
  have:=O9 h k p hp
  rw[Nat.zero_add]at this
  unfold DL at this
  by_cases hq:BZ s p=0
  ·unfold BZ at hq
   split at hq
   ·cases hq
   ·rename_i h1
    split at hq
    ·cases hq
    ·rename_i h2
     unfold E5 at h1 ⊢
     unfold E5 at h2
     split at h1
     ·omega
     ·rename_i h3
      rw[if_neg h3]at h2 ⊢
      omega
  ·rw[if_neg hq]at this
   exact absurd this hq
 ·rw[if_neg hr]at h
  exact absurd h hr
theorem aS(s:A4)(hr:C3 s=0)(c:B6)(nJ:Z9 s c=0)(picks:List Pk)(values:List Int)(hp:I7 s picks=0)(hl:values.length=picks.length):A3 Tryz.prog 130 [sA s,D5 c,.sl 2 (picks.map A8),.sl 1 (values.map wA)] (.i (Li s c (picks.zip values))):=by
 have xH:=w5 hp
 have hn:=(D3 hr).2.1
 have hh:=Xk s hr c nJ ((List.range s.cols.length).map (y8 s (picks.zip values))) (by simp)
 unfold Li
 have wm:(picks.zip values).length=picks.length:=by rw[List.length_zip];omega
 generalize uC:picks.zip values=pv at *
 have oA:∀(k:Nat) p v,picks[k]?=some p→values[k]?=some v→pv[k]?=some (p,v):=fun k p v h1 h2=>by
  rw[←uC,List.getElem?_zip_eq_some];exact⟨h1,h2⟩
 rw[F8]at *
 refine B5 Tryz.func130 66 fun mK E h0=>?_
 have mL:picks.length≤9223372036854775807:=by have:=(mK (.sl 2 (picks.map A8)) (by simp)).sl;simpa using this
 clear mK
 repeat'((first|refine S2 ?_|(refine T6 ?_ ?_<;>intro h<;>try exact V1 h)|intro el mI mJ|intro el mI|exact T4|refine T5 ?_ ?_|intro ex)<;>try conv=>whnf)
 refine A9 (ι:=Nat) (fun i=>⟨[(2,.sl 2 (picks.map A8)),(3,.sl 1 (values.map wA)),(4,.ref 0 0),(5,.ref 1 0),(9,.row 2 0 s.cols.length),(10,.i i)],3,[(0,some (.box (sL s))),(1,some (.box (M8 c))),(2,some (.row 3 1 0 (U8 (fun j=>if j=0 then 0 else if j<i then (M3 s j 0 0).1 else 0) s.cols.length)))]⟩)
  (fun i=>1≤i∧i≤max 1 s.cols.length) (fun i=>s.cols.length-i) 1 ⟨Nat.le_refl _,by omega⟩
  (A7 h0 rfl ⟨rfl,rfl,rfl,rfl,rfl,rfl,trivial⟩ ⟨rfl,rfl,⟨0,congrArg (C4.row 3 1 0) (by rw[Int.toNat_natCast];refine Eq.trans ?_ (QE _).symm;exact EZ fun j hj=>by split;rfl;rw[if_neg (by omega)])⟩,trivial⟩ rfl rfl rfl) (fun i hI=>?_)
 obtain⟨vV,nO⟩:=hI
 by_cases mM:i<s.cols.length
 ·obtain⟨x,hx⟩:∃x,s.cols[i]?=some x:=⟨_,List.getElem?_eq_getElem mM⟩
  have tP:=JN s hr i 0 0 x (by omega) (by simpa using hx) (Int.le_refl _) (Of hr (by omega) (by omega))
  have mU:(U8 (fun j=>if j=0 then 0 else if j<i then (M3 s j 0 0).1 else 0) s.cols.length)[((((i:Nat):Int).toNat:Nat):Int).toNat]?=some [.i (if i=0 then 0 else if i<i then (M3 s i 0 0).1 else 0)]:=by
   rw[Int.toNat_natCast,Int.toNat_natCast];exact Hd mM
  have nS:(U8 (fun j=>if j=0 then 0 else if j<i then (M3 s j 0 0).1 else 0) s.cols.length).set i [.i (M3 s i 0 0).1]=U8 (fun j=>if j=0 then 0 else if j<i+1 then (M3 s j 0 0).1 else 0) s.cols.length:=by
   rw[Lg]
   refine EZ fun j hj=>?_
   by_cases e:i=j
   ·subst e
    rw[if_pos rfl,if_neg (by omega),if_pos (by omega)]
   ·rw[if_neg e]
    by_cases e0:j=0
    ·rw[if_pos e0,if_pos e0]
    ·rw[if_neg e0,if_neg e0]
     by_cases e1:j<i
     ·rw[if_pos e1,if_pos (by omega)]
     ·rw[if_neg e1,if_neg (by omega)]
  repeat'((first|refine A0 tP ?_ |refine S2 ?_|(refine T6 ?_ ?_<;>intro h<;>try exact V1 h)|intro el mI mJ|intro el mI|exact T4|refine T5 ?_ ?_|intro ex)<;>try conv=>whnf)
  all_goals first
   |(exfalso;omega)
   |exact⟨i+1,by omega,by omega,A7 h0 rfl ⟨rfl,rfl,rfl,rfl,rfl,rfl,trivial⟩ ⟨rfl,rfl,⟨_,congrArg (C4.row 3 1 _) nS.symm⟩,trivial⟩ rfl rfl rfl⟩
 ·have wC:U8 (fun j=>if j=0 then 0 else if j<i then (M3 s j 0 0).1 else 0) s.cols.length=U8 (y8 s []) s.cols.length:=EZ fun j hj=>by
   unfold y8 M4
   by_cases e:j=0
   ·rw[if_pos e,if_pos ⟨e,rfl⟩]
   ·rw[if_neg e,if_pos (show j<i by omega),if_neg (fun hh:j=0∧_=>e hh.1)]
    rfl
  rw[wC]
  repeat'((first|refine S2 ?_|(refine T6 ?_ ?_<;>intro h<;>try exact V1 h)|intro el mI mJ|intro el mI|exact T4|refine T5 ?_ ?_|intro ex)<;>try conv=>whnf)
  all_goals first
   |(exfalso;omega)
   |skip
  refine A9 (ι:=Nat) (fun k=>⟨[(3,.sl 1 (values.map wA)),(4,.ref 0 0),(5,.ref 1 0),(9,.row 2 0 s.cols.length),(34,.sl 2 (picks.map A8)),(35,.i picks.length),(36,.i k)],3,[(0,some (.box (sL s))),(1,some (.box (M8 c))),(2,some (.row 3 1 0 (U8 (y8 s (pv.take k)) s.cols.length)))]⟩)
   (fun k=>k≤picks.length∧s8 s (pv.take k)=true) (fun k=>picks.length-k) 0 ⟨Nat.zero_le _,rfl⟩
   (A6 h0) (fun k hK=>?_)
  obtain⟨oX,hK⟩:=hK
  by_cases mT:k<picks.length
  ·obtain⟨p,oY⟩:∃p,picks[k]?=some p:=⟨_,List.getElem?_eq_getElem mT⟩
   obtain⟨v,sF⟩:∃v,values[k]?=some v:=⟨_,List.getElem?_eq_getElem (by omega)⟩
   have hq:=oA k p v oY sF
   obtain⟨c1,c2,c3,c4⟩:=xH k p oY
   obtain⟨x,hx⟩:∃x,s.cols[p.col.toNat]?=some x:=⟨_,List.getElem?_eq_getElem (by omega)⟩
   have tP:=JN s hr p.col p.lev v x c1 hx c3 c4
   have nk:=fun i=>Xp (s:=s) (l:=pv.take k) (q:=(p,v)) c1 i
   rw[←E7 hq]at nk
   have np:s8 s (pv.take (k+1))=(M3 s p.col p.lev v).2:=by
    unfold s8 at hK ⊢
    rw[E7 hq,List.all_append,hK]
    simp
   dsimp only at nk
   have rF:(M3 s p.col p.lev v).2=false→s8 s pv=false:=fun h=>KI hq h
   generalize M3 s p.col p.lev v=S at *
   obtain⟨w,ok⟩:=S
   dsimp only at *
   cases ok
   ·rw[if_neg (by rw[rF rfl];decide)]
    repeat'((first|refine A0 tP ?_|(refine A2 (x:=p) oY (by omega) ?_)|(refine A2 (x:=v) sF (by omega) ?_)|(refine B0 ?_ ?_;kernel_rfl) |refine S2 ?_|(refine T6 ?_ ?_<;>intro h<;>try exact V1 h)|intro el mI mJ|intro el mI|exact T4|refine T5 ?_ ?_|intro ex)<;>try conv=>whnf)
    all_goals first
     |(exfalso;omega)
     |exact A1 rfl rfl
   ·have mU:(U8 (y8 s (pv.take k)) s.cols.length)[((p.col.toNat:Nat):Int).toNat]?=some [.i (y8 s (pv.take k) p.col.toNat)]:=by
     rw[Int.toNat_natCast];exact Hd (by omega)
    repeat'((first|refine A0 tP ?_|(refine A2 (x:=p) oY (by omega) ?_)|(refine A2 (x:=v) sF (by omega) ?_)|(refine B0 ?_ ?_;kernel_rfl) |refine S2 ?_|(refine T6 ?_ ?_<;>intro h<;>try exact V1 h)|intro el mI mJ|intro el mI|exact T4|refine T5 ?_ ?_|intro ex)<;>try conv=>whnf)
    all_goals first
     |(exfalso;omega)
     |exact⟨k+1,⟨by omega,np⟩,by omega,A7 h0 rfl ⟨rfl,rfl,rfl,rfl,rfl,rfl,rfl,trivial⟩ ⟨rfl,rfl,⟨_,congrArg (C4.row 3 1 _) (by refine Eq.trans ?_ Lg.symm;exact EZ fun j hj=>nk j)⟩,trivial⟩ rfl rfl rfl⟩
  ·have nu:pv.take k=pv:=List.take_of_length_le (by omega)
   rw[nu]at hK ⊢
   rw[if_pos hK]
   have hh2:A3 Tryz.prog 182 [sA s,.agg (M8 c),.sl 1 (U8 (y8 s pv) s.cols.length)] (.i (Cj s c ((List.range s.cols.length).map (y8 s pv)))):=by
    have e:U8 (y8 s pv) s.cols.length=((List.range s.cols.length).map (y8 s pv)).map wA:=by unfold U8;rw[List.map_map];rfl
    rw[e];exact hh
   repeat'((first|refine I4 2 ?_|refine A0 hh2 ?_ |refine S2 ?_|(refine T6 ?_ ?_<;>intro h<;>try exact V1 h)|intro el mI mJ|intro el mI|exact T4|refine T5 ?_ ?_|intro ex)<;>try conv=>whnf)
   all_goals first
    |(exfalso;omega)
    |exact A1 rfl rfl
def Xq(s:A4)(c:B6)(picks:List Pk)(values:List Int):Int :=
 if J6 s c=0∧I7 s picks=0∧values.length=picks.length∧X5 picks (I1 s c)=true then Li s c (picks.zip values)else 0
theorem jn{p q:Pk}(h:p.col=q.col∧p.lev=q.lev):p=q:=by
 cases p;cases q
 dsimp only at h
 rw[Pk.mk.injEq];exact h
theorem Ok(a b:List Pk):A3 Tryz.prog 59 [.sl 2 (a.map A8),.sl 2 (b.map A8)] (.b (decide (a=b))):=by
 refine B5 Tryz.func59 26 fun mK E h0=>?_
 have mL:a.length≤9223372036854775807:=by have:=(mK (.sl 2 (a.map A8)) (by simp)).sl;simpa using this
 have qS:b.length≤9223372036854775807:=by have:=(mK (.sl 2 (b.map A8)) (by simp)).sl;simpa using this
 clear mK
 repeat'((first|refine S2 ?_|(refine T6 ?_ ?_<;>intro h<;>try exact V1 h)|intro el mI mJ|intro el mI|exact T4|refine T5 ?_ ?_|intro ex)<;>try conv=>whnf)
 all_goals first
  |exact A1 rfl (congrArg AV.b (decide_eq_false (fun e=>by subst e;contradiction)).symm)
  |skip
 refine A9 (ι:=Nat) (fun k=>⟨[(0,.sl 2 (a.map A8)),(1,.sl 2 (b.map A8)),(5,.i k)],0,[]⟩) (fun k=>k≤a.length∧a.take k=b.take k) (fun k=>a.length-k) 0 ⟨Nat.zero_le _,rfl⟩
  (A6 h0) (fun k hI=>?_)
 obtain⟨hk,hI⟩:=hI
 by_cases mM:k<a.length
 ·obtain⟨p,hp⟩:∃p,a[k]?=some p:=⟨_,List.getElem?_eq_getElem mM⟩
  obtain⟨q,hq⟩:∃q,b[k]?=some q:=⟨_,List.getElem?_eq_getElem (by omega)⟩
  repeat'((first|(refine A2 (x:=p) hp (by omega) ?_)|(refine A2 (x:=q) hq (by omega) ?_)|(refine B0 ?_ ?_;kernel_rfl) |refine S2 ?_|(refine T6 ?_ ?_<;>intro h<;>try exact V1 h)|intro el mI mJ|intro el mI|exact T4|refine T5 ?_ ?_|intro ex)<;>try conv=>whnf)
  all_goals first
   |(exfalso;omega)
   |exact⟨k+1,⟨by omega,by rw[E7 hp,E7 hq,hI,jn h]⟩,by omega,A6 h0⟩
   |exact A1 rfl (congrArg AV.b (decide_eq_false (fun e=>by subst e;rw[hp]at hq;cases hq;exact h ⟨rfl,rfl⟩)).symm)
 ·repeat'((first|refine S2 ?_|(refine T6 ?_ ?_<;>intro h<;>try exact V1 h)|intro el mI mJ|intro el mI|exact T4|refine T5 ?_ ?_|intro ex)<;>try conv=>whnf)
  all_goals first
   |(exfalso;omega)
   |exact A1 rfl (congrArg AV.b (decide_eq_true (by rw[List.take_of_length_le (by omega),List.take_of_length_le (by omega)]at hI;exact hI)).symm)
theorem jo{l:List UInt8}{a:Nat}{s:A4}{k:Int}{c:D4}(mX:B8 s k=c)(h:c.kind=1):u5 l a s k=(1+((C0 l a 60).1:Int),(C0 l a 60).2):=by unfold u5;dsimp only;rw[mX,if_pos h]
theorem jp{l:List UInt8}{a:Nat}{s:A4}{k:Int}{c:D4}(mX:B8 s k=c)(h1:¬c.kind=1)(h:c.kind=2):u5 l a s k=((((F9 s k).getD (C0 l a (F9 s k).length).1 0:Nat):Int),(C0 l a (F9 s k).length).2):=by unfold u5;dsimp only;rw[mX,if_neg h1,if_pos h]
theorem jq{l:List UInt8}{a:Nat}{s:A4}{k:Int}{c:D4}(mX:B8 s k=c)(h1:¬c.kind=1)(h2:¬c.kind=2)(h:c.opt=true)(h4:((C0 l a 4).1:Int)=3):u5 l a s k=((-1099511627776),(C0 l a 4).2):=by unfold u5;dsimp only;rw[mX,if_neg h1,if_neg h2,if_pos h,if_pos h4]
theorem jr{l:List UInt8}{a:Nat}{s:A4}{k:Int}{c:D4}(mX:B8 s k=c)(h1:¬c.kind=1)(h2:¬c.kind=2)(h:c.opt=true)(h4:¬((C0 l a 4).1:Int)=3):u5 l a s k=(c.low+((C0 l (C0 l a 4).2 (c.high-c.low+1)).1:Int),(C0 l (C0 l a 4).2 (c.high-c.low+1)).2):=by unfold u5;dsimp only;rw[mX,if_neg h1,if_neg h2,if_pos h,if_neg h4]
theorem js{l:List UInt8}{a:Nat}{s:A4}{k:Int}{c:D4}(mX:B8 s k=c)(h1:¬c.kind=1)(h2:¬c.kind=2)(h:c.opt=false):u5 l a s k=(c.low+((C0 l a (c.high-c.low+1)).1:Int),(C0 l a (c.high-c.low+1)).2):=by unfold u5;dsimp only;rw[mX,if_neg h1,if_neg h2,if_neg (by rw[h];exact Bool.false_ne_true)]
theorem Xr(l:List UInt8)(a:Nat)(s:A4)(k:Nat){c:D4}(hd:D9 s)(hc:s.cols[k]?=some c)(hl:l.length≤400):B7 Tryz.prog 143 1 (U4 l a) [.ref 0 0,sA s,.i k] 1 (U4 l (u5 l a s k).2) (.i (u5 l a s k).1):=by
 have mX:B8 s k=c:=C1 (by simpa using hc)
 have mM:=F0 hc
 have qV:=hd.lens
 have hm:¬c.kind=1→¬c.kind=2→c.low≤c.high∧-4≤c.low∧c.high≤46:=by
  rcases hd.col hc with ⟨_,rfl⟩|⟨_,rfl|rfl⟩|⟨_,nm,hm⟩
  ·intro h;exact absurd rfl h
  ·intro _ h;exact absurd rfl h
  ·intro _ h;exact absurd rfl h
  ·have:=hm.low;have:=hm.high;omega
 have oV:c.kind=2→A3 Tryz.prog 138 [sA s,.i k] (.sl 1 ((F9 s k).map iA)):=fun h=>AF s k (by omega) (by simpa using hc) (hd.lvs hc h).1
 have rN:c.kind=2→(F9 s k).length≤10∧(F9 s k)[(C0 l a (F9 s k).length).1]?=some ((F9 s k).getD (C0 l a (F9 s k).length).1 0):=by
  intro h
  obtain⟨_,_,h1,h2⟩:=hd.lvs hc h
  have hn:=I2 l a (n:=(F9 s k).length) (by omega)
  have:(C0 l a (F9 s k).length).1<(F9 s k).length:=by omega
  rw[List.getD_eq_getElem?_getD,List.getElem?_eq_getElem this]
  exact⟨h2,rfl⟩
 have r1:=n6 l a 1 60 hl (by omega) (by omega) (by omega)
 have r2:=fun (h1:¬c.kind=1) (h2:¬c.kind=2) (b:Nat)=>n6 l b c.low c.high hl (hm h1 h2).1 (by have:=hm h1 h2;omega) (by have:=hm h1 h2;omega)
 have r3:=Bs l a 4 hl (by omega)
 have r4:=I5 l a (F9 s k).length hl
 refine Y6 Tryz.func143 44 fun E h0=>?_
 repeat'((first|(refine A2 (x:=c) hc (by omega) ?_)|(refine A2 (rN (by assumption)).2 (by omega) ?_)|refine A0 (oV (by assumption)) ?_|refine⟨F7 [0] [0] r1 rfl rfl rfl rfl rfl ⟨rfl,trivial⟩ rfl rfl rfl rfl rfl ?_⟩|refine⟨F7 [0] [0] (r2 (by assumption) (by assumption) _) rfl rfl rfl rfl rfl ⟨rfl,trivial⟩ rfl rfl rfl rfl rfl ?_⟩|refine⟨F7 [0] [0] r3 rfl rfl rfl rfl rfl ⟨rfl,trivial⟩ rfl rfl rfl rfl rfl ?_⟩|refine⟨F7 [0] [0] r4 rfl rfl rfl rfl rfl ⟨rfl,trivial⟩ rfl rfl rfl rfl rfl ?_⟩ |refine S2 ?_|(refine T6 ?_ ?_<;>intro h<;>try exact V1 h)|intro el mI mJ|intro el mI|exact T4|refine T5 ?_ ?_|intro ex)<;>try conv=>whnf)
 all_goals first
  |(rw[jo mX (by assumption)];exact H4 (A6 h0))
  |(rw[jp mX (by assumption) (by assumption)];exact H4 (A6 h0))
  |(rw[jq mX (by assumption) (by assumption) (by assumption) (by omega)];exact H4 (A6 h0))
  |(rw[jr mX (by assumption) (by assumption) (by assumption) (by omega)];exact H4 (A6 h0))
  |(rw[js mX (by assumption) (by assumption) (by assumption)];exact H4 (A6 h0))
theorem dL(l:List UInt8)(a:Nat)(s:A4)(hd:D9 s)(hl:l.length≤400):B7 Tryz.prog 91 1 (U4 l a) [.ref 0 0,sA s] 2 [(0,some (.box [.sl 1 (l.map O3),.i (k5 l a s).2])),(1,some (.row 3 1 0 ((k5 l a s).1.map wA)))] (.row 1 0 s.cols.length):=by
 have qV:=hd.lens
 refine Y6 Tryz.func91 22 fun E h0=>?_
 repeat'((first|refine S2 ?_|(refine T6 ?_ ?_<;>intro h<;>try exact V1 h)|intro el mI mJ|intro el mI|exact T4|refine T5 ?_ ?_|intro ex)<;>try conv=>whnf)
 refine A9 (ι:=Nat×List Int×Nat) (fun x=>⟨[(0,.ref 0 0),(3,.ref 1 0),(5,.row 2 0 x.1),(9,.i s.cols.length),(10,.i x.1)],3,[(0,some (.box [.sl 1 (l.map O3),.i x.2.2])),(1,some (.box (sL s))),(2,some (.row 3 1 0 (x.2.1.map wA)))]⟩)
  (fun x=>x.1≤s.cols.length∧x.2.1.length=x.1∧k5 l a s=rowFrom l s x.1 x.2 (s.cols.length-x.1)) (fun x=>s.cols.length-x.1) (0,[],a) ⟨by dsimp only;omega,rfl,rfl⟩
  (B9 (H7 (d:=5) (e:=3) (sz:=1) rfl) (A7 h0 rfl ⟨rfl,rfl,rfl,rfl,rfl,trivial⟩ ⟨rfl,rfl,⟨0,rfl⟩,trivial⟩ rfl rfl rfl)) (fun x hI=>?_)
 obtain⟨k,out,b⟩:=x
 obtain⟨hk,mL,hI⟩:=hI
 dsimp only at hk mL hI ⊢
 have hv:=fun (h:(k:Int)<s.cols.length)=>Xr l b s k hd (List.getElem?_eq_getElem (show k<s.cols.length by omega)) hl
 repeat'((first|refine⟨F7 [0] [0] (hv (by assumption)) rfl rfl rfl rfl rfl ⟨rfl,trivial⟩ rfl rfl rfl rfl rfl ?_⟩ |refine S2 ?_|(refine T6 ?_ ?_<;>intro h<;>try exact V1 h)|intro el mI mJ|intro el mI|exact T4|refine T5 ?_ ?_|intro ex)<;>try conv=>whnf)
 all_goals first
  |exact⟨(k+1,out++[(u5 l b s k).1],(u5 l b s k).2),⟨by dsimp only;omega,by dsimp only;rw[List.length_append,List.length_singleton,mL],by rw[hI,show s.cols.length-k=(s.cols.length-(k+1))+1 by omega];rfl⟩,by dsimp only;omega,A7 h0 rfl ⟨rfl,rfl,rfl,rfl,rfl,trivial⟩ ⟨rfl,rfl,⟨_,congrArg (C4.row 3 1 _) (by rw[List.map_append];rfl)⟩,trivial⟩ rfl rfl rfl⟩
  |(have e:k5 l a s=(out,b):=by rw[hI,show s.cols.length-k=0 by omega];rfl
    have ek:k=s.cols.length:=by omega
    rw[e]
    exact H4 (B9 (Aj 1 2 h0 rfl rfl) (A7 h0 rfl ⟨congrArg (fun z:Nat=>some (AV.row 1 0 z)) ek,trivial⟩ ⟨rfl,⟨_,rfl⟩,trivial⟩ rfl rfl rfl)))
end Go.Proofs.YtiphlhoclaogjaaGreatDoor
namespace Go.Av
open Go Go.RowKit
theorem Hh{P:Program}{f m0 m1 m2:Nat}{hp0 hp1 hp2:Hp}{args:List AV}{r r2:AV}(h:B7 P f m0 hp0 args m1 hp1 r)(hm:Nat.ble m0 m1=true)(nT:∀E:Env,E.n0=m0→St.le E 1 ⟨[(0,r)],m1,hp1⟩ ⟨[(0,r2)],m2,hp2⟩):B7 P f m0 hp0 args m2 hp2 r2:=by
 refine⟨h.1,fun X θ w vs hX nL pp hl pd=>?_⟩
 refine Calls.mono (h.2 X θ w vs hX nL pp hl pd) ?_
 rintro e w' ⟨⟨v,θ',rfl,hv,qi,mO,hθ⟩,rS,pO,qb,mY,nj⟩
 have sat:j7 ⟨w,X,owned θ hp0,θ,m0,nL,false⟩ 1 ⟨[(0,r)],m1,hp1⟩ { tmps:=#[v],defers:=[] } w':=by
  refine⟨θ',rfl,.nil,⟨rS,pO,qb,mY,nj⟩,fun s x hs=>?_,qi.owns,qi.apart,fun i b k hi hk=>⟨qi.fresh i b k hi hk,mO i b k hi hk⟩,hX,⟨Nat.ble_eq▸hm,hθ⟩⟩
  rw[E9]at hs
  split at hs
  ·rename_i e0
   subst e0
   cases hs
   exact hv
  ·cases hs
 obtain⟨θ2,hs⟩:=nT _ rfl _ _ sat
 have hr:=hs.slots 0 r2 rfl
 exact⟨⟨v,θ2,rfl,hr,⟨hs.owns,hs.apart,fun i b k hi hk=>(hs.mine i b k hi hk).1⟩,fun i b k hi hk=>(hs.mine i b k hi hk).2,hs.base.2⟩,hs.fr.os,hs.fr.tape,hs.fr.output,hs.fr.size,hs.fr.block⟩
end Go.Av
namespace Go.Proofs.YtiphlhoclaogjaaGreatDoor
open Go Go.Av
attribute [local irreducible] C9 B3 C7 D1 DQ D0 C6 St.le A3 B7
set_option maxRecDepth 100000
theorem aT(l:List UInt8)(a:Nat)(hl:l.length≤400):B7 Tryz.prog 89 1 (U4 l a) [.ref 0 0] 1 (U4 l (Bt l a).2) (sA (Bt l a).1) :=
 Hh (dB l a hl) rfl fun E h0=>A6 h0
theorem aU(l:List UInt8)(a:Nat)(s:A4)(hd:D9 s)(hl:l.length≤400):B7 Tryz.prog 91 1 (U4 l a) [.ref 0 0,sA s] 1 (U4 l (k5 l a s).2) (.sl 1 ((k5 l a s).1.map wA)) :=
 Hh (dL l a s hd hl) rfl fun E h0=>A6 h0
def TO(b:UInt8):Bool:=decide (97≤b.toNat∧b.toNat≤122∨48≤b.toNat∧b.toNat≤57∨b.toNat=95)
theorem Lj{p:UInt8→Bool}:∀{t:List UInt8} {n:Nat},(∀i b,i<n→t[i]?=some b→p b=true)→n≤t.length→(∀b,t[n]?=some b→p b=false)→t.takeWhile p=t.take n∧t.dropWhile p=t.drop n
 |[],n,_,hn,_=>by
  have:n=0:=by simpa using hn
  subst this;exact⟨rfl,rfl⟩
 |a::r,0,_,_,h2=>by
  have:=h2 a rfl
  rw[List.takeWhile_cons,List.dropWhile_cons,this]
  exact⟨rfl,rfl⟩
 |a::r,n+1,h1,hn,h2=>by
  have ha:=h1 0 a (by omega) rfl
  obtain⟨i1,i2⟩:=Lj (p:=p) (t:=r) (n:=n) (fun i b hi hb=>h1 (i+1) b (by omega) (by simpa using hb)) (by simpa using hn) (fun b hb=>h2 b (by simpa using hb))
  rw[List.takeWhile_cons,List.dropWhile_cons,ha,i1,i2]
  exact⟨rfl,rfl⟩
abbrev jt:List UInt8:=[32,117,110,100,101,114,32]
abbrev lH:List UInt8:=[32,102,114,111,109,32]
abbrev mC:List UInt8:=[32,116,111,32]
abbrev lI:List UInt8:=[32,109,105,115,115,105,110,103]
abbrev li:List UInt8:=[32,97,110,100,32]
abbrev mD:List UInt8:=[32,111,114,32]
abbrev lj:List UInt8:=[110,111,116,32]
abbrev lk:List UInt8:=[97,108,108]
structure Rd4 where
 c:B6
 ok:Bool
 t:List UInt8
 left:Int
def Xs(s:A4)(col:Int):List UInt8:=(B8 s col).name
def lJ(s:A4)(col code:Int):List UInt8:=((C2 s (B8 s col)).2.getD code.toNat ⟨[],0⟩).name
mutual
def ll(s:A4):B6→List UInt8
 |.mk o c k l h ks =>
  if o=2 then Xs s c++jt++lJ s c k
  else if o=3 then Xs s c++lH++Lib.itoa l++mC++Lib.itoa h
  else if o=4 then Xs s c++lI
  else if o=5 then [40]++(Ol s ks).getD 0 []++li++(Ol s ks).getD 1 []++[41]
  else if o=6 then [40]++(Ol s ks).getD 0 []++mD++(Ol s ks).getD 1 []++[41]
  else if o=7 then lj++(Ol s ks).getD 0 []
  else lk
def Ol(s:A4):List B6→List (List UInt8)
 |[]=>[]
 |x::r=>ll s x::Ol s r
end
def ju(t:List UInt8)(n:Nat):Prop:=n≤t.length∧∀i b,i<n→t[i]?=some b→TO b=true
theorem ju.all{t:List UInt8}{n:Nat}(h:ju t n)(hn:¬(n:Int)<t.length):t.takeWhile TO=t.take n∧t.dropWhile TO=t.drop n :=
 Lj (fun i c hi hc=>h.2 i c hi hc) h.1 (fun c hc=>by have:=(List.getElem?_eq_some_iff.1 hc).1;omega)
def lK(u:List UInt8):Prop:=∀b r,u=b::r→TO b=false
end Go.Proofs.YtiphlhoclaogjaaGreatDoor
