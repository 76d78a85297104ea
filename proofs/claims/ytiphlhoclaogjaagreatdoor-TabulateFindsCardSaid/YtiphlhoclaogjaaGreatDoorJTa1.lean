/- Chapter 3: check values, numbers of words, rows that are put in their place. -/
import Derived.Test.YtiphlhoclaogjaaGreatDoorJAvTy
import Derived.Shelf.LaysM
import Derived.Shelf.Strconv.Itoa3
import Derived.Test.YtiphlhoclaogjaaGreatDoorProg
import Derived.Lib.AppendIntMem
import Derived.Lib.AtoiErrMem
import Derived.Lib.Join
import Derived.Lib.IndexMore
import Derived.Test.YtiphlhoclaogjaaGreatDoorJRp2
set_option linter.unusedVariables false
set_option linter.unnecessarySimpa false
set_option linter.unusedSimpArgs false
set_option maxHeartbeats 64000000
namespace Go.Proofs.YtiphlhoclaogjaaGreatDoor
open Go Go.Av
attribute [local irreducible] C9 B3 C8 D1 DQ D0 C7 St.le A3 B8
set_option maxRecDepth 100000
abbrev D4(r:List Int):List AV:=[.sl 1 (r.map wA)]
def z6(row:List Int):List (List Int)×Bool→List Int→List (List Int)×Bool
 |(out,done),x=>if x.headD 0=row.headD 0 then (out,done)else if row.headD 0<x.headD 0∧done=false then (out++[row]++[x],true)else (out++[x],done)
def Bo(l:List (List Int))(row:List Int):List (List Int) :=
 let q:=l.foldl (z6 row) ([],false)
 if q.2=true then q.1 else q.1++[row]
theorem eN{l:List (List Int)}{row x:List Int}{k:Nat}(hx:l[k]?=some x):(l.take (k+1)).foldl (z6 row) ([],false)=z6 row ((l.take k).foldl (z6 row) ([],false)) x:=by
 rw[F1 hx,List.foldl_append];rfl
theorem Pp(row:List Int):∀(l:List (List Int)) (q:List (List Int)×Bool),(l.foldl (z6 row) q).1.length+(if q.2=true then 1 else 0)≤q.1.length+l.length+(if (l.foldl (z6 row) q).2=true then 1 else 0)
 |[],q=>Nat.le_refl _
 |x::r,(out,done)=>by
  have ih:=Pp row r (z6 row (out,done) x)
  rw[List.foldl_cons]
  have h1:(z6 row (out,done) x).1.length+(if done=true then 1 else 0)≤out.length+1+(if (z6 row (out,done) x).2=true then 1 else 0):=by
   simp only[z6]
   split
   ·dsimp only;omega
   ·split
    ·rename_i h;rw[h.2];simp
    ·simp
  rw[List.length_cons]
  dsimp only at ih ⊢
  omega
theorem Mi(l:List (List Int))(row:List Int):(Bo l row).length≤l.length+1:=by
 have h:=Pp row l ([],false)
 unfold Bo
 dsimp only at h ⊢
 split
 ·rename_i h2;rw[if_pos h2]at h;simp at h;omega
 ·rename_i h2;rw[if_neg h2]at h;simp at h ⊢;omega
theorem UL(l:List (List Int))(row:List Int)(hl:l.length≤1000000)(h1:∀x∈l,x≠[])(h2:row≠[]):A3 Tryz.prog 90 [.sl 1 (l.map D4),.sl 1 (row.map wA)] (.sl 1 ((Bo l row).map D4)):=by
 obtain⟨r0,om⟩:∃z,row[0]?=some z:=⟨_,List.getElem?_eq_getElem (List.length_pos_iff.2 h2)⟩
 have zn:row.headD 0=r0:=by cases row with|nil=>cases om|cons a r=>simp at om;exact om
 refine B5 Tryz.func90 56 fun nL E h0=>?_
 clear nL
 repeat'((first|refine S2 ?_|(refine T6 ?_ ?_<;>intro h<;>try exact V1 h)|intro el nJ nK|intro el nJ|exact T4|refine T5 ?_ ?_|intro ex)<;>try conv=>whnf)
 have hN:=Pp row
 refine B0 (ι:=Nat×List (List Int)×Bool) (fun x=>⟨[(0,.sl 1 (l.map D4)),(1,.sl 1 (row.map wA)),(5,.row 0 0 x.2.1.length),(6,.b x.2.2),(7,.i x.1)],1,[(0,some (.row 37 1 0 (x.2.1.map D4)))]⟩) (fun x=>x.1≤l.length∧(l.take x.1).foldl (z6 row) ([],false)=x.2) (fun x=>l.length-x.1) (0,[],false) ⟨Nat.zero_le _,rfl⟩
  (C0 (I0 (d:=5) (e:=37) (sz:=1) rfl) (A7 h0 rfl ⟨rfl,rfl,rfl,rfl,rfl,trivial⟩ ⟨⟨0,rfl⟩,trivial⟩ rfl rfl rfl)) (fun x hI=>?_)
 obtain⟨k,out,done⟩:=x
 obtain⟨hk,hI⟩:=hI
 dsimp only at hk hI ⊢
 have nM:=hN (l.take k) ([],false)
 rw[hI]at nM
 have rj:out.length≤1000001:=by
  simp only[List.length_take,List.length_nil]at nM
  split at nM<;>split at nM<;>omega
 clear nM hN
 by_cases nN:k<l.length
 ·obtain⟨x,hx⟩:∃x,l[k]?=some x:=⟨_,List.getElem?_eq_getElem nN⟩
  have vf:=h1 x (List.mem_of_getElem? hx)
  obtain⟨x0,pY⟩:∃z,x[0]?=some z:=⟨_,List.getElem?_eq_getElem (List.length_pos_iff.2 vf)⟩
  have hxd:x.headD 0=x0:=by cases x with|nil=>cases pY|cons a r=>simp at pY;exact pY
  have oE:=eN (row:=row) hx
  rw[hI]at oE
  simp only[z6,hxd,zn]at oE
  by_cases e1:x0=r0
  ·rw[if_pos e1]at oE
   repeat'((first|(refine A2 (x:=x) hx (by omega) ?_)|(refine A2 (x:=x0) pY (by omega) ?_)|(refine A2 (x:=r0) om (by omega) ?_)|(refine A9 ?_ ?_;kernel_rfl) |refine S2 ?_|(refine T6 ?_ ?_<;>intro h<;>try exact V1 h)|intro el nJ nK|intro el nJ|exact T4|refine T5 ?_ ?_|intro ex)<;>try conv=>whnf)
   all_goals first
    |exact⟨(k+1,out,done),⟨by dsimp only;omega,oE⟩,by dsimp only;omega,A6 h0⟩
    |(exfalso;omega)
  ·rw[if_neg e1]at oE
   cases hd:done with
   |true =>
    subst hd
    rw[if_neg (by simp)]at oE
    repeat'((first|(refine A2 (x:=x) hx (by omega) ?_)|(refine A2 (x:=x0) pY (by omega) ?_)|(refine A2 (x:=r0) om (by omega) ?_)|(refine A9 ?_ ?_;kernel_rfl) |refine S2 ?_|(refine T6 ?_ ?_<;>intro h<;>try exact V1 h)|intro el nJ nK|intro el nJ|exact T4|refine T5 ?_ ?_|intro ex)<;>try conv=>whnf)
    all_goals first
     |exact⟨(k+1,out++[x],true),⟨by dsimp only;omega,oE⟩,by dsimp only;omega,A7 h0 rfl ⟨rfl,rfl,congrArg (fun z=>some (AV.row 0 0 z)) (by simp[L6]),rfl,rfl,trivial⟩ ⟨⟨_,congrArg (C4.row 37 1 _) (by rw[List.map_append];rfl)⟩,trivial⟩ rfl rfl rfl⟩
     |(exfalso;omega)
   |false =>
    subst hd
    by_cases e2:r0<x0
    ·rw[if_pos ⟨e2,rfl⟩]at oE
     repeat'((first|(refine A2 (x:=x) hx (by omega) ?_)|(refine A2 (x:=x0) pY (by omega) ?_)|(refine A2 (x:=r0) om (by omega) ?_)|(refine A9 ?_ ?_;kernel_rfl) |refine S2 ?_|(refine T6 ?_ ?_<;>intro h<;>try exact V1 h)|intro el nJ nK|intro el nJ|exact T4|refine T5 ?_ ?_|intro ex)<;>try conv=>whnf)
     all_goals first
      |exact⟨(k+1,out++[row]++[x],true),⟨by dsimp only;omega,oE⟩,by dsimp only;omega,A7 h0 rfl ⟨rfl,rfl,congrArg (fun z=>some (AV.row 0 0 z)) (by simp[L6]),rfl,rfl,trivial⟩ ⟨⟨_,congrArg (C4.row 37 1 _) (by rw[List.map_append,List.map_append];rfl)⟩,trivial⟩ rfl rfl rfl⟩
      |(exfalso;omega)
    ·rw[if_neg (fun h=>e2 h.1)]at oE
     repeat'((first|(refine A2 (x:=x) hx (by omega) ?_)|(refine A2 (x:=x0) pY (by omega) ?_)|(refine A2 (x:=r0) om (by omega) ?_)|(refine A9 ?_ ?_;kernel_rfl) |refine S2 ?_|(refine T6 ?_ ?_<;>intro h<;>try exact V1 h)|intro el nJ nK|intro el nJ|exact T4|refine T5 ?_ ?_|intro ex)<;>try conv=>whnf)
     all_goals first
      |exact⟨(k+1,out++[x],false),⟨by dsimp only;omega,oE⟩,by dsimp only;omega,A7 h0 rfl ⟨rfl,rfl,congrArg (fun z=>some (AV.row 0 0 z)) (by simp[L6]),rfl,rfl,trivial⟩ ⟨⟨_,congrArg (C4.row 37 1 _) (by rw[List.map_append];rfl)⟩,trivial⟩ rfl rfl rfl⟩
      |(exfalso;omega)
 ·obtain rfl:k=l.length:=by omega
  rw[List.take_length]at hI
  have hP:Bo l row=if done=true then out else out++[row]:=by unfold Bo;rw[hI]
  cases done with
  |true =>
   rw[hP,if_pos rfl]
   repeat'((first|refine S2 ?_|(refine T6 ?_ ?_<;>intro h<;>try exact V1 h)|intro el nJ nK|intro el nJ|exact T4|refine T5 ?_ ?_|intro ex)<;>try conv=>whnf)
   all_goals first
    |exact A1 rfl rfl
    |(exfalso;omega)
  |false =>
   rw[hP,if_neg (by simp)]
   repeat'((first|refine S2 ?_|(refine T6 ?_ ?_<;>intro h<;>try exact V1 h)|intro el nJ nK|intro el nJ|exact T4|refine T5 ?_ ?_|intro ex)<;>try conv=>whnf)
   all_goals first
    |exact A1 rfl (congrArg (AV.sl 1) (by rw[List.map_append];rfl))
    |(exfalso;omega)
structure J9 where
 prj:List UInt8
 ver:Int
 picks:List Pk
 rows:List (List Int)
abbrev RF(x:J9):List AV:=[.str x.prj,.i x.ver,.sl 2 (x.picks.map A8),.sl 1 (x.rows.map D4)]
abbrev X9(x:J9):AV:=.agg (RF x)
def Al(s:A4)(picks:List Pk)(row:List Int):Bool:=decide (row.length=picks.length+1∧0≤row.headD 0∧row.headD 0≤1048575) && AA s (picks.zip row.tail)
def BH(s:A4)(x:J9)(i:Nat)(r:List Int):Int:=if Al s x.picks r=false then 9 else if 0<i∧r.headD 0≤(x.rows.getD (i-1) []).headD 0 then 10 else 0
def L2(s:A4)(x:J9):Int :=
 if ¬C3 s=0 then C3 s else if D6 x.prj=false then 3 else if x.ver<0∨300<x.ver then 13 else if ¬I7 s x.picks=0 then I7 s x.picks else if 200<x.rows.length then 1 else F3 (BH s x) 0 x.rows
def N8(s:A4)(column level:Int):List (Pk×Int)→Int×Bool
 |[]=>U2 s column 0 0 level
 |(p,v)::r=>if p.col=column then U2 s column p.lev v level else N8 s column level r
theorem eO{row:List Int}{k:Nat}{v:Int}(h:row[k+1]?=some v):row.tail[k]?=some v:=by cases row with|nil=>simp at h|cons a r=>simpa using h
theorem Mj{picks:List Pk}{row:List Int}{k:Nat}{p:Pk}{v:Int}(h1:picks[k]?=some p)(h2:row[k+1]?=some v):(picks.zip row.tail)[k]?=some (p,v):=by
 rw[List.getElem?_zip_eq_some];exact⟨h1,eO h2⟩
theorem O6{row:List Int}{v:Int}(h:row[0]?=some v):row.headD 0=v:=by cases row with|nil=>simp at h|cons a r=>simpa using h
theorem RG{s:A4}{l:List Pk}(h:I7 s l=0):∀(k:Nat) p,l[k]?=some p→(k:Int)+1≤p.col
 |0,p,hp=>by have:=(Aa h 0 p hp).1;omega
 |k+1,p,hp=>by
  obtain⟨q,hq⟩:∃q,l[k]?=some q:=⟨_,List.getElem?_eq_getElem (by have:=E9 hp;omega)⟩
  have ih:=RG h k q hq
  unfold I7 at h
  by_cases hr:C3 s=0
  ·rw[if_pos hr]at h
   have h2:=P2 h (k+1) p hp
   rw[Nat.zero_add]at h2
   unfold ED at h2
   split at h2
   ·split at h2
    ·cases h2
    ·rename_i h3
     rw[show k+1-1=k by omega,D7 hq]at h3
     have:¬p.col≤q.col:=fun h=>h3 ⟨by omega,h⟩
     omega
   ·contradiction
  ·rw[if_neg hr]at h;exact absurd h hr
theorem k9{s:A4}{l:List Pk}(h:I7 s l=0):l.length≤s.cols.length:=by
 by_cases h0:l.length=0
 ·omega
 ·obtain⟨p,hp⟩:∃p,l[l.length-1]?=some p:=⟨_,List.getElem?_eq_getElem (by omega)⟩
  have h1:=RG h _ p hp
  have h2:=(Aa h _ p hp).2.1
  omega
theorem Vu(s:A4)(hr:C3 s=0)(picks:List Pk)(hp:I7 s picks=0)(row:List Int):A3 Tryz.prog 101 [sA s,.sl 2 (picks.map A8),.sl 1 (row.map wA)] (.b (Al s picks row)):=by
 have ww:=Aa hp
 have nM:=k9 hp
 have ni:=(D2 hr).2.1
 unfold Al
 by_cases hl:row.length=picks.length+1
 ·obtain⟨r0,om⟩:∃z,row[0]?=some z:=⟨_,List.getElem?_eq_getElem (by omega)⟩
  rw[O6 om]
  by_cases h01:0≤r0∧r0≤1048575
  ·rw[decide_eq_true ⟨hl,h01.1,h01.2⟩,Bool.true_and]
   generalize tE:picks.zip row.tail=pv at *
   have wh:pv.length=picks.length:=by rw[←tE,List.length_zip,List.length_tail];omega
   refine B5 Tryz.func101 53 fun nL E h0=>?_
   clear nL
   repeat'((first|(refine A2 (x:=r0) om (by omega) ?_) |refine S2 ?_|(refine T6 ?_ ?_<;>intro h<;>try exact V1 h)|intro el nJ nK|intro el nJ|exact T4|refine T5 ?_ ?_|intro ex)<;>try conv=>whnf)
   all_goals first
    |(exfalso;omega)
    |skip
   refine B0 (ι:=Nat) (fun k=>⟨[(2,.sl 1 (row.map wA)),(3,.ref 0 0),(29,.sl 2 (picks.map A8)),(30,.i picks.length),(31,.i k)],1,[(0,some (.box (sL s)))]⟩)
    (fun k=>k≤picks.length∧AA s (pv.take k)=true) (fun k=>picks.length-k) 0 ⟨Nat.zero_le _,rfl⟩
    (A6 h0) (fun k hK=>?_)
   obtain⟨pd,hK⟩:=hK
   by_cases nU:k<picks.length
   ·obtain⟨p,qE⟩:∃p,picks[k]?=some p:=⟨_,List.getElem?_eq_getElem nU⟩
    obtain⟨v,tI⟩:∃v,row[k+1]?=some v:=⟨_,List.getElem?_eq_getElem (by omega)⟩
    have wo:row[((k:Int)+1).toNat]?=some v:=by rw[show ((k:Int)+1).toNat=k+1 by omega];exact tI
    have hq:pv[k]?=some (p,v):=by rw[←tE];exact Mj qE tI
    obtain⟨c1,c2,c3,c4⟩:=ww k p qE
    obtain⟨x,hx⟩:∃x,s.cols[p.col.toNat]?=some x:=⟨_,List.getElem?_eq_getElem (by omega)⟩
    have uj:=KE s hr p.col p.lev v x c1 hx c3 c4
    have ol:AA s (pv.take (k+1))=(M4 s p.col p.lev v).2:=by
     unfold AA at hK ⊢
     rw[F1 hq,List.all_append,hK]
     simp
    have rE:(M4 s p.col p.lev v).2=false→AA s pv=false:=fun h=>LD hq h
    generalize M4 s p.col p.lev v=S at *
    obtain⟨w,ok⟩:=S
    dsimp only at *
    cases ok
    ·rw[rE rfl]
     repeat'((first|refine A0 uj ?_|(refine A2 (x:=p) qE (by omega) ?_)|(refine A2 (x:=v) wo (by omega) ?_)|(refine A9 ?_ ?_;kernel_rfl) |refine S2 ?_|(refine T6 ?_ ?_<;>intro h<;>try exact V1 h)|intro el nJ nK|intro el nJ|exact T4|refine T5 ?_ ?_|intro ex)<;>try conv=>whnf)
     all_goals first
      |(exfalso;omega)
      |exact A1 rfl rfl
    ·repeat'((first|refine A0 uj ?_|(refine A2 (x:=p) qE (by omega) ?_)|(refine A2 (x:=v) wo (by omega) ?_)|(refine A9 ?_ ?_;kernel_rfl) |refine S2 ?_|(refine T6 ?_ ?_<;>intro h<;>try exact V1 h)|intro el nJ nK|intro el nJ|exact T4|refine T5 ?_ ?_|intro ex)<;>try conv=>whnf)
     all_goals first
      |(exfalso;omega)
      |exact⟨k+1,⟨by omega,ol⟩,by omega,A6 h0⟩
   ·have pB:pv.take k=pv:=List.take_of_length_le (by omega)
    rw[pB]at hK
    rw[hK]
    repeat'((first|refine S2 ?_|(refine T6 ?_ ?_<;>intro h<;>try exact V1 h)|intro el nJ nK|intro el nJ|exact T4|refine T5 ?_ ?_|intro ex)<;>try conv=>whnf)
    all_goals first
     |(exfalso;omega)
     |exact A1 rfl rfl
  ·rw[decide_eq_false (fun h=>h01 ⟨h.2.1,h.2.2⟩),Bool.false_and]
   refine B5 Tryz.func101 53 fun nL E h0=>?_
   clear nL
   repeat'((first|(refine A2 (x:=r0) om (by omega) ?_) |refine S2 ?_|(refine T6 ?_ ?_<;>intro h<;>try exact V1 h)|intro el nJ nK|intro el nJ|exact T4|refine T5 ?_ ?_|intro ex)<;>try conv=>whnf)
   all_goals first
    |(exfalso;omega)
    |exact A1 rfl rfl
 ·rw[decide_eq_false (fun h=>hl h.1),Bool.false_and]
  refine B5 Tryz.func101 53 fun nL E h0=>?_
  have rp:row.length≤9223372036854775807:=by have:=(nL (.sl 1 (row.map wA)) (by simp)).sl;simpa using this
  clear nL
  repeat'((first|refine S2 ?_|(refine T6 ?_ ?_<;>intro h<;>try exact V1 h)|intro el nJ nK|intro el nJ|exact T4|refine T5 ?_ ?_|intro ex)<;>try conv=>whnf)
  all_goals first
   |(exfalso;omega)
   |exact A1 rfl rfl
theorem O7{s:A4}{picks:List Pk}{r:List Int}(h:Al s picks r=true):r.length=picks.length+1:=by
 unfold Al at h
 rw[Bool.and_eq_true,decide_eq_true_eq]at h
 exact h.1.1
theorem UM{s:A4}{x:J9}{k:Nat}(h:F2 (BH s x) x.rows k){i:Nat}{q:List Int}(hi:i<k)(hq:x.rows[i]?=some q):Al s x.picks q=true:=by
 have:=h.2.2 i q hi hq
 unfold BH at this
 cases hf:Al s x.picks q with
 |true=>rfl
 |false=>rw[if_pos hf]at this;cases this
theorem n6(s:A4)(x:J9):A3 Tryz.prog 43 [sA s,X9 x] (.i (L2 s x)):=by
 have h1:=k6 s
 have h2:=DC x.prj
 have h3:=YR s x.picks
 by_cases e1:¬C3 s=0
 ·rw[L2,if_pos e1]
  refine B5 Tryz.func43 70 fun nL E h0=>?_
  clear nL
  repeat'((first|refine A0 h1 ?_ |refine S2 ?_|(refine T6 ?_ ?_<;>intro h<;>try exact V1 h)|intro el nJ nK|intro el nJ|exact T4|refine T5 ?_ ?_|intro ex)<;>try conv=>whnf)
  all_goals first
   |(exfalso;omega)
   |exact A1 rfl rfl
 have e1:=Decidable.of_not_not e1
 have h4:=fun r e2=>Vu s e1 x.picks e2 r
 have oE:=fun k=>@F2.step _ (BH s x) x.rows k
 have ri:=fun k=>@F2.hit _ (BH s x) x.rows k
 have rT:=fun k=>@F2.done _ (BH s x) x.rows k
 have rl:=fun k=>@UM s x k
 have hz:=F2.zero (BH s x) x.rows
 have hex:∀k r,BH s x k r=if Al s x.picks r=false then 9 else if 0<k∧r.headD 0≤(x.rows.getD (k-1) []).headD 0 then 10 else 0:=fun _ _=>rfl
 have hE:L2 s x=if D6 x.prj=false then 3 else if x.ver<0∨300<x.ver then 13 else if ¬I7 s x.picks=0 then I7 s x.picks else if 200<x.rows.length then 1 else F3 (BH s x) 0 x.rows:=by
  rw[L2,if_neg (fun h=>h e1)]
 rw[hE]
 clear hE
 generalize BH s x=FE at *
 obtain⟨pr,ver,picks,rows⟩:=x
 dsimp only at *
 have hX:X9 ⟨pr,ver,picks,rows⟩=.agg [.str pr,.i ver,.sl 2 (picks.map A8),.sl 1 (rows.map D4)]:=rfl
 rw[hX]
 by_cases e3:D6 pr=false
 ·rw[if_pos e3]
  rw[e3]at h2
  refine B5 Tryz.func43 70 fun nL E h0=>?_
  clear nL
  repeat'((first|refine A0 h1 ?_|refine A0 h2 ?_|refine A0 h3 ?_ |refine S2 ?_|(refine T6 ?_ ?_<;>intro h<;>try exact V1 h)|intro el nJ nK|intro el nJ|exact T4|refine T5 ?_ ?_|intro ex)<;>try conv=>whnf)
  all_goals first
   |(exfalso;omega)
   |exact A1 rfl rfl
 rw[if_neg e3]
 have e3:D6 pr=true:=by cases h:D6 pr with|true=>rfl|false=>exact absurd h e3
 rw[e3]at h2
 by_cases e4:ver<0∨300<ver
 ·rw[if_pos e4]
  refine B5 Tryz.func43 70 fun nL E h0=>?_
  clear nL
  repeat'((first|refine A0 h1 ?_|refine A0 h2 ?_|refine A0 h3 ?_ |refine S2 ?_|(refine T6 ?_ ?_<;>intro h<;>try exact V1 h)|intro el nJ nK|intro el nJ|exact T4|refine T5 ?_ ?_|intro ex)<;>try conv=>whnf)
  all_goals first
   |(exfalso;omega)
   |exact A1 rfl rfl
 rw[if_neg e4]
 by_cases e2:¬I7 s picks=0
 ·rw[if_pos e2]
  refine B5 Tryz.func43 70 fun nL E h0=>?_
  clear nL
  repeat'((first|refine A0 h1 ?_|refine A0 h2 ?_|refine A0 h3 ?_ |refine S2 ?_|(refine T6 ?_ ?_<;>intro h<;>try exact V1 h)|intro el nJ nK|intro el nJ|exact T4|refine T5 ?_ ?_|intro ex)<;>try conv=>whnf)
  all_goals first
   |(exfalso;omega)
   |exact A1 rfl rfl
 rw[if_neg e2]
 have e2:=Decidable.of_not_not e2
 have h4:=fun r=>h4 r e2
 rw[e2]at h3
 refine B5 Tryz.func43 70 fun nL E h0=>?_
 have nM:rows.length≤9223372036854775807:=by
  have:=((nL (.agg [.str pr,.i ver,.sl 2 (picks.map A8),.sl 1 (rows.map D4)]) (by simp)).agg (.sl 1 (rows.map D4)) (by simp)).sl
  simpa using this
 clear nL
 by_cases e5:200<rows.length
 ·rw[if_pos e5]
  repeat'((first|refine A0 h1 ?_|refine A0 h2 ?_|refine A0 h3 ?_ |refine S2 ?_|(refine T6 ?_ ?_<;>intro h<;>try exact V1 h)|intro el nJ nK|intro el nJ|exact T4|refine T5 ?_ ?_|intro ex)<;>try conv=>whnf)
  all_goals first
   |(exfalso;omega)
   |exact A1 rfl rfl
 rw[if_neg e5]
 repeat'((first|refine A0 h1 ?_|refine A0 h2 ?_|refine A0 h3 ?_ |refine S2 ?_|(refine T6 ?_ ?_<;>intro h<;>try exact V1 h)|intro el nJ nK|intro el nJ|exact T4|refine T5 ?_ ?_|intro ex)<;>try conv=>whnf)
 all_goals first
  |(exfalso;omega)
  |skip
 refine B0 (ι:=Nat) (fun k=>⟨[(2,.ref 0 0),(3,.ref 1 0),(40,.sl 1 (rows.map D4)),(41,.i rows.length),(42,.i k)],2,[(0,some (.box (sL s))),(1,some (.box [.str pr,.i ver,.sl 2 (picks.map A8),.sl 1 (rows.map D4)]))]⟩)
  (fun k=>F2 FE rows k) (fun k=>rows.length-k) 0 hz
  (A6 h0) (fun k hK=>?_)
 by_cases nU:k<rows.length
 ·obtain⟨r,pq⟩:∃r,rows[k]?=some r:=⟨_,List.getElem?_eq_getElem nU⟩
  have hf:=h4 r
  have hx:=hex k r
  cases vY:Al s picks r with
  |false =>
   rw[vY]at hf hx
   rw[if_pos rfl]at hx
   have pM:=ri k hK pq (by rw[hx];decide)
   rw[hx]at pM
   repeat'((first|refine A0 hf ?_|(refine A2 (x:=r) pq (by omega) ?_) |refine S2 ?_|(refine T6 ?_ ?_<;>intro h<;>try exact V1 h)|intro el nJ nK|intro el nJ|exact T4|refine T5 ?_ ?_|intro ex)<;>try conv=>whnf)
   all_goals first
    |(exfalso;omega)
    |exact A1 rfl (congrArg AV.i pM)
  |true =>
   have sC:=O7 vY
   rw[vY]at hf hx
   rw[if_neg (by decide)]at hx
   obtain⟨r0,om⟩:∃z,r[0]?=some z:=⟨_,List.getElem?_eq_getElem (by omega)⟩
   rw[O6 om]at hx
   by_cases rz:k=0
   ·subst rz
    rw[if_neg (by omega)]at hx
    have nS:=oE 0 hK pq hx
    repeat'((first|refine A0 hf ?_|(refine A2 (x:=r) pq (by omega) ?_)|(refine A2 (x:=r0) om (by omega) ?_)|(refine A9 ?_ ?_;kernel_rfl) |refine S2 ?_|(refine T6 ?_ ?_<;>intro h<;>try exact V1 h)|intro el nJ nK|intro el nJ|exact T4|refine T5 ?_ ?_|intro ex)<;>try conv=>whnf)
    all_goals first
     |(exfalso;omega)
     |exact⟨0+1,nS,by omega,A6 h0⟩
   ·obtain⟨q,hq⟩:∃q,rows[k-1]?=some q:=⟨_,List.getElem?_eq_getElem (by omega)⟩
    have ru:=O7 (rl k hK (i:=k-1) (by omega) hq)
    obtain⟨q0,tK⟩:∃z,q[0]?=some z:=⟨_,List.getElem?_eq_getElem (by omega)⟩
    rw[D7 hq,O6 tK]at hx
    have oy:rows[((k:Int)-1).toNat]?=some q:=by rw[show ((k:Int)-1).toNat=k-1 by omega];exact hq
    by_cases oW:r0≤q0
    ·rw[if_pos ⟨by omega,oW⟩]at hx
     have pM:=ri k hK pq (by rw[hx];decide)
     rw[hx]at pM
     repeat'((first|refine A0 hf ?_|(refine A2 (x:=q) oy (by omega) ?_)|(refine A2 (x:=q0) tK (by omega) ?_)|(refine A2 (x:=r) pq (by omega) ?_)|(refine A2 (x:=r0) om (by omega) ?_)|(refine A9 ?_ ?_;kernel_rfl) |refine S2 ?_|(refine T6 ?_ ?_<;>intro h<;>try exact V1 h)|intro el nJ nK|intro el nJ|exact T4|refine T5 ?_ ?_|intro ex)<;>try conv=>whnf)
     all_goals first
      |(exfalso;omega)
      |exact A1 rfl (congrArg AV.i pM)
    ·rw[if_neg (fun h=>oW h.2)]at hx
     have nS:=oE k hK pq hx
     repeat'((first|refine A0 hf ?_|(refine A2 (x:=q) oy (by omega) ?_)|(refine A2 (x:=q0) tK (by omega) ?_)|(refine A2 (x:=r) pq (by omega) ?_)|(refine A2 (x:=r0) om (by omega) ?_)|(refine A9 ?_ ?_;kernel_rfl) |refine S2 ?_|(refine T6 ?_ ?_<;>intro h<;>try exact V1 h)|intro el nJ nK|intro el nJ|exact T4|refine T5 ?_ ?_|intro ex)<;>try conv=>whnf)
     all_goals first
      |(exfalso;omega)
      |exact⟨k+1,nS,by omega,A6 h0⟩
 ·have hd:=rT k hK (by omega)
  repeat'((first|refine S2 ?_|(refine T6 ?_ ?_<;>intro h<;>try exact V1 h)|intro el nJ nK|intro el nJ|exact T4|refine T5 ?_ ?_|intro ex)<;>try conv=>whnf)
  all_goals first
   |(exfalso;omega)
   |exact A1 rfl (congrArg AV.i hd.symm)
end Go.Proofs.YtiphlhoclaogjaaGreatDoor
