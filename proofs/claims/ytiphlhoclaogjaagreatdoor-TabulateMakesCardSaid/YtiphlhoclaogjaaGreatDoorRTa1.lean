/- Chapter 5: how the reference reads conditions: a text that is printed is read, and a text that is read is printed. -/
import Derived.Test.YtiphlhoclaogjaaGreatDoorRNm1
import Derived.Test.YtiphlhoclaogjaaGreatDoorRD2
import Derived.Lib.AtoiAllCases
import Derived.Lib.ItoaLen
import Derived.Test.YtiphlhoclaogjaaGreatDoorRAvTy
import Derived.Shelf.LaysM
import Derived.Shelf.Strconv.Itoa3
import Derived.Test.YtiphlhoclaogjaaGreatDoorProg
import Derived.Lib.AppendIntMem
import Derived.Lib.AtoiErrMem
import Derived.Lib.Join
import Derived.Lib.IndexMore
set_option linter.unusedVariables false
set_option linter.unnecessarySimpa false
set_option linter.unusedSimpArgs false
set_option maxHeartbeats 64000000
namespace Go.Proofs.YtiphlhoclaogjaaGreatDoor
open Go Go.Av
attribute [local irreducible] C9 B3 C7 D1 DQ D0 C6 St.le A3 B7
set_option maxRecDepth 100000
def aV(b:UInt8):Bool:=decide (b.toNat≠32∧b.toNat≠40∧b.toNat≠41)
def fG(u:List UInt8):Prop:=∀b r,u=b::r→aV b=false
theorem lL{b:UInt8}(h:TO b=true):aV b=true:=by
 unfold TO at h
 unfold aV
 have:=of_decide_eq_true h
 exact decide_eq_true (by omega)
theorem fG.stops{u:List UInt8}(h:fG u):lK u:=fun b r e=>by
 have h1:=h b r e
 cases hw:TO b
 ·rfl
 ·rw[lL hw]at h1;cases h1
def jv(t:List UInt8)(n:Nat):Prop:=n≤t.length∧∀i b,i<n→t[i]?=some b→aV b=true
theorem jv.all{t:List UInt8}{n:Nat}(h:jv t n)(hn:¬(n:Int)<t.length):t.takeWhile aV=t.take n :=
 (Lj (fun i c hi hc=>h.2 i c hi hc) h.1 (fun c hc=>by have:=(List.getElem?_eq_some_iff.1 hc).1;omega)).1
abbrev D2(r:List Int):List AV:=[.sl 1 (r.map wA)]
def s6(row:List Int):List (List Int)×Bool→List Int→List (List Int)×Bool
 |(out,done),x=>if x.headD 0=row.headD 0 then (out,done)else if row.headD 0<x.headD 0∧done=false then (out++[row]++[x],true)else (out++[x],done)
def At(l:List (List Int))(row:List Int):List (List Int) :=
 let q:=l.foldl (s6 row) ([],false)
 if q.2=true then q.1 else q.1++[row]
theorem dM{l:List (List Int)}{row x:List Int}{k:Nat}(hx:l[k]?=some x):(l.take (k+1)).foldl (s6 row) ([],false)=s6 row ((l.take k).foldl (s6 row) ([],false)) x:=by
 rw[E7 hx,List.foldl_append];rfl
theorem Om(row:List Int):∀(l:List (List Int)) (q:List (List Int)×Bool),(l.foldl (s6 row) q).1.length+(if q.2=true then 1 else 0)≤q.1.length+l.length+(if (l.foldl (s6 row) q).2=true then 1 else 0)
 |[],q=>Nat.le_refl _
 |x::r,(out,done)=>by
  have ih:=Om row r (s6 row (out,done) x)
  rw[List.foldl_cons]
  have h1:(s6 row (out,done) x).1.length+(if done=true then 1 else 0)≤out.length+1+(if (s6 row (out,done) x).2=true then 1 else 0):=by
   simp only[s6]
   split
   ·dsimp only;omega
   ·split
    ·rename_i h;rw[h.2];simp
    ·simp
  rw[List.length_cons]
  dsimp only at ih ⊢
  omega
theorem Lk(l:List (List Int))(row:List Int):(At l row).length≤l.length+1:=by
 have h:=Om row l ([],false)
 unfold At
 dsimp only at h ⊢
 split
 ·rename_i h2;rw[if_pos h2]at h;simp at h;omega
 ·rename_i h2;rw[if_neg h2]at h;simp at h ⊢;omega
theorem TP(l:List (List Int))(row:List Int)(hl:l.length≤1000000)(h1:∀x∈l,x≠[])(h2:row≠[]):A3 Tryz.prog 90 [.sl 1 (l.map D2),.sl 1 (row.map wA)] (.sl 1 ((At l row).map D2)):=by
 obtain⟨r0,nh⟩:∃z,row[0]?=some z:=⟨_,List.getElem?_eq_getElem (List.length_pos_iff.2 h2)⟩
 have zT:row.headD 0=r0:=by cases row with|nil=>cases nh|cons a r=>simp at nh;exact nh
 refine B5 Tryz.func90 56 fun mK E h0=>?_
 clear mK
 repeat'((first|refine S2 ?_|(refine T6 ?_ ?_<;>intro h<;>try exact V1 h)|intro el mI mJ|intro el mI|exact T4|refine T5 ?_ ?_|intro ex)<;>try conv=>whnf)
 have hN:=Om row
 refine A9 (ι:=Nat×List (List Int)×Bool) (fun x=>⟨[(0,.sl 1 (l.map D2)),(1,.sl 1 (row.map wA)),(5,.row 0 0 x.2.1.length),(6,.b x.2.2),(7,.i x.1)],1,[(0,some (.row 37 1 0 (x.2.1.map D2)))]⟩) (fun x=>x.1≤l.length∧(l.take x.1).foldl (s6 row) ([],false)=x.2) (fun x=>l.length-x.1) (0,[],false) ⟨Nat.zero_le _,rfl⟩
  (B9 (H7 (d:=5) (e:=37) (sz:=1) rfl) (A7 h0 rfl ⟨rfl,rfl,rfl,rfl,rfl,trivial⟩ ⟨⟨0,rfl⟩,trivial⟩ rfl rfl rfl)) (fun x hI=>?_)
 obtain⟨k,out,done⟩:=x
 obtain⟨hk,hI⟩:=hI
 dsimp only at hk hI ⊢
 have mL:=hN (l.take k) ([],false)
 rw[hI]at mL
 have qb:out.length≤1000001:=by
  simp only[List.length_take,List.length_nil]at mL
  split at mL<;>split at mL<;>omega
 clear mL hN
 by_cases mM:k<l.length
 ·obtain⟨x,hx⟩:∃x,l[k]?=some x:=⟨_,List.getElem?_eq_getElem mM⟩
  have sx:=h1 x (List.mem_of_getElem? hx)
  obtain⟨x0,oU⟩:∃z,x[0]?=some z:=⟨_,List.getElem?_eq_getElem (List.length_pos_iff.2 sx)⟩
  have hxd:x.headD 0=x0:=by cases x with|nil=>cases oU|cons a r=>simp at oU;exact oU
  have nC:=dM (row:=row) hx
  rw[hI]at nC
  simp only[s6,hxd,zT]at nC
  by_cases e1:x0=r0
  ·rw[if_pos e1]at nC
   repeat'((first|(refine A2 (x:=x) hx (by omega) ?_)|(refine A2 (x:=x0) oU (by omega) ?_)|(refine A2 (x:=r0) nh (by omega) ?_)|(refine B0 ?_ ?_;kernel_rfl) |refine S2 ?_|(refine T6 ?_ ?_<;>intro h<;>try exact V1 h)|intro el mI mJ|intro el mI|exact T4|refine T5 ?_ ?_|intro ex)<;>try conv=>whnf)
   all_goals first
    |exact⟨(k+1,out,done),⟨by dsimp only;omega,nC⟩,by dsimp only;omega,A6 h0⟩
    |(exfalso;omega)
  ·rw[if_neg e1]at nC
   cases hd:done with
   |true =>
    subst hd
    rw[if_neg (by simp)]at nC
    repeat'((first|(refine A2 (x:=x) hx (by omega) ?_)|(refine A2 (x:=x0) oU (by omega) ?_)|(refine A2 (x:=r0) nh (by omega) ?_)|(refine B0 ?_ ?_;kernel_rfl) |refine S2 ?_|(refine T6 ?_ ?_<;>intro h<;>try exact V1 h)|intro el mI mJ|intro el mI|exact T4|refine T5 ?_ ?_|intro ex)<;>try conv=>whnf)
    all_goals first
     |exact⟨(k+1,out++[x],true),⟨by dsimp only;omega,nC⟩,by dsimp only;omega,A7 h0 rfl ⟨rfl,rfl,congrArg (fun z=>some (AV.row 0 0 z)) (by simp[L4]),rfl,rfl,trivial⟩ ⟨⟨_,congrArg (C4.row 37 1 _) (by rw[List.map_append];rfl)⟩,trivial⟩ rfl rfl rfl⟩
     |(exfalso;omega)
   |false =>
    subst hd
    by_cases e2:r0<x0
    ·rw[if_pos ⟨e2,rfl⟩]at nC
     repeat'((first|(refine A2 (x:=x) hx (by omega) ?_)|(refine A2 (x:=x0) oU (by omega) ?_)|(refine A2 (x:=r0) nh (by omega) ?_)|(refine B0 ?_ ?_;kernel_rfl) |refine S2 ?_|(refine T6 ?_ ?_<;>intro h<;>try exact V1 h)|intro el mI mJ|intro el mI|exact T4|refine T5 ?_ ?_|intro ex)<;>try conv=>whnf)
     all_goals first
      |exact⟨(k+1,out++[row]++[x],true),⟨by dsimp only;omega,nC⟩,by dsimp only;omega,A7 h0 rfl ⟨rfl,rfl,congrArg (fun z=>some (AV.row 0 0 z)) (by simp[L4]),rfl,rfl,trivial⟩ ⟨⟨_,congrArg (C4.row 37 1 _) (by rw[List.map_append,List.map_append];rfl)⟩,trivial⟩ rfl rfl rfl⟩
      |(exfalso;omega)
    ·rw[if_neg (fun h=>e2 h.1)]at nC
     repeat'((first|(refine A2 (x:=x) hx (by omega) ?_)|(refine A2 (x:=x0) oU (by omega) ?_)|(refine A2 (x:=r0) nh (by omega) ?_)|(refine B0 ?_ ?_;kernel_rfl) |refine S2 ?_|(refine T6 ?_ ?_<;>intro h<;>try exact V1 h)|intro el mI mJ|intro el mI|exact T4|refine T5 ?_ ?_|intro ex)<;>try conv=>whnf)
     all_goals first
      |exact⟨(k+1,out++[x],false),⟨by dsimp only;omega,nC⟩,by dsimp only;omega,A7 h0 rfl ⟨rfl,rfl,congrArg (fun z=>some (AV.row 0 0 z)) (by simp[L4]),rfl,rfl,trivial⟩ ⟨⟨_,congrArg (C4.row 37 1 _) (by rw[List.map_append];rfl)⟩,trivial⟩ rfl rfl rfl⟩
      |(exfalso;omega)
 ·obtain rfl:k=l.length:=by omega
  rw[List.take_length]at hI
  have hP:At l row=if done=true then out else out++[row]:=by unfold At;rw[hI]
  cases done with
  |true =>
   rw[hP,if_pos rfl]
   repeat'((first|refine S2 ?_|(refine T6 ?_ ?_<;>intro h<;>try exact V1 h)|intro el mI mJ|intro el mI|exact T4|refine T5 ?_ ?_|intro ex)<;>try conv=>whnf)
   all_goals first
    |exact A1 rfl rfl
    |(exfalso;omega)
  |false =>
   rw[hP,if_neg (by simp)]
   repeat'((first|refine S2 ?_|(refine T6 ?_ ?_<;>intro h<;>try exact V1 h)|intro el mI mJ|intro el mI|exact T4|refine T5 ?_ ?_|intro ex)<;>try conv=>whnf)
   all_goals first
    |exact A1 rfl (congrArg (AV.sl 1) (by rw[List.map_append];rfl))
    |(exfalso;omega)
structure J7 where
 prj:List UInt8
 ver:Int
 picks:List Pk
 rows:List (List Int)
abbrev IJ(x:J7):List AV:=[.str x.prj,.i x.ver,.sl 2 (x.picks.map A8),.sl 1 (x.rows.map D2)]
abbrev T8(x:J7):AV:=.agg (IJ x)
def y9(s:A4)(picks:List Pk)(row:List Int):Bool:=decide (row.length=picks.length+1∧0≤row.headD 0∧row.headD 0≤1048575) && s8 s (picks.zip row.tail)
def AM(s:A4)(x:J7)(i:Nat)(r:List Int):Int:=if y9 s x.picks r=false then 9 else if 0<i∧r.headD 0≤(x.rows.getD (i-1) []).headD 0 then 10 else 0
def K9(s:A4)(x:J7):Int :=
 if ¬C3 s=0 then C3 s else if D6 x.prj=false then 3 else if x.ver<0∨300<x.ver then 13 else if ¬I7 s x.picks=0 then I7 s x.picks else if 200<x.rows.length then 1 else F4 (AM s x) 0 x.rows
def N6(s:A4)(column level:Int):List (Pk×Int)→Int×Bool
 |[]=>T9 s column 0 0 level
 |(p,v)::r=>if p.col=column then T9 s column p.lev v level else N6 s column level r
theorem dN{row:List Int}{k:Nat}{v:Int}(h:row[k+1]?=some v):row.tail[k]?=some v:=by cases row with|nil=>simp at h|cons a r=>simpa using h
theorem Ll{picks:List Pk}{row:List Int}{k:Nat}{p:Pk}{v:Int}(h1:picks[k]?=some p)(h2:row[k+1]?=some v):(picks.zip row.tail)[k]?=some (p,v):=by
 rw[List.getElem?_zip_eq_some];exact⟨h1,dN h2⟩
theorem O5{row:List Int}{v:Int}(h:row[0]?=some v):row.headD 0=v:=by cases row with|nil=>simp at h|cons a r=>simpa using h
theorem QI{s:A4}{l:List Pk}(h:I7 s l=0):∀(k:Nat) p,l[k]?=some p→(k:Int)+1≤p.col
 |0,p,hp=>by have:=(w5 h 0 p hp).1;omega
 |k+1,p,hp=>by
  obtain⟨q,hq⟩:∃q,l[k]?=some q:=⟨_,List.getElem?_eq_getElem (by have:=F0 hp;omega)⟩
  have ih:=QI h k q hq
  unfold I7 at h
  by_cases hr:C3 s=0
  ·rw[if_pos hr]at h
   have h2:=O9 h (k+1) p hp
   rw[Nat.zero_add]at h2
   unfold DL at h2
   split at h2
   ·split at h2
    ·cases h2
    ·rename_i h3
     rw[show k+1-1=k by omega,D7 hq]at h3
     have:¬p.col≤q.col:=fun h=>h3 ⟨by omega,h⟩
     omega
   ·contradiction
  ·rw[if_neg hr]at h;exact absurd h hr
theorem f8{s:A4}{l:List Pk}(h:I7 s l=0):l.length≤s.cols.length:=by
 by_cases h0:l.length=0
 ·omega
 ·obtain⟨p,hp⟩:∃p,l[l.length-1]?=some p:=⟨_,List.getElem?_eq_getElem (by omega)⟩
  have h1:=QI h _ p hp
  have h2:=(w5 h _ p hp).2.1
  omega
theorem Uy(s:A4)(hr:C3 s=0)(picks:List Pk)(hp:I7 s picks=0)(row:List Int):A3 Tryz.prog 101 [sA s,.sl 2 (picks.map A8),.sl 1 (row.map wA)] (.b (y9 s picks row)):=by
 have xH:=w5 hp
 have mL:=f8 hp
 have mf:=(D3 hr).2.1
 unfold y9
 by_cases hl:row.length=picks.length+1
 ·obtain⟨r0,nh⟩:∃z,row[0]?=some z:=⟨_,List.getElem?_eq_getElem (by omega)⟩
  rw[O5 nh]
  by_cases h01:0≤r0∧r0≤1048575
  ·rw[decide_eq_true ⟨hl,h01.1,h01.2⟩,Bool.true_and]
   generalize uC:picks.zip row.tail=pv at *
   have wm:pv.length=picks.length:=by rw[←uC,List.length_zip,List.length_tail];omega
   refine B5 Tryz.func101 53 fun mK E h0=>?_
   clear mK
   repeat'((first|(refine A2 (x:=r0) nh (by omega) ?_) |refine S2 ?_|(refine T6 ?_ ?_<;>intro h<;>try exact V1 h)|intro el mI mJ|intro el mI|exact T4|refine T5 ?_ ?_|intro ex)<;>try conv=>whnf)
   all_goals first
    |(exfalso;omega)
    |skip
   refine A9 (ι:=Nat) (fun k=>⟨[(2,.sl 1 (row.map wA)),(3,.ref 0 0),(29,.sl 2 (picks.map A8)),(30,.i picks.length),(31,.i k)],1,[(0,some (.box (sL s)))]⟩)
    (fun k=>k≤picks.length∧s8 s (pv.take k)=true) (fun k=>picks.length-k) 0 ⟨Nat.zero_le _,rfl⟩
    (A6 h0) (fun k hK=>?_)
   obtain⟨oX,hK⟩:=hK
   by_cases mT:k<picks.length
   ·obtain⟨p,oY⟩:∃p,picks[k]?=some p:=⟨_,List.getElem?_eq_getElem mT⟩
    obtain⟨v,sF⟩:∃v,row[k+1]?=some v:=⟨_,List.getElem?_eq_getElem (by omega)⟩
    have wG:row[((k:Int)+1).toNat]?=some v:=by rw[show ((k:Int)+1).toNat=k+1 by omega];exact sF
    have hq:pv[k]?=some (p,v):=by rw[←uC];exact Ll oY sF
    obtain⟨c1,c2,c3,c4⟩:=xH k p oY
    obtain⟨x,hx⟩:∃x,s.cols[p.col.toNat]?=some x:=⟨_,List.getElem?_eq_getElem (by omega)⟩
    have tP:=JN s hr p.col p.lev v x c1 hx c3 c4
    have np:s8 s (pv.take (k+1))=(M3 s p.col p.lev v).2:=by
     unfold s8 at hK ⊢
     rw[E7 hq,List.all_append,hK]
     simp
    have rF:(M3 s p.col p.lev v).2=false→s8 s pv=false:=fun h=>KI hq h
    generalize M3 s p.col p.lev v=S at *
    obtain⟨w,ok⟩:=S
    dsimp only at *
    cases ok
    ·rw[rF rfl]
     repeat'((first|refine A0 tP ?_|(refine A2 (x:=p) oY (by omega) ?_)|(refine A2 (x:=v) wG (by omega) ?_)|(refine B0 ?_ ?_;kernel_rfl) |refine S2 ?_|(refine T6 ?_ ?_<;>intro h<;>try exact V1 h)|intro el mI mJ|intro el mI|exact T4|refine T5 ?_ ?_|intro ex)<;>try conv=>whnf)
     all_goals first
      |(exfalso;omega)
      |exact A1 rfl rfl
    ·repeat'((first|refine A0 tP ?_|(refine A2 (x:=p) oY (by omega) ?_)|(refine A2 (x:=v) wG (by omega) ?_)|(refine B0 ?_ ?_;kernel_rfl) |refine S2 ?_|(refine T6 ?_ ?_<;>intro h<;>try exact V1 h)|intro el mI mJ|intro el mI|exact T4|refine T5 ?_ ?_|intro ex)<;>try conv=>whnf)
     all_goals first
      |(exfalso;omega)
      |exact⟨k+1,⟨by omega,np⟩,by omega,A6 h0⟩
   ·have nu:pv.take k=pv:=List.take_of_length_le (by omega)
    rw[nu]at hK
    rw[hK]
    repeat'((first|refine S2 ?_|(refine T6 ?_ ?_<;>intro h<;>try exact V1 h)|intro el mI mJ|intro el mI|exact T4|refine T5 ?_ ?_|intro ex)<;>try conv=>whnf)
    all_goals first
     |(exfalso;omega)
     |exact A1 rfl rfl
  ·rw[decide_eq_false (fun h=>h01 ⟨h.2.1,h.2.2⟩),Bool.false_and]
   refine B5 Tryz.func101 53 fun mK E h0=>?_
   clear mK
   repeat'((first|(refine A2 (x:=r0) nh (by omega) ?_) |refine S2 ?_|(refine T6 ?_ ?_<;>intro h<;>try exact V1 h)|intro el mI mJ|intro el mI|exact T4|refine T5 ?_ ?_|intro ex)<;>try conv=>whnf)
   all_goals first
    |(exfalso;omega)
    |exact A1 rfl rfl
 ·rw[decide_eq_false (fun h=>hl h.1),Bool.false_and]
  refine B5 Tryz.func101 53 fun mK E h0=>?_
  have qS:row.length≤9223372036854775807:=by have:=(mK (.sl 1 (row.map wA)) (by simp)).sl;simpa using this
  clear mK
  repeat'((first|refine S2 ?_|(refine T6 ?_ ?_<;>intro h<;>try exact V1 h)|intro el mI mJ|intro el mI|exact T4|refine T5 ?_ ?_|intro ex)<;>try conv=>whnf)
  all_goals first
   |(exfalso;omega)
   |exact A1 rfl rfl
theorem O6{s:A4}{picks:List Pk}{r:List Int}(h:y9 s picks r=true):r.length=picks.length+1:=by
 unfold y9 at h
 rw[Bool.and_eq_true,decide_eq_true_eq]at h
 exact h.1.1
theorem TQ{s:A4}{x:J7}{k:Nat}(h:F2 (AM s x) x.rows k){i:Nat}{q:List Int}(hi:i<k)(hq:x.rows[i]?=some q):y9 s x.picks q=true:=by
 have:=h.2.2 i q hi hq
 unfold AM at this
 cases hf:y9 s x.picks q with
 |true=>rfl
 |false=>rw[if_pos hf]at this;cases this
theorem j3(s:A4)(x:J7):A3 Tryz.prog 43 [sA s,T8 x] (.i (K9 s x)):=by
 have h1:=f5 s
 have h2:=CH x.prj
 have h3:=XY s x.picks
 by_cases e1:¬C3 s=0
 ·rw[K9,if_pos e1]
  refine B5 Tryz.func43 70 fun mK E h0=>?_
  clear mK
  repeat'((first|refine A0 h1 ?_ |refine S2 ?_|(refine T6 ?_ ?_<;>intro h<;>try exact V1 h)|intro el mI mJ|intro el mI|exact T4|refine T5 ?_ ?_|intro ex)<;>try conv=>whnf)
  all_goals first
   |(exfalso;omega)
   |exact A1 rfl rfl
 have e1:=Decidable.of_not_not e1
 have h4:=fun r e2=>Uy s e1 x.picks e2 r
 have nC:=fun k=>@F2.step _ (AM s x) x.rows k
 have qT:=fun k=>@F2.hit _ (AM s x) x.rows k
 have qk:=fun k=>@F2.done _ (AM s x) x.rows k
 have qf:=fun k=>@TQ s x k
 have hz:=F2.zero (AM s x) x.rows
 have hex:∀k r,AM s x k r=if y9 s x.picks r=false then 9 else if 0<k∧r.headD 0≤(x.rows.getD (k-1) []).headD 0 then 10 else 0:=fun _ _=>rfl
 have hE:K9 s x=if D6 x.prj=false then 3 else if x.ver<0∨300<x.ver then 13 else if ¬I7 s x.picks=0 then I7 s x.picks else if 200<x.rows.length then 1 else F4 (AM s x) 0 x.rows:=by
  rw[K9,if_neg (fun h=>h e1)]
 rw[hE]
 clear hE
 generalize AM s x=FE at *
 obtain⟨pr,ver,picks,rows⟩:=x
 dsimp only at *
 have hX:T8 ⟨pr,ver,picks,rows⟩=.agg [.str pr,.i ver,.sl 2 (picks.map A8),.sl 1 (rows.map D2)]:=rfl
 rw[hX]
 by_cases e3:D6 pr=false
 ·rw[if_pos e3]
  rw[e3]at h2
  refine B5 Tryz.func43 70 fun mK E h0=>?_
  clear mK
  repeat'((first|refine A0 h1 ?_|refine A0 h2 ?_|refine A0 h3 ?_ |refine S2 ?_|(refine T6 ?_ ?_<;>intro h<;>try exact V1 h)|intro el mI mJ|intro el mI|exact T4|refine T5 ?_ ?_|intro ex)<;>try conv=>whnf)
  all_goals first
   |(exfalso;omega)
   |exact A1 rfl rfl
 rw[if_neg e3]
 have e3:D6 pr=true:=by cases h:D6 pr with|true=>rfl|false=>exact absurd h e3
 rw[e3]at h2
 by_cases e4:ver<0∨300<ver
 ·rw[if_pos e4]
  refine B5 Tryz.func43 70 fun mK E h0=>?_
  clear mK
  repeat'((first|refine A0 h1 ?_|refine A0 h2 ?_|refine A0 h3 ?_ |refine S2 ?_|(refine T6 ?_ ?_<;>intro h<;>try exact V1 h)|intro el mI mJ|intro el mI|exact T4|refine T5 ?_ ?_|intro ex)<;>try conv=>whnf)
  all_goals first
   |(exfalso;omega)
   |exact A1 rfl rfl
 rw[if_neg e4]
 by_cases e2:¬I7 s picks=0
 ·rw[if_pos e2]
  refine B5 Tryz.func43 70 fun mK E h0=>?_
  clear mK
  repeat'((first|refine A0 h1 ?_|refine A0 h2 ?_|refine A0 h3 ?_ |refine S2 ?_|(refine T6 ?_ ?_<;>intro h<;>try exact V1 h)|intro el mI mJ|intro el mI|exact T4|refine T5 ?_ ?_|intro ex)<;>try conv=>whnf)
  all_goals first
   |(exfalso;omega)
   |exact A1 rfl rfl
 rw[if_neg e2]
 have e2:=Decidable.of_not_not e2
 have h4:=fun r=>h4 r e2
 rw[e2]at h3
 refine B5 Tryz.func43 70 fun mK E h0=>?_
 have mL:rows.length≤9223372036854775807:=by
  have:=((mK (.agg [.str pr,.i ver,.sl 2 (picks.map A8),.sl 1 (rows.map D2)]) (by simp)).agg (.sl 1 (rows.map D2)) (by simp)).sl
  simpa using this
 clear mK
 by_cases e5:200<rows.length
 ·rw[if_pos e5]
  repeat'((first|refine A0 h1 ?_|refine A0 h2 ?_|refine A0 h3 ?_ |refine S2 ?_|(refine T6 ?_ ?_<;>intro h<;>try exact V1 h)|intro el mI mJ|intro el mI|exact T4|refine T5 ?_ ?_|intro ex)<;>try conv=>whnf)
  all_goals first
   |(exfalso;omega)
   |exact A1 rfl rfl
 rw[if_neg e5]
 repeat'((first|refine A0 h1 ?_|refine A0 h2 ?_|refine A0 h3 ?_ |refine S2 ?_|(refine T6 ?_ ?_<;>intro h<;>try exact V1 h)|intro el mI mJ|intro el mI|exact T4|refine T5 ?_ ?_|intro ex)<;>try conv=>whnf)
 all_goals first
  |(exfalso;omega)
  |skip
 refine A9 (ι:=Nat) (fun k=>⟨[(2,.ref 0 0),(3,.ref 1 0),(40,.sl 1 (rows.map D2)),(41,.i rows.length),(42,.i k)],2,[(0,some (.box (sL s))),(1,some (.box [.str pr,.i ver,.sl 2 (picks.map A8),.sl 1 (rows.map D2)]))]⟩)
  (fun k=>F2 FE rows k) (fun k=>rows.length-k) 0 hz
  (A6 h0) (fun k hK=>?_)
 by_cases mT:k<rows.length
 ·obtain⟨r,ot⟩:∃r,rows[k]?=some r:=⟨_,List.getElem?_eq_getElem mT⟩
  have hf:=h4 r
  have hx:=hex k r
  cases tB:y9 s picks r with
  |false =>
   rw[tB]at hf hx
   rw[if_pos rfl]at hx
   have oI:=qT k hK ot (by rw[hx];decide)
   rw[hx]at oI
   repeat'((first|refine A0 hf ?_|(refine A2 (x:=r) ot (by omega) ?_) |refine S2 ?_|(refine T6 ?_ ?_<;>intro h<;>try exact V1 h)|intro el mI mJ|intro el mI|exact T4|refine T5 ?_ ?_|intro ex)<;>try conv=>whnf)
   all_goals first
    |(exfalso;omega)
    |exact A1 rfl (congrArg AV.i oI)
  |true =>
   have ql:=O6 tB
   rw[tB]at hf hx
   rw[if_neg (by decide)]at hx
   obtain⟨r0,nh⟩:∃z,r[0]?=some z:=⟨_,List.getElem?_eq_getElem (by omega)⟩
   rw[O5 nh]at hx
   by_cases qr:k=0
   ·subst qr
    rw[if_neg (by omega)]at hx
    have mR:=nC 0 hK ot hx
    repeat'((first|refine A0 hf ?_|(refine A2 (x:=r) ot (by omega) ?_)|(refine A2 (x:=r0) nh (by omega) ?_)|(refine B0 ?_ ?_;kernel_rfl) |refine S2 ?_|(refine T6 ?_ ?_<;>intro h<;>try exact V1 h)|intro el mI mJ|intro el mI|exact T4|refine T5 ?_ ?_|intro ex)<;>try conv=>whnf)
    all_goals first
     |(exfalso;omega)
     |exact⟨0+1,mR,by omega,A6 h0⟩
   ·obtain⟨q,hq⟩:∃q,rows[k-1]?=some q:=⟨_,List.getElem?_eq_getElem (by omega)⟩
    have qo:=O6 (qf k hK (i:=k-1) (by omega) hq)
    obtain⟨q0,rz⟩:∃z,q[0]?=some z:=⟨_,List.getElem?_eq_getElem (by omega)⟩
    rw[D7 hq,O5 rz]at hx
    have nq:rows[((k:Int)-1).toNat]?=some q:=by rw[show ((k:Int)-1).toNat=k-1 by omega];exact hq
    by_cases nT:r0≤q0
    ·rw[if_pos ⟨by omega,nT⟩]at hx
     have oI:=qT k hK ot (by rw[hx];decide)
     rw[hx]at oI
     repeat'((first|refine A0 hf ?_|(refine A2 (x:=q) nq (by omega) ?_)|(refine A2 (x:=q0) rz (by omega) ?_)|(refine A2 (x:=r) ot (by omega) ?_)|(refine A2 (x:=r0) nh (by omega) ?_)|(refine B0 ?_ ?_;kernel_rfl) |refine S2 ?_|(refine T6 ?_ ?_<;>intro h<;>try exact V1 h)|intro el mI mJ|intro el mI|exact T4|refine T5 ?_ ?_|intro ex)<;>try conv=>whnf)
     all_goals first
      |(exfalso;omega)
      |exact A1 rfl (congrArg AV.i oI)
    ·rw[if_neg (fun h=>nT h.2)]at hx
     have mR:=nC k hK ot hx
     repeat'((first|refine A0 hf ?_|(refine A2 (x:=q) nq (by omega) ?_)|(refine A2 (x:=q0) rz (by omega) ?_)|(refine A2 (x:=r) ot (by omega) ?_)|(refine A2 (x:=r0) nh (by omega) ?_)|(refine B0 ?_ ?_;kernel_rfl) |refine S2 ?_|(refine T6 ?_ ?_<;>intro h<;>try exact V1 h)|intro el mI mJ|intro el mI|exact T4|refine T5 ?_ ?_|intro ex)<;>try conv=>whnf)
     all_goals first
      |(exfalso;omega)
      |exact⟨k+1,mR,by omega,A6 h0⟩
 ·have hd:=qk k hK (by omega)
  repeat'((first|refine S2 ?_|(refine T6 ?_ ?_<;>intro h<;>try exact V1 h)|intro el mI mJ|intro el mI|exact T4|refine T5 ?_ ?_|intro ex)<;>try conv=>whnf)
  all_goals first
   |(exfalso;omega)
   |exact A1 rfl (congrArg AV.i hd.symm)
end Go.Proofs.YtiphlhoclaogjaaGreatDoor
