/- Chapters 04 and 13: valid sources and owners, the reference. -/
import Derived.Test.YtiphlhoclaogjaaGreatDoorQTx2
import Derived.Test.YtiphlhoclaogjaaGreatDoorQTa5
import Derived.Test.YtiphlhoclaogjaaGreatDoorQB5
set_option linter.unusedVariables false
set_option linter.unnecessarySimpa false
set_option linter.unusedSimpArgs false
set_option maxHeartbeats 64000000
namespace Go.Proofs.YtiphlhoclaogjaaGreatDoor
open Go Go.Av
attribute [local irreducible] C7 B1 D1 C8 DQ D0 C6 St.le A3 B8
set_option maxRecDepth 100000
def Js(s:A4)(rows:List (List Int))(k:Nat)(r:List Int):Int:=if ¬s8 s r=0 then 1 else if 0<k∧r.headD 0≤(rows.getD (k-1) []).headD 0 then 1 else 0
def EF(s:A4)(rows:List (List Int)):Bool:=decide (C5 s=0∧rows.length≤200∧E4 (Js s rows) 0 rows=0)
theorem jk{s:A4}{rows:List (List Int)}{k:Nat}(h:E8 (Js s rows) rows k){i:Nat}{q:List Int}(hi:i<k)(hq:rows[i]?=some q):s8 s q=0:=by
 have:=h.2.2 i q hi hq
 unfold Js at this
 by_cases hr:s8 s q=0
 ·exact hr
 ·rw[if_pos hr]at this;cases this
theorem Kb{s:A4}{r:List Int}(h:s8 s r=0):∃z,r[0]?=some z:=by
 obtain⟨h1,h2⟩:=Hb h
 have h3:=(E9 h1).2.2.2.2
 cases hc:s.cols with
 |nil=>rw[hc]at h3;simp at h3
 |cons a t =>
  rw[hc]at h2
  exact⟨_,List.getElem?_eq_getElem (by simp at h2;omega)⟩
theorem LV(s:A4)(rows:List (List Int)):A3 Tryz.prog 92 [.agg (R5 s rows)] (.b (EF s rows)):=by
 have h1:=S7 s
 unfold EF
 by_cases e1:¬(C5 s=0∧rows.length≤200)
 ·rw[decide_eq_false (fun h=>e1 ⟨h.1,h.2.1⟩)]
  generalize C5 s=e at *
  refine C1 Tryz.func92 118 fun nd E h0=>?_
  have nZ:rows.length≤9223372036854775807:=by
   have:=((nd (.agg (R5 s rows)) (by simp)).agg (.sl 1 (rows.map G3)) (by simp[R5])).sl
   simpa using this
  clear nd
  repeat'((first|refine A1 h1 ?_ |refine S2 ?_|(refine T6 ?_ ?_<;>intro h<;>try exact V1 h)|intro el nX nY|intro el nX|exact T4|refine T5 ?_ ?_|intro ex)<;>try conv=>whnf)
  all_goals first
   |(exfalso;omega)
   |exact A0 rfl rfl
 obtain⟨e1,e2⟩:=Decidable.of_not_not e1
 rw[e1]at h1
 have oP:=fun k=>@E8.step _ (Js s rows) rows k
 have rX:=fun k=>@E8.hit _ (Js s rows) rows k
 have rg:=fun k=>@E8.done _ (Js s rows) rows k
 have rW:=fun k=>@jk s rows k
 have hz:=E8.zero (Js s rows) rows
 have hex:∀k r,Js s rows k r=if ¬s8 s r=0 then 1 else if 0<k∧r.headD 0≤(rows.getD (k-1) []).headD 0 then 1 else 0:=fun _ _=>rfl
 have h2:=fun r=>QX s r
 generalize Js s rows=FE at *
 have ns:E4 FE 0 rows=1→decide (C5 s=0∧rows.length≤200∧E4 FE 0 rows=0)=false:=fun h=>decide_eq_false (fun hh=>by rw[h]at hh;exact absurd hh.2.2 (by decide))
 have px:E4 FE 0 rows=0→decide (C5 s=0∧rows.length≤200∧E4 FE 0 rows=0)=true:=fun h=>decide_eq_true ⟨e1,e2,h⟩
 generalize decide (C5 s=0∧rows.length≤200∧E4 FE 0 rows=0)=D at *
 refine C1 Tryz.func92 118 fun nd E h0=>?_
 clear nd
 repeat'((first|refine A1 h1 ?_ |refine S2 ?_|(refine T6 ?_ ?_<;>intro h<;>try exact V1 h)|intro el nX nY|intro el nX|exact T4|refine T5 ?_ ?_|intro ex)<;>try conv=>whnf)
 all_goals first
  |(exfalso;omega)
  |skip
 refine B2 (ι:=Nat) (fun k=>⟨[(1,.ref 0 0),(3,.i k)],1,[(0,some (.box (R5 s rows)))]⟩)
  (fun k=>E8 FE rows k) (fun k=>rows.length-k) 0 hz (A6 h0) (fun k hK=>?_)
 by_cases no:k<rows.length
 ·obtain⟨r,hr⟩:∃r,rows[k]?=some r:=⟨_,List.getElem?_eq_getElem no⟩
  have oq:rows[((k:Nat):Int).toNat]?=some r:=hr
  have hx:=hex k r
  have hf:=h2 r
  by_cases rL:¬s8 s r=0
  ·rw[if_pos rL]at hx
   have hh:=rX k hK hr (by rw[hx];decide)
   rw[hx]at hh
   have hD:=ns hh.symm
   generalize s8 s r=e at *
   repeat'((first|(refine A2 (x:=r) oq (by omega) ?_)|refine A1 hf ?_|(refine B5 ?_ ?_;kernel_rfl) |refine S2 ?_|(refine T6 ?_ ?_<;>intro h<;>try exact V1 h)|intro el nX nY|intro el nX|exact T4|refine T5 ?_ ?_|intro ex)<;>try conv=>whnf)
   all_goals first
    |(exfalso;omega)
    |exact A0 rfl (congrArg AV.b hD.symm)
  have rL:=Decidable.of_not_not rL
  obtain⟨r0,pC⟩:=Kb rL
  rw[rL,if_neg (by decide),Q7 pC]at hx
  rw[rL]at hf
  by_cases rE:k=0
  ·subst rE
   rw[if_neg (by omega)]at hx
   have nv:=oP 0 hK hr hx
   repeat'((first|(refine A2 (x:=r) oq (by omega) ?_)|(refine A2 (x:=r0) pC (by omega) ?_)|refine A1 hf ?_|(refine B5 ?_ ?_;kernel_rfl) |refine S2 ?_|(refine T6 ?_ ?_<;>intro h<;>try exact V1 h)|intro el nX nY|intro el nX|exact T4|refine T5 ?_ ?_|intro ex)<;>try conv=>whnf)
   all_goals first
    |(exfalso;omega)
    |exact⟨0+1,nv,by omega,A6 h0⟩
  ·obtain⟨q,hq⟩:∃q,rows[k-1]?=some q:=⟨_,List.getElem?_eq_getElem (by omega)⟩
   obtain⟨q0,su⟩:=Kb (rW k hK (i:=k-1) (by omega) hq)
   rw[D2 hq,Q7 su]at hx
   have pI:rows[((k:Int)-1).toNat]?=some q:=by rw[show ((k:Int)-1).toNat=k-1 by omega];exact hq
   by_cases ob:r0≤q0
   ·rw[if_pos ⟨by omega,ob⟩]at hx
    have hh:=rX k hK hr (by rw[hx];decide)
    rw[hx]at hh
    have hD:=ns hh.symm
    repeat'((first|(refine A2 (x:=q) pI (by omega) ?_)|(refine A2 (x:=q0) su (by omega) ?_)|(refine A2 (x:=r) oq (by omega) ?_)|(refine A2 (x:=r0) pC (by omega) ?_)|refine A1 hf ?_|(refine B5 ?_ ?_;kernel_rfl) |refine S2 ?_|(refine T6 ?_ ?_<;>intro h<;>try exact V1 h)|intro el nX nY|intro el nX|exact T4|refine T5 ?_ ?_|intro ex)<;>try conv=>whnf)
    all_goals first
     |(exfalso;omega)
     |exact A0 rfl (congrArg AV.b hD.symm)
   ·rw[if_neg (fun h=>ob h.2)]at hx
    have nv:=oP k hK hr hx
    repeat'((first|(refine A2 (x:=q) pI (by omega) ?_)|(refine A2 (x:=q0) su (by omega) ?_)|(refine A2 (x:=r) oq (by omega) ?_)|(refine A2 (x:=r0) pC (by omega) ?_)|refine A1 hf ?_|(refine B5 ?_ ?_;kernel_rfl) |refine S2 ?_|(refine T6 ?_ ?_<;>intro h<;>try exact V1 h)|intro el nX nY|intro el nX|exact T4|refine T5 ?_ ?_|intro ex)<;>try conv=>whnf)
    all_goals first
     |(exfalso;omega)
     |exact⟨k+1,nv,by omega,A6 h0⟩
 ·have hD:=px (rg k hK (by omega))
  rw[hD]
  repeat'((first|refine S2 ?_|(refine T6 ?_ ?_<;>intro h<;>try exact V1 h)|intro el nX nY|intro el nX|exact T4|refine T5 ?_ ?_|intro ex)<;>try conv=>whnf)
  all_goals first
   |(exfalso;omega)
   |skip
  refine B2 (ι:=Nat) (fun k=>⟨[(1,.ref 0 0),(4,.i k)],1,[(0,some (.box (R5 s rows)))]⟩)
   (fun k=>k=0) (fun k=>0) 0 rfl (A6 h0) (fun k hk=>?_)
  subst hk
  repeat'((first|refine S2 ?_|(refine T6 ?_ ?_<;>intro h<;>try exact V1 h)|intro el nX nY|intro el nX|exact T4|refine T5 ?_ ?_|intro ex)<;>try conv=>whnf)
  all_goals first
   |(exfalso;omega)
   |exact A0 rfl rfl
def Za(s:A4)(d:Cq)(r:List Int):Bool:=decide (TL s d.coh r=1) && Uc d.part d.of d.seed (r.headD 0)
def DB(s:A4)(d:Cq)(l:List (List Int)):List Int:=(l.filter (Za s d)).map fun r=>r.headD 0
def Ac(s:A4)(rows:List (List Int))(d:Cq):List Int:=if EF s rows=true∧DS s d=0 then DB s d rows else []
theorem Qq{s:A4}{rows:List (List Int)}(h:EF s rows=true):C5 s=0∧rows.length≤200∧∀(k:Nat) r,rows[k]?=some r→s8 s r=0:=by
 unfold EF at h
 have h:=of_decide_eq_true h
 refine⟨h.1,h.2.1,fun k r hk=>?_⟩
 have:=O5 h.2.2 k r hk
 unfold Js at this
 by_cases hr:s8 s r=0
 ·exact hr
 ·rw[if_pos hr]at this;cases this
theorem cS(s:A4)(d:Cq)(l:List (List Int))(r:List Int):DB s d (l++[r])=DB s d l++(if Za s d r=true then [r.headD 0]else []):=by
 unfold DB
 rw[List.filter_append,List.map_append]
 congr 1
 simp only[List.filter_cons,List.filter_nil]
 split<;>rfl
theorem MR(s:A4)(d:Cq)(l:List (List Int)):(DB s d l).length≤l.length:=by
 unfold DB
 rw[List.length_map]
 exact List.length_filter_le _ _
theorem Ug(s:A4)(rows:List (List Int))(d:Cq):A3 Tryz.prog 94 [.agg (R5 s rows),Jj d] (.sl 1 ((Ac s rows d).map wA)):=by
 have h1:=LV s rows
 have h2:=Jo s d
 unfold Ac
 by_cases hc:¬(EF s rows=true∧DS s d=0)
 ·rw[if_neg hc]
  generalize DS s d=e at *
  cases hv:EF s rows with
  |false =>
   rw[hv]at h1
   refine C1 Tryz.func94 58 fun nd E h0=>?_
   clear nd
   repeat'((first|refine A1 h1 ?_|refine A1 h2 ?_ |refine S2 ?_|(refine T6 ?_ ?_<;>intro h<;>try exact V1 h)|intro el nX nY|intro el nX|exact T4|refine T5 ?_ ?_|intro ex)<;>try conv=>whnf)
   all_goals first
    |(exfalso;omega)
    |exact x9 rfl rfl
  |true =>
   rw[hv]at h1
   have he:¬e=0:=fun h=>hc ⟨hv,h⟩
   refine C1 Tryz.func94 58 fun nd E h0=>?_
   clear nd
   repeat'((first|refine A1 h1 ?_|refine A1 h2 ?_ |refine S2 ?_|(refine T6 ?_ ?_<;>intro h<;>try exact V1 h)|intro el nX nY|intro el nX|exact T4|refine T5 ?_ ?_|intro ex)<;>try conv=>whnf)
   all_goals first
    |(exfalso;omega)
    |exact x9 rfl rfl
 have hc:=Decidable.of_not_not hc
 rw[if_pos hc]
 obtain⟨hv,he⟩:=hc
 rw[hv]at h1
 rw[he]at h2
 obtain⟨hr,pA,rL⟩:=Qq hv
 have h3:=fun r=>ZX s d.coh r
 have h4:=fun id=>fa d.part d.of d.seed id
 have oe:=cS s d
 have pR:=MR s d
 have qZ:∀r,Za s d r=(decide (TL s d.coh r=1) && Uc d.part d.of d.seed (r.headD 0)):=fun _=>rfl
 have pw:DB s d []=[]:=rfl
 generalize DB s d=FK at *
 generalize Za s d=PP at *
 refine C1 Tryz.func94 58 fun nd E h0=>?_
 clear nd
 repeat'((first|refine A1 h1 ?_|refine A1 h2 ?_ |refine S2 ?_|(refine T6 ?_ ?_<;>intro h<;>try exact V1 h)|intro el nX nY|intro el nX|exact T4|refine T5 ?_ ?_|intro ex)<;>try conv=>whnf)
 all_goals first
  |(exfalso;omega)
  |skip
 refine B2 (ι:=Nat) (fun k=>⟨[(2,.ref 0 0),(3,.ref 1 0),(5,.row 2 0 (FK (rows.take k)).length),(6,.i k)],3,[(0,some (.box (R5 s rows))),(1,some (.box (MD d))),(2,some (.row 3 1 0 ((FK (rows.take k)).map wA)))]⟩)
  (fun k=>k≤rows.length) (fun k=>rows.length-k) 0 (Nat.zero_le _)
  (C2 (K7 (d:=5) (e:=3) (sz:=1) rfl) (B3 h0 rfl ⟨rfl,rfl,congrArg (fun z:List Int=>some (AV.row 2 0 z.length)) pw.symm,rfl,trivial⟩ ⟨rfl,rfl,⟨0,congrArg (fun z:List Int=>D3.row 3 1 0 (z.map wA)) pw⟩,trivial⟩ rfl rfl rfl)) (fun k hK=>?_)
 by_cases no:k<rows.length
 ·obtain⟨r,qe⟩:∃r,rows[k]?=some r:=⟨_,List.getElem?_eq_getElem no⟩
  have qn:rows[((k:Nat):Int).toNat]?=some r:=qe
  obtain⟨r0,pC⟩:=Kb (rL k r qe)
  have he3:=h3 r
  have hi4:=h4 r0
  have nv:=oe (rows.take k) r
  have xu:=qZ r
  rw[←I0 qe,Q7 pC]at nv
  rw[Q7 pC]at xu
  have vL:=pR (rows.take k)
  rw[List.length_take]at vL
  generalize TL s d.coh r=ev at *
  generalize Uc d.part d.of d.seed r0=b at *
  by_cases pq:ev=1
  ·rw[decide_eq_true pq,Bool.true_and]at xu
   rw[xu]at nv
   cases b
   ·rw[if_neg (by decide),List.append_nil]at nv
    repeat'((first|(refine A2 (x:=r) qn (by omega) ?_)|(refine A2 (x:=r0) pC (by omega) ?_)|refine A1 he3 ?_|refine A1 hi4 ?_|(refine B5 ?_ ?_;kernel_rfl) |refine S2 ?_|(refine T6 ?_ ?_<;>intro h<;>try exact V1 h)|intro el nX nY|intro el nX|exact T4|refine T5 ?_ ?_|intro ex)<;>try conv=>whnf)
    all_goals first
     |(exfalso;omega)
     |exact⟨k+1,by omega,by omega,B3 h0 rfl ⟨rfl,rfl,congrArg (fun z:List Int=>some (AV.row 2 0 z.length)) nv.symm,rfl,trivial⟩ ⟨rfl,rfl,⟨_,congrArg (fun z:List Int=>D3.row 3 1 _ (z.map wA)) nv⟩,trivial⟩ rfl rfl rfl⟩
   ·rw[if_pos rfl]at nv
    repeat'((first|(refine A2 (x:=r) qn (by omega) ?_)|(refine A2 (x:=r0) pC (by omega) ?_)|refine A1 he3 ?_|refine A1 hi4 ?_|(refine B5 ?_ ?_;kernel_rfl) |refine S2 ?_|(refine T6 ?_ ?_<;>intro h<;>try exact V1 h)|intro el nX nY|intro el nX|exact T4|refine T5 ?_ ?_|intro ex)<;>try conv=>whnf)
    all_goals first
     |(exfalso;omega)
     |exact⟨k+1,by omega,by omega,B3 h0 rfl ⟨rfl,rfl,congrArg (fun z:Nat=>some (AV.row 2 0 z)) (by rw[nv];simp[M4]),rfl,trivial⟩ ⟨rfl,rfl,⟨_,congrArg (D3.row 3 1 _) (by rw[nv,List.map_append];rfl)⟩,trivial⟩ rfl rfl rfl⟩
  ·rw[decide_eq_false pq,Bool.false_and]at xu
   rw[xu,if_neg (by decide),List.append_nil]at nv
   repeat'((first|(refine A2 (x:=r) qn (by omega) ?_)|(refine A2 (x:=r0) pC (by omega) ?_)|refine A1 he3 ?_|refine A1 hi4 ?_|(refine B5 ?_ ?_;kernel_rfl) |refine S2 ?_|(refine T6 ?_ ?_<;>intro h<;>try exact V1 h)|intro el nX nY|intro el nX|exact T4|refine T5 ?_ ?_|intro ex)<;>try conv=>whnf)
   all_goals first
    |(exfalso;omega)
    |exact⟨k+1,by omega,by omega,B3 h0 rfl ⟨rfl,rfl,congrArg (fun z:List Int=>some (AV.row 2 0 z.length)) nv.symm,rfl,trivial⟩ ⟨rfl,rfl,⟨_,congrArg (fun z:List Int=>D3.row 3 1 _ (z.map wA)) nv⟩,trivial⟩ rfl rfl rfl⟩
 ·have he:rows.take k=rows:=List.take_of_length_le (by omega)
  rw[he]
  repeat'((first|refine S2 ?_|(refine T6 ?_ ?_<;>intro h<;>try exact V1 h)|intro el nX nY|intro el nX|exact T4|refine T5 ?_ ?_|intro ex)<;>try conv=>whnf)
  all_goals first
   |(exfalso;omega)
   |exact A0 rfl rfl
def o8(s:A4)(rows:List (List Int))(picks:List Pk)(secret id:Int):List Int:=FS secret id::picks.map fun p=>F9 s p.col p.lev ((rows.getD (MO rows id).toNat []).getD p.col.toNat 0)
def V8(s:A4)(rows:List (List Int))(picks:List Pk)(secret:Int)(ids:List Int):List (List Int):=ids.foldl (fun pm id=>o4 pm (o8 s rows picks secret id)) []
def FU(s:A4)(rows:List (List Int))(secret e:Int):Int:=if EF s rows=false then 13 else if ¬e=0 then e else if secret<0∨1152921504606846976≤secret then 2 else 0
def Jt(s:A4)(rows:List (List Int))(d:Cq)(picks:List Pk)(secret e:Int):H6:=if FU s rows secret e=0 then ⟨d.prj,0,picks,V8 s rows picks secret (Ac s rows d)⟩else ⟨[],0,[],[]⟩
theorem Uh{s:A4}{d:Cq}{rows:List (List Int)}(hne:∀(k:Nat) r,rows[k]?=some r→∃z,r[0]?=some z){id:Int}(h:id∈DB s d rows):∃j r,MO rows id=(j:Nat)∧rows[j]?=some r:=by
 unfold DB at h
 rw[List.mem_map]at h
 obtain⟨r,hr,rfl⟩:=h
 have hm:=(List.mem_filter.1 hr).1
 have key:∀(l:List (List Int)) (k:Nat),r∈l→(∀x∈l,∃z,x[0]?=some z)→∃j x,F3 (fun q:List Int=>decide (0<q.length) && decide (q.headD 0=r.headD 0)) l k=((k+j:Nat):Int)∧l[j]?=some x:=by
  intro l
  induction l with
  |nil=>intro k h;cases h
  |cons a t ih =>
   intro k h hz
   rw[F3]
   by_cases hp:(decide (0<a.length) && decide (a.headD 0=r.headD 0))=true
   ·rw[if_pos hp];exact⟨0,a,rfl,rfl⟩
   ·rw[if_neg hp]
    rcases List.mem_cons.1 h with rfl|h
    ·exfalso
     obtain⟨z,hz⟩:=hz _ (List.mem_cons_self ..)
     have:=D4 hz
     apply hp
     simp;omega
    ·obtain⟨j,x,h1,h2⟩:=ih (k+1) h fun x hx=>hz x (List.mem_cons_of_mem _ hx)
     exact⟨j+1,x,by rw[show (k:Int)+1=((k+1:Nat):Int) by omega,h1];congr 1;omega,h2⟩
 obtain⟨j,x,h1,h2⟩:=key rows 0 hm fun x hx=>by
  obtain⟨k,hk⟩:=List.getElem?_of_mem hx
  exact hne k x hk
 exact⟨j,x,by rw[Nat.zero_add]at h1;exact h1,h2⟩
theorem Ju(s:A4)(rows:List (List Int))(picks:List Pk)(secret:Int){ids:List Int}{k:Nat}{id:Int}(h:ids[k]?=some id):V8 s rows picks secret (ids.take (k+1))=o4 (V8 s rows picks secret (ids.take k)) (o8 s rows picks secret id):=by
 unfold V8
 rw[I0 h,List.foldl_append]
 rfl
theorem OJ(s:A4)(rows:List (List Int))(picks:List Pk)(secret:Int)(ids:List Int):∀k:Nat,k≤ids.length→(V8 s rows picks secret (ids.take k)).length≤k∧∀y∈V8 s rows picks secret (ids.take k),y≠[]
 |0,_=>⟨by simp[V8],fun y hy=>by simp[V8]at hy⟩
 |k+1,hk=>by
  obtain⟨id,hi⟩:∃id,ids[k]?=some id:=⟨_,List.getElem?_eq_getElem (by omega)⟩
  obtain⟨h1,h2⟩:=OJ s rows picks secret ids k (by omega)
  rw[Ju s rows picks secret hi]
  have:=Hn (V8 s rows picks secret (ids.take k)) (o8 s rows picks secret id)
  exact⟨by omega,XF (by unfold o8;simp) h2⟩
theorem PN:NL (.agg [.str [],.i 0,.v (.slice none 0 0),.v (.slice none 0 0)]) (f4 ⟨[],0,[],[]⟩):=Do ⟨.refl _,.refl _,.nil 2,.nil 1,trivial⟩
theorem Vx(s:A4)(rows:List (List Int))(d:Cq)(picks:List Pk)(secret e:Int)(qI:picks.length≤1000)(sT:A3 Tryz.prog 93 [sA s,Jj d,.sl 2 (picks.map B6)] (.i e))(hp:e=0→∀p∈picks,0≤p.col∧p.col<s.cols.length):A3 Tryz.prog 38 [.agg (R5 s rows),Jj d,.sl 2 (picks.map B6),.i secret] (.tup [f4 (Jt s rows d picks secret e),.i (FU s rows secret e)]):=by
 have h1:=LV s rows
 by_cases hE:¬FU s rows secret e=0
 ·have hX:Jt s rows d picks secret e=⟨[],0,[],[]⟩:=if_neg hE
  rw[hX]
  unfold FU at *
  cases hv:EF s rows with
  |false =>
   rw[hv]at h1
   rw[if_pos rfl]
   refine C1 Tryz.func38 106 fun nd E h0=>?_
   clear nd
   repeat'((first|refine A1 h1 ?_|refine A1 sT ?_ |refine S2 ?_|(refine T6 ?_ ?_<;>intro h<;>try exact V1 h)|intro el nX nY|intro el nX|exact T4|refine T5 ?_ ?_|intro ex)<;>try conv=>whnf)
   all_goals first
    |(exfalso;omega)
    |exact r9 rfl rfl rfl PN rfl (.refl _) rfl
  |true =>
   rw[hv]at h1 hE
   rw[if_neg (by decide)]at hE ⊢
   by_cases he:¬e=0
   ·rw[if_pos he]
    refine C1 Tryz.func38 106 fun nd E h0=>?_
    clear nd
    repeat'((first|refine A1 h1 ?_|refine A1 sT ?_ |refine S2 ?_|(refine T6 ?_ ?_<;>intro h<;>try exact V1 h)|intro el nX nY|intro el nX|exact T4|refine T5 ?_ ?_|intro ex)<;>try conv=>whnf)
    all_goals first
     |(exfalso;omega)
     |exact r9 rfl rfl rfl PN rfl (.refl _) rfl
   ·rw[if_neg he]at hE ⊢
    by_cases hs:secret<0∨1152921504606846976≤secret
    ·rw[if_pos hs]
     refine C1 Tryz.func38 106 fun nd E h0=>?_
     clear nd
     repeat'((first|refine A1 h1 ?_|refine A1 sT ?_ |refine S2 ?_|(refine T6 ?_ ?_<;>intro h<;>try exact V1 h)|intro el nX nY|intro el nX|exact T4|refine T5 ?_ ?_|intro ex)<;>try conv=>whnf)
     all_goals first
      |(exfalso;omega)
      |exact r9 rfl rfl rfl PN rfl (.refl _) rfl
    ·rw[if_neg hs]at hE;exact absurd rfl hE
 have hE:=Decidable.of_not_not hE
 have hX:Jt s rows d picks secret e=⟨d.prj,0,picks,V8 s rows picks secret (Ac s rows d)⟩:=if_pos hE
 rw[hX,hE]
 have hv:EF s rows=true:=by
  cases hv:EF s rows with
  |true=>rfl
  |false=>unfold FU at hE;rw[if_pos hv]at hE;cases hE
 unfold FU at hE
 rw[if_neg (by rw[hv];decide)]at hE
 have he:e=0:=by
  by_cases he:e=0
  ·exact he
  ·rw[if_pos he]at hE;exact absurd hE he
 rw[if_neg (by omega)]at hE
 have hs:¬(secret<0∨1152921504606846976≤secret):=fun h=>by rw[if_pos h]at hE;cases hE
 subst he
 have hp:=hp rfl
 rw[hv]at h1
 obtain⟨hr,pA,rL⟩:=Qq hv
 have h2:=Ug s rows d
 have hne:=fun k r h=>Kb (rL k r h)
 have zd:∀id∈Ac s rows d,∃j r,MO rows id=(j:Nat)∧rows[j]?=some r:=fun id h=>by
  unfold Ac at h
  split at h
  ·exact Uh hne h
  ·cases h
 have hlr:=fun (j:Nat) r (h:rows[j]?=some r)=>(Hb (rL j r h)).2
 have h3:=fun id=>Vu s rows id
 have h4:=fun id=>cO secret id
 have h5:=fun c l v=>Cj s c l v
 have rp:(Ac s rows d).length≤200:=by
  unfold Ac
  split
  ·exact Nat.le_trans (MR s d rows) pA
  ·exact Nat.zero_le _
 have pS:=OJ s rows picks secret (Ac s rows d)
 have oe:=fun (k:Nat) (id:Int) h=>@Ju s rows picks secret (Ac s rows d) k id h
 have wi:V8 s rows picks secret ((Ac s rows d).take 0)=[]:=rfl
 have ph:V8 s rows picks secret (Ac s rows d)=V8 s rows picks secret ((Ac s rows d).take (Ac s rows d).length):=by rw[List.take_length]
 rw[ph]
 have qE:∀(id:Int) (j:Nat) (r:List Int),MO rows id=(j:Nat)→rows[j]?=some r→o8 s rows picks secret id=FS secret id::picks.map fun p=>F9 s p.col p.lev (r.getD p.col.toNat 0):=fun id j r h1 h2=>by unfold o8;rw[h1,show ((j:Int)).toNat=j from rfl,D2 h2]
 generalize V8 s rows picks secret=BR at *
 generalize o8 s rows picks secret=BW at *
 generalize Ac s rows d=ids at *
 generalize FS secret=KS at *
 generalize MO rows=FD at *
 refine C1 Tryz.func38 106 fun nd E h0=>?_
 clear nd
 repeat'((first|(refine G9 8 ?_;refine S9 (id:=8) (σ':=⟨[(2,.sl 2 (picks.map B6)),(3,.i secret),(4,.iptr (R5 s rows)),(5,.iptr (MD d)),(8,.ref 2 0)],3,[(2,some (.box [.str [],.i 0,.v (.slice none 0 0),.v (.slice none 0 0)]))]⟩) (A6 h0) ?_;refine H9 (id:=8) ⟨[(2,.sl 2 (picks.map B6)),(3,.i secret),(4,.iptr (R5 s rows)),(5,.iptr (MD d)),(8,.ref 2 0),(11,.ref 3 0)],4,[(2,some (.box [.str [],.i 0,.v (.slice none 0 0),.v (.slice none 0 0)])),(3,some (.box [.str d.prj,.i 0,.sl 2 (picks.map B6),.v (.slice none 0 0)]))]⟩ ?_ ?_)|refine A1 h1 ?_|refine A1 sT ?_|refine A1 h2 ?_ |refine S2 ?_|(refine T6 ?_ ?_<;>intro h<;>try exact V1 h)|intro el nX nY|intro el nX|exact T4|refine T5 ?_ ?_|intro ex)<;>try conv=>whnf)
 all_goals first
  |(exfalso;omega)
  |exact B3 h0 rfl ⟨rfl,rfl,rfl,rfl,rfl,rfl,trivial⟩ ⟨rfl,rfl,trivial⟩ rfl rfl rfl
  |exact C2 (BC 3 4 h0 rfl rfl) (B3 h0 rfl ⟨rfl,rfl,rfl,rfl,rfl,rfl,trivial⟩ ⟨rfl,rfl,trivial⟩ rfl rfl rfl)
  |skip
 refine B2 (ι:=Nat) (fun k=>⟨[(2,.sl 2 (picks.map B6)),(3,.i secret),(4,.iptr (R5 s rows)),(8,.ref 2 0),(11,.ref 3 0),(12,.sl 1 (ids.map wA)),(13,.i k)],4,[(2,some (.box [.str [],.i 0,.v (.slice none 0 0),.v (.slice none 0 0)])),(3,some (.box [.str d.prj,.i 0,.sl 2 (picks.map B6),.sl 1 ((BR (ids.take k)).map G3)]))]⟩)
  (fun k=>k≤ids.length) (fun k=>ids.length-k) 0 (Nat.zero_le _)
  (C2 (bS 3 [.str d.prj,.i 0,.sl 2 (picks.map B6),.sl 1 []] rfl ⟨.refl _,.refl _,.refl _,.nil 1,trivial⟩) (B3 h0 rfl ⟨rfl,rfl,rfl,rfl,rfl,rfl,rfl,trivial⟩ ⟨rfl,congrArg (fun z:List (List Int)=>D3.box [.str d.prj,.i 0,.sl 2 (picks.map B6),.sl 1 (z.map G3)]) wi,trivial⟩ rfl rfl rfl)) (fun k hK=>?_)
 obtain⟨pG,oD⟩:=pS k hK
 by_cases no:k<ids.length
 ·obtain⟨id,hi⟩:∃id,ids[k]?=some id:=⟨_,List.getElem?_eq_getElem no⟩
  have oW:ids[((k:Nat):Int).toNat]?=some id:=hi
  obtain⟨j,r,hj,yx⟩:=zd id (List.mem_of_getElem? hi)
  have nv:=oe k id hi
  have hbw:=qE id j r hj yx
  have hf:=h3 id
  have hk4:=h4 id
  have sW:=hlr j r yx
  have re:=D4 yx
  have AA5:rows[(FD id).toNat]?=some r:=by rw[hj];exact yx
  have hfd:0≤FD id∧FD id<rows.length:=by omega
  have rC:=Tg (BR (ids.take k)) (BW id) (by omega) oD (by rw[hbw];simp)
  rw[hbw]at rC nv
  generalize hV:(picks.map fun p=>F9 s p.col p.lev (r.getD p.col.toNat 0))=V at *
  have hVl:V.length=picks.length:=by rw[←hV,List.length_map]
  have hVg:∀(q:Nat) p v,picks[q]?=some p→r[p.col.toNat]?=some v→V[q]?=some (F9 s p.col p.lev v):=fun q p v h1 h2=>by rw[←hV,List.getElem?_map,h1];show some (F9 s p.col p.lev (r.getD p.col.toNat 0))=_;rw[D2 h2]
  generalize KS id=key at *
  generalize FD id=fd at *
  generalize BR (ids.take k)=B at *
  repeat'((first|(refine A2 (x:=id) oW (by omega) ?_)|(refine A2 (x:=r) AA5 (by omega) ?_)|refine A1 hf ?_|refine A1 hk4 ?_|refine b9 (T:=37) rfl ?_|(refine B5 ?_ ?_;kernel_rfl) |refine S2 ?_|(refine T6 ?_ ?_<;>intro h<;>try exact V1 h)|intro el nX nY|intro el nX|exact T4|refine T5 ?_ ?_|intro ex)<;>try conv=>whnf)
  all_goals first
   |(exfalso;omega)
   |skip
  refine B2 (ι:=Nat) (fun q=>⟨[(2,.sl 2 (picks.map B6)),(3,.i secret),(4,.iptr (R5 s rows)),(8,.ref 2 0),(11,.ref 3 0),(12,.sl 1 (ids.map wA)),(13,.i k),(14,.sl 1 (r.map wA)),(15,.row 4 0 (q+1)),(16,.i q)],5,[(2,some (.box [.str [],.i 0,.v (.slice none 0 0),.v (.slice none 0 0)])),(3,some (.box [.str d.prj,.i 0,.sl 2 (picks.map B6),.sl 1 (B.map G3)])),(4,some (.row 3 1 0 ((key::V.take q).map wA)))]⟩)
   (fun q=>q≤picks.length) (fun q=>picks.length-q) 0 (Nat.zero_le _)
   (A6 h0) (fun q hq=>?_)
  by_cases uE:q<picks.length
  ·obtain⟨p,xQ⟩:∃p,picks[q]?=some p:=⟨_,List.getElem?_eq_getElem uE⟩
   have AA3:picks[((q:Nat):Int).toNat]?=some p:=xQ
   obtain⟨hp1,hp2⟩:=hp p (List.mem_of_getElem? xQ)
   obtain⟨v,hvr⟩:∃v,r[p.col.toNat]?=some v:=⟨_,List.getElem?_eq_getElem (by omega)⟩
   have hc:=h5 p.col p.lev v
   have hVq:=hVg q p v xQ hvr
   have tW:(key::V.take (q+1)).map wA=(key::V.take q).map wA++[[.i (F9 s p.col p.lev v)]]:=by rw[I0 hVq];simp
   have hql2:(V.take q).length=q:=by rw[List.length_take];omega
   generalize F9 s p.col p.lev v=z at *
   repeat'((first|(refine H9 (id:=18) ⟨[(2,.sl 2 (picks.map B6)),(3,.i secret),(4,.iptr (R5 s rows)),(8,.ref 2 0),(11,.ref 3 0),(12,.sl 1 (ids.map wA)),(13,.i k),(14,.sl 1 (r.map wA)),(15,.row 4 0 (q+1+1)),(16,.i q)],5,[(2,some (.box [.str [],.i 0,.v (.slice none 0 0),.v (.slice none 0 0)])),(3,some (.box [.str d.prj,.i 0,.sl 2 (picks.map B6),.sl 1 (B.map G3)])),(4,some (.row 3 1 0 ((key::V.take (q+1)).map wA)))]⟩ ?_ ?_)|(refine A2 (x:=p) AA3 (by omega) ?_)|(refine A2 (x:=v) hvr (by omega) ?_)|refine A1 hc ?_ |refine S2 ?_|(refine T6 ?_ ?_<;>intro h<;>try exact V1 h)|intro el nX nY|intro el nX|exact T4|refine T5 ?_ ?_|intro ex)<;>try conv=>whnf)
   all_goals first
    |(exfalso;omega)
    |exact B3 h0 rfl ⟨rfl,rfl,rfl,rfl,rfl,rfl,rfl,rfl,rfl,rfl,trivial⟩ ⟨rfl,rfl,⟨_,congrArg (D3.row 3 1 _) tW⟩,trivial⟩ rfl rfl rfl
    |exact⟨q+1,by omega,by omega,A6 h0⟩
  have yQ:q=picks.length:=by omega
  subst yQ
  rw[List.take_of_length_le (by omega:V.length≤picks.length)]
  repeat'((first|refine A1 rC ?_ |refine S2 ?_|(refine T6 ?_ ?_<;>intro h<;>try exact V1 h)|intro el nX nY|intro el nX|exact T4|refine T5 ?_ ?_|intro ex|refine J9 4 ?_)<;>try conv=>whnf)
  all_goals first
   |(exfalso;omega)
   |exact⟨k+1,by omega,by omega,B3 h0 rfl ⟨rfl,rfl,rfl,rfl,rfl,rfl,rfl,trivial⟩ ⟨rfl,congrArg (fun z:List (List Int)=>D3.box [.str d.prj,.i 0,.sl 2 (picks.map B6),.sl 1 (z.map G3)]) nv,trivial⟩ rfl rfl rfl⟩
 have pK:k=ids.length:=by omega
 subst pK
 repeat'((first|refine S2 ?_|(refine T6 ?_ ?_<;>intro h<;>try exact V1 h)|intro el nX nY|intro el nX|exact T4|refine T5 ?_ ?_|intro ex)<;>try conv=>whnf)
 all_goals first
  |(exfalso;omega)
  |exact r9 rfl rfl rfl (.refl _) rfl (.refl _) rfl
def IG(l:List UInt8)(a:Nat):Int×Nat :=
 (((B7 l a 60000).1:Int)*((B7 l (B7 l a 60000).2 60000).1:Int)+((B7 l (B7 l (B7 l a 60000).2 60000).2 7).1:Int),(B7 l (B7 l (B7 l a 60000).2 60000).2 7).2)
theorem jl(l:List UInt8)(a:Nat):0≤(IG l a).1∧(IG l a).1<1152921504606846976:=by
 have h1:=G1 l a (n:=60000) (by decide)
 have h2:=G1 l (B7 l a 60000).2 (n:=60000) (by decide)
 have h3:=G1 l (B7 l (B7 l a 60000).2 60000).2 (n:=7) (by decide)
 unfold IG
 dsimp only
 generalize (B7 l a 60000).1=x at *
 generalize (B7 l (B7 l a 60000).2 60000).1=y at *
 have h4:x*y≤60000*60000:=Nat.mul_le_mul (by omega) (by omega)
 have h5:((x*y:Nat):Int)=(x:Int)*(y:Int):=Int.natCast_mul x y
 omega
theorem XG(l:List UInt8)(a:Nat)(hl:l.length≤400):B8 Tryz.prog 39 1 (X0 l a) [.ref 0 0] 1 (X0 l (IG l a).2) (.i (IG l a).1):=by
 have h1:=K0 l a 60000 hl
 have h2:=K0 l (B7 l a 60000).2 60000 hl
 have h3:=K0 l (B7 l (B7 l a 60000).2 60000).2 7 hl
 have b1:=G1 l a (n:=60000) (by decide)
 have b2:=G1 l (B7 l a 60000).2 (n:=60000) (by decide)
 have b3:=G1 l (B7 l (B7 l a 60000).2 60000).2 (n:=7) (by decide)
 unfold IG
 dsimp only
 generalize B7 l (B7 l (B7 l a 60000).2 60000).2 7=z at *
 generalize B7 l (B7 l a 60000).2 60000=y at *
 generalize B7 l a 60000=x at *
 obtain⟨x,p⟩:=x
 obtain⟨y,q⟩:=y
 obtain⟨z,r⟩:=z
 dsimp only at *
 have h4:x*y≤60000*60000:=Nat.mul_le_mul (by omega) (by omega)
 have h5:((x*y:Nat):Int)=(x:Int)*(y:Int):=Int.natCast_mul x y
 have h6:0≤(x:Int)*(y:Int)∧(x:Int)*(y:Int)≤3600000000:=by omega
 refine a8 Tryz.func39 11 fun E h0=>?_
 repeat'((first|refine nc [0] [0] h1 rfl rfl rfl ⟨rfl,trivial⟩ ?_|refine nc [0] [0] h2 rfl rfl rfl ⟨rfl,trivial⟩ ?_|refine nc [0] [0] h3 rfl rfl rfl ⟨rfl,trivial⟩ ?_ |refine S2 ?_|(refine T6 ?_ ?_<;>intro h<;>try exact V1 h)|intro el nX nY|intro el nX|exact T4|refine T5 ?_ ?_|intro ex)<;>try conv=>whnf)
 all_goals first
  |(exfalso;omega)
  |exact H7 (A6 h0)
end Go.Proofs.YtiphlhoclaogjaaGreatDoor
