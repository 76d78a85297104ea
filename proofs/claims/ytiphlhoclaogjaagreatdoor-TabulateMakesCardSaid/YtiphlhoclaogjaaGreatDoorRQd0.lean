/- Chapter 13: owners, the reference. -/
import Derived.Test.YtiphlhoclaogjaaGreatDoorRTx3
set_option linter.unusedVariables false
set_option linter.unnecessarySimpa false
set_option linter.unusedSimpArgs false
set_option maxHeartbeats 64000000
namespace Go.Proofs.YtiphlhoclaogjaaGreatDoor
open Go Go.Av
attribute [local irreducible] C9 B3 C7 D1 DQ D0 C6 St.le A3 B7
set_option maxRecDepth 100000
def Yr(s:A4)(d:Ct)(r:List Int):Bool:=decide (Ss s d.coh r=1) && US d.part d.of d.seed (r.headD 0)
def Hx(s:A4)(d:Ct)(l:List (List Int)):List Int:=(l.filter (Yr s d)).map fun r=>r.headD 0
def CQ(s:A4)(rows:List (List Int))(d:Ct):List Int:=if FU s rows=true∧FO s d=0 then Hx s d rows else []
theorem Qu{s:A4}{rows:List (List Int)}(h:FU s rows=true):C3 s=0∧rows.length≤200∧∀(k:Nat) r,rows[k]?=some r→AH s r=0:=by
 unfold FU at h
 have h:=of_decide_eq_true h
 refine⟨h.1,h.2.1,fun k r hk=>?_⟩
 have:=O9 h.2.2 k r hk
 unfold MA at this
 by_cases hr:AH s r=0
 ·exact hr
 ·rw[if_pos hr]at this;cases this
theorem bS(s:A4)(d:Ct)(l:List (List Int))(r:List Int):Hx s d (l++[r])=Hx s d l++(if Yr s d r=true then [r.headD 0]else []):=by
 unfold Hx
 rw[List.filter_append,List.map_append]
 congr 1
 simp only[List.filter_cons,List.filter_nil]
 split<;>rfl
theorem UV(s:A4)(d:Ct)(l:List (List Int)):(Hx s d l).length≤l.length:=by
 unfold Hx
 rw[List.length_map]
 exact List.length_filter_le _ _
theorem VP(s:A4)(rows:List (List Int))(d:Ct):A3 Tryz.prog 94 [.agg (R7 s rows),JW d] (.sl 1 ((CQ s rows d).map wA)):=by
 have h1:=MC s rows
 have h2:=Jj s d
 unfold CQ
 by_cases hc:¬(FU s rows=true∧FO s d=0)
 ·rw[if_neg hc]
  generalize FO s d=e at *
  cases hv:FU s rows with
  |false =>
   rw[hv]at h1
   refine B5 Tryz.func94 58 fun mK E h0=>?_
   clear mK
   repeat'((first|refine A0 h1 ?_|refine A0 h2 ?_ |refine S2 ?_|(refine T6 ?_ ?_<;>intro h<;>try exact V1 h)|intro el mI mJ|intro el mI|exact T4|refine T5 ?_ ?_|intro ex)<;>try conv=>whnf)
   all_goals first
    |(exfalso;omega)
    |exact l5 rfl rfl
  |true =>
   rw[hv]at h1
   have he:¬e=0:=fun h=>hc ⟨hv,h⟩
   refine B5 Tryz.func94 58 fun mK E h0=>?_
   clear mK
   repeat'((first|refine A0 h1 ?_|refine A0 h2 ?_ |refine S2 ?_|(refine T6 ?_ ?_<;>intro h<;>try exact V1 h)|intro el mI mJ|intro el mI|exact T4|refine T5 ?_ ?_|intro ex)<;>try conv=>whnf)
   all_goals first
    |(exfalso;omega)
    |exact l5 rfl rfl
 have hc:=Decidable.of_not_not hc
 rw[if_pos hc]
 obtain⟨hv,he⟩:=hc
 rw[hv]at h1
 rw[he]at h2
 obtain⟨hr,nG,qN⟩:=Qu hv
 have h3:=fun r=>YZ s d.coh r
 have h4:=fun id=>eP d.part d.of d.seed id
 have nk:=bS s d
 have nV:=UV s d
 have pJ:∀r,Yr s d r=(decide (Ss s d.coh r=1) && US d.part d.of d.seed (r.headD 0)):=fun _=>rfl
 have oR:Hx s d []=[]:=rfl
 generalize Hx s d=FK at *
 generalize Yr s d=PP at *
 refine B5 Tryz.func94 58 fun mK E h0=>?_
 clear mK
 repeat'((first|refine A0 h1 ?_|refine A0 h2 ?_ |refine S2 ?_|(refine T6 ?_ ?_<;>intro h<;>try exact V1 h)|intro el mI mJ|intro el mI|exact T4|refine T5 ?_ ?_|intro ex)<;>try conv=>whnf)
 all_goals first
  |(exfalso;omega)
  |skip
 refine A9 (ι:=Nat) (fun k=>⟨[(2,.ref 0 0),(3,.ref 1 0),(5,.row 2 0 (FK (rows.take k)).length),(6,.i k)],3,[(0,some (.box (R7 s rows))),(1,some (.box (Lo d))),(2,some (.row 3 1 0 ((FK (rows.take k)).map wA)))]⟩)
  (fun k=>k≤rows.length) (fun k=>rows.length-k) 0 (Nat.zero_le _)
  (B9 (H7 (d:=5) (e:=3) (sz:=1) rfl) (A7 h0 rfl ⟨rfl,rfl,congrArg (fun z:List Int=>some (AV.row 2 0 z.length)) oR.symm,rfl,trivial⟩ ⟨rfl,rfl,⟨0,congrArg (fun z:List Int=>C4.row 3 1 0 (z.map wA)) oR⟩,trivial⟩ rfl rfl rfl)) (fun k hK=>?_)
 by_cases mT:k<rows.length
 ·obtain⟨r,ot⟩:∃r,rows[k]?=some r:=⟨_,List.getElem?_eq_getElem mT⟩
  have pH:rows[((k:Nat):Int).toNat]?=some r:=ot
  obtain⟨r0,nh⟩:=KP (qN k r ot)
  have yr:=h3 r
  have zu:=h4 r0
  have mR:=nk (rows.take k) r
  have wS:=pJ r
  rw[←E7 ot,O5 nh]at mR
  rw[O5 nh]at wS
  have sw:=nV (rows.take k)
  rw[List.length_take]at sw
  generalize Ss s d.coh r=ev at *
  generalize US d.part d.of d.seed r0=b at *
  by_cases om:ev=1
  ·rw[decide_eq_true om,Bool.true_and]at wS
   rw[wS]at mR
   cases b
   ·rw[if_neg (by decide),List.append_nil]at mR
    repeat'((first|(refine A2 (x:=r) pH (by omega) ?_)|(refine A2 (x:=r0) nh (by omega) ?_)|refine A0 yr ?_|refine A0 zu ?_|(refine B0 ?_ ?_;kernel_rfl) |refine S2 ?_|(refine T6 ?_ ?_<;>intro h<;>try exact V1 h)|intro el mI mJ|intro el mI|exact T4|refine T5 ?_ ?_|intro ex)<;>try conv=>whnf)
    all_goals first
     |(exfalso;omega)
     |exact⟨k+1,by omega,by omega,A7 h0 rfl ⟨rfl,rfl,congrArg (fun z:List Int=>some (AV.row 2 0 z.length)) mR.symm,rfl,trivial⟩ ⟨rfl,rfl,⟨_,congrArg (fun z:List Int=>C4.row 3 1 _ (z.map wA)) mR⟩,trivial⟩ rfl rfl rfl⟩
   ·rw[if_pos rfl]at mR
    repeat'((first|(refine A2 (x:=r) pH (by omega) ?_)|(refine A2 (x:=r0) nh (by omega) ?_)|refine A0 yr ?_|refine A0 zu ?_|(refine B0 ?_ ?_;kernel_rfl) |refine S2 ?_|(refine T6 ?_ ?_<;>intro h<;>try exact V1 h)|intro el mI mJ|intro el mI|exact T4|refine T5 ?_ ?_|intro ex)<;>try conv=>whnf)
    all_goals first
     |(exfalso;omega)
     |exact⟨k+1,by omega,by omega,A7 h0 rfl ⟨rfl,rfl,congrArg (fun z:Nat=>some (AV.row 2 0 z)) (by rw[mR];simp[L4]),rfl,trivial⟩ ⟨rfl,rfl,⟨_,congrArg (C4.row 3 1 _) (by rw[mR,List.map_append];rfl)⟩,trivial⟩ rfl rfl rfl⟩
  ·rw[decide_eq_false om,Bool.false_and]at wS
   rw[wS,if_neg (by decide),List.append_nil]at mR
   repeat'((first|(refine A2 (x:=r) pH (by omega) ?_)|(refine A2 (x:=r0) nh (by omega) ?_)|refine A0 yr ?_|refine A0 zu ?_|(refine B0 ?_ ?_;kernel_rfl) |refine S2 ?_|(refine T6 ?_ ?_<;>intro h<;>try exact V1 h)|intro el mI mJ|intro el mI|exact T4|refine T5 ?_ ?_|intro ex)<;>try conv=>whnf)
   all_goals first
    |(exfalso;omega)
    |exact⟨k+1,by omega,by omega,A7 h0 rfl ⟨rfl,rfl,congrArg (fun z:List Int=>some (AV.row 2 0 z.length)) mR.symm,rfl,trivial⟩ ⟨rfl,rfl,⟨_,congrArg (fun z:List Int=>C4.row 3 1 _ (z.map wA)) mR⟩,trivial⟩ rfl rfl rfl⟩
 ·have he:rows.take k=rows:=List.take_of_length_le (by omega)
  rw[he]
  repeat'((first|refine S2 ?_|(refine T6 ?_ ?_<;>intro h<;>try exact V1 h)|intro el mI mJ|intro el mI|exact T4|refine T5 ?_ ?_|intro ex)<;>try conv=>whnf)
  all_goals first
   |(exfalso;omega)
   |exact A1 rfl rfl
def Fv(s:A4)(rows:List (List Int))(picks:List Pk)(secret id:Int):List Int:=UU secret id::picks.map fun p=>G2 s p.col p.lev ((rows.getD (MH rows id).toNat []).getD p.col.toNat 0)
def Z6(s:A4)(rows:List (List Int))(picks:List Pk)(secret:Int)(ids:List Int):List (List Int):=ids.foldl (fun sH id=>At sH (Fv s rows picks secret id)) []
def Jl(s:A4)(rows:List (List Int))(secret e:Int):Int:=if FU s rows=false then 13 else if ¬e=0 then e else if secret<0∨1152921504606846976≤secret then 2 else 0
def PD(s:A4)(rows:List (List Int))(d:Ct)(picks:List Pk)(secret e:Int):J7:=if Jl s rows secret e=0 then ⟨d.prj,0,picks,Z6 s rows picks secret (CQ s rows d)⟩else ⟨[],0,[],[]⟩
theorem eR{s:A4}{d:Ct}{rows:List (List Int)}(hne:∀(k:Nat) r,rows[k]?=some r→∃z,r[0]?=some z){id:Int}(h:id∈Hx s d rows):∃j r,MH rows id=(j:Nat)∧rows[j]?=some r:=by
 unfold Hx at h
 rw[List.mem_map]at h
 obtain⟨r,hr,rfl⟩:=h
 have hm:=(List.mem_filter.1 hr).1
 have key:∀(l:List (List Int)) (k:Nat),r∈l→(∀x∈l,∃z,x[0]?=some z)→∃j x,E8 (fun q:List Int=>decide (0<q.length) && decide (q.headD 0=r.headD 0)) l k=((k+j:Nat):Int)∧l[j]?=some x:=by
  intro l
  induction l with
  |nil=>intro k h;cases h
  |cons a t ih =>
   intro k h hz
   rw[E8]
   by_cases hp:(decide (0<a.length) && decide (a.headD 0=r.headD 0))=true
   ·rw[if_pos hp];exact⟨0,a,rfl,rfl⟩
   ·rw[if_neg hp]
    rcases List.mem_cons.1 h with rfl|h
    ·exfalso
     obtain⟨z,hz⟩:=hz _ (List.mem_cons_self ..)
     have:=F0 hz
     apply hp
     simp;omega
    ·obtain⟨j,x,h1,h2⟩:=ih (k+1) h fun x hx=>hz x (List.mem_cons_of_mem _ hx)
     exact⟨j+1,x,by rw[show (k:Int)+1=((k+1:Nat):Int) by omega,h1];congr 1;omega,h2⟩
 obtain⟨j,x,h1,h2⟩:=key rows 0 hm fun x hx=>by
  obtain⟨k,hk⟩:=List.getElem?_of_mem hx
  exact hne k x hk
 exact⟨j,x,by rw[Nat.zero_add]at h1;exact h1,h2⟩
theorem Jm(s:A4)(rows:List (List Int))(picks:List Pk)(secret:Int){ids:List Int}{k:Nat}{id:Int}(h:ids[k]?=some id):Z6 s rows picks secret (ids.take (k+1))=At (Z6 s rows picks secret (ids.take k)) (Fv s rows picks secret id):=by
 unfold Z6
 rw[E7 h,List.foldl_append]
 rfl
theorem Oz(s:A4)(rows:List (List Int))(picks:List Pk)(secret:Int)(ids:List Int):∀k:Nat,k≤ids.length→(Z6 s rows picks secret (ids.take k)).length≤k∧∀y∈Z6 s rows picks secret (ids.take k),y≠[]
 |0,_=>⟨by simp[Z6],fun y hy=>by simp[Z6]at hy⟩
 |k+1,hk=>by
  obtain⟨id,hi⟩:∃id,ids[k]?=some id:=⟨_,List.getElem?_eq_getElem (by omega)⟩
  obtain⟨h1,h2⟩:=Oz s rows picks secret ids k (by omega)
  rw[Jm s rows picks secret hi]
  have:=Lk (Z6 s rows picks secret (ids.take k)) (Fv s rows picks secret id)
  exact⟨by omega,We (by unfold Fv;simp) h2⟩
theorem PE:NL (.agg [.str [],.i 0,.v (.slice none 0 0),.v (.slice none 0 0)]) (T8 ⟨[],0,[],[]⟩):=Bb ⟨.refl _,.refl _,.nil 2,.nil 1,trivial⟩
theorem VZ(s:A4)(rows:List (List Int))(d:Ct)(picks:List Pk)(secret e:Int)(ob:picks.length≤1000)(rU:A3 Tryz.prog 93 [sA s,JW d,.sl 2 (picks.map A8)] (.i e))(hp:e=0→∀p∈picks,0≤p.col∧p.col<s.cols.length):A3 Tryz.prog 38 [.agg (R7 s rows),JW d,.sl 2 (picks.map A8),.i secret] (.tup [T8 (PD s rows d picks secret e),.i (Jl s rows secret e)]):=by
 have h1:=MC s rows
 by_cases hE:¬Jl s rows secret e=0
 ·have hX:PD s rows d picks secret e=⟨[],0,[],[]⟩:=if_neg hE
  rw[hX]
  unfold Jl at *
  cases hv:FU s rows with
  |false =>
   rw[hv]at h1
   rw[if_pos rfl]
   refine B5 Tryz.func38 106 fun mK E h0=>?_
   clear mK
   repeat'((first|refine A0 h1 ?_|refine A0 rU ?_ |refine S2 ?_|(refine T6 ?_ ?_<;>intro h<;>try exact V1 h)|intro el mI mJ|intro el mI|exact T4|refine T5 ?_ ?_|intro ex)<;>try conv=>whnf)
   all_goals first
    |(exfalso;omega)
    |exact S8 rfl rfl rfl PE rfl (.refl _) rfl
  |true =>
   rw[hv]at h1 hE
   rw[if_neg (by decide)]at hE ⊢
   by_cases he:¬e=0
   ·rw[if_pos he]
    refine B5 Tryz.func38 106 fun mK E h0=>?_
    clear mK
    repeat'((first|refine A0 h1 ?_|refine A0 rU ?_ |refine S2 ?_|(refine T6 ?_ ?_<;>intro h<;>try exact V1 h)|intro el mI mJ|intro el mI|exact T4|refine T5 ?_ ?_|intro ex)<;>try conv=>whnf)
    all_goals first
     |(exfalso;omega)
     |exact S8 rfl rfl rfl PE rfl (.refl _) rfl
   ·rw[if_neg he]at hE ⊢
    by_cases hs:secret<0∨1152921504606846976≤secret
    ·rw[if_pos hs]
     refine B5 Tryz.func38 106 fun mK E h0=>?_
     clear mK
     repeat'((first|refine A0 h1 ?_|refine A0 rU ?_ |refine S2 ?_|(refine T6 ?_ ?_<;>intro h<;>try exact V1 h)|intro el mI mJ|intro el mI|exact T4|refine T5 ?_ ?_|intro ex)<;>try conv=>whnf)
     all_goals first
      |(exfalso;omega)
      |exact S8 rfl rfl rfl PE rfl (.refl _) rfl
    ·rw[if_neg hs]at hE;exact absurd rfl hE
 have hE:=Decidable.of_not_not hE
 have hX:PD s rows d picks secret e=⟨d.prj,0,picks,Z6 s rows picks secret (CQ s rows d)⟩:=if_pos hE
 rw[hX,hE]
 have hv:FU s rows=true:=by
  cases hv:FU s rows with
  |true=>rfl
  |false=>unfold Jl at hE;rw[if_pos hv]at hE;cases hE
 unfold Jl at hE
 rw[if_neg (by rw[hv];decide)]at hE
 have he:e=0:=by
  by_cases he:e=0
  ·exact he
  ·rw[if_pos he]at hE;exact absurd hE he
 rw[if_neg (by omega)]at hE
 have hs:¬(secret<0∨1152921504606846976≤secret):=fun h=>by rw[if_pos h]at hE;cases hE
 subst he
 have hp:=hp rfl
 rw[hv]at h1
 obtain⟨hr,nG,qN⟩:=Qu hv
 have h2:=VP s rows d
 have hne:=fun k r h=>KP (qN k r h)
 have tF:∀id∈CQ s rows d,∃j r,MH rows id=(j:Nat)∧rows[j]?=some r:=fun id h=>by
  unfold CQ at h
  split at h
  ·exact eR hne h
  ·cases h
 have hlr:=fun (j:Nat) r (h:rows[j]?=some r)=>(HY (qN j r h)).2
 have h3:=fun id=>VY s rows id
 have h4:=fun id=>bR secret id
 have h5:=fun c l v=>u6 s c l v
 have pL:(CQ s rows d).length≤200:=by
  unfold CQ
  split
  ·exact Nat.le_trans (UV s d rows) nG
  ·exact Nat.zero_le _
 have np:=Oz s rows picks secret (CQ s rows d)
 have nk:=fun (k:Nat) (id:Int) h=>@Jm s rows picks secret (CQ s rows d) k id h
 have hz0:Z6 s rows picks secret ((CQ s rows d).take 0)=[]:=rfl
 have nt:Z6 s rows picks secret (CQ s rows d)=Z6 s rows picks secret ((CQ s rows d).take (CQ s rows d).length):=by rw[List.take_length]
 rw[nt]
 have oZ:∀(id:Int) (j:Nat) (r:List Int),MH rows id=(j:Nat)→rows[j]?=some r→Fv s rows picks secret id=UU secret id::picks.map fun p=>G2 s p.col p.lev (r.getD p.col.toNat 0):=fun id j r h1 h2=>by unfold Fv;rw[h1,show ((j:Int)).toNat=j from rfl,D7 h2]
 generalize Z6 s rows picks secret=BR at *
 generalize Fv s rows picks secret=BW at *
 generalize CQ s rows d=ids at *
 generalize UU secret=KS at *
 generalize MH rows=FD at *
 refine B5 Tryz.func38 106 fun mK E h0=>?_
 clear mK
 repeat'((first|(refine E6 8 ?_;refine R2 (id:=8) (σ':=⟨[(2,.sl 2 (picks.map A8)),(3,.i secret),(4,.iptr (R7 s rows)),(5,.iptr (Lo d)),(8,.ref 2 0)],3,[(2,some (.box [.str [],.i 0,.v (.slice none 0 0),.v (.slice none 0 0)]))]⟩) (A6 h0) ?_;refine F3 (id:=8) ⟨[(2,.sl 2 (picks.map A8)),(3,.i secret),(4,.iptr (R7 s rows)),(5,.iptr (Lo d)),(8,.ref 2 0),(11,.ref 3 0)],4,[(2,some (.box [.str [],.i 0,.v (.slice none 0 0),.v (.slice none 0 0)])),(3,some (.box [.str d.prj,.i 0,.sl 2 (picks.map A8),.v (.slice none 0 0)]))]⟩ ?_ ?_)|refine A0 h1 ?_|refine A0 rU ?_|refine A0 h2 ?_ |refine S2 ?_|(refine T6 ?_ ?_<;>intro h<;>try exact V1 h)|intro el mI mJ|intro el mI|exact T4|refine T5 ?_ ?_|intro ex)<;>try conv=>whnf)
 all_goals first
  |(exfalso;omega)
  |exact A7 h0 rfl ⟨rfl,rfl,rfl,rfl,rfl,rfl,trivial⟩ ⟨rfl,rfl,trivial⟩ rfl rfl rfl
  |exact B9 (Aj 3 4 h0 rfl rfl) (A7 h0 rfl ⟨rfl,rfl,rfl,rfl,rfl,rfl,trivial⟩ ⟨rfl,rfl,trivial⟩ rfl rfl rfl)
  |skip
 refine A9 (ι:=Nat) (fun k=>⟨[(2,.sl 2 (picks.map A8)),(3,.i secret),(4,.iptr (R7 s rows)),(8,.ref 2 0),(11,.ref 3 0),(12,.sl 1 (ids.map wA)),(13,.i k)],4,[(2,some (.box [.str [],.i 0,.v (.slice none 0 0),.v (.slice none 0 0)])),(3,some (.box [.str d.prj,.i 0,.sl 2 (picks.map A8),.sl 1 ((BR (ids.take k)).map D2)]))]⟩)
  (fun k=>k≤ids.length) (fun k=>ids.length-k) 0 (Nat.zero_le _)
  (B9 (aP 3 [.str d.prj,.i 0,.sl 2 (picks.map A8),.sl 1 []] rfl ⟨.refl _,.refl _,.refl _,.nil 1,trivial⟩) (A7 h0 rfl ⟨rfl,rfl,rfl,rfl,rfl,rfl,rfl,trivial⟩ ⟨rfl,congrArg (fun z:List (List Int)=>C4.box [.str d.prj,.i 0,.sl 2 (picks.map A8),.sl 1 (z.map D2)]) hz0,trivial⟩ rfl rfl rfl)) (fun k hK=>?_)
 obtain⟨no,mj⟩:=np k hK
 by_cases mT:k<ids.length
 ·obtain⟨id,hi⟩:∃id,ids[k]?=some id:=⟨_,List.getElem?_eq_getElem mT⟩
  have nO:ids[((k:Nat):Int).toNat]?=some id:=hi
  obtain⟨j,r,hj,yW⟩:=tF id (List.mem_of_getElem? hi)
  have mR:=nk k id hi
  have hbw:=oZ id j r hj yW
  have hf:=h3 id
  have hk4:=h4 id
  have ql:=hlr j r yW
  have su:=F0 yW
  have zj:rows[(FD id).toNat]?=some r:=by rw[hj];exact yW
  have hfd:0≤FD id∧FD id<rows.length:=by omega
  have qF:=TP (BR (ids.take k)) (BW id) (by omega) mj (by rw[hbw];simp)
  rw[hbw]at qF mR
  generalize hV:(picks.map fun p=>G2 s p.col p.lev (r.getD p.col.toNat 0))=V at *
  have hVl:V.length=picks.length:=by rw[←hV,List.length_map]
  have hVg:∀(q:Nat) p v,picks[q]?=some p→r[p.col.toNat]?=some v→V[q]?=some (G2 s p.col p.lev v):=fun q p v h1 h2=>by rw[←hV,List.getElem?_map,h1];show some (G2 s p.col p.lev (r.getD p.col.toNat 0))=_;rw[D7 h2]
  generalize KS id=key at *
  generalize FD id=fd at *
  generalize BR (ids.take k)=B at *
  repeat'((first|(refine A2 (x:=id) nO (by omega) ?_)|(refine A2 (x:=r) zj (by omega) ?_)|refine A0 hf ?_|refine A0 hk4 ?_|refine R1 (T:=37) rfl ?_|(refine B0 ?_ ?_;kernel_rfl) |refine S2 ?_|(refine T6 ?_ ?_<;>intro h<;>try exact V1 h)|intro el mI mJ|intro el mI|exact T4|refine T5 ?_ ?_|intro ex)<;>try conv=>whnf)
  all_goals first
   |(exfalso;omega)
   |skip
  refine A9 (ι:=Nat) (fun q=>⟨[(2,.sl 2 (picks.map A8)),(3,.i secret),(4,.iptr (R7 s rows)),(8,.ref 2 0),(11,.ref 3 0),(12,.sl 1 (ids.map wA)),(13,.i k),(14,.sl 1 (r.map wA)),(15,.row 4 0 (q+1)),(16,.i q)],5,[(2,some (.box [.str [],.i 0,.v (.slice none 0 0),.v (.slice none 0 0)])),(3,some (.box [.str d.prj,.i 0,.sl 2 (picks.map A8),.sl 1 (B.map D2)])),(4,some (.row 3 1 0 ((key::V.take q).map wA)))]⟩)
   (fun q=>q≤picks.length) (fun q=>picks.length-q) 0 (Nat.zero_le _)
   (A6 h0) (fun q hq=>?_)
  by_cases qo:q<picks.length
  ·obtain⟨p,zn⟩:∃p,picks[q]?=some p:=⟨_,List.getElem?_eq_getElem qo⟩
   have zL:picks[((q:Nat):Int).toNat]?=some p:=zn
   obtain⟨hp1,hp2⟩:=hp p (List.mem_of_getElem? zn)
   obtain⟨v,hvr⟩:∃v,r[p.col.toNat]?=some v:=⟨_,List.getElem?_eq_getElem (by omega)⟩
   have hc:=h5 p.col p.lev v
   have hVq:=hVg q p v zn hvr
   have pM:(key::V.take (q+1)).map wA=(key::V.take q).map wA++[[.i (G2 s p.col p.lev v)]]:=by rw[E7 hVq];simp
   have hql2:(V.take q).length=q:=by rw[List.length_take];omega
   generalize G2 s p.col p.lev v=z at *
   repeat'((first|(refine F3 (id:=18) ⟨[(2,.sl 2 (picks.map A8)),(3,.i secret),(4,.iptr (R7 s rows)),(8,.ref 2 0),(11,.ref 3 0),(12,.sl 1 (ids.map wA)),(13,.i k),(14,.sl 1 (r.map wA)),(15,.row 4 0 (q+1+1)),(16,.i q)],5,[(2,some (.box [.str [],.i 0,.v (.slice none 0 0),.v (.slice none 0 0)])),(3,some (.box [.str d.prj,.i 0,.sl 2 (picks.map A8),.sl 1 (B.map D2)])),(4,some (.row 3 1 0 ((key::V.take (q+1)).map wA)))]⟩ ?_ ?_)|(refine A2 (x:=p) zL (by omega) ?_)|(refine A2 (x:=v) hvr (by omega) ?_)|refine A0 hc ?_ |refine S2 ?_|(refine T6 ?_ ?_<;>intro h<;>try exact V1 h)|intro el mI mJ|intro el mI|exact T4|refine T5 ?_ ?_|intro ex)<;>try conv=>whnf)
   all_goals first
    |(exfalso;omega)
    |exact A7 h0 rfl ⟨rfl,rfl,rfl,rfl,rfl,rfl,rfl,rfl,rfl,rfl,trivial⟩ ⟨rfl,rfl,⟨_,congrArg (C4.row 3 1 _) pM⟩,trivial⟩ rfl rfl rfl
    |exact⟨q+1,by omega,by omega,A6 h0⟩
  have tN:q=picks.length:=by omega
  subst tN
  rw[List.take_of_length_le (by omega:V.length≤picks.length)]
  repeat'((first|refine A0 qF ?_ |refine S2 ?_|(refine T6 ?_ ?_<;>intro h<;>try exact V1 h)|intro el mI mJ|intro el mI|exact T4|refine T5 ?_ ?_|intro ex|refine I4 4 ?_)<;>try conv=>whnf)
  all_goals first
   |(exfalso;omega)
   |exact⟨k+1,by omega,by omega,A7 h0 rfl ⟨rfl,rfl,rfl,rfl,rfl,rfl,rfl,trivial⟩ ⟨rfl,congrArg (fun z:List (List Int)=>C4.box [.str d.prj,.i 0,.sl 2 (picks.map A8),.sl 1 (z.map D2)]) mR,trivial⟩ rfl rfl rfl⟩
 have nP:k=ids.length:=by omega
 subst nP
 repeat'((first|refine S2 ?_|(refine T6 ?_ ?_<;>intro h<;>try exact V1 h)|intro el mI mJ|intro el mI|exact T4|refine T5 ?_ ?_|intro ex)<;>try conv=>whnf)
 all_goals first
  |(exfalso;omega)
  |exact S8 rfl rfl rfl (.refl _) rfl (.refl _) rfl
def PF(l:List UInt8)(a:Nat):Int×Nat :=
 (((C0 l a 60000).1:Int)*((C0 l (C0 l a 60000).2 60000).1:Int)+((C0 l (C0 l (C0 l a 60000).2 60000).2 7).1:Int),(C0 l (C0 l (C0 l a 60000).2 60000).2 7).2)
theorem Wa(l:List UInt8)(a:Nat)(hl:l.length≤400):B7 Tryz.prog 39 1 (U4 l a) [.ref 0 0] 1 (U4 l (PF l a).2) (.i (PF l a).1):=by
 have h1:=I5 l a 60000 hl
 have h2:=I5 l (C0 l a 60000).2 60000 hl
 have h3:=I5 l (C0 l (C0 l a 60000).2 60000).2 7 hl
 have b1:=I2 l a (n:=60000) (by decide)
 have b2:=I2 l (C0 l a 60000).2 (n:=60000) (by decide)
 have b3:=I2 l (C0 l (C0 l a 60000).2 60000).2 (n:=7) (by decide)
 unfold PF
 dsimp only
 generalize C0 l (C0 l (C0 l a 60000).2 60000).2 7=z at *
 generalize C0 l (C0 l a 60000).2 60000=y at *
 generalize C0 l a 60000=x at *
 obtain⟨x,p⟩:=x
 obtain⟨y,q⟩:=y
 obtain⟨z,r⟩:=z
 dsimp only at *
 have h4:x*y≤60000*60000:=Nat.mul_le_mul (by omega) (by omega)
 have h5:((x*y:Nat):Int)=(x:Int)*(y:Int):=Int.natCast_mul x y
 have h6:0≤(x:Int)*(y:Int)∧(x:Int)*(y:Int)≤3600000000:=by omega
 refine Y6 Tryz.func39 11 fun E h0=>?_
 repeat'((first|refine nc [0] [0] h1 rfl rfl rfl ⟨rfl,trivial⟩ ?_|refine nc [0] [0] h2 rfl rfl rfl ⟨rfl,trivial⟩ ?_|refine nc [0] [0] h3 rfl rfl rfl ⟨rfl,trivial⟩ ?_ |refine S2 ?_|(refine T6 ?_ ?_<;>intro h<;>try exact V1 h)|intro el mI mJ|intro el mI|exact T4|refine T5 ?_ ?_|intro ex)<;>try conv=>whnf)
 all_goals first
  |(exfalso;omega)
  |exact H4 (A6 h0)
def oD:B6:=.mk 1 0 0 0 0 []
end Go.Proofs.YtiphlhoclaogjaaGreatDoor
