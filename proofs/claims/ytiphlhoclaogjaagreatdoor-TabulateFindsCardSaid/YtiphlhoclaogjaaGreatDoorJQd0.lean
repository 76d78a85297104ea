/- Chapter 13: owners, the reference. -/
import Derived.Test.YtiphlhoclaogjaaGreatDoorJTx3
import Derived.Test.YtiphlhoclaogjaaGreatDoorJTa5
import Derived.Test.YtiphlhoclaogjaaGreatDoorJB5
import Derived.Test.YtiphlhoclaogjaaGreatDoorJTa8
import Derived.Test.YtiphlhoclaogjaaGreatDoorJF6
set_option linter.unusedVariables false
set_option linter.unnecessarySimpa false
set_option linter.unusedSimpArgs false
set_option maxHeartbeats 64000000
namespace Go.Proofs.YtiphlhoclaogjaaGreatDoor
open Go Go.Av
attribute [local irreducible] C9 B3 C8 D1 DQ D0 C7 St.le A3 B8
set_option maxRecDepth 100000
def Zg(s:A4)(d:Dm)(r:List Int):Bool:=decide (Tp s d.coh r=1) && VL d.part d.of d.seed (r.headD 0)
def HQ(s:A4)(d:Dm)(l:List (List Int)):List Int:=(l.filter (Zg s d)).map fun r=>r.headD 0
def Cu(s:A4)(rows:List (List Int))(d:Dm):List Int:=if GM s rows=true∧GH s d=0 then HQ s d rows else []
theorem Re{s:A4}{rows:List (List Int)}(h:GM s rows=true):C3 s=0∧rows.length≤200∧∀(k:Nat) r,rows[k]?=some r→BD s r=0:=by
 unfold GM at h
 have h:=of_decide_eq_true h
 refine⟨h.1,h.2.1,fun k r hk=>?_⟩
 have:=P2 h.2.2 k r hk
 unfold ME at this
 by_cases hr:BD s r=0
 ·exact hr
 ·rw[if_pos hr]at this;cases this
theorem cR(s:A4)(d:Dm)(l:List (List Int))(r:List Int):HQ s d (l++[r])=HQ s d l++(if Zg s d r=true then [r.headD 0]else []):=by
 unfold HQ
 rw[List.filter_append,List.map_append]
 congr 1
 simp only[List.filter_cons,List.filter_nil]
 split<;>rfl
theorem VO(s:A4)(d:Dm)(l:List (List Int)):(HQ s d l).length≤l.length:=by
 unfold HQ
 rw[List.length_map]
 exact List.length_filter_le _ _
theorem VP(s:A4)(rows:List (List Int))(d:Dm):A3 Tryz.prog 94 [.agg (R2 s rows),KO d] (.sl 1 ((Cu s rows d).map wA)):=by
 have h1:=MF s rows
 have h2:=Ke s d
 unfold Cu
 by_cases hc:¬(GM s rows=true∧GH s d=0)
 ·rw[if_neg hc]
  generalize GH s d=e at *
  cases hv:GM s rows with
  |false =>
   rw[hv]at h1
   refine B5 Tryz.func94 58 fun nL E h0=>?_
   clear nL
   repeat'((first|refine A0 h1 ?_|refine A0 h2 ?_ |refine S2 ?_|(refine T6 ?_ ?_<;>intro h<;>try exact V1 h)|intro el nJ nK|intro el nJ|exact T4|refine T5 ?_ ?_|intro ex)<;>try conv=>whnf)
   all_goals first
    |(exfalso;omega)
    |exact p8 rfl rfl
  |true =>
   rw[hv]at h1
   have he:¬e=0:=fun h=>hc ⟨hv,h⟩
   refine B5 Tryz.func94 58 fun nL E h0=>?_
   clear nL
   repeat'((first|refine A0 h1 ?_|refine A0 h2 ?_ |refine S2 ?_|(refine T6 ?_ ?_<;>intro h<;>try exact V1 h)|intro el nJ nK|intro el nJ|exact T4|refine T5 ?_ ?_|intro ex)<;>try conv=>whnf)
   all_goals first
    |(exfalso;omega)
    |exact p8 rfl rfl
 have hc:=Decidable.of_not_not hc
 rw[if_pos hc]
 obtain⟨hv,he⟩:=hc
 rw[hv]at h1
 rw[he]at h2
 obtain⟨hr,oK,rO⟩:=Re hv
 have h3:=fun r=>ZQ s d.coh r
 have h4:=fun id=>fY d.part d.of d.seed id
 have oq:=cR s d
 have oY:=VO s d
 have qK:∀r,Zg s d r=(decide (Tp s d.coh r=1) && VL d.part d.of d.seed (r.headD 0)):=fun _=>rfl
 have pV:HQ s d []=[]:=rfl
 generalize HQ s d=FK at *
 generalize Zg s d=PP at *
 refine B5 Tryz.func94 58 fun nL E h0=>?_
 clear nL
 repeat'((first|refine A0 h1 ?_|refine A0 h2 ?_ |refine S2 ?_|(refine T6 ?_ ?_<;>intro h<;>try exact V1 h)|intro el nJ nK|intro el nJ|exact T4|refine T5 ?_ ?_|intro ex)<;>try conv=>whnf)
 all_goals first
  |(exfalso;omega)
  |skip
 refine B0 (ι:=Nat) (fun k=>⟨[(2,.ref 0 0),(3,.ref 1 0),(5,.row 2 0 (FK (rows.take k)).length),(6,.i k)],3,[(0,some (.box (R2 s rows))),(1,some (.box (Mn d))),(2,some (.row 3 1 0 ((FK (rows.take k)).map wA)))]⟩)
  (fun k=>k≤rows.length) (fun k=>rows.length-k) 0 (Nat.zero_le _)
  (C0 (I0 (d:=5) (e:=3) (sz:=1) rfl) (A7 h0 rfl ⟨rfl,rfl,congrArg (fun z:List Int=>some (AV.row 2 0 z.length)) pV.symm,rfl,trivial⟩ ⟨rfl,rfl,⟨0,congrArg (fun z:List Int=>C4.row 3 1 0 (z.map wA)) pV⟩,trivial⟩ rfl rfl rfl)) (fun k hK=>?_)
 by_cases nU:k<rows.length
 ·obtain⟨r,pq⟩:∃r,rows[k]?=some r:=⟨_,List.getElem?_eq_getElem nU⟩
  have qG:rows[((k:Nat):Int).toNat]?=some r:=pq
  obtain⟨r0,om⟩:=LK (rO k r pq)
  have zc:=h3 r
  have hi4:=h4 r0
  have nS:=oq (rows.take k) r
  have wx:=qK r
  rw[←F1 pq,O6 om]at nS
  rw[O6 om]at wx
  have uN:=oY (rows.take k)
  rw[List.length_take]at uN
  generalize Tp s d.coh r=ev at *
  generalize VL d.part d.of d.seed r0=b at *
  by_cases pm:ev=1
  ·rw[decide_eq_true pm,Bool.true_and]at wx
   rw[wx]at nS
   cases b
   ·rw[if_neg (by decide),List.append_nil]at nS
    repeat'((first|(refine A2 (x:=r) qG (by omega) ?_)|(refine A2 (x:=r0) om (by omega) ?_)|refine A0 zc ?_|refine A0 hi4 ?_|(refine A9 ?_ ?_;kernel_rfl) |refine S2 ?_|(refine T6 ?_ ?_<;>intro h<;>try exact V1 h)|intro el nJ nK|intro el nJ|exact T4|refine T5 ?_ ?_|intro ex)<;>try conv=>whnf)
    all_goals first
     |(exfalso;omega)
     |exact⟨k+1,by omega,by omega,A7 h0 rfl ⟨rfl,rfl,congrArg (fun z:List Int=>some (AV.row 2 0 z.length)) nS.symm,rfl,trivial⟩ ⟨rfl,rfl,⟨_,congrArg (fun z:List Int=>C4.row 3 1 _ (z.map wA)) nS⟩,trivial⟩ rfl rfl rfl⟩
   ·rw[if_pos rfl]at nS
    repeat'((first|(refine A2 (x:=r) qG (by omega) ?_)|(refine A2 (x:=r0) om (by omega) ?_)|refine A0 zc ?_|refine A0 hi4 ?_|(refine A9 ?_ ?_;kernel_rfl) |refine S2 ?_|(refine T6 ?_ ?_<;>intro h<;>try exact V1 h)|intro el nJ nK|intro el nJ|exact T4|refine T5 ?_ ?_|intro ex)<;>try conv=>whnf)
    all_goals first
     |(exfalso;omega)
     |exact⟨k+1,by omega,by omega,A7 h0 rfl ⟨rfl,rfl,congrArg (fun z:Nat=>some (AV.row 2 0 z)) (by rw[nS];simp[L6]),rfl,trivial⟩ ⟨rfl,rfl,⟨_,congrArg (C4.row 3 1 _) (by rw[nS,List.map_append];rfl)⟩,trivial⟩ rfl rfl rfl⟩
  ·rw[decide_eq_false pm,Bool.false_and]at wx
   rw[wx,if_neg (by decide),List.append_nil]at nS
   repeat'((first|(refine A2 (x:=r) qG (by omega) ?_)|(refine A2 (x:=r0) om (by omega) ?_)|refine A0 zc ?_|refine A0 hi4 ?_|(refine A9 ?_ ?_;kernel_rfl) |refine S2 ?_|(refine T6 ?_ ?_<;>intro h<;>try exact V1 h)|intro el nJ nK|intro el nJ|exact T4|refine T5 ?_ ?_|intro ex)<;>try conv=>whnf)
   all_goals first
    |(exfalso;omega)
    |exact⟨k+1,by omega,by omega,A7 h0 rfl ⟨rfl,rfl,congrArg (fun z:List Int=>some (AV.row 2 0 z.length)) nS.symm,rfl,trivial⟩ ⟨rfl,rfl,⟨_,congrArg (fun z:List Int=>C4.row 3 1 _ (z.map wA)) nS⟩,trivial⟩ rfl rfl rfl⟩
 ·have he:rows.take k=rows:=List.take_of_length_le (by omega)
  rw[he]
  repeat'((first|refine S2 ?_|(refine T6 ?_ ?_<;>intro h<;>try exact V1 h)|intro el nJ nK|intro el nJ|exact T4|refine T5 ?_ ?_|intro ex)<;>try conv=>whnf)
  all_goals first
   |(exfalso;omega)
   |exact A1 rfl rfl
def GN(s:A4)(rows:List (List Int))(picks:List Pk)(secret id:Int):List Int:=VN secret id::picks.map fun p=>G1 s p.col p.lev ((rows.getD (NC rows id).toNat []).getD p.col.toNat 0)
def Z7(s:A4)(rows:List (List Int))(picks:List Pk)(secret:Int)(ids:List Int):List (List Int):=ids.foldl (fun tV id=>Bo tV (GN s rows picks secret id)) []
def Kf(s:A4)(rows:List (List Int))(secret e:Int):Int:=if GM s rows=false then 13 else if ¬e=0 then e else if secret<0∨1152921504606846976≤secret then 2 else 0
def QC(s:A4)(rows:List (List Int))(d:Dm)(picks:List Pk)(secret e:Int):J9:=if Kf s rows secret e=0 then ⟨d.prj,0,picks,Z7 s rows picks secret (Cu s rows d)⟩else ⟨[],0,[],[]⟩
theorem fa{s:A4}{d:Dm}{rows:List (List Int)}(hne:∀(k:Nat) r,rows[k]?=some r→∃z,r[0]?=some z){id:Int}(h:id∈HQ s d rows):∃j r,NC rows id=(j:Nat)∧rows[j]?=some r:=by
 unfold HQ at h
 rw[List.mem_map]at h
 obtain⟨r,hr,rfl⟩:=h
 have hm:=(List.mem_filter.1 hr).1
 have key:∀(l:List (List Int)) (k:Nat),r∈l→(∀x∈l,∃z,x[0]?=some z)→∃j x,D9 (fun q:List Int=>decide (0<q.length) && decide (q.headD 0=r.headD 0)) l k=((k+j:Nat):Int)∧l[j]?=some x:=by
  intro l
  induction l with
  |nil=>intro k h;cases h
  |cons a t ih =>
   intro k h hz
   rw[D9]
   by_cases hp:(decide (0<a.length) && decide (a.headD 0=r.headD 0))=true
   ·rw[if_pos hp];exact⟨0,a,rfl,rfl⟩
   ·rw[if_neg hp]
    rcases List.mem_cons.1 h with rfl|h
    ·exfalso
     obtain⟨z,hz⟩:=hz _ (List.mem_cons_self ..)
     have:=E9 hz
     apply hp
     simp;omega
    ·obtain⟨j,x,h1,h2⟩:=ih (k+1) h fun x hx=>hz x (List.mem_cons_of_mem _ hx)
     exact⟨j+1,x,by rw[show (k:Int)+1=((k+1:Nat):Int) by omega,h1];congr 1;omega,h2⟩
 obtain⟨j,x,h1,h2⟩:=key rows 0 hm fun x hx=>by
  obtain⟨k,hk⟩:=List.getElem?_of_mem hx
  exact hne k x hk
 exact⟨j,x,by rw[Nat.zero_add]at h1;exact h1,h2⟩
theorem Kg(s:A4)(rows:List (List Int))(picks:List Pk)(secret:Int){ids:List Int}{k:Nat}{id:Int}(h:ids[k]?=some id):Z7 s rows picks secret (ids.take (k+1))=Bo (Z7 s rows picks secret (ids.take k)) (GN s rows picks secret id):=by
 unfold Z7
 rw[F1 h,List.foldl_append]
 rfl
theorem PC(s:A4)(rows:List (List Int))(picks:List Pk)(secret:Int)(ids:List Int):∀k:Nat,k≤ids.length→(Z7 s rows picks secret (ids.take k)).length≤k∧∀y∈Z7 s rows picks secret (ids.take k),y≠[]
 |0,_=>⟨by simp[Z7],fun y hy=>by simp[Z7]at hy⟩
 |k+1,hk=>by
  obtain⟨id,hi⟩:∃id,ids[k]?=some id:=⟨_,List.getElem?_eq_getElem (by omega)⟩
  obtain⟨h1,h2⟩:=PC s rows picks secret ids k (by omega)
  rw[Kg s rows picks secret hi]
  have:=Mi (Z7 s rows picks secret (ids.take k)) (GN s rows picks secret id)
  exact⟨by omega,XU (by unfold GN;simp) h2⟩
theorem QD:NL (.agg [.str [],.i 0,.v (.slice none 0 0),.v (.slice none 0 0)]) (X9 ⟨[],0,[],[]⟩):=CX ⟨.refl _,.refl _,.nil 2,.nil 1,trivial⟩
theorem WR(s:A4)(rows:List (List Int))(d:Dm)(picks:List Pk)(secret e:Int)(pk:picks.length≤1000)(sg:A3 Tryz.prog 93 [sA s,KO d,.sl 2 (picks.map A8)] (.i e))(hp:e=0→∀p∈picks,0≤p.col∧p.col<s.cols.length):A3 Tryz.prog 38 [.agg (R2 s rows),KO d,.sl 2 (picks.map A8),.i secret] (.tup [X9 (QC s rows d picks secret e),.i (Kf s rows secret e)]):=by
 have h1:=MF s rows
 by_cases hE:¬Kf s rows secret e=0
 ·have hX:QC s rows d picks secret e=⟨[],0,[],[]⟩:=if_neg hE
  rw[hX]
  unfold Kf at *
  cases hv:GM s rows with
  |false =>
   rw[hv]at h1
   rw[if_pos rfl]
   refine B5 Tryz.func38 106 fun nL E h0=>?_
   clear nL
   repeat'((first|refine A0 h1 ?_|refine A0 sg ?_ |refine S2 ?_|(refine T6 ?_ ?_<;>intro h<;>try exact V1 h)|intro el nJ nK|intro el nJ|exact T4|refine T5 ?_ ?_|intro ex)<;>try conv=>whnf)
   all_goals first
    |(exfalso;omega)
    |exact T3 rfl rfl rfl QD rfl (.refl _) rfl
  |true =>
   rw[hv]at h1 hE
   rw[if_neg (by decide)]at hE ⊢
   by_cases he:¬e=0
   ·rw[if_pos he]
    refine B5 Tryz.func38 106 fun nL E h0=>?_
    clear nL
    repeat'((first|refine A0 h1 ?_|refine A0 sg ?_ |refine S2 ?_|(refine T6 ?_ ?_<;>intro h<;>try exact V1 h)|intro el nJ nK|intro el nJ|exact T4|refine T5 ?_ ?_|intro ex)<;>try conv=>whnf)
    all_goals first
     |(exfalso;omega)
     |exact T3 rfl rfl rfl QD rfl (.refl _) rfl
   ·rw[if_neg he]at hE ⊢
    by_cases hs:secret<0∨1152921504606846976≤secret
    ·rw[if_pos hs]
     refine B5 Tryz.func38 106 fun nL E h0=>?_
     clear nL
     repeat'((first|refine A0 h1 ?_|refine A0 sg ?_ |refine S2 ?_|(refine T6 ?_ ?_<;>intro h<;>try exact V1 h)|intro el nJ nK|intro el nJ|exact T4|refine T5 ?_ ?_|intro ex)<;>try conv=>whnf)
     all_goals first
      |(exfalso;omega)
      |exact T3 rfl rfl rfl QD rfl (.refl _) rfl
    ·rw[if_neg hs]at hE;exact absurd rfl hE
 have hE:=Decidable.of_not_not hE
 have hX:QC s rows d picks secret e=⟨d.prj,0,picks,Z7 s rows picks secret (Cu s rows d)⟩:=if_pos hE
 rw[hX,hE]
 have hv:GM s rows=true:=by
  cases hv:GM s rows with
  |true=>rfl
  |false=>unfold Kf at hE;rw[if_pos hv]at hE;cases hE
 unfold Kf at hE
 rw[if_neg (by rw[hv];decide)]at hE
 have he:e=0:=by
  by_cases he:e=0
  ·exact he
  ·rw[if_pos he]at hE;exact absurd hE he
 rw[if_neg (by omega)]at hE
 have hs:¬(secret<0∨1152921504606846976≤secret):=fun h=>by rw[if_pos h]at hE;cases hE
 subst he
 have hp:=hp rfl
 rw[hv]at h1
 obtain⟨hr,oK,rO⟩:=Re hv
 have h2:=VP s rows d
 have hne:=fun k r h=>LK (rO k r h)
 have uT:∀id∈Cu s rows d,∃j r,NC rows id=(j:Nat)∧rows[j]?=some r:=fun id h=>by
  unfold Cu at h
  split at h
  ·exact fa hne h
  ·cases h
 have hlr:=fun (j:Nat) r (h:rows[j]?=some r)=>(IX (rO j r h)).2
 have h3:=fun id=>WQ s rows id
 have h4:=fun id=>cQ secret id
 have h5:=fun c l v=>AN s c l v
 have qJ:(Cu s rows d).length≤200:=by
  unfold Cu
  split
  ·exact Nat.le_trans (VO s d rows) oK
  ·exact Nat.zero_le _
 have ol:=PC s rows picks secret (Cu s rows d)
 have oq:=fun (k:Nat) (id:Int) h=>@Kg s rows picks secret (Cu s rows d) k id h
 have hz0:Z7 s rows picks secret ((Cu s rows d).take 0)=[]:=rfl
 have oz:Z7 s rows picks secret (Cu s rows d)=Z7 s rows picks secret ((Cu s rows d).take (Cu s rows d).length):=by rw[List.take_length]
 rw[oz]
 have pc:∀(id:Int) (j:Nat) (r:List Int),NC rows id=(j:Nat)→rows[j]?=some r→GN s rows picks secret id=VN secret id::picks.map fun p=>G1 s p.col p.lev (r.getD p.col.toNat 0):=fun id j r h1 h2=>by unfold GN;rw[h1,show ((j:Int)).toNat=j from rfl,D7 h2]
 generalize Z7 s rows picks secret=BR at *
 generalize GN s rows picks secret=BW at *
 generalize Cu s rows d=ids at *
 generalize VN secret=KS at *
 generalize NC rows=FD at *
 refine B5 Tryz.func38 106 fun nL E h0=>?_
 clear nL
 repeat'((first|(refine E7 8 ?_;refine R6 (id:=8) (σ':=⟨[(2,.sl 2 (picks.map A8)),(3,.i secret),(4,.iptr (R2 s rows)),(5,.iptr (Mn d)),(8,.ref 2 0)],3,[(2,some (.box [.str [],.i 0,.v (.slice none 0 0),.v (.slice none 0 0)]))]⟩) (A6 h0) ?_;refine F5 (id:=8) ⟨[(2,.sl 2 (picks.map A8)),(3,.i secret),(4,.iptr (R2 s rows)),(5,.iptr (Mn d)),(8,.ref 2 0),(11,.ref 3 0)],4,[(2,some (.box [.str [],.i 0,.v (.slice none 0 0),.v (.slice none 0 0)])),(3,some (.box [.str d.prj,.i 0,.sl 2 (picks.map A8),.v (.slice none 0 0)]))]⟩ ?_ ?_)|refine A0 h1 ?_|refine A0 sg ?_|refine A0 h2 ?_ |refine S2 ?_|(refine T6 ?_ ?_<;>intro h<;>try exact V1 h)|intro el nJ nK|intro el nJ|exact T4|refine T5 ?_ ?_|intro ex)<;>try conv=>whnf)
 all_goals first
  |(exfalso;omega)
  |exact A7 h0 rfl ⟨rfl,rfl,rfl,rfl,rfl,rfl,trivial⟩ ⟨rfl,rfl,trivial⟩ rfl rfl rfl
  |exact C0 (CP 3 4 h0 rfl rfl) (A7 h0 rfl ⟨rfl,rfl,rfl,rfl,rfl,rfl,trivial⟩ ⟨rfl,rfl,trivial⟩ rfl rfl rfl)
  |skip
 refine B0 (ι:=Nat) (fun k=>⟨[(2,.sl 2 (picks.map A8)),(3,.i secret),(4,.iptr (R2 s rows)),(8,.ref 2 0),(11,.ref 3 0),(12,.sl 1 (ids.map wA)),(13,.i k)],4,[(2,some (.box [.str [],.i 0,.v (.slice none 0 0),.v (.slice none 0 0)])),(3,some (.box [.str d.prj,.i 0,.sl 2 (picks.map A8),.sl 1 ((BR (ids.take k)).map D4)]))]⟩)
  (fun k=>k≤ids.length) (fun k=>ids.length-k) 0 (Nat.zero_le _)
  (C0 (bQ 3 [.str d.prj,.i 0,.sl 2 (picks.map A8),.sl 1 []] rfl ⟨.refl _,.refl _,.refl _,.nil 1,trivial⟩) (A7 h0 rfl ⟨rfl,rfl,rfl,rfl,rfl,rfl,rfl,trivial⟩ ⟨rfl,congrArg (fun z:List (List Int)=>C4.box [.str d.prj,.i 0,.sl 2 (picks.map A8),.sl 1 (z.map D4)]) hz0,trivial⟩ rfl rfl rfl)) (fun k hK=>?_)
 obtain⟨ou,nl⟩:=ol k hK
 by_cases nU:k<ids.length
 ·obtain⟨id,hi⟩:∃id,ids[k]?=some id:=⟨_,List.getElem?_eq_getElem nU⟩
  have oI:ids[((k:Nat):Int).toNat]?=some id:=hi
  obtain⟨j,r,hj,yr⟩:=uT id (List.mem_of_getElem? hi)
  have nS:=oq k id hi
  have hbw:=pc id j r hj yr
  have hf:=h3 id
  have hk4:=h4 id
  have sC:=hlr j r yr
  have uQ:=E9 yr
  have zp:rows[(FD id).toNat]?=some r:=by rw[hj];exact yr
  have hfd:0≤FD id∧FD id<rows.length:=by omega
  have rF:=UL (BR (ids.take k)) (BW id) (by omega) nl (by rw[hbw];simp)
  rw[hbw]at rF nS
  generalize hV:(picks.map fun p=>G1 s p.col p.lev (r.getD p.col.toNat 0))=V at *
  have hVl:V.length=picks.length:=by rw[←hV,List.length_map]
  have hVg:∀(q:Nat) p v,picks[q]?=some p→r[p.col.toNat]?=some v→V[q]?=some (G1 s p.col p.lev v):=fun q p v h1 h2=>by rw[←hV,List.getElem?_map,h1];show some (G1 s p.col p.lev (r.getD p.col.toNat 0))=_;rw[D7 h2]
  generalize KS id=key at *
  generalize FD id=fd at *
  generalize BR (ids.take k)=B at *
  repeat'((first|(refine A2 (x:=id) oI (by omega) ?_)|(refine A2 (x:=r) zp (by omega) ?_)|refine A0 hf ?_|refine A0 hk4 ?_|refine R5 (T:=37) rfl ?_|(refine A9 ?_ ?_;kernel_rfl) |refine S2 ?_|(refine T6 ?_ ?_<;>intro h<;>try exact V1 h)|intro el nJ nK|intro el nJ|exact T4|refine T5 ?_ ?_|intro ex)<;>try conv=>whnf)
  all_goals first
   |(exfalso;omega)
   |skip
  refine B0 (ι:=Nat) (fun q=>⟨[(2,.sl 2 (picks.map A8)),(3,.i secret),(4,.iptr (R2 s rows)),(8,.ref 2 0),(11,.ref 3 0),(12,.sl 1 (ids.map wA)),(13,.i k),(14,.sl 1 (r.map wA)),(15,.row 4 0 (q+1)),(16,.i q)],5,[(2,some (.box [.str [],.i 0,.v (.slice none 0 0),.v (.slice none 0 0)])),(3,some (.box [.str d.prj,.i 0,.sl 2 (picks.map A8),.sl 1 (B.map D4)])),(4,some (.row 3 1 0 ((key::V.take q).map wA)))]⟩)
   (fun q=>q≤picks.length) (fun q=>picks.length-q) 0 (Nat.zero_le _)
   (A6 h0) (fun q hq=>?_)
  by_cases ru:q<picks.length
  ·obtain⟨p,zw⟩:∃p,picks[q]?=some p:=⟨_,List.getElem?_eq_getElem ru⟩
   have zm:picks[((q:Nat):Int).toNat]?=some p:=zw
   obtain⟨hp1,hp2⟩:=hp p (List.mem_of_getElem? zw)
   obtain⟨v,hvr⟩:∃v,r[p.col.toNat]?=some v:=⟨_,List.getElem?_eq_getElem (by omega)⟩
   have hc:=h5 p.col p.lev v
   have hVq:=hVg q p v zw hvr
   have qL:(key::V.take (q+1)).map wA=(key::V.take q).map wA++[[.i (G1 s p.col p.lev v)]]:=by rw[F1 hVq];simp
   have hql2:(V.take q).length=q:=by rw[List.length_take];omega
   generalize G1 s p.col p.lev v=z at *
   repeat'((first|(refine F5 (id:=18) ⟨[(2,.sl 2 (picks.map A8)),(3,.i secret),(4,.iptr (R2 s rows)),(8,.ref 2 0),(11,.ref 3 0),(12,.sl 1 (ids.map wA)),(13,.i k),(14,.sl 1 (r.map wA)),(15,.row 4 0 (q+1+1)),(16,.i q)],5,[(2,some (.box [.str [],.i 0,.v (.slice none 0 0),.v (.slice none 0 0)])),(3,some (.box [.str d.prj,.i 0,.sl 2 (picks.map A8),.sl 1 (B.map D4)])),(4,some (.row 3 1 0 ((key::V.take (q+1)).map wA)))]⟩ ?_ ?_)|(refine A2 (x:=p) zm (by omega) ?_)|(refine A2 (x:=v) hvr (by omega) ?_)|refine A0 hc ?_ |refine S2 ?_|(refine T6 ?_ ?_<;>intro h<;>try exact V1 h)|intro el nJ nK|intro el nJ|exact T4|refine T5 ?_ ?_|intro ex)<;>try conv=>whnf)
   all_goals first
    |(exfalso;omega)
    |exact A7 h0 rfl ⟨rfl,rfl,rfl,rfl,rfl,rfl,rfl,rfl,rfl,rfl,trivial⟩ ⟨rfl,rfl,⟨_,congrArg (C4.row 3 1 _) qL⟩,trivial⟩ rfl rfl rfl
    |exact⟨q+1,by omega,by omega,A6 h0⟩
  have uk:q=picks.length:=by omega
  subst uk
  rw[List.take_of_length_le (by omega:V.length≤picks.length)]
  repeat'((first|refine A0 rF ?_ |refine S2 ?_|(refine T6 ?_ ?_<;>intro h<;>try exact V1 h)|intro el nJ nK|intro el nJ|exact T4|refine T5 ?_ ?_|intro ex|refine I6 4 ?_)<;>try conv=>whnf)
  all_goals first
   |(exfalso;omega)
   |exact⟨k+1,by omega,by omega,A7 h0 rfl ⟨rfl,rfl,rfl,rfl,rfl,rfl,rfl,trivial⟩ ⟨rfl,congrArg (fun z:List (List Int)=>C4.box [.str d.prj,.i 0,.sl 2 (picks.map A8),.sl 1 (z.map D4)]) nS,trivial⟩ rfl rfl rfl⟩
 have oS:k=ids.length:=by omega
 subst oS
 repeat'((first|refine S2 ?_|(refine T6 ?_ ?_<;>intro h<;>try exact V1 h)|intro el nJ nK|intro el nJ|exact T4|refine T5 ?_ ?_|intro ex)<;>try conv=>whnf)
 all_goals first
  |(exfalso;omega)
  |exact T3 rfl rfl rfl (.refl _) rfl (.refl _) rfl
def QE(l:List UInt8)(a:Nat):Int×Nat :=
 (((C1 l a 60000).1:Int)*((C1 l (C1 l a 60000).2 60000).1:Int)+((C1 l (C1 l (C1 l a 60000).2 60000).2 7).1:Int),(C1 l (C1 l (C1 l a 60000).2 60000).2 7).2)
theorem WS(l:List UInt8)(a:Nat)(hl:l.length≤400):B8 Tryz.prog 39 1 (X7 l a) [.ref 0 0] 1 (X7 l (QE l a).2) (.i (QE l a).1):=by
 have h1:=J8 l a 60000 hl
 have h2:=J8 l (C1 l a 60000).2 60000 hl
 have h3:=J8 l (C1 l (C1 l a 60000).2 60000).2 7 hl
 have b1:=I4 l a (n:=60000) (by decide)
 have b2:=I4 l (C1 l a 60000).2 (n:=60000) (by decide)
 have b3:=I4 l (C1 l (C1 l a 60000).2 60000).2 (n:=7) (by decide)
 unfold QE
 dsimp only
 generalize C1 l (C1 l (C1 l a 60000).2 60000).2 7=z at *
 generalize C1 l (C1 l a 60000).2 60000=y at *
 generalize C1 l a 60000=x at *
 obtain⟨x,p⟩:=x
 obtain⟨y,q⟩:=y
 obtain⟨z,r⟩:=z
 dsimp only at *
 have h4:x*y≤60000*60000:=Nat.mul_le_mul (by omega) (by omega)
 have h5:((x*y:Nat):Int)=(x:Int)*(y:Int):=Int.natCast_mul x y
 have h6:0≤(x:Int)*(y:Int)∧(x:Int)*(y:Int)≤3600000000:=by omega
 refine c9 Tryz.func39 11 fun E h0=>?_
 repeat'((first|refine nc [0] [0] h1 rfl rfl rfl ⟨rfl,trivial⟩ ?_|refine nc [0] [0] h2 rfl rfl rfl ⟨rfl,trivial⟩ ?_|refine nc [0] [0] h3 rfl rfl rfl ⟨rfl,trivial⟩ ?_ |refine S2 ?_|(refine T6 ?_ ?_<;>intro h<;>try exact V1 h)|intro el nJ nK|intro el nJ|exact T4|refine T5 ?_ ?_|intro ex)<;>try conv=>whnf)
 all_goals first
  |(exfalso;omega)
  |exact H6 (A6 h0)
def mW:B7:=.mk 1 0 0 0 0 []
end Go.Proofs.YtiphlhoclaogjaaGreatDoor
