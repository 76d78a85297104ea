/- Chapter 13: an extract is built: the reference. -/
import Derived.Test.YtiphlhoclaogjaaGreatDoorSTx4
import Derived.Test.YtiphlhoclaogjaaGreatDoorSTa5
import Derived.Test.YtiphlhoclaogjaaGreatDoorSB5
import Derived.Test.YtiphlhoclaogjaaGreatDoorSQn1
import Derived.Test.YtiphlhoclaogjaaGreatDoorSF6
import Derived.Test.YtiphlhoclaogjaaGreatDoorSUa0
import Derived.Test.YtiphlhoclaogjaaGreatDoorSTc0
set_option linter.unusedVariables false
set_option linter.unnecessarySimpa false
set_option linter.unusedSimpArgs false
set_option maxHeartbeats 64000000
namespace Go.Proofs.YtiphlhoclaogjaaGreatDoor
open Go Go.Av
attribute [local irreducible] C7 B2 D3 C9 DQ D0 C8 St.le A3 B9
set_option maxRecDepth 100000
def FY(s:A4)(rows:List (List Int))(picks:List Pk)(secret id:Int):List Int:=US secret id::picks.map fun p=>G2 s p.col p.lev ((rows.getD (MO rows id).toNat []).getD p.col.toNat 0)
def W8(s:A4)(rows:List (List Int))(picks:List Pk)(secret:Int)(ids:List Int):List (List Int):=ids.foldl (fun qa id=>BL qa (FY s rows picks secret id)) []
def IP(s:A4)(rows:List (List Int))(secret e:Int):Int:=if FX s rows=false then 13 else if ¬e=0 then e else if secret<0∨1152921504606846976≤secret then 2 else 0
def MP(s:A4)(rows:List (List Int))(d:o6)(picks:List Pk)(secret e:Int):N5:=if IP s rows secret e=0 then ⟨d.prj,0,picks,W8 s rows picks secret (CS s rows d)⟩else ⟨[],0,[],[]⟩
theorem eB{s:A4}{d:o6}{rows:List (List Int)}(hne:∀(k:Nat) r,rows[k]?=some r→∃z,r[0]?=some z){id:Int}(h:id∈Gc s d rows):∃j r,MO rows id=(j:Nat)∧rows[j]?=some r:=by
 unfold Gc at h
 rw[List.mem_map]at h
 obtain⟨r,hr,rfl⟩:=h
 have hm:=(List.mem_filter.1 hr).1
 have key:∀(l:List (List Int)) (k:Nat),r∈l→(∀x∈l,∃z,x[0]?=some z)→∃j x,F4 (fun q:List Int=>decide (0<q.length) && decide (q.headD 0=r.headD 0)) l k=((k+j:Nat):Int)∧l[j]?=some x:=by
  intro l
  induction l with
  |nil=>intro k h;cases h
  |cons a t ih =>
   intro k h hz
   rw[F4]
   by_cases hp:(decide (0<a.length) && decide (a.headD 0=r.headD 0))=true
   ·rw[if_pos hp];exact⟨0,a,rfl,rfl⟩
   ·rw[if_neg hp]
    rcases List.mem_cons.1 h with rfl|h
    ·exfalso
     obtain⟨z,hz⟩:=hz _ (List.mem_cons_self ..)
     have:=F5 hz
     apply hp
     simp;omega
    ·obtain⟨j,x,h1,h2⟩:=ih (k+1) h fun x hx=>hz x (List.mem_cons_of_mem _ hx)
     exact⟨j+1,x,by rw[show (k:Int)+1=((k+1:Nat):Int) by omega,h1];congr 1;omega,h2⟩
 obtain⟨j,x,h1,h2⟩:=key rows 0 hm fun x hx=>by
  obtain⟨k,hk⟩:=List.getElem?_of_mem hx
  exact hne k x hk
 exact⟨j,x,by rw[Nat.zero_add]at h1;exact h1,h2⟩
theorem Jy(s:A4)(rows:List (List Int))(picks:List Pk)(secret:Int){ids:List Int}{k:Nat}{id:Int}(h:ids[k]?=some id):W8 s rows picks secret (ids.take (k+1))=BL (W8 s rows picks secret (ids.take k)) (FY s rows picks secret id):=by
 unfold W8
 rw[H6 h,List.foldl_append]
 rfl
theorem OK(s:A4)(rows:List (List Int))(picks:List Pk)(secret:Int)(ids:List Int):∀k:Nat,k≤ids.length→(W8 s rows picks secret (ids.take k)).length≤k∧∀y∈W8 s rows picks secret (ids.take k),y≠[]
 |0,_=>⟨by simp[W8],fun y hy=>by simp[W8]at hy⟩
 |k+1,hk=>by
  obtain⟨id,hi⟩:∃id,ids[k]?=some id:=⟨_,List.getElem?_eq_getElem (by omega)⟩
  obtain⟨h1,h2⟩:=OK s rows picks secret ids k (by omega)
  rw[Jy s rows picks secret hi]
  have:=Lt (W8 s rows picks secret (ids.take k)) (FY s rows picks secret id)
  exact⟨by omega,We (by unfold FY;simp) h2⟩
theorem PJ:NL (.agg [.str [],.i 0,.v (.slice none 0 0),.v (.slice none 0 0)]) (c9 ⟨[],0,[],[]⟩):=EG ⟨.refl _,.refl _,.nil 2,.nil 1,trivial⟩
theorem Vc(s:A4)(rows:List (List Int))(d:o6)(picks:List Pk)(secret e:Int)(nY:picks.length≤1000)(qv:A3 Tryz.prog 93 [sA s,EN d,.sl 2 (picks.map B4)] (.i e))(hp:e=0→∀p∈picks,0≤p.col∧p.col<s.cols.length):A3 Tryz.prog 38 [.agg (O6 s rows),EN d,.sl 2 (picks.map B4),.i secret] (.tup [c9 (MP s rows d picks secret e),.i (IP s rows secret e)]):=by
 have h1:=LR s rows
 by_cases hE:¬IP s rows secret e=0
 ·have hX:MP s rows d picks secret e=⟨[],0,[],[]⟩:=if_neg hE
  rw[hX]
  unfold IP at *
  cases hv:FX s rows with
  |false =>
   rw[hv]at h1
   rw[if_pos rfl]
   refine B6 Tryz.func38 106 fun lW E h0=>?_
   clear lW
   repeat'((first|refine A1 h1 ?_|refine A1 qv ?_ |refine S2 ?_|(refine T6 ?_ ?_<;>intro h<;>try exact V1 h)|intro el lU lV|intro el lU|exact T4|refine T5 ?_ ?_|intro ex)<;>try conv=>whnf)
   all_goals first
    |(exfalso;omega)
    |exact u3 rfl rfl rfl PJ rfl (.refl _) rfl
  |true =>
   rw[hv]at h1 hE
   rw[if_neg (by decide)]at hE ⊢
   by_cases he:¬e=0
   ·rw[if_pos he]
    refine B6 Tryz.func38 106 fun lW E h0=>?_
    clear lW
    repeat'((first|refine A1 h1 ?_|refine A1 qv ?_ |refine S2 ?_|(refine T6 ?_ ?_<;>intro h<;>try exact V1 h)|intro el lU lV|intro el lU|exact T4|refine T5 ?_ ?_|intro ex)<;>try conv=>whnf)
    all_goals first
     |(exfalso;omega)
     |exact u3 rfl rfl rfl PJ rfl (.refl _) rfl
   ·rw[if_neg he]at hE ⊢
    by_cases hs:secret<0∨1152921504606846976≤secret
    ·rw[if_pos hs]
     refine B6 Tryz.func38 106 fun lW E h0=>?_
     clear lW
     repeat'((first|refine A1 h1 ?_|refine A1 qv ?_ |refine S2 ?_|(refine T6 ?_ ?_<;>intro h<;>try exact V1 h)|intro el lU lV|intro el lU|exact T4|refine T5 ?_ ?_|intro ex)<;>try conv=>whnf)
     all_goals first
      |(exfalso;omega)
      |exact u3 rfl rfl rfl PJ rfl (.refl _) rfl
    ·rw[if_neg hs]at hE;exact absurd rfl hE
 have hE:=Decidable.of_not_not hE
 have hX:MP s rows d picks secret e=⟨d.prj,0,picks,W8 s rows picks secret (CS s rows d)⟩:=if_pos hE
 rw[hX,hE]
 have hv:FX s rows=true:=by
  cases hv:FX s rows with
  |true=>rfl
  |false=>unfold IP at hE;rw[if_pos hv]at hE;cases hE
 unfold IP at hE
 rw[if_neg (by rw[hv];decide)]at hE
 have he:e=0:=by
  by_cases he:e=0
  ·exact he
  ·rw[if_pos he]at hE;exact absurd hE he
 rw[if_neg (by omega)]at hE
 have hs:¬(secret<0∨1152921504606846976≤secret):=fun h=>by rw[if_pos h]at hE;cases hE
 subst he
 have hp:=hp rfl
 rw[hv]at h1
 obtain⟨hr,mf,pK⟩:=Ql hv
 have h2:=UU s rows d
 have hne:=fun k r h=>Kd (pK k r h)
 have xj:∀id∈CS s rows d,∃j r,MO rows id=(j:Nat)∧rows[j]?=some r:=fun id h=>by
  unfold CS at h
  split at h
  ·exact eB hne h
  ·cases h
 have zj:=fun (j:Nat) r (h:rows[j]?=some r)=>(Hd (pK j r h)).2
 have h3:=fun id=>Vb s rows id
 have h4:=fun id=>bM secret id
 have h5:=fun c l v=>w8 s c l v
 have pW:(CS s rows d).length≤200:=by
  unfold CS
  split
  ·exact Nat.le_trans (UT s d rows) mf
  ·exact Nat.zero_le _
 have nO:=OK s rows picks secret (CS s rows d)
 have mu:=fun (k:Nat) (id:Int) h=>@Jy s rows picks secret (CS s rows d) k id h
 have hz0:W8 s rows picks secret ((CS s rows d).take 0)=[]:=rfl
 have nR:W8 s rows picks secret (CS s rows d)=W8 s rows picks secret ((CS s rows d).take (CS s rows d).length):=by rw[List.take_length]
 rw[nR]
 have nw:∀(id:Int) (j:Nat) (r:List Int),MO rows id=(j:Nat)→rows[j]?=some r→FY s rows picks secret id=US secret id::picks.map fun p=>G2 s p.col p.lev (r.getD p.col.toNat 0):=fun id j r h1 h2=>by unfold FY;rw[h1,show ((j:Int)).toNat=j from rfl,E4 h2]
 generalize W8 s rows picks secret=BR at *
 generalize FY s rows picks secret=BW at *
 generalize CS s rows d=ids at *
 generalize US secret=KS at *
 generalize MO rows=FD at *
 refine B6 Tryz.func38 106 fun lW E h0=>?_
 clear lW
 repeat'((first|(refine F6 8 ?_;refine O0 (id:=8) (σ':=⟨[(2,.sl 2 (picks.map B4)),(3,.i secret),(4,.iptr (O6 s rows)),(5,.iptr (BO d)),(8,.ref 2 0)],3,[(2,some (.box [.str [],.i 0,.v (.slice none 0 0),.v (.slice none 0 0)]))]⟩) (A6 h0) ?_;refine G9 (id:=8) ⟨[(2,.sl 2 (picks.map B4)),(3,.i secret),(4,.iptr (O6 s rows)),(5,.iptr (BO d)),(8,.ref 2 0),(11,.ref 3 0)],4,[(2,some (.box [.str [],.i 0,.v (.slice none 0 0),.v (.slice none 0 0)])),(3,some (.box [.str d.prj,.i 0,.sl 2 (picks.map B4),.v (.slice none 0 0)]))]⟩ ?_ ?_)|refine A1 h1 ?_|refine A1 qv ?_|refine A1 h2 ?_ |refine S2 ?_|(refine T6 ?_ ?_<;>intro h<;>try exact V1 h)|intro el lU lV|intro el lU|exact T4|refine T5 ?_ ?_|intro ex)<;>try conv=>whnf)
 all_goals first
  |(exfalso;omega)
  |exact A9 h0 rfl ⟨rfl,rfl,rfl,rfl,rfl,rfl,trivial⟩ ⟨rfl,rfl,trivial⟩ rfl rfl rfl
  |exact B5 (BC 3 4 h0 rfl rfl) (A9 h0 rfl ⟨rfl,rfl,rfl,rfl,rfl,rfl,trivial⟩ ⟨rfl,rfl,trivial⟩ rfl rfl rfl)
  |skip
 refine B0 (ι:=Nat) (fun k=>⟨[(2,.sl 2 (picks.map B4)),(3,.i secret),(4,.iptr (O6 s rows)),(8,.ref 2 0),(11,.ref 3 0),(12,.sl 1 (ids.map wA)),(13,.i k)],4,[(2,some (.box [.str [],.i 0,.v (.slice none 0 0),.v (.slice none 0 0)])),(3,some (.box [.str d.prj,.i 0,.sl 2 (picks.map B4),.sl 1 ((BR (ids.take k)).map F8)]))]⟩)
  (fun k=>k≤ids.length) (fun k=>ids.length-k) 0 (Nat.zero_le _)
  (B5 (Ni 3 [.str d.prj,.i 0,.sl 2 (picks.map B4),.sl 1 []] rfl ⟨.refl _,.refl _,.refl _,.nil 1,trivial⟩) (A9 h0 rfl ⟨rfl,rfl,rfl,rfl,rfl,rfl,rfl,trivial⟩ ⟨rfl,congrArg (fun z:List (List Int)=>C6.box [.str d.prj,.i 0,.sl 2 (picks.map B4),.sl 1 (z.map F8)]) hz0,trivial⟩ rfl rfl rfl)) (fun k hK=>?_)
 obtain⟨nD,mC⟩:=nO k hK
 by_cases lk:k<ids.length
 ·obtain⟨id,hi⟩:∃id,ids[k]?=some id:=⟨_,List.getElem?_eq_getElem lk⟩
  have mr:ids[((k:Nat):Int).toNat]?=some id:=hi
  obtain⟨j,r,hj,wS⟩:=xj id (List.mem_of_getElem? hi)
  have lh:=mu k id hi
  have yf:=nw id j r hj wS
  have hf:=h3 id
  have hk4:=h4 id
  have qA:=zj j r wS
  have sk:=F5 wS
  have xN:rows[(FD id).toNat]?=some r:=by rw[hj];exact wS
  have hfd:0≤FD id∧FD id<rows.length:=by omega
  have oz:=TT (BR (ids.take k)) (BW id) (by omega) mC (by rw[yf];simp)
  rw[yf]at oz lh
  generalize hV:(picks.map fun p=>G2 s p.col p.lev (r.getD p.col.toNat 0))=V at *
  have hVl:V.length=picks.length:=by rw[←hV,List.length_map]
  have zW:∀(q:Nat) p v,picks[q]?=some p→r[p.col.toNat]?=some v→V[q]?=some (G2 s p.col p.lev v):=fun q p v h1 h2=>by rw[←hV,List.getElem?_map,h1];show some (G2 s p.col p.lev (r.getD p.col.toNat 0))=_;rw[E4 h2]
  generalize KS id=key at *
  generalize FD id=fd at *
  generalize BR (ids.take k)=B at *
  repeat'((first|(refine A2 (x:=id) mr (by omega) ?_)|(refine A2 (x:=r) xN (by omega) ?_)|refine A1 hf ?_|refine A1 hk4 ?_|refine Z9 (T:=37) rfl ?_|(refine B3 ?_ ?_;kernel_rfl) |refine S2 ?_|(refine T6 ?_ ?_<;>intro h<;>try exact V1 h)|intro el lU lV|intro el lU|exact T4|refine T5 ?_ ?_|intro ex)<;>try conv=>whnf)
  all_goals first
   |(exfalso;omega)
   |skip
  refine B0 (ι:=Nat) (fun q=>⟨[(2,.sl 2 (picks.map B4)),(3,.i secret),(4,.iptr (O6 s rows)),(8,.ref 2 0),(11,.ref 3 0),(12,.sl 1 (ids.map wA)),(13,.i k),(14,.sl 1 (r.map wA)),(15,.row 4 0 (q+1)),(16,.i q)],5,[(2,some (.box [.str [],.i 0,.v (.slice none 0 0),.v (.slice none 0 0)])),(3,some (.box [.str d.prj,.i 0,.sl 2 (picks.map B4),.sl 1 (B.map F8)])),(4,some (.row 3 1 0 ((key::V.take q).map wA)))]⟩)
   (fun q=>q≤picks.length) (fun q=>picks.length-q) 0 (Nat.zero_le _)
   (A6 h0) (fun q hq=>?_)
  by_cases rD:q<picks.length
  ·obtain⟨p,xQ⟩:∃p,picks[q]?=some p:=⟨_,List.getElem?_eq_getElem rD⟩
   have xK:picks[((q:Nat):Int).toNat]?=some p:=xQ
   obtain⟨hp1,hp2⟩:=hp p (List.mem_of_getElem? xQ)
   obtain⟨v,yQ⟩:∃v,r[p.col.toNat]?=some v:=⟨_,List.getElem?_eq_getElem (by omega)⟩
   have hc:=h5 p.col p.lev v
   have zy:=zW q p v xQ yQ
   have rU:(key::V.take (q+1)).map wA=(key::V.take q).map wA++[[.i (G2 s p.col p.lev v)]]:=by rw[H6 zy];simp
   have hql2:(V.take q).length=q:=by rw[List.length_take];omega
   generalize G2 s p.col p.lev v=z at *
   repeat'((first|(refine G9 (id:=18) ⟨[(2,.sl 2 (picks.map B4)),(3,.i secret),(4,.iptr (O6 s rows)),(8,.ref 2 0),(11,.ref 3 0),(12,.sl 1 (ids.map wA)),(13,.i k),(14,.sl 1 (r.map wA)),(15,.row 4 0 (q+1+1)),(16,.i q)],5,[(2,some (.box [.str [],.i 0,.v (.slice none 0 0),.v (.slice none 0 0)])),(3,some (.box [.str d.prj,.i 0,.sl 2 (picks.map B4),.sl 1 (B.map F8)])),(4,some (.row 3 1 0 ((key::V.take (q+1)).map wA)))]⟩ ?_ ?_)|(refine A2 (x:=p) xK (by omega) ?_)|(refine A2 (x:=v) yQ (by omega) ?_)|refine A1 hc ?_ |refine S2 ?_|(refine T6 ?_ ?_<;>intro h<;>try exact V1 h)|intro el lU lV|intro el lU|exact T4|refine T5 ?_ ?_|intro ex)<;>try conv=>whnf)
   all_goals first
    |(exfalso;omega)
    |exact A9 h0 rfl ⟨rfl,rfl,rfl,rfl,rfl,rfl,rfl,rfl,rfl,rfl,trivial⟩ ⟨rfl,rfl,⟨_,congrArg (C6.row 3 1 _) rU⟩,trivial⟩ rfl rfl rfl
    |exact⟨q+1,by omega,by omega,A6 h0⟩
  have vB:q=picks.length:=by omega
  subst vB
  rw[List.take_of_length_le (by omega:V.length≤picks.length)]
  repeat'((first|refine A1 oz ?_ |refine S2 ?_|(refine T6 ?_ ?_<;>intro h<;>try exact V1 h)|intro el lU lV|intro el lU|exact T4|refine T5 ?_ ?_|intro ex|refine J1 4 ?_)<;>try conv=>whnf)
  all_goals first
   |(exfalso;omega)
   |exact⟨k+1,by omega,by omega,A9 h0 rfl ⟨rfl,rfl,rfl,rfl,rfl,rfl,rfl,trivial⟩ ⟨rfl,congrArg (fun z:List (List Int)=>C6.box [.str d.prj,.i 0,.sl 2 (picks.map B4),.sl 1 (z.map F8)]) lh,trivial⟩ rfl rfl rfl⟩
 have nH:k=ids.length:=by omega
 subst nH
 repeat'((first|refine S2 ?_|(refine T6 ?_ ?_<;>intro h<;>try exact V1 h)|intro el lU lV|intro el lU|exact T4|refine T5 ?_ ?_|intro ex)<;>try conv=>whnf)
 all_goals first
  |(exfalso;omega)
  |exact u3 rfl rfl rfl (.refl _) rfl (.refl _) rfl
def PK(l:List UInt8)(a:Nat):Int×Nat :=
 (((B8 l a 60000).1:Int)*((B8 l (B8 l a 60000).2 60000).1:Int)+((B8 l (B8 l (B8 l a 60000).2 60000).2 7).1:Int),(B8 l (B8 l (B8 l a 60000).2 60000).2 7).2)
theorem Vd(l:List UInt8)(a:Nat)(hl:l.length≤400):B9 Tryz.prog 39 1 (R4 l a) [.ref 0 0] 1 (R4 l (PK l a).2) (.i (PK l a).1):=by
 have h1:=H7 l a 60000 hl
 have h2:=H7 l (B8 l a 60000).2 60000 hl
 have h3:=H7 l (B8 l (B8 l a 60000).2 60000).2 7 hl
 have b1:=H1 l a (n:=60000) (by decide)
 have b2:=H1 l (B8 l a 60000).2 (n:=60000) (by decide)
 have b3:=H1 l (B8 l (B8 l a 60000).2 60000).2 (n:=7) (by decide)
 unfold PK
 dsimp only
 generalize B8 l (B8 l (B8 l a 60000).2 60000).2 7=z at *
 generalize B8 l (B8 l a 60000).2 60000=y at *
 generalize B8 l a 60000=x at *
 obtain⟨x,p⟩:=x
 obtain⟨y,q⟩:=y
 obtain⟨z,r⟩:=z
 dsimp only at *
 have h4:x*y≤60000*60000:=Nat.mul_le_mul (by omega) (by omega)
 have h5:((x*y:Nat):Int)=(x:Int)*(y:Int):=Int.natCast_mul x y
 have h6:0≤(x:Int)*(y:Int)∧(x:Int)*(y:Int)≤3600000000:=by omega
 refine V9 Tryz.func39 11 fun E h0=>?_
 repeat'((first|refine nc [0] [0] h1 rfl rfl rfl ⟨rfl,trivial⟩ ?_|refine nc [0] [0] h2 rfl rfl rfl ⟨rfl,trivial⟩ ?_|refine nc [0] [0] h3 rfl rfl rfl ⟨rfl,trivial⟩ ?_ |refine S2 ?_|(refine T6 ?_ ?_<;>intro h<;>try exact V1 h)|intro el lU lV|intro el lU|exact T4|refine T5 ?_ ?_|intro ex)<;>try conv=>whnf)
 all_goals first
  |(exfalso;omega)
  |exact H4 (A6 h0)
def FZ:B1:=.mk 1 0 0 0 0 []
def UV(l:List UInt8)(s:A4)(nm:List UInt8)(c:B1)(m:Int)(a:Nat):N6×Nat:=(⟨nm,1,c,(IL l a s).1,m,[],zC⟩,(IL l a s).2)
def UW(l:List UInt8)(s:A4)(nm:List UInt8)(a:Nat):N6×Nat :=
 let n:=B8 l a 3
 let c:=o5 l s n.1 n.2
 let m:=AL l c.2 s 3
 let w:=B8 l m.2 4
 if (w.1:Int)=1 then UV l s nm c.1 m.1 w.2
 else if (w.1:Int)=2 then
  let t:=Jv l w.2 s m.1
  if 0<(t.1.length:Int)then (⟨nm,2,c.1,[],m.1,t.1,zC⟩,t.2)else UV l s nm c.1 (-1) t.2
 else if (w.1:Int)=3 then
  if 0≤(C0 s m.1).low then
   let v:=o5 l s 1 w.2
   (⟨nm,3,c.1,[],m.1,[],v.1⟩,v.2)
  else UV l s nm c.1 (-1) w.2
 else UV l s nm c.1 (-1) w.2
def EO(l:List UInt8)(s:A4):Nat→List N6×Nat→List N6×Nat
 |0,x=>x
 |n+1,x =>
  let q:=UW l s ([113]++P3 (n+1)) x.2
  EO l s n (x.1++[q.1],q.2)
def ju(l:List UInt8)(s:A4)(a:Nat):o6×Nat :=
 let p:=B8 l a 3
 let c:=o5 l s 1 p.2
 let z:=B8 l c.2 999
 let u:=B8 l z.2 3
 let v:=B8 l u.2 3
 let coh:=if (u.1:Int)=3-1 then FZ else c.1
 if (v.1:Int)=3-1 then
  let o:=B8 l v.2 4
  let r:=B8 l o.2 (2+(o.1:Int))
  (⟨[112]++P3 p.1,[115,114,99],coh,1+r.1,2+o.1,z.1,[]⟩,r.2)
 else (⟨[112]++P3 p.1,[115,114,99],coh,1,1,z.1,[]⟩,v.2)
def R0(l:List UInt8)(s:A4)(a:Nat):o6×Nat :=
 let h:=ju l s a
 let n:=B8 l h.2 3
 let x:=EO l s (1+n.1) ([],n.2)
 ({ h.1 with qs:=x.1 },x.2)
abbrev Jz(l:List (List Int)):Prop:=l.Pairwise fun a b=>a.headD 0<b.headD 0
theorem IQ{l:List (List Int)}{x:List Int}(h:Jz l)(hx:∀y∈l,y.headD 0<x.headD 0):Jz (l++[x]):=by
 refine List.pairwise_append.2 ⟨h,List.pairwise_singleton ..,fun a ha b hb=>?_⟩
 rw[List.mem_singleton]at hb
 subst hb
 exact hx a ha
theorem Ke{row:List Int}:∀(l:List (List Int)) (out:List (List Int)) (done:Bool),Jz out→Jz l→(∀x∈out,∀y∈l,x.headD 0<y.headD 0)→(done=false→∀x∈out,x.headD 0<row.headD 0)→(done=true→∀y∈l,row.headD 0<y.headD 0) →
  Jz (l.foldl (r9 row) (out,done)).1∧((l.foldl (r9 row) (out,done)).2=false→∀x∈(l.foldl (r9 row) (out,done)).1,x.headD 0<row.headD 0)
 |[],out,done,h1,_,_,h4,_=>⟨h1,h4⟩
 |x::r,out,done,h1,h2,h3,h4,h5=>by
  obtain⟨h6,h7⟩:=List.pairwise_cons.1 h2
  have zB:=fun y hy=>h3 y hy x (List.mem_cons_self ..)
  have wm:=fun y hy z hz=>h3 y hy z (List.mem_cons_of_mem _ hz)
  rw[List.foldl_cons,r9]
  by_cases c1:x.headD 0=row.headD 0
  ·rw[if_pos c1]
   exact Ke r out done h1 h7 wm h4 fun hd y hy=>h5 hd y (List.mem_cons_of_mem _ hy)
  ·rw[if_neg c1]
   by_cases c2:row.headD 0<x.headD 0∧done=false
   ·rw[if_pos c2]
    have h8:=h4 c2.2
    refine Ke r _ true (IQ (IQ h1 h8) fun y hy=>?_) h7 (fun y hy z hz=>?_) (fun h=>by cases h) fun _ y hy=>Int.lt_trans c2.1 (h6 y hy)
    ·rcases List.mem_append.1 hy with hy|hy
     ·exact zB y hy
     ·rw[List.mem_singleton]at hy;subst hy;exact c2.1
    ·have h9:=h6 z hz
     rcases List.mem_append.1 hy with hy|hy
     ·rcases List.mem_append.1 hy with hy|hy
      ·exact wm y hy z hz
      ·rw[List.mem_singleton]at hy;subst hy;exact Int.lt_trans c2.1 h9
     ·rw[List.mem_singleton]at hy;subst hy;exact h9
   ·rw[if_neg c2]
    refine Ke r _ done (IQ h1 zB) h7 (fun y hy z hz=>?_) (fun hd y hy=>?_) fun hd y hy=>h5 hd y (List.mem_cons_of_mem _ hy)
    ·rcases List.mem_append.1 hy with hy|hy
     ·exact wm y hy z hz
     ·rw[List.mem_singleton]at hy;subst hy;exact h6 z hz
    ·rcases List.mem_append.1 hy with hy|hy
     ·exact h4 hd y hy
     ·rw[List.mem_singleton]at hy
      rw[hy]
      have:¬row.headD 0<x.headD 0:=fun h=>c2 ⟨h,hd⟩
      omega
theorem eC{l:List (List Int)}(h:Jz l)(row:List Int):Jz (BL l row):=by
 obtain⟨h1,h2⟩:=Ke (row:=row) l [] false List.Pairwise.nil h (fun x hx=>by cases hx) (fun _ x hx=>by cases hx) (fun hd=>by cases hd)
 unfold BL
 dsimp only
 split
 ·exact h1
 ·rename_i hf
  exact IQ h1 (h2 (by simpa using hf))
theorem eD{l:List (List Int)}{row x:List Int}(h:x∈BL l row):x=row∨x∈l:=by
 have key:∀(l:List (List Int)) (q:List (List Int)×Bool),x∈(l.foldl (r9 row) q).1→x=row∨x∈l∨x∈q.1:=by
  intro l
  induction l with
  |nil=>intro q hq;exact .inr (.inr hq)
  |cons a r ih =>
   rintro ⟨out,done⟩ hq
   rw[List.foldl_cons,r9]at hq
   rcases ih _ hq with h|h|h
   ·exact .inl h
   ·exact .inr (.inl (List.mem_cons_of_mem _ h))
   ·split at h
    ·exact .inr (.inr h)
    ·split at h
     ·dsimp only at h
      simp only[List.mem_append,List.mem_singleton]at h
      rcases h with (h|h)|h
      ·exact .inr (.inr h)
      ·exact .inl h
      ·exact .inr (.inl (by rw[h];exact List.mem_cons_self ..))
     ·dsimp only at h
      simp only[List.mem_append,List.mem_singleton]at h
      rcases h with h|h
      ·exact .inr (.inr h)
      ·exact .inr (.inl (by rw[h];exact List.mem_cons_self ..))
 unfold BL at h
 dsimp only at h
 split at h
 ·rcases key l _ h with h|h|h
  ·exact .inl h
  ·exact .inr h
  ·cases h
 ·rcases List.mem_append.1 h with h|h
  ·rcases key l _ h with h|h|h
   ·exact .inl h
   ·exact .inr h
   ·cases h
  ·exact .inl (by simpa using h)
structure Yr(s:A4)(n:Nat)(rows:List (List Int)):Prop where
 asc:Jz rows
 ok:∀r∈rows,Xq s r
 len:rows.length≤n
theorem OL{s:A4}(hd:E7 s)(l:List UInt8):∀(n m:Nat) (x:List (List Int)×Nat),Yr s m x.1→Yr s (m+n) (Cg l s n x).1
 |0,m,x,h=>h
 |n+1,m,x,h=>by
  have:=OL hd l n (m+1) (BL x.1 (k5 l x.2 s).1,(k5 l x.2 s).2) ⟨eC h.asc _,fun r hr=>?_,?_⟩
  ·rw[show m+(n+1)=m+1+n by omega]
   exact this
  ·rcases eD hr with rfl|hr
   ·exact WJ hd l x.2
   ·exact h.ok r hr
  ·have h1:=Lt x.1 (k5 l x.2 s).1
   have h2:=h.len
   dsimp only
   omega
theorem Wf(l:List UInt8)(a:Nat){most:Int}(h0:0≤most):E7 (M4 l a most).1.1∧Yr (M4 l a most).1.1 most.toNat (M4 l a most).1.2:=by
 have hd:=Ng l a
 have hn:=H1 l (CO l a).2 (n:=most+1) (by omega)
 have h:=OL hd l (B8 l (CO l a).2 (most+1)).1 0 ([],(B8 l (CO l a).2 (most+1)).2) ⟨List.Pairwise.nil,(fun r hr=>by cases hr),Nat.le_refl _⟩
 refine⟨hd,h.asc,h.ok,Nat.le_trans h.len ?_⟩
 omega
end Go.Proofs.YtiphlhoclaogjaaGreatDoor
