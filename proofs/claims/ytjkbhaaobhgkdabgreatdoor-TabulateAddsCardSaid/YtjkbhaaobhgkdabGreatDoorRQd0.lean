/- Chapter 13: an extract is built: the reference. -/
import Derived.Test.YtjkbhaaobhgkdabGreatDoorRTx4
import Derived.Test.YtjkbhaaobhgkdabGreatDoorRTa5
import Derived.Test.YtjkbhaaobhgkdabGreatDoorRB5
import Derived.Test.YtjkbhaaobhgkdabGreatDoorRCe6
import Derived.Test.YtjkbhaaobhgkdabGreatDoorRQn1
set_option linter.unusedVariables false
set_option linter.unnecessarySimpa false
set_option linter.unusedSimpArgs false
set_option maxHeartbeats 64000000
namespace Go.Proofs.YtjkbhaaobhgkdabGreatDoor
open Go Go.Av
attribute [local irreducible] D0 B0 D2 C7 DQ D1 C8 St.le A3 B6
set_option maxRecDepth 100000
def n6(s:A4)(rows:List (List Int))(picks:List Pk)(secret id:Int):List Int:=Fg secret id::picks.map fun p=>I0 s p.col p.lev ((rows.getD (MY rows id).toNat []).getD p.col.toNat 0)
def U3(s:A4)(rows:List (List Int))(picks:List Pk)(secret:Int)(ids:List Int):List (List Int):=ids.foldl (fun pa id=>o6 pa (n6 s rows picks secret id)) []
def Fh(s:A4)(rows:List (List Int))(secret e:Int):Int:=if EV s rows=false then 13 else if ¬e=0 then e else if secret<0∨1152921504606846976≤secret then 2 else 0
def Jz(s:A4)(rows:List (List Int))(d:DD)(picks:List Pk)(secret e:Int):K3:=if Fh s rows secret e=0 then ⟨d.prj,0,picks,U3 s rows picks secret (o7 s rows d)⟩else ⟨[],0,[],[]⟩
theorem Uh{s:A4}{d:DD}{rows:List (List Int)}(hne:∀(k:Nat) r,rows[k]?=some r→∃z,r[0]?=some z){id:Int}(h:id∈DK s d rows):∃j r,MY rows id=(j:Nat)∧rows[j]?=some r:=by
 unfold DK at h
 rw[List.mem_map]at h
 obtain⟨r,hr,rfl⟩:=h
 have hm:=(List.mem_filter.1 hr).1
 have key:∀(l:List (List Int)) (k:Nat),r∈l→(∀x∈l,∃z,x[0]?=some z)→∃j x,E6 (fun q:List Int=>decide (0<q.length) && decide (q.headD 0=r.headD 0)) l k=((k+j:Nat):Int)∧l[j]?=some x:=by
  intro l
  induction l with
  |nil=>intro k h;cases h
  |cons a t ih =>
   intro k h hz
   rw[E6]
   by_cases hp:(decide (0<a.length) && decide (a.headD 0=r.headD 0))=true
   ·rw[if_pos hp];exact⟨0,a,rfl,rfl⟩
   ·rw[if_neg hp]
    rcases List.mem_cons.1 h with rfl|h
    ·exfalso
     obtain⟨z,hz⟩:=hz _ (List.mem_cons_self ..)
     have:=D6 hz
     apply hp
     simp;omega
    ·obtain⟨j,x,h1,h2⟩:=ih (k+1) h fun x hx=>hz x (List.mem_cons_of_mem _ hx)
     exact⟨j+1,x,by rw[show (k:Int)+1=((k+1:Nat):Int) by omega,h1];congr 1;omega,h2⟩
 obtain⟨j,x,h1,h2⟩:=key rows 0 hm fun x hx=>by
  obtain⟨k,hk⟩:=List.getElem?_of_mem hx
  exact hne k x hk
 exact⟨j,x,by rw[Nat.zero_add]at h1;exact h1,h2⟩
theorem KA(s:A4)(rows:List (List Int))(picks:List Pk)(secret:Int){ids:List Int}{k:Nat}{id:Int}(h:ids[k]?=some id):U3 s rows picks secret (ids.take (k+1))=o6 (U3 s rows picks secret (ids.take k)) (n6 s rows picks secret id):=by
 unfold U3
 rw[I3 h,List.foldl_append]
 rfl
theorem OK(s:A4)(rows:List (List Int))(picks:List Pk)(secret:Int)(ids:List Int):∀k:Nat,k≤ids.length→(U3 s rows picks secret (ids.take k)).length≤k∧∀y∈U3 s rows picks secret (ids.take k),y≠[]
 |0,_=>⟨by simp[U3],fun y hy=>by simp[U3]at hy⟩
 |k+1,hk=>by
  obtain⟨id,hi⟩:∃id,ids[k]?=some id:=⟨_,List.getElem?_eq_getElem (by omega)⟩
  obtain⟨h1,h2⟩:=OK s rows picks secret ids k (by omega)
  rw[KA s rows picks secret hi]
  have:=Hr (U3 s rows picks secret (ids.take k)) (n6 s rows picks secret id)
  exact⟨by omega,XE (by unfold n6;simp) h2⟩
theorem PS:NL (.agg [.str [],.i 0,.v (.slice none 0 0),.v (.slice none 0 0)]) (BP ⟨[],0,[],[]⟩):=EE ⟨.refl _,.refl _,.nil 2,.nil 1,trivial⟩
theorem Vt(s:A4)(rows:List (List Int))(d:DD)(picks:List Pk)(secret e:Int)(qA:picks.length≤1000)(ry:A3 Tryz.prog 43 [sA s,Jp d,.sl 2 (picks.map B5)] (.i e))(hp:e=0→∀p∈picks,0≤p.col∧p.col<s.cols.length):A3 Tryz.prog 13 [.agg (Q1 s rows),Jp d,.sl 2 (picks.map B5),.i secret] (.tup [BP (Jz s rows d picks secret e),.i (Fh s rows secret e)]):=by
 have h1:=Lf s rows
 by_cases hE:¬Fh s rows secret e=0
 ·have hX:Jz s rows d picks secret e=⟨[],0,[],[]⟩:=if_neg hE
  rw[hX]
  unfold Fh at *
  cases hv:EV s rows with
  |false =>
   rw[hv]at h1
   rw[if_pos rfl]
   refine C0 Tryz.func13 106 fun nQ E h0=>?_
   clear nQ
   repeat'((first|refine A1 h1 ?_|refine A1 ry ?_ |refine S2 ?_|(refine T6 ?_ ?_<;>intro h<;>try exact V1 h)|intro el nN nP|intro el nN|exact T4|refine T5 ?_ ?_|intro ex)<;>try conv=>whnf)
   all_goals first
    |(exfalso;omega)
    |exact q9 rfl rfl rfl PS rfl (.refl _) rfl
  |true =>
   rw[hv]at h1 hE
   rw[if_neg (by decide)]at hE ⊢
   by_cases he:¬e=0
   ·rw[if_pos he]
    refine C0 Tryz.func13 106 fun nQ E h0=>?_
    clear nQ
    repeat'((first|refine A1 h1 ?_|refine A1 ry ?_ |refine S2 ?_|(refine T6 ?_ ?_<;>intro h<;>try exact V1 h)|intro el nN nP|intro el nN|exact T4|refine T5 ?_ ?_|intro ex)<;>try conv=>whnf)
    all_goals first
     |(exfalso;omega)
     |exact q9 rfl rfl rfl PS rfl (.refl _) rfl
   ·rw[if_neg he]at hE ⊢
    by_cases hs:secret<0∨1152921504606846976≤secret
    ·rw[if_pos hs]
     refine C0 Tryz.func13 106 fun nQ E h0=>?_
     clear nQ
     repeat'((first|refine A1 h1 ?_|refine A1 ry ?_ |refine S2 ?_|(refine T6 ?_ ?_<;>intro h<;>try exact V1 h)|intro el nN nP|intro el nN|exact T4|refine T5 ?_ ?_|intro ex)<;>try conv=>whnf)
     all_goals first
      |(exfalso;omega)
      |exact q9 rfl rfl rfl PS rfl (.refl _) rfl
    ·rw[if_neg hs]at hE;exact absurd rfl hE
 have hE:=Decidable.of_not_not hE
 have hX:Jz s rows d picks secret e=⟨d.prj,0,picks,U3 s rows picks secret (o7 s rows d)⟩:=if_pos hE
 rw[hX,hE]
 have hv:EV s rows=true:=by
  cases hv:EV s rows with
  |true=>rfl
  |false=>unfold Fh at hE;rw[if_pos hv]at hE;cases hE
 unfold Fh at hE
 rw[if_neg (by rw[hv];decide)]at hE
 have he:e=0:=by
  by_cases he:e=0
  ·exact he
  ·rw[if_pos he]at hE;exact absurd hE he
 rw[if_neg (by omega)]at hE
 have hs:¬(secret<0∨1152921504606846976≤secret):=fun h=>by rw[if_pos h]at hE;cases hE
 subst he
 have hp:=hp rfl
 rw[hv]at h1
 obtain⟨hr,od,ql⟩:=Qt hv
 have h2:=Ug s rows d
 have hne:=fun k r h=>Kl (ql k r h)
 have zb:∀id∈o7 s rows d,∃j r,MY rows id=(j:Nat)∧rows[j]?=some r:=fun id h=>by
  unfold o7 at h
  split at h
  ·exact Uh hne h
  ·cases h
 have hlr:=fun (j:Nat) r (h:rows[j]?=some r)=>(Hg (ql j r h)).2
 have h3:=fun id=>Vs s rows id
 have h4:=fun id=>bu secret id
 have h5:=fun c l v=>Fa s c l v
 have rQ:(o7 s rows d).length≤200:=by
  unfold o7
  split
  ·exact Nat.le_trans (MZ s d rows) od
  ·exact Nat.zero_le _
 have pM:=OK s rows picks secret (o7 s rows d)
 have oy:=fun (k:Nat) (id:Int) h=>@KA s rows picks secret (o7 s rows d) k id h
 have yH:U3 s rows picks secret ((o7 s rows d).take 0)=[]:=rfl
 have pX:U3 s rows picks secret (o7 s rows d)=U3 s rows picks secret ((o7 s rows d).take (o7 s rows d).length):=by rw[List.take_length]
 rw[pX]
 have py:∀(id:Int) (j:Nat) (r:List Int),MY rows id=(j:Nat)→rows[j]?=some r→n6 s rows picks secret id=Fg secret id::picks.map fun p=>I0 s p.col p.lev (r.getD p.col.toNat 0):=fun id j r h1 h2=>by unfold n6;rw[h1,show ((j:Int)).toNat=j from rfl,D3 h2]
 generalize U3 s rows picks secret=BR at *
 generalize n6 s rows picks secret=BW at *
 generalize o7 s rows d=ids at *
 generalize Fg secret=KS at *
 generalize MY rows=FD at *
 refine C0 Tryz.func13 106 fun nQ E h0=>?_
 clear nQ
 repeat'((first|(refine G3 8 ?_;refine P5 (id:=8) (σ':=⟨[(2,.sl 2 (picks.map B5)),(3,.i secret),(4,.iptr (Q1 s rows)),(5,.iptr (MN d)),(8,.ref 2 0)],3,[(2,some (.box [.str [],.i 0,.v (.slice none 0 0),.v (.slice none 0 0)]))]⟩) (A6 h0) ?_;refine H4 (id:=8) ⟨[(2,.sl 2 (picks.map B5)),(3,.i secret),(4,.iptr (Q1 s rows)),(5,.iptr (MN d)),(8,.ref 2 0),(11,.ref 3 0)],4,[(2,some (.box [.str [],.i 0,.v (.slice none 0 0),.v (.slice none 0 0)])),(3,some (.box [.str d.prj,.i 0,.sl 2 (picks.map B5),.v (.slice none 0 0)]))]⟩ ?_ ?_)|refine A1 h1 ?_|refine A1 ry ?_|refine A1 h2 ?_ |refine S2 ?_|(refine T6 ?_ ?_<;>intro h<;>try exact V1 h)|intro el nN nP|intro el nN|exact T4|refine T5 ?_ ?_|intro ex)<;>try conv=>whnf)
 all_goals first
  |(exfalso;omega)
  |exact A8 h0 rfl ⟨rfl,rfl,rfl,rfl,rfl,rfl,trivial⟩ ⟨rfl,rfl,trivial⟩ rfl rfl rfl
  |exact C2 (BZ 3 4 h0 rfl rfl) (A8 h0 rfl ⟨rfl,rfl,rfl,rfl,rfl,rfl,trivial⟩ ⟨rfl,rfl,trivial⟩ rfl rfl rfl)
  |skip
 refine B2 (ι:=Nat) (fun k=>⟨[(2,.sl 2 (picks.map B5)),(3,.i secret),(4,.iptr (Q1 s rows)),(8,.ref 2 0),(11,.ref 3 0),(12,.sl 1 (ids.map wA)),(13,.i k)],4,[(2,some (.box [.str [],.i 0,.v (.slice none 0 0),.v (.slice none 0 0)])),(3,some (.box [.str d.prj,.i 0,.sl 2 (picks.map B5),.sl 1 ((BR (ids.take k)).map H1)]))]⟩)
  (fun k=>k≤ids.length) (fun k=>ids.length-k) 0 (Nat.zero_le _)
  (C2 (bG 3 [.str d.prj,.i 0,.sl 2 (picks.map B5),.sl 1 []] rfl ⟨.refl _,.refl _,.refl _,.nil 1,trivial⟩) (A8 h0 rfl ⟨rfl,rfl,rfl,rfl,rfl,rfl,rfl,trivial⟩ ⟨rfl,congrArg (fun z:List (List Int)=>C9.box [.str d.prj,.i 0,.sl 2 (picks.map B5),.sl 1 (z.map H1)]) yH,trivial⟩ rfl rfl rfl)) (fun k hK=>?_)
 obtain⟨oo,nt⟩:=pM k hK
 by_cases nZ:k<ids.length
 ·obtain⟨id,hi⟩:∃id,ids[k]?=some id:=⟨_,List.getElem?_eq_getElem nZ⟩
  have oS:ids[((k:Nat):Int).toNat]?=some id:=hi
  obtain⟨j,r,hj,yK⟩:=zb id (List.mem_of_getElem? hi)
  have nj:=oy k id hi
  have hbw:=py id j r hj yK
  have hf:=h3 id
  have hk4:=h4 id
  have uh:=hlr j r yK
  have uD:=D6 yK
  have zI:rows[(FD id).toNat]?=some r:=by rw[hj];exact yK
  have hfd:0≤FD id∧FD id<rows.length:=by omega
  have qm:=Tg (BR (ids.take k)) (BW id) (by omega) nt (by rw[hbw];simp)
  rw[hbw]at qm nj
  generalize hV:(picks.map fun p=>I0 s p.col p.lev (r.getD p.col.toNat 0))=V at *
  have hVl:V.length=picks.length:=by rw[←hV,List.length_map]
  have hVg:∀(q:Nat) p v,picks[q]?=some p→r[p.col.toNat]?=some v→V[q]?=some (I0 s p.col p.lev v):=fun q p v h1 h2=>by rw[←hV,List.getElem?_map,h1];show some (I0 s p.col p.lev (r.getD p.col.toNat 0))=_;rw[D3 h2]
  generalize KS id=key at *
  generalize FD id=fd at *
  generalize BR (ids.take k)=B at *
  repeat'((first|(refine A2 (x:=id) oS (by omega) ?_)|(refine A2 (x:=r) zI (by omega) ?_)|refine A1 hf ?_|refine A1 hk4 ?_|refine Y6 (T:=30) rfl ?_|(refine B8 ?_ ?_;kernel_rfl) |refine S2 ?_|(refine T6 ?_ ?_<;>intro h<;>try exact V1 h)|intro el nN nP|intro el nN|exact T4|refine T5 ?_ ?_|intro ex)<;>try conv=>whnf)
  all_goals first
   |(exfalso;omega)
   |skip
  refine B2 (ι:=Nat) (fun q=>⟨[(2,.sl 2 (picks.map B5)),(3,.i secret),(4,.iptr (Q1 s rows)),(8,.ref 2 0),(11,.ref 3 0),(12,.sl 1 (ids.map wA)),(13,.i k),(14,.sl 1 (r.map wA)),(15,.row 4 0 (q+1)),(16,.i q)],5,[(2,some (.box [.str [],.i 0,.v (.slice none 0 0),.v (.slice none 0 0)])),(3,some (.box [.str d.prj,.i 0,.sl 2 (picks.map B5),.sl 1 (B.map H1)])),(4,some (.row 3 1 0 ((key::V.take q).map wA)))]⟩)
   (fun q=>q≤picks.length) (fun q=>picks.length-q) 0 (Nat.zero_le _)
   (A6 h0) (fun q hq=>?_)
  by_cases tw:q<picks.length
  ·obtain⟨p,wz⟩:∃p,picks[q]?=some p:=⟨_,List.getElem?_eq_getElem tw⟩
   have zD:picks[((q:Nat):Int).toNat]?=some p:=wz
   obtain⟨hp1,hp2⟩:=hp p (List.mem_of_getElem? wz)
   obtain⟨v,hvr⟩:∃v,r[p.col.toNat]?=some v:=⟨_,List.getElem?_eq_getElem (by omega)⟩
   have hc:=h5 p.col p.lev v
   have hVq:=hVg q p v wz hvr
   have tH:(key::V.take (q+1)).map wA=(key::V.take q).map wA++[[.i (I0 s p.col p.lev v)]]:=by rw[I3 hVq];simp
   have hql2:(V.take q).length=q:=by rw[List.length_take];omega
   generalize I0 s p.col p.lev v=z at *
   repeat'((first|(refine H4 (id:=18) ⟨[(2,.sl 2 (picks.map B5)),(3,.i secret),(4,.iptr (Q1 s rows)),(8,.ref 2 0),(11,.ref 3 0),(12,.sl 1 (ids.map wA)),(13,.i k),(14,.sl 1 (r.map wA)),(15,.row 4 0 (q+1+1)),(16,.i q)],5,[(2,some (.box [.str [],.i 0,.v (.slice none 0 0),.v (.slice none 0 0)])),(3,some (.box [.str d.prj,.i 0,.sl 2 (picks.map B5),.sl 1 (B.map H1)])),(4,some (.row 3 1 0 ((key::V.take (q+1)).map wA)))]⟩ ?_ ?_)|(refine A2 (x:=p) zD (by omega) ?_)|(refine A2 (x:=v) hvr (by omega) ?_)|refine A1 hc ?_ |refine S2 ?_|(refine T6 ?_ ?_<;>intro h<;>try exact V1 h)|intro el nN nP|intro el nN|exact T4|refine T5 ?_ ?_|intro ex)<;>try conv=>whnf)
   all_goals first
    |(exfalso;omega)
    |exact A8 h0 rfl ⟨rfl,rfl,rfl,rfl,rfl,rfl,rfl,rfl,rfl,rfl,trivial⟩ ⟨rfl,rfl,⟨_,congrArg (C9.row 3 1 _) tH⟩,trivial⟩ rfl rfl rfl
    |exact⟨q+1,by omega,by omega,A6 h0⟩
  have wq:q=picks.length:=by omega
  subst wq
  rw[List.take_of_length_le (by omega:V.length≤picks.length)]
  repeat'((first|refine A1 qm ?_ |refine S2 ?_|(refine T6 ?_ ?_<;>intro h<;>try exact V1 h)|intro el nN nP|intro el nN|exact T4|refine T5 ?_ ?_|intro ex|refine I6 4 ?_)<;>try conv=>whnf)
  all_goals first
   |(exfalso;omega)
   |exact⟨k+1,by omega,by omega,A8 h0 rfl ⟨rfl,rfl,rfl,rfl,rfl,rfl,rfl,trivial⟩ ⟨rfl,congrArg (fun z:List (List Int)=>C9.box [.str d.prj,.i 0,.sl 2 (picks.map B5),.sl 1 (z.map H1)]) nj,trivial⟩ rfl rfl rfl⟩
 have ou:k=ids.length:=by omega
 subst ou
 repeat'((first|refine S2 ?_|(refine T6 ?_ ?_<;>intro h<;>try exact V1 h)|intro el nN nP|intro el nN|exact T4|refine T5 ?_ ?_|intro ex)<;>try conv=>whnf)
 all_goals first
  |(exfalso;omega)
  |exact q9 rfl rfl rfl (.refl _) rfl (.refl _) rfl
def IH(l:List UInt8)(a:Nat):Int×Nat :=
 (((B3 l a 60000).1:Int)*((B3 l (B3 l a 60000).2 60000).1:Int)+((B3 l (B3 l (B3 l a 60000).2 60000).2 7).1:Int),(B3 l (B3 l (B3 l a 60000).2 60000).2 7).2)
theorem jb(l:List UInt8)(a:Nat):0≤(IH l a).1∧(IH l a).1<1152921504606846976:=by
 have h1:=F9 l a (n:=60000) (by decide)
 have h2:=F9 l (B3 l a 60000).2 (n:=60000) (by decide)
 have h3:=F9 l (B3 l (B3 l a 60000).2 60000).2 (n:=7) (by decide)
 unfold IH
 dsimp only
 generalize (B3 l a 60000).1=x at *
 generalize (B3 l (B3 l a 60000).2 60000).1=y at *
 have h4:x*y≤60000*60000:=Nat.mul_le_mul (by omega) (by omega)
 have h5:((x*y:Nat):Int)=(x:Int)*(y:Int):=Int.natCast_mul x y
 omega
theorem Vu(l:List UInt8)(a:Nat)(hl:l.length≤400):B6 Tryz.prog 14 1 (V3 l a) [.ref 0 0] 1 (V3 l (IH l a).2) (.i (IH l a).1):=by
 have h1:=J2 l a 60000 hl
 have h2:=J2 l (B3 l a 60000).2 60000 hl
 have h3:=J2 l (B3 l (B3 l a 60000).2 60000).2 7 hl
 have b1:=F9 l a (n:=60000) (by decide)
 have b2:=F9 l (B3 l a 60000).2 (n:=60000) (by decide)
 have b3:=F9 l (B3 l (B3 l a 60000).2 60000).2 (n:=7) (by decide)
 unfold IH
 dsimp only
 generalize B3 l (B3 l (B3 l a 60000).2 60000).2 7=z at *
 generalize B3 l (B3 l a 60000).2 60000=y at *
 generalize B3 l a 60000=x at *
 obtain⟨x,p⟩:=x
 obtain⟨y,q⟩:=y
 obtain⟨z,r⟩:=z
 dsimp only at *
 have h4:x*y≤60000*60000:=Nat.mul_le_mul (by omega) (by omega)
 have h5:((x*y:Nat):Int)=(x:Int)*(y:Int):=Int.natCast_mul x y
 have h6:0≤(x:Int)*(y:Int)∧(x:Int)*(y:Int)≤3600000000:=by omega
 refine X6 Tryz.func14 11 fun E h0=>?_
 repeat'((first|refine nc [0] [0] h1 rfl rfl rfl ⟨rfl,trivial⟩ ?_|refine nc [0] [0] h2 rfl rfl rfl ⟨rfl,trivial⟩ ?_|refine nc [0] [0] h3 rfl rfl rfl ⟨rfl,trivial⟩ ?_ |refine S2 ?_|(refine T6 ?_ ?_<;>intro h<;>try exact V1 h)|intro el nN nP|intro el nN|exact T4|refine T5 ?_ ?_|intro ex)<;>try conv=>whnf)
 all_goals first
  |(exfalso;omega)
  |exact G9 (A6 h0)
theorem PT:∀(l:List Nat) (lo hi:Nat),List.Pairwise (fun a b:Nat=>a<b) l→(∀x∈l,lo≤x∧x<hi)→lo≤hi→l.length≤hi-lo
 |[],_,_,_,_,_=>Nat.zero_le _
 |x::r,lo,hi,hp,hm,_=>by
  obtain⟨h1,h2⟩:=hm x (by simp)
  have:=PT r (x+1) hi (List.pairwise_cons.1 hp).2 (fun y hy=>⟨(List.pairwise_cons.1 hp).1 y hy,(hm y (by simp[hy])).2⟩) h2
  rw[List.length_cons];omega
theorem GH(s:A4)(kind:Int)(k:Nat):List.Pairwise (fun a b:Nat=>a<b) (G1 s kind k):=List.Pairwise.filter _ List.pairwise_lt_range
theorem C4.cnt{s:A4}(hd:C4 s):(G1 s 2 s.cols.length).length≤3∧(G1 s 3 s.cols.length).length≤3:=by
 obtain⟨b,ms,h1,h2,h3,h4⟩:=hd.cs
 have hb:(M8 b).length≤3:=by cases b<;>decide
 have hl:s.cols.length=(M8 b).length+ms.length:=by rw[h1,List.length_append]
 have key:∀i,i<s.cols.length→(i<(M8 b).length∧(B4 s i).kind≠3)∨((M8 b).length≤i∧(B4 s i).kind=3):=by
  intro i hi
  have hg:s.cols[i]?=some (s.cols[i]'hi):=List.getElem?_eq_getElem hi
  rw[show B4 s (i:Int)=s.cols[i]'hi from B7 (by simpa using hg)]
  generalize s.cols[i]'hi=c at *
  rw[h1,List.getElem?_append]at hg
  split at hg
  ·rename_i h5
   refine .inl ⟨h5,?_⟩
   have hm:=List.mem_of_getElem? hg
   cases b
   ·have hm:c∈[ME,Dd]:=hm
    simp only[List.mem_cons,List.not_mem_nil,or_false]at hm
    rcases hm with rfl|rfl<;>decide
   ·have hm:c∈[ME,Dd,Hn]:=hm
    simp only[List.mem_cons,List.not_mem_nil,or_false]at hm
    rcases hm with rfl|rfl|rfl<;>decide
  ·rename_i h5
   exact .inr ⟨by omega,(h4 _ c hg).kind⟩
 constructor
 ·have:=PT (G1 s 2 s.cols.length) 0 (M8 b).length (GH s 2 _) (fun x hx=>by
   obtain⟨p1,p2⟩:=w7.1 hx
   rcases key x p1 with h|h
   ·exact⟨Nat.zero_le _,h.1⟩
   ·rw[p2]at h;exact absurd h.2 (by decide)) (by omega)
  omega
 ·have:=PT (G1 s 3 s.cols.length) (M8 b).length s.cols.length (GH s 3 _) (fun x hx=>by
   obtain⟨p1,p2⟩:=w7.1 hx
   rcases key x p1 with h|h
   ·exact absurd p2 h.2
   ·exact⟨h.1,p1⟩) (by omega)
  omega
theorem la(l:List UInt8)(a:Nat){s:A4}(hd:C4 s){c:Nat}(h:c∈G1 s 2 s.cols.length):l8 s ⟨c,(B3 l a (B9 s c+1)).1⟩=0:=by
 obtain⟨h1,h2⟩:=w7.1 h
 have hf:=UV hd h
 have nR:=F9 l a (n:=B9 s c+1) (by omega)
 have hc:1≤(c:Int):=by
  rcases Nat.eq_zero_or_pos c with hz|hz
  ·exfalso
   subst hz
   have hc:s.cols[0]?=some (s.cols[0]'h1):=List.getElem?_eq_getElem h1
   rw[show B4 s ((0:Nat):Int)=s.cols[0]'h1 from B7 (by simpa using hc)]at h2
   rcases hd.col hc with ⟨_,e⟩|⟨h,_⟩|⟨h,_⟩
   ·rw[e]at h2;cases h2
   ·omega
   ·omega
  ·omega
 exact XC hd hc (by dsimp only;omega) (by dsimp only;omega) (by dsimp only;omega)
structure Ui(s:A4)(x:List Pk):Prop where
 ok:∀q∈x,l8 s q=0∧(B4 s q.col).kind=2
 asc:List.Pairwise (fun p q:Pk=>p.col<q.col) x
theorem PU(l:List UInt8){s:A4}(hd:C4 s):∀(cs:List Nat) (x:List Pk×Nat),(∀c∈cs,c∈G1 s 2 s.cols.length)→List.Pairwise (fun a b:Nat=>a<b) cs→Ui s x.1→(∀q∈x.1,∀c∈cs,q.col<(c:Int))→Ui s (DI l s cs x).1∧(DI l s cs x).1.length=x.1.length+cs.length
 |[],x,_,_,h,_=>⟨h,rfl⟩
 |c::r,x,hm,hp,h,hx=>by
  have hc:=hm c (by simp)
  have hk:=la l x.2 hd hc
  obtain⟨h1,h2⟩:=PU l hd r (x.1++[⟨c,(B3 l x.2 (B9 s c+1)).1⟩],(B3 l x.2 (B9 s c+1)).2) (fun c' uf=>hm c' (by simp[uf])) (List.pairwise_cons.1 hp).2 ⟨fun q hq=>by
    rcases List.mem_append.1 hq with hq|hq
    ·exact h.ok q hq
    ·simp only[List.mem_singleton]at hq
     subst hq
     exact⟨hk,(w7.1 hc).2⟩,List.pairwise_append.2 ⟨h.asc,List.pairwise_singleton _ _,fun p hp q hq=>by
      simp only[List.mem_singleton]at hq
      subst hq
      exact hx p hp c (by simp)⟩⟩ (fun q hq c' uf=>by
    rcases List.mem_append.1 hq with hq|hq
    ·exact hx q hq c' (by simp[uf])
    ·simp only[List.mem_singleton]at hq
     subst hq
     have:=(List.pairwise_cons.1 hp).1 c' uf
     dsimp only;omega)
  refine⟨h1,?_⟩
  show (DI l s r _).1.length=_
  rw[h2,List.length_append,List.length_cons,List.length_cons,List.length_nil];omega
theorem Vv(l:List UInt8)(a:Nat){s:A4}(hd:C4 s):L0 s (e6 l a s).1=0:=by
 have h2:=hd.two.1
 have h3:=hd.cnt.1
 have key:Ui s (e6 l a s).1∧1≤(e6 l a s).1.length∧(e6 l a s).1.length≤3:=by
  unfold e6
  split
  ·have nR:=F9 l (B3 l a 2).2 (n:=(G1 s 2 s.cols.length).length) (by omega)
   obtain⟨q1,q2⟩:=PU l hd ((G1 s 2 s.cols.length).drop (B3 l (B3 l a 2).2 (G1 s 2 s.cols.length).length).1) ([],(B3 l (B3 l a 2).2 (G1 s 2 s.cols.length).length).2) (fun c hc=>List.mem_of_mem_drop hc) ((GH s 2 _).drop) ⟨fun q hq=>absurd hq (List.not_mem_nil),.nil⟩ (fun q hq=>absurd hq (List.not_mem_nil))
   refine⟨q1,?_⟩
   rw[q2,List.length_drop,List.length_nil];omega
  ·obtain⟨q1,q2⟩:=PU l hd (G1 s 2 s.cols.length) ([],(B3 l a 2).2) (fun c hc=>hc) (GH s 2 _) ⟨fun q hq=>absurd hq (List.not_mem_nil),.nil⟩ (fun q hq=>absurd hq (List.not_mem_nil))
   refine⟨q1,?_⟩
   rw[q2,List.length_nil];omega
 generalize (e6 l a s).1=x at *
 obtain⟨hx,hl⟩:=key
 unfold L0
 rw[if_neg (by omega)]
 refine x9 fun i d hi=>?_
 rw[Nat.zero_add]
 obtain⟨o1,o2⟩:=hx.ok d (List.mem_of_getElem? hi)
 have op:I4 s d=0:=by unfold I4;rw[if_pos hd.ok];exact o1
 have oJ:((x.take i).any fun y=>decide (y.col=d.col))=false:=List.any_eq_false.2 fun y hy=>by
  obtain⟨j,hj,rfl⟩:=List.getElem_of_mem hy
  rw[List.length_take]at hj
  rw[List.getElem_take]
  have nR:=D6 hi
  have:=List.pairwise_iff_getElem.1 hx.asc j i (by omega) nR (by omega)
  have e:x[i]'nR=d:=by rw[List.getElem?_eq_getElem nR]at hi;exact Option.some.inj hi
  rw[e]at this
  simp only[decide_eq_true_eq];omega
 unfold P9
 rw[if_neg (by omega),if_neg (by omega),oJ,if_neg (by decide)]
def KB:B1:=.mk 1 0 0 0 0 []
theorem OL{s:A4}(hr:C5 s=0){q:U5}(h1:D5 q.name=true)(h2:q.kind=1)(h3:J6 s q.flt=0)(h4:L0 s q.dims=0)(h5:q.mea=-1∨P1 s q.mea 3=true)(h6:q.trms=[])(h7:q.evt=zC):N4 s q=0:=by
 unfold N4 IA
 rw[if_neg (by omega),h1,if_neg (by simp),if_neg (by omega),if_neg (by omega),if_pos h2,if_neg (by omega),if_neg,if_neg]
 ·rintro (h|h)
  ·rw[h6]at h;exact absurd h (by simp)
  ·rw[h7]at h;exact h lW
 ·rintro ⟨h8,h9⟩
  rcases h5 with h|h
  ·exact h8 h
  ·rw[OC _ _ _ (by decide)]at h
   exact h9 (of_decide_eq_true h)
theorem KC{s:A4}(hr:C5 s=0):J6 s KB=0:=by
 unfold J6
 rw[if_pos hr,if_neg (by decide),if_neg (by decide)]
 rfl
end Go.Proofs.YtjkbhaaobhgkdabGreatDoor
