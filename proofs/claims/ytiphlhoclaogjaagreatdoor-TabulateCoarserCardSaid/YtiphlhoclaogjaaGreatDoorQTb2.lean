/- Chapter 18: tables: the program, the table. -/
import Derived.Test.YtiphlhoclaogjaaGreatDoorQTb1
import Derived.Test.YtiphlhoclaogjaaGreatDoorQTa5
set_option linter.unusedVariables false
set_option linter.unnecessarySimpa false
set_option linter.unusedSimpArgs false
set_option maxHeartbeats 64000000
namespace Go.Proofs.YtiphlhoclaogjaaGreatDoor
open Go Go.Av
attribute [local irreducible] C7 B1 D1 C8 DQ D0 C6 St.le A3 B8
set_option maxRecDepth 100000
attribute [local irreducible] GP Dz KQ Gn
theorem cJ{P:Program}{E:Env}{n:Nat}{ops:Array Oper}{rest:List Oper}{σ:St}{K:St→Prop}{o:Option Nat}{f:Nat}{xs:Array Operand}{ts:Array TypeId}{ty:TypeId}{pos:String}{after:Array Edge}(d sz:Nat)(hd:Go.Av.look σ.sl d=some (.v (.slice none 0 0)))(h:B1 P E n ops (⟨o,.call ⟨.value (.func f),xs,ts⟩,ty,pos,after,none⟩::rest) (σ.put d (.sl sz [])) K):B1 P E n ops (⟨o,.call ⟨.value (.func f),xs,ts⟩,ty,pos,after,none⟩::rest) σ K:=Em (aF hd) h
def UQ(P:Program)(E:Env)(n:Nat)(g:Operand)(ps:Array Tmp)(assign body:Go.Code)(σ:St)(Q:Exit→St→Prop):Prop:=C7 P E n (.rangeFunc g ps assign body) σ Q
theorem Wz{P:Program}{E:Env}{n:Nat}{g:Operand}{ps:Array Tmp}{assign body:Go.Code}{σ:St}{Q:Exit→St→Prop}(h:UQ P E n g ps assign body σ Q):C7 P E n (.rangeFunc g ps assign body) σ Q:=h
theorem XA{P:Program}{E:Env}{n:Nat}{g:Operand}{ps:Array Tmp}{assign body:Go.Code}{σ:St}{Q:Exit→St→Prop}(h:C7 P E n (.rangeFunc g ps assign body) σ Q):UQ P E n g ps assign body σ Q:=h
attribute [local irreducible] UQ
def w9(O:List Int)(D q:Nat):List Int:=O.take q++List.replicate (D-q) 0
theorem OC(O:List Int)(D:Nat):(w9 O D 0).map wA=List.replicate D [AV.i 0]:=by simp[w9]
theorem Qj{O:List Int}{D:Nat}(h:O.length=D):w9 O D D=O:=by
 unfold w9
 rw[Nat.sub_self,List.replicate_zero,List.append_nil,List.take_of_length_le (by omega)]
theorem Qk{O:List Int}{D q:Nat}(h:O.length=D)(hq:q≤D):(w9 O D q).length=D:=by
 unfold w9
 rw[List.length_append,List.length_take,List.length_replicate];omega
theorem Ql{O:List Int}{D q:Nat}{z:Int}(h:O.length=D)(hz:O[q]?=some z):(w9 O D q).set q z=w9 O D (q+1):=by
 have hq:=D4 hz
 unfold w9
 rw[I0 hz,List.set_append_right _ _ (by rw[List.length_take];omega),List.length_take,show q-min q O.length=0 by omega,List.append_assoc]
 congr 1
 cases hD:D-q with
 |zero=>omega
 |succ m=>rw[show D-(q+1)=m by omega,List.replicate_succ];rfl
theorem lj(s:A4)(x:H6)(dims:List Pk)(mea:Int)(cnd:B0)(L:List (List Int))(e1:R2 s x=0)(e2:O3 s (AD dims mea cnd)=0)(e3:z4 x.picks (Bl s (Ct dims mea cnd))=true)(hL:Y0 s dims [[]]=some L)(hm:¬0≤mea):A3 Tryz.prog 16 [sA s,f4 x,.sl 2 (dims.map B6),.i mea,E0 cnd] (.tup [Ay ⟨dims,mea,U5 s x dims mea L (R3 s x cnd (V7 mea))⟩,.i 0]):=by
 have h1:=f5 s x
 rw[e1]at h1
 have h2:A3 Tryz.prog 44 [sA s,.sl 2 (dims.map B6),.i mea,E0 cnd] (.i 0):=e2▸Cr s dims mea cnd
 have h3:=Eg s dims mea cnd
 have h4:=BI x.picks (Bl s (Ct dims mea cnd))
 rw[e3]at h4
 obtain⟨hr,rJ,pn,yo⟩:=Jn e2
 obtain⟨uh,sU,vG⟩:=o7 pn
 have h5:=FO s hr dims sU vG
 rw[hL]at h5
 have h6:=LQ dims (by omega)
 have h7:=GO s x cnd (V7 mea)
 have hLl:=MI hL (by decide)
 have zj:∀l∈L,l.length=dims.length:=fun l hl=>by have:=MH (m:=0) hL (by simp) l hl;omega
 obtain⟨hr',hp,pA,nu⟩:=CE e1
 have qI:=AY hp
 have nz:=(E9 hr).2.1
 have ux:=fun i=>UP hr yo x i
 have uT:=fun (k:Nat) (r:List Int) (hk:x.rows[k]?=some r) (d:Pk)=>Ck s hr x k r hk (o5 (nu k r hk)) (by omega) d.col d.lev
 have sv:=fun i=>@CG s x cnd (V7 mea) i
 have hcn:=KW s x cnd (V7 mea)
 have pR:=fun (k:Nat) (r:List Int) (hk:x.rows[k]?=some r)=>o5 (nu k r hk)
 generalize zX:R3 s x cnd (V7 mea)=Is at *
 have hCk:=MJ ux zj Is
 have wx:=fun (k:Nat) (i:Int) (h:Is[k]?=some i)=>Hz s x dims mea L h
 have zg:U5 s x dims mea L (Is.take 0)=L.map o6:=rfl
 have hCn:U5 s x dims mea L (Is.take Is.length)=U5 s x dims mea L Is:=by rw[List.take_length]
 have wE:∀(i:Int) (C:List F1),EC s x dims mea C i=C.map fun c=>if I7 (Bm s x dims i) c.codes=true then L2 (Bn x i) (Cu s x mea i) (decide (0≤mea)) c else c:=fun _ _=>rfl
 have nh:∀(k:Nat) (r:List Int),x.rows[k]?=some r→∀(q:Nat) (d:Pk),dims[q]?=some d→(Bm s x dims k)[q]?=some (V6 s d.col d.lev (x.picks.zip r.tail)).1:=fun k r hk q d hd=>by unfold Bm;rw[List.getElem?_map,hd,show ((k:Int)).toNat=k from rfl,D2 hk];rfl
 have tI:∀i,(Bm s x dims i).length=dims.length:=fun i=>List.length_map ..
 have qC:∀(k:Nat) (r:List Int) (z:Int),x.rows[k]?=some r→r[0]?=some z→Bn x k=z:=fun k r z hk hz=>by unfold Bn;rw[show ((k:Int)).toNat=k from rfl,D2 hk,Q7 hz]
 have wo:∀i,Cu s x mea i=0:=fun i=>if_neg hm
 have sM:V7 mea=[]:=if_neg hm
 rw[sM]at h7
 generalize U5 s x dims mea L=CT at *
 generalize Bm s x dims=OX at *
 generalize EC s x dims mea=RT at *
 generalize Bn x=KX at *
 generalize Cu s x mea=VX at *
 skip
 generalize R2 s x=eX at *
 obtain⟨pr,ver,picks,rows⟩:=x
 dsimp only at *
 clear e1 e2 e3 hp pn nu zX hL qI
 refine y7 Tryz.func16 (by kernel_rfl) rfl rfl rfl rfl rfl (by intro t T h;cases h) fun nd E h0 tB=>?_
 clear nd
 repeat'((first|(refine G9 12 ?_;refine S9 (id:=12) (σ':=⟨[(2,.sl 2 (dims.map B6)),(5,.iptr (sL s)),(6,.iptr [.str pr,.i ver,.sl 2 (picks.map B6),.sl 1 (rows.map G3)]),(8,.iptr [.i mea]),(9,.iptr [.i cnd.op,.i cnd.col,.i cnd.code,.i cnd.lo,.i cnd.hi,.sl 6 (cnd.kids.map Z8)]),(10,.ref 4 0),(14,.sl 1 (L.map G3))],5,[(4,some (.box [.v (.slice none 0 0),.i 0,.v (.slice none 0 0)]))]⟩) (A6 h0) ?_;refine H9 (id:=12) ⟨[(2,.sl 2 (dims.map B6)),(5,.iptr (sL s)),(6,.iptr [.str pr,.i ver,.sl 2 (picks.map B6),.sl 1 (rows.map G3)]),(8,.iptr [.i mea]),(9,.iptr [.i cnd.op,.i cnd.col,.i cnd.code,.i cnd.lo,.i cnd.hi,.sl 6 (cnd.kids.map Z8)]),(10,.ref 4 0),(14,.sl 1 (L.map G3)),(16,.ref 5 0)],6,[(4,some (.box [.v (.slice none 0 0),.i 0,.v (.slice none 0 0)])),(5,some (.box [.sl 2 (dims.map B6),.i mea,.v (.slice none 0 0)]))]⟩ ?_ ?_)|refine A1 h1 ?_|refine A1 h2 ?_|refine A1 h3 ?_|refine A1 h4 ?_|refine A1 h5 ?_|refine A1 h6 ?_|(refine G9 7 ?_;refine B5 ?_ ?_;kernel_rfl) |refine S2 ?_|(refine T6 ?_ ?_<;>intro h<;>try exact V1 h)|intro el nX nY|intro el nX|exact T4|refine T5 ?_ ?_|intro ex)<;>try conv=>whnf)
 all_goals first
  |(exfalso;omega)
  |exact A6 h0
  |skip
 refine B2 (ι:=Nat) (fun k=>⟨[(2,.sl 2 (dims.map B6)),(5,.iptr (sL s)),(6,.iptr [.str pr,.i ver,.sl 2 (picks.map B6),.sl 1 (rows.map G3)]),(8,.iptr [.i mea]),(9,.iptr [.i cnd.op,.i cnd.col,.i cnd.code,.i cnd.lo,.i cnd.hi,.sl 6 (cnd.kids.map Z8)]),(10,.ref 4 0),(16,.ref 5 0),(67,.sl 1 (L.map G3)),(68,.i L.length),(69,.i k)],7,[(4,some (.box [.v (.slice none 0 0),.i 0,.v (.slice none 0 0)])),(5,some (.box [.sl 2 (dims.map B6),.i mea,.row 6 0 k])),(6,some (.row j4 7 0 ((L.take k).map cI)))]⟩)
  (fun k=>k≤L.length) (fun k=>L.length-k) 0 (Nat.zero_le _)
  (C2 (Ja 5 2 (e:=j4) (sz:=7) rfl rfl) (A6 h0)) (fun k hK=>?_)
 by_cases no:k<L.length
 ·obtain⟨l,uo⟩:∃l,L[k]?=some l:=⟨_,List.getElem?_eq_getElem no⟩
  have pg:L[((k:Nat):Int).toNat]?=some l:=uo
  have sc:((L.take k).map cI).length=k:=by rw[List.length_map,List.length_take];omega
  repeat'((first|(refine A2 (x:=l) pg (by omega) ?_) |refine S2 ?_|(refine T6 ?_ ?_<;>intro h<;>try exact V1 h)|intro el nX nY|intro el nX|exact T4|refine T5 ?_ ?_|intro ex)<;>try conv=>whnf)
  all_goals first
   |(exfalso;omega)
   |exact⟨k+1,by omega,by omega,B3 h0 rfl ⟨rfl,rfl,rfl,rfl,rfl,rfl,rfl,rfl,rfl,rfl,trivial⟩ ⟨rfl,rfl,⟨_,congrArg (D3.row j4 7 _) (by rw[I0 uo,List.map_append];rfl)⟩,trivial⟩ rfl rfl rfl⟩
 have qG:L.take k=L:=List.take_of_length_le (by omega)
 have pK:k=L.length:=by omega
 rw[qG]
 subst pK
 clear qG no hK
 repeat'((first|refine cJ (f:=24) 88 1 rfl ?_|refine S8 [] [] h7 rfl rfl rfl rfl rfl trivial rfl rfl rfl rfl rfl ?_ |refine S2 ?_|(refine T6 ?_ ?_<;>intro h<;>try exact V1 h)|intro el nX nY|intro el nX|exact T4|refine T5 ?_ ?_|intro ex)<;>try conv=>whnf)
 all_goals first
  |(exfalso;omega)
  |skip
 refine B2 (ι:=Nat) (fun k=>⟨[(2,.sl 2 (dims.map B6)),(5,.iptr (sL s)),(6,.iptr [.str pr,.i ver,.sl 2 (picks.map B6),.sl 1 (rows.map G3)]),(8,.iptr [.i mea]),(10,.ref 4 0),(16,.ref 5 0),(89,.sl 1 (Is.map wA)),(90,.i Is.length),(91,.i k)],7,[(4,some (.box [.v (.slice none 0 0),.i 0,.v (.slice none 0 0)])),(5,some (.box [.sl 2 (dims.map B6),.i mea,.row 6 0 L.length])),(6,some (.row (T0+j4) 7 0 ((CT (Is.take k)).map M7)))]⟩)
  (fun k=>k≤Is.length) (fun k=>Is.length-k) 0 (Nat.zero_le _)
  (C2 (Wl (i:=6) (F:=T0) (.inr rfl) rfl (fun _=>by rw[h0];exact Nat.zero_le _) (by decide) (Wy L)) (B3 h0 rfl ⟨rfl,rfl,rfl,rfl,rfl,rfl,rfl,rfl,rfl,trivial⟩ ⟨rfl,rfl,⟨_,congrArg (D3.row (T0+j4) 7 _) (by rw[zg])⟩,trivial⟩ rfl rfl rfl)) (fun k hK=>?_)
 obtain⟨vO,qv⟩:=hCk k hK
 by_cases no:k<Is.length
 ·obtain⟨i,hi⟩:∃i,Is[k]?=some i:=⟨_,List.getElem?_eq_getElem no⟩
  have oW:Is[((k:Nat):Int).toNat]?=some i:=hi
  obtain⟨j,row,sb,nl⟩:=sv i (List.mem_of_getElem? hi)
  have sW:=pR j row nl
  obtain⟨key,rh⟩:∃z,row[0]?=some z:=⟨_,List.getElem?_eq_getElem (by omega)⟩
  have yE:=qC j row key nl rh
  have tg:=uT j row nl
  have oz:=wx k i hi
  rw[wE]at oz
  have xy:=nh j row nl
  have rp:=tI i
  have xJ:=ux i
  have vp:=wo i
  rw[←sb]at yE xy tg
  have tV:rows[i.toNat]?=some row:=by rw[sb];exact nl
  have re:=D4 nl
  have hib:0≤i∧i<rows.length:=by omega
  rw[yE]at oz
  generalize OX i=O at *
  generalize hv0:VX i=v at *
  subst vp
  generalize CT (Is.take k)=C at *
  clear wx wE nh qC uT sv pR ux
  repeat'((first|(refine A2 (x:=i) oW (by omega) ?_) |refine S2 ?_|(refine T6 ?_ ?_<;>intro h<;>try exact V1 h)|intro el nX nY|intro el nX|exact T4|refine T5 ?_ ?_|intro ex)<;>try conv=>whnf)
  all_goals first
   |(exfalso;omega)
   |skip
  refine B2 (ι:=Nat) (fun q=>⟨[(2,.sl 2 (dims.map B6)),(5,.iptr (sL s)),(6,.iptr [.str pr,.i ver,.sl 2 (picks.map B6),.sl 1 (rows.map G3)]),(8,.iptr [.i mea]),(10,.ref 4 0),(16,.ref 5 0),(21,.iptr [.i i]),(22,.iptr [.i 0]),(23,.row 9 0 dims.length),(89,.sl 1 (Is.map wA)),(90,.i Is.length),(91,.i k),(108,.sl 2 (dims.map B6)),(109,.i dims.length),(110,.i q)],10,[(4,some (.box [.v (.slice none 0 0),.i 0,.v (.slice none 0 0)])),(5,some (.box [.sl 2 (dims.map B6),.i mea,.row 6 0 L.length])),(6,some (.row (T0+j4) 7 0 ((C).map M7))),(9,some (.row 3 1 0 ((w9 O dims.length q).map wA)))]⟩)
   (fun q=>q≤dims.length) (fun q=>dims.length-q) 0 (Nat.zero_le _)
   (B3 h0 rfl ⟨rfl,rfl,rfl,rfl,rfl,rfl,rfl,rfl,rfl,rfl,rfl,rfl,rfl,rfl,rfl,trivial⟩ ⟨rfl,rfl,⟨_,rfl⟩,⟨_,congrArg (D3.row 3 1 _) (by rw[OC];rfl)⟩,trivial⟩ rfl rfl rfl) (fun q hq=>?_)
  have vL:=Qk rp hq
  by_cases uE:q<dims.length
  ·obtain⟨d,hd⟩:∃d,dims[q]?=some d:=⟨_,List.getElem?_eq_getElem uE⟩
   have zK:dims[((q:Nat):Int).toNat]?=some d:=hd
   have hc:=tg d
   have hO:=xy q d hd
   generalize V6 s d.col d.lev (picks.zip row.tail)=Z at *
   obtain⟨z,ok⟩:=Z
   dsimp only at *
   have oP:=Ql rp hO
   have od:((w9 O dims.length q).map wA).set q [.i z]=(w9 O dims.length (q+1)).map wA:=by rw[←oP,List.map_set]
   repeat'((first|(refine A2 (x:=d) zK (by omega) ?_)|refine A1 hc ?_ |refine S2 ?_|(refine T6 ?_ ?_<;>intro h<;>try exact V1 h)|intro el nX nY|intro el nX|exact T4|refine T5 ?_ ?_|intro ex)<;>try conv=>whnf)
   all_goals first
    |(exfalso;omega)
    |exact⟨q+1,by omega,by omega,B3 h0 rfl ⟨rfl,rfl,rfl,rfl,rfl,rfl,rfl,rfl,rfl,rfl,rfl,rfl,rfl,rfl,rfl,trivial⟩ ⟨rfl,rfl,⟨_,rfl⟩,⟨_,congrArg (D3.row 3 1 _) od.symm⟩,trivial⟩ rfl rfl rfl⟩
  have yQ:q=dims.length:=by omega
  subst yQ
  rw[Qj rp]
  refine u5 (B3 (σ':=⟨[(2,.sl 2 (dims.map B6)),(5,.iptr (sL s)),(6,.iptr [.str pr,.i ver,.sl 2 (picks.map B6),.sl 1 (rows.map G3)]),(8,.iptr [.i mea]),(10,.ref 4 0),(16,.ref 5 0),(21,.iptr [.i i]),(22,.iptr [.i 0]),(23,.sl 1 (O.map wA)),(89,.sl 1 (Is.map wA)),(90,.i Is.length),(91,.i k),(108,.sl 2 (dims.map B6)),(109,.i dims.length),(110,.i dims.length)],7,[(4,some (.box [.v (.slice none 0 0),.i 0,.v (.slice none 0 0)])),(5,some (.box [.sl 2 (dims.map B6),.i mea,.row 6 0 L.length])),(6,some (.row (T0+j4) 7 0 ((C).map M7)))]⟩) h0 rfl ⟨rfl,rfl,rfl,rfl,rfl,rfl,rfl,rfl,rfl,rfl,rfl,rfl,rfl,rfl,rfl,trivial⟩ ⟨rfl,rfl,⟨_,rfl⟩,trivial⟩ rfl rfl rfl) ?_
  have wK:=LM (C.map M7) L.length O
  repeat'((first|refine nc [6] [0] wK rfl rfl rfl ⟨rfl,trivial⟩ ?_|refine Wz ?_ |refine S2 ?_|(refine T6 ?_ ?_<;>intro h<;>try exact V1 h)|intro el nX nY|intro el nX|exact T4|refine T5 ?_ ?_|intro ex)<;>try conv=>whnf)
  all_goals first
   |(exfalso;omega)
   |skip
  have wB:∀c∈C,c.codes.length≤O.length:=fun c hc=>by have:=(qv c hc).codes;omega
  refine XA ?_
  refine Qd (slc:=[(6,.iptr [.str pr,.i ver,.sl 2 (picks.map B6),.sl 1 (rows.map G3)]),(8,.iptr [.i mea]),(21,.iptr [.i i]),(22,.iptr [.i 0])]) (m0:=3) (m1:=3) (hp0:=lW (C.map M7) L.length O) (hp1:=lX ((C.map fun c=>if I7 O c.codes=true then L2 key 0 (decide (0≤mea)) c else c).map M7) L.length) (args:=[.ref 1 0,.ref 2 0]) (r:=.tup []) [6,7,8] [0,0,0] rfl tB (fun l rc q1 q2 q3 q4 q5 q6=>?_) ⟨⟨rfl,rfl⟩,⟨rfl,rfl⟩,⟨rfl,rfl⟩,⟨rfl,rfl⟩,trivial⟩ rfl rfl ⟨rfl,rfl,rfl,trivial⟩ ?_
  ·have vD:C.length≤9223372036854775807:=by omega
   rw[←vO]
   refine Jf l rc _ O (fun c=>L2 key 0 (decide (0≤mea)) c) C vD wB (fun M q c hM hq hc=>LK q1 q2 q3 q4 rfl rfl q5 q6 rfl fun E2 zV=>FA ?_)
   have vQ:=(qv c hc).ok (by omega)
   have pI:(M.map M7)[q]?=some (M7 c):=by rw[List.getElem?_map,hq];rfl
   have sE:=Nu (M.map M7) q c pI vQ key 0 xJ (decide (0≤mea))
   rw[show (M.map M7).set q (M7 (L2 key 0 (decide (0≤mea)) c))=(M.set q (L2 key 0 (decide (0≤mea)) c)).map M7 by rw[List.map_set]]at sE
   repeat'((first|(refine Cm ?_ ?_ ?_;kernel_rfl;kernel_rfl)|refine nc [0] [0] sE rfl rfl rfl ⟨rfl,trivial⟩ ?_|(refine A2 (x:=row) tV (by omega) ?_)|(refine A2 (x:=key) rh (by omega) ?_) |refine S2 ?_|(refine T6 ?_ ?_<;>intro h<;>try exact V1 h)|intro el nX nY|intro el nX|exact T4|refine T5 ?_ ?_|intro ex)<;>try conv=>whnf)
   all_goals first
    |(exfalso;omega)
    |exact B3 zV rfl trivial ⟨⟨_,rfl⟩,trivial⟩ rfl rfl rfl
  (try (conv=>whnf))
  repeat'((first|refine S2 ?_|(refine T6 ?_ ?_<;>intro h<;>try exact V1 h)|intro el nX nY|intro el nX|exact T4|refine T5 ?_ ?_|intro ex)<;>try conv=>whnf)
  all_goals first
   |(exfalso;omega)
   |exact⟨k+1,by omega,by omega,B3 h0 rfl ⟨rfl,rfl,rfl,rfl,rfl,rfl,rfl,rfl,rfl,trivial⟩ ⟨rfl,rfl,⟨_,congrArg (D3.row (T0+j4) 7 _) (by rw[oz])⟩,trivial⟩ rfl rfl rfl⟩
 have qG:Is.take k=Is:=List.take_of_length_le (by omega)
 have pK:k=Is.length:=by omega
 rw[qG]
 subst pK
 refine u5 (C2 (QY (i:=6) (F:=T0) (.inr rfl) rfl (by decide) (Qi (CT Is))) (C2 (B3 (σ':=⟨[(10,.ref 4 0),(16,.ref 5 0),(90,.i Is.length),(91,.i Is.length)],6,[(4,some (.box [.v (.slice none 0 0),.i 0,.v (.slice none 0 0)])),(5,some (.box [.sl 2 (dims.map B6),.i mea,.sl 7 ((CT Is).map L8)]))]⟩) h0 rfl ⟨rfl,rfl,rfl,rfl,trivial⟩ ⟨rfl,rfl,trivial⟩ rfl rfl rfl) (B3 (σ':=⟨[(10,.ref 4 0),(16,.iptr [.sl 2 (dims.map B6),.i mea,.sl 7 ((CT Is).map L8)]),(90,.i Is.length),(91,.i Is.length)],5,[(4,some (.box [.v (.slice none 0 0),.i 0,.v (.slice none 0 0)]))]⟩) h0 rfl ⟨rfl,rfl,rfl,rfl,trivial⟩ ⟨rfl,trivial⟩ rfl rfl rfl))) ?_
 repeat'((first|refine S2 ?_|(refine T6 ?_ ?_<;>intro h<;>try exact V1 h)|intro el nX nY|intro el nX|exact T4|refine T5 ?_ ?_|intro ex)<;>try conv=>whnf)
 all_goals first
  |(exfalso;omega)
  |exact r9 rfl rfl rfl (.refl _) rfl (.refl _) rfl
theorem lk(s:A4)(x:H6)(dims:List Pk)(mea:Int)(cnd:B0)(L:List (List Int))(e1:R2 s x=0)(e2:O3 s (AD dims mea cnd)=0)(e3:z4 x.picks (Bl s (Ct dims mea cnd))=true)(hL:Y0 s dims [[]]=some L)(hm:0≤mea):A3 Tryz.prog 16 [sA s,f4 x,.sl 2 (dims.map B6),.i mea,E0 cnd] (.tup [Ay ⟨dims,mea,U5 s x dims mea L (R3 s x cnd (V7 mea))⟩,.i 0]):=by
 have h1:=f5 s x
 rw[e1]at h1
 have h2:A3 Tryz.prog 44 [sA s,.sl 2 (dims.map B6),.i mea,E0 cnd] (.i 0):=e2▸Cr s dims mea cnd
 have h3:=Eg s dims mea cnd
 have h4:=BI x.picks (Bl s (Ct dims mea cnd))
 rw[e3]at h4
 obtain⟨hr,rJ,pn,yo⟩:=Jn e2
 obtain⟨uh,sU,vG⟩:=o7 pn
 have h5:=FO s hr dims sU vG
 rw[hL]at h5
 have h6:=LQ dims (by omega)
 have h7:=GO s x cnd (V7 mea)
 have hLl:=MI hL (by decide)
 have zj:∀l∈L,l.length=dims.length:=fun l hl=>by have:=MH (m:=0) hL (by simp) l hl;omega
 obtain⟨hr',hp,pA,nu⟩:=CE e1
 have qI:=AY hp
 have nz:=(E9 hr).2.1
 have ux:=fun i=>UP hr yo x i
 have uT:=fun (k:Nat) (r:List Int) (hk:x.rows[k]?=some r) (d:Pk)=>Ck s hr x k r hk (o5 (nu k r hk)) (by omega) d.col d.lev
 have sv:=fun i=>@CG s x cnd (V7 mea) i
 have hcn:=KW s x cnd (V7 mea)
 have pR:=fun (k:Nat) (r:List Int) (hk:x.rows[k]?=some r)=>o5 (nu k r hk)
 generalize zX:R3 s x cnd (V7 mea)=Is at *
 have hCk:=MJ ux zj Is
 have wx:=fun (k:Nat) (i:Int) (h:Is[k]?=some i)=>Hz s x dims mea L h
 have zg:U5 s x dims mea L (Is.take 0)=L.map o6:=rfl
 have hCn:U5 s x dims mea L (Is.take Is.length)=U5 s x dims mea L Is:=by rw[List.take_length]
 have wE:∀(i:Int) (C:List F1),EC s x dims mea C i=C.map fun c=>if I7 (Bm s x dims i) c.codes=true then L2 (Bn x i) (Cu s x mea i) (decide (0≤mea)) c else c:=fun _ _=>rfl
 have nh:∀(k:Nat) (r:List Int),x.rows[k]?=some r→∀(q:Nat) (d:Pk),dims[q]?=some d→(Bm s x dims k)[q]?=some (V6 s d.col d.lev (x.picks.zip r.tail)).1:=fun k r hk q d hd=>by unfold Bm;rw[List.getElem?_map,hd,show ((k:Int)).toNat=k from rfl,D2 hk];rfl
 have tI:∀i,(Bm s x dims i).length=dims.length:=fun i=>List.length_map ..
 have qC:∀(k:Nat) (r:List Int) (z:Int),x.rows[k]?=some r→r[0]?=some z→Bn x k=z:=fun k r z hk hz=>by unfold Bn;rw[show ((k:Int)).toNat=k from rfl,D2 hk,Q7 hz]
 have h8:=fun (i:Int) (hi:i∈Is)=>Va s x e1 [i] (by simp) (fun j hj=>by simp at hj;subst hj;exact sv j hi) mea
 have wo:∀i,Cu s x mea i=Jc s x mea i:=fun i=>if_pos hm
 have sM:V7 mea=[mea]:=if_pos hm
 rw[sM]at h7
 generalize U5 s x dims mea L=CT at *
 generalize Bm s x dims=OX at *
 generalize EC s x dims mea=RT at *
 generalize Bn x=KX at *
 generalize Cu s x mea=VX at *
 generalize Jc s x mea=YX at *
 generalize R2 s x=eX at *
 obtain⟨pr,ver,picks,rows⟩:=x
 dsimp only at *
 clear e1 e2 e3 hp pn nu zX hL qI
 refine y7 Tryz.func16 (by kernel_rfl) rfl rfl rfl rfl rfl (by intro t T h;cases h) fun nd E h0 tB=>?_
 clear nd
 repeat'((first|(refine G9 12 ?_;refine S9 (id:=12) (σ':=⟨[(2,.sl 2 (dims.map B6)),(5,.iptr (sL s)),(6,.iptr [.str pr,.i ver,.sl 2 (picks.map B6),.sl 1 (rows.map G3)]),(8,.iptr [.i mea]),(9,.iptr [.i cnd.op,.i cnd.col,.i cnd.code,.i cnd.lo,.i cnd.hi,.sl 6 (cnd.kids.map Z8)]),(10,.ref 4 0),(14,.sl 1 (L.map G3))],5,[(4,some (.box [.v (.slice none 0 0),.i 0,.v (.slice none 0 0)]))]⟩) (A6 h0) ?_;refine H9 (id:=12) ⟨[(2,.sl 2 (dims.map B6)),(5,.iptr (sL s)),(6,.iptr [.str pr,.i ver,.sl 2 (picks.map B6),.sl 1 (rows.map G3)]),(8,.iptr [.i mea]),(9,.iptr [.i cnd.op,.i cnd.col,.i cnd.code,.i cnd.lo,.i cnd.hi,.sl 6 (cnd.kids.map Z8)]),(10,.ref 4 0),(14,.sl 1 (L.map G3)),(16,.ref 5 0)],6,[(4,some (.box [.v (.slice none 0 0),.i 0,.v (.slice none 0 0)])),(5,some (.box [.sl 2 (dims.map B6),.i mea,.v (.slice none 0 0)]))]⟩ ?_ ?_)|refine A1 h1 ?_|refine A1 h2 ?_|refine A1 h3 ?_|refine A1 h4 ?_|refine A1 h5 ?_|refine A1 h6 ?_|(refine G9 7 ?_;refine B5 ?_ ?_;kernel_rfl) |refine S2 ?_|(refine T6 ?_ ?_<;>intro h<;>try exact V1 h)|intro el nX nY|intro el nX|exact T4|refine T5 ?_ ?_|intro ex)<;>try conv=>whnf)
 all_goals first
  |(exfalso;omega)
  |exact A6 h0
  |skip
 refine B2 (ι:=Nat) (fun k=>⟨[(2,.sl 2 (dims.map B6)),(5,.iptr (sL s)),(6,.iptr [.str pr,.i ver,.sl 2 (picks.map B6),.sl 1 (rows.map G3)]),(8,.iptr [.i mea]),(9,.iptr [.i cnd.op,.i cnd.col,.i cnd.code,.i cnd.lo,.i cnd.hi,.sl 6 (cnd.kids.map Z8)]),(10,.ref 4 0),(16,.ref 5 0),(67,.sl 1 (L.map G3)),(68,.i L.length),(69,.i k)],7,[(4,some (.box [.v (.slice none 0 0),.i 0,.v (.slice none 0 0)])),(5,some (.box [.sl 2 (dims.map B6),.i mea,.row 6 0 k])),(6,some (.row j4 7 0 ((L.take k).map cI)))]⟩)
  (fun k=>k≤L.length) (fun k=>L.length-k) 0 (Nat.zero_le _)
  (C2 (Ja 5 2 (e:=j4) (sz:=7) rfl rfl) (A6 h0)) (fun k hK=>?_)
 by_cases no:k<L.length
 ·obtain⟨l,uo⟩:∃l,L[k]?=some l:=⟨_,List.getElem?_eq_getElem no⟩
  have pg:L[((k:Nat):Int).toNat]?=some l:=uo
  have sc:((L.take k).map cI).length=k:=by rw[List.length_map,List.length_take];omega
  repeat'((first|(refine A2 (x:=l) pg (by omega) ?_) |refine S2 ?_|(refine T6 ?_ ?_<;>intro h<;>try exact V1 h)|intro el nX nY|intro el nX|exact T4|refine T5 ?_ ?_|intro ex)<;>try conv=>whnf)
  all_goals first
   |(exfalso;omega)
   |exact⟨k+1,by omega,by omega,B3 h0 rfl ⟨rfl,rfl,rfl,rfl,rfl,rfl,rfl,rfl,rfl,rfl,trivial⟩ ⟨rfl,rfl,⟨_,congrArg (D3.row j4 7 _) (by rw[I0 uo,List.map_append];rfl)⟩,trivial⟩ rfl rfl rfl⟩
 have qG:L.take k=L:=List.take_of_length_le (by omega)
 have pK:k=L.length:=by omega
 rw[qG]
 subst pK
 clear qG no hK
 repeat'((first|refine S8 [] [] h7 rfl rfl rfl rfl rfl trivial rfl rfl rfl rfl rfl ?_ |refine S2 ?_|(refine T6 ?_ ?_<;>intro h<;>try exact V1 h)|intro el nX nY|intro el nX|exact T4|refine T5 ?_ ?_|intro ex)<;>try conv=>whnf)
 all_goals first
  |(exfalso;omega)
  |skip
 refine B2 (ι:=Nat) (fun k=>⟨[(2,.sl 2 (dims.map B6)),(5,.iptr (sL s)),(6,.iptr [.str pr,.i ver,.sl 2 (picks.map B6),.sl 1 (rows.map G3)]),(8,.iptr [.i mea]),(10,.ref 4 0),(16,.ref 5 0),(89,.sl 1 (Is.map wA)),(90,.i Is.length),(91,.i k)],7,[(4,some (.box [.v (.slice none 0 0),.i 0,.v (.slice none 0 0)])),(5,some (.box [.sl 2 (dims.map B6),.i mea,.row 6 0 L.length])),(6,some (.row (T0+j4) 7 0 ((CT (Is.take k)).map M7)))]⟩)
  (fun k=>k≤Is.length) (fun k=>Is.length-k) 0 (Nat.zero_le _)
  (C2 (Wl (i:=6) (F:=T0) (.inr rfl) rfl (fun _=>by rw[h0];exact Nat.zero_le _) (by decide) (Wy L)) (B3 h0 rfl ⟨rfl,rfl,rfl,rfl,rfl,rfl,rfl,rfl,rfl,trivial⟩ ⟨rfl,rfl,⟨_,congrArg (D3.row (T0+j4) 7 _) (by rw[zg])⟩,trivial⟩ rfl rfl rfl)) (fun k hK=>?_)
 obtain⟨vO,qv⟩:=hCk k hK
 by_cases no:k<Is.length
 ·obtain⟨i,hi⟩:∃i,Is[k]?=some i:=⟨_,List.getElem?_eq_getElem no⟩
  have oW:Is[((k:Nat):Int).toNat]?=some i:=hi
  obtain⟨j,row,sb,nl⟩:=sv i (List.mem_of_getElem? hi)
  have sW:=pR j row nl
  obtain⟨key,rh⟩:∃z,row[0]?=some z:=⟨_,List.getElem?_eq_getElem (by omega)⟩
  have yE:=qC j row key nl rh
  have tg:=uT j row nl
  have oz:=wx k i hi
  rw[wE]at oz
  have xy:=nh j row nl
  have rp:=tI i
  have xJ:=ux i
  have vp:=wo i
  rw[←sb]at yE xy tg
  have tV:rows[i.toNat]?=some row:=by rw[sb];exact nl
  have re:=D4 nl
  have hib:0≤i∧i<rows.length:=by omega
  rw[yE]at oz
  have h9:=h8 i (List.mem_of_getElem? hi)
  generalize OX i=O at *
  generalize hv0:VX i=v at *
  simp only[List.map_cons,List.map_nil,List.length_singleton,←vp]at h9
  generalize CT (Is.take k)=C at *
  clear wx wE nh qC uT sv pR ux
  repeat'((first|(refine A2 (x:=i) oW (by omega) ?_)|refine S8 [] [] h9 rfl rfl rfl rfl rfl trivial rfl rfl rfl rfl rfl ?_|(refine gc (x:=[.i v]) rfl rfl ?_) |refine S2 ?_|(refine T6 ?_ ?_<;>intro h<;>try exact V1 h)|intro el nX nY|intro el nX|exact T4|refine T5 ?_ ?_|intro ex)<;>try conv=>whnf)
  all_goals first
   |(exfalso;omega)
   |skip
  refine B2 (ι:=Nat) (fun q=>⟨[(2,.sl 2 (dims.map B6)),(5,.iptr (sL s)),(6,.iptr [.str pr,.i ver,.sl 2 (picks.map B6),.sl 1 (rows.map G3)]),(8,.iptr [.i mea]),(10,.ref 4 0),(16,.ref 5 0),(21,.iptr [.i i]),(22,.iptr [.i v]),(23,.row 10 0 dims.length),(89,.sl 1 (Is.map wA)),(90,.i Is.length),(91,.i k),(108,.sl 2 (dims.map B6)),(109,.i dims.length),(110,.i q)],11,[(4,some (.box [.v (.slice none 0 0),.i 0,.v (.slice none 0 0)])),(5,some (.box [.sl 2 (dims.map B6),.i mea,.row 6 0 L.length])),(6,some (.row (T0+j4) 7 0 ((C).map M7))),(10,some (.row 3 1 0 ((w9 O dims.length q).map wA)))]⟩)
   (fun q=>q≤dims.length) (fun q=>dims.length-q) 0 (Nat.zero_le _)
   (B3 h0 rfl ⟨rfl,rfl,rfl,rfl,rfl,rfl,rfl,rfl,rfl,rfl,rfl,rfl,rfl,rfl,rfl,trivial⟩ ⟨rfl,rfl,⟨_,rfl⟩,⟨_,congrArg (D3.row 3 1 _) (by rw[OC];rfl)⟩,trivial⟩ rfl rfl rfl) (fun q hq=>?_)
  have vL:=Qk rp hq
  by_cases uE:q<dims.length
  ·obtain⟨d,hd⟩:∃d,dims[q]?=some d:=⟨_,List.getElem?_eq_getElem uE⟩
   have zK:dims[((q:Nat):Int).toNat]?=some d:=hd
   have hc:=tg d
   have hO:=xy q d hd
   generalize V6 s d.col d.lev (picks.zip row.tail)=Z at *
   obtain⟨z,ok⟩:=Z
   dsimp only at *
   have oP:=Ql rp hO
   have od:((w9 O dims.length q).map wA).set q [.i z]=(w9 O dims.length (q+1)).map wA:=by rw[←oP,List.map_set]
   repeat'((first|(refine A2 (x:=d) zK (by omega) ?_)|refine A1 hc ?_ |refine S2 ?_|(refine T6 ?_ ?_<;>intro h<;>try exact V1 h)|intro el nX nY|intro el nX|exact T4|refine T5 ?_ ?_|intro ex)<;>try conv=>whnf)
   all_goals first
    |(exfalso;omega)
    |exact⟨q+1,by omega,by omega,B3 h0 rfl ⟨rfl,rfl,rfl,rfl,rfl,rfl,rfl,rfl,rfl,rfl,rfl,rfl,rfl,rfl,rfl,trivial⟩ ⟨rfl,rfl,⟨_,rfl⟩,⟨_,congrArg (D3.row 3 1 _) od.symm⟩,trivial⟩ rfl rfl rfl⟩
  have yQ:q=dims.length:=by omega
  subst yQ
  rw[Qj rp]
  refine u5 (B3 (σ':=⟨[(2,.sl 2 (dims.map B6)),(5,.iptr (sL s)),(6,.iptr [.str pr,.i ver,.sl 2 (picks.map B6),.sl 1 (rows.map G3)]),(8,.iptr [.i mea]),(10,.ref 4 0),(16,.ref 5 0),(21,.iptr [.i i]),(22,.iptr [.i v]),(23,.sl 1 (O.map wA)),(89,.sl 1 (Is.map wA)),(90,.i Is.length),(91,.i k),(108,.sl 2 (dims.map B6)),(109,.i dims.length),(110,.i dims.length)],7,[(4,some (.box [.v (.slice none 0 0),.i 0,.v (.slice none 0 0)])),(5,some (.box [.sl 2 (dims.map B6),.i mea,.row 6 0 L.length])),(6,some (.row (T0+j4) 7 0 ((C).map M7)))]⟩) h0 rfl ⟨rfl,rfl,rfl,rfl,rfl,rfl,rfl,rfl,rfl,rfl,rfl,rfl,rfl,rfl,rfl,trivial⟩ ⟨rfl,rfl,⟨_,rfl⟩,trivial⟩ rfl rfl rfl) ?_
  have wK:=LM (C.map M7) L.length O
  repeat'((first|refine nc [6] [0] wK rfl rfl rfl ⟨rfl,trivial⟩ ?_|refine Wz ?_ |refine S2 ?_|(refine T6 ?_ ?_<;>intro h<;>try exact V1 h)|intro el nX nY|intro el nX|exact T4|refine T5 ?_ ?_|intro ex)<;>try conv=>whnf)
  all_goals first
   |(exfalso;omega)
   |skip
  have wB:∀c∈C,c.codes.length≤O.length:=fun c hc=>by have:=(qv c hc).codes;omega
  refine XA ?_
  refine Qd (slc:=[(6,.iptr [.str pr,.i ver,.sl 2 (picks.map B6),.sl 1 (rows.map G3)]),(8,.iptr [.i mea]),(21,.iptr [.i i]),(22,.iptr [.i v])]) (m0:=3) (m1:=3) (hp0:=lW (C.map M7) L.length O) (hp1:=lX ((C.map fun c=>if I7 O c.codes=true then L2 key v (decide (0≤mea)) c else c).map M7) L.length) (args:=[.ref 1 0,.ref 2 0]) (r:=.tup []) [6,7,8] [0,0,0] rfl tB (fun l rc q1 q2 q3 q4 q5 q6=>?_) ⟨⟨rfl,rfl⟩,⟨rfl,rfl⟩,⟨rfl,rfl⟩,⟨rfl,rfl⟩,trivial⟩ rfl rfl ⟨rfl,rfl,rfl,trivial⟩ ?_
  ·have vD:C.length≤9223372036854775807:=by omega
   rw[←vO]
   refine Jf l rc _ O (fun c=>L2 key v (decide (0≤mea)) c) C vD wB (fun M q c hM hq hc=>LK q1 q2 q3 q4 rfl rfl q5 q6 rfl fun E2 zV=>FA ?_)
   have vQ:=(qv c hc).ok (by omega)
   have pI:(M.map M7)[q]?=some (M7 c):=by rw[List.getElem?_map,hq];rfl
   have sE:=Nu (M.map M7) q c pI vQ key v xJ (decide (0≤mea))
   rw[show (M.map M7).set q (M7 (L2 key v (decide (0≤mea)) c))=(M.set q (L2 key v (decide (0≤mea)) c)).map M7 by rw[List.map_set]]at sE
   repeat'((first|(refine Cm ?_ ?_ ?_;kernel_rfl;kernel_rfl)|refine nc [0] [0] sE rfl rfl rfl ⟨rfl,trivial⟩ ?_|(refine A2 (x:=row) tV (by omega) ?_)|(refine A2 (x:=key) rh (by omega) ?_) |refine S2 ?_|(refine T6 ?_ ?_<;>intro h<;>try exact V1 h)|intro el nX nY|intro el nX|exact T4|refine T5 ?_ ?_|intro ex)<;>try conv=>whnf)
   all_goals first
    |(exfalso;omega)
    |exact B3 zV rfl trivial ⟨⟨_,rfl⟩,trivial⟩ rfl rfl rfl
  (try (conv=>whnf))
  repeat'((first|refine S2 ?_|(refine T6 ?_ ?_<;>intro h<;>try exact V1 h)|intro el nX nY|intro el nX|exact T4|refine T5 ?_ ?_|intro ex)<;>try conv=>whnf)
  all_goals first
   |(exfalso;omega)
   |exact⟨k+1,by omega,by omega,B3 h0 rfl ⟨rfl,rfl,rfl,rfl,rfl,rfl,rfl,rfl,rfl,trivial⟩ ⟨rfl,rfl,⟨_,congrArg (D3.row (T0+j4) 7 _) (by rw[oz])⟩,trivial⟩ rfl rfl rfl⟩
 have qG:Is.take k=Is:=List.take_of_length_le (by omega)
 have pK:k=Is.length:=by omega
 rw[qG]
 subst pK
 refine u5 (C2 (QY (i:=6) (F:=T0) (.inr rfl) rfl (by decide) (Qi (CT Is))) (C2 (B3 (σ':=⟨[(10,.ref 4 0),(16,.ref 5 0),(90,.i Is.length),(91,.i Is.length)],6,[(4,some (.box [.v (.slice none 0 0),.i 0,.v (.slice none 0 0)])),(5,some (.box [.sl 2 (dims.map B6),.i mea,.sl 7 ((CT Is).map L8)]))]⟩) h0 rfl ⟨rfl,rfl,rfl,rfl,trivial⟩ ⟨rfl,rfl,trivial⟩ rfl rfl rfl) (B3 (σ':=⟨[(10,.ref 4 0),(16,.iptr [.sl 2 (dims.map B6),.i mea,.sl 7 ((CT Is).map L8)]),(90,.i Is.length),(91,.i Is.length)],5,[(4,some (.box [.v (.slice none 0 0),.i 0,.v (.slice none 0 0)]))]⟩) h0 rfl ⟨rfl,rfl,rfl,rfl,trivial⟩ ⟨rfl,trivial⟩ rfl rfl rfl))) ?_
 repeat'((first|refine S2 ?_|(refine T6 ?_ ?_<;>intro h<;>try exact V1 h)|intro el nX nY|intro el nX|exact T4|refine T5 ?_ ?_|intro ex)<;>try conv=>whnf)
 all_goals first
  |(exfalso;omega)
  |exact r9 rfl rfl rfl (.refl _) rfl (.refl _) rfl
end Go.Proofs.YtiphlhoclaogjaaGreatDoor
