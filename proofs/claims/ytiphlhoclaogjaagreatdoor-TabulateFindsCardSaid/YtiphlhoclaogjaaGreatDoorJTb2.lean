/- Chapter 18: tables: the program, the table. -/
import Derived.Test.YtiphlhoclaogjaaGreatDoorJTb1
import Derived.Test.YtiphlhoclaogjaaGreatDoorJTa5
set_option linter.unusedVariables false
set_option linter.unnecessarySimpa false
set_option linter.unusedSimpArgs false
set_option maxHeartbeats 64000000
namespace Go.Proofs.YtiphlhoclaogjaaGreatDoor
open Go Go.Av
attribute [local irreducible] C9 B3 C8 D1 DQ D0 C7 St.le A3 B8
set_option maxRecDepth 100000
attribute [local irreducible] HH Et LF Hi
theorem RU{P:Program}{E:Env}{n:Nat}{ops:Array Oper}{rest:List Oper}{σ:St}{K:St→Prop}{o:Option Nat}{f:Nat}{xs:Array Operand}{ts:Array TypeId}{ty:TypeId}{pos:String}{after:Array Edge}(d sz:Nat)(hd:Go.Av.look σ.sl d=some (.v (.slice none 0 0)))(h:B3 P E n ops (⟨o,.call ⟨.value (.func f),xs,ts⟩,ty,pos,after,none⟩::rest) (σ.put d (.sl sz [])) K):B3 P E n ops (⟨o,.call ⟨.value (.func f),xs,ts⟩,ty,pos,after,none⟩::rest) σ K:=Dx (aG hd) h
def Us(P:Program)(E:Env)(n:Nat)(g:Operand)(ps:Array Tmp)(assign body:Go.Code)(σ:St)(Q:Exit→St→Prop):Prop:=C9 P E n (.rangeFunc g ps assign body) σ Q
theorem XQ{P:Program}{E:Env}{n:Nat}{g:Operand}{ps:Array Tmp}{assign body:Go.Code}{σ:St}{Q:Exit→St→Prop}(h:Us P E n g ps assign body σ Q):C9 P E n (.rangeFunc g ps assign body) σ Q:=h
theorem XR{P:Program}{E:Env}{n:Nat}{g:Operand}{ps:Array Tmp}{assign body:Go.Code}{σ:St}{Q:Exit→St→Prop}(h:C9 P E n (.rangeFunc g ps assign body) σ Q):Us P E n g ps assign body σ Q:=h
attribute [local irreducible] Us
def Aq(O:List Int)(D q:Nat):List Int:=O.take q++List.replicate (D-q) 0
theorem Oq(O:List Int)(D:Nat):(Aq O D 0).map wA=List.replicate D [AV.i 0]:=by simp[Aq]
theorem RV{O:List Int}{D:Nat}(h:O.length=D):Aq O D D=O:=by
 unfold Aq
 rw[Nat.sub_self,List.replicate_zero,List.append_nil,List.take_of_length_le (by omega)]
theorem RW{O:List Int}{D q:Nat}(h:O.length=D)(hq:q≤D):(Aq O D q).length=D:=by
 unfold Aq
 rw[List.length_append,List.length_take,List.length_replicate];omega
theorem RX{O:List Int}{D q:Nat}{z:Int}(h:O.length=D)(hz:O[q]?=some z):(Aq O D q).set q z=Aq O D (q+1):=by
 have hq:=E9 hz
 unfold Aq
 rw[F1 hz,List.set_append_right _ _ (by rw[List.length_take];omega),List.length_take,show q-min q O.length=0 by omega,List.append_assoc]
 congr 1
 cases hD:D-q with
 |zero=>omega
 |succ m=>rw[show D-(q+1)=m by omega,List.replicate_succ];rfl
theorem lY(s:A4)(x:J9)(dims:List Pk)(mea:Int)(cnd:B7)(L:List (List Int))(e1:L2 s x=0)(e2:L7 s (R9 dims mea cnd)=0)(e3:X8 x.picks (W8 s (j9 dims mea cnd))=true)(hL:U9 s dims [[]]=some L)(hm:¬0≤mea):A3 Tryz.prog 16 [sA s,X9 x,.sl 2 (dims.map A8),.i mea,D5 cnd] (.tup [S3 ⟨dims,mea,V8 s x dims mea L (b7 s x cnd (V0 mea))⟩,.i 0]):=by
 have h1:=n6 s x
 rw[e1]at h1
 have h2:A3 Tryz.prog 44 [sA s,.sl 2 (dims.map A8),.i mea,D5 cnd] (.i 0):=e2▸Dn s dims mea cnd
 have h3:=FZ s dims mea cnd
 have h4:=CW x.picks (W8 s (j9 dims mea cnd))
 rw[e3]at h4
 obtain⟨hr,rY,pA,ut⟩:=DJ e2
 obtain⟨sf,qa,rh⟩:=Ct pA
 have h5:=GI s hr dims qa rh
 rw[hL]at h5
 have h6:=MA dims (by omega)
 have h7:=HG s x cnd (V0 mea)
 have hLl:=It hL (by decide)
 have ux:∀l∈L,l.length=dims.length:=fun l hl=>by have:=Mt (m:=0) hL (by simp) l hl;omega
 obtain⟨zL,hp,oK,nV⟩:=v6 e1
 have pk:=k9 hp
 have ni:=(D2 hr).2.1
 have sU:=fun i=>Oo hr ut x i
 have re:=fun (k:Nat) (r:List Int) (hk:x.rows[k]?=some r) (d:Pk)=>Dh s hr x k r hk (O7 (nV k r hk)) (by omega) d.col d.lev
 have qp:=fun i=>@LH s x cnd (V0 mea) i
 have zE:=LI s x cnd (V0 mea)
 have oY:=fun (k:Nat) (r:List Int) (hk:x.rows[k]?=some r)=>O7 (nV k r hk)
 generalize wK:b7 s x cnd (V0 mea)=Is at *
 have hCk:=Mu sU ux Is
 have xl:=fun (k:Nat) (i:Int) (h:Is[k]?=some i)=>Iu s x dims mea L h
 have hC0:V8 s x dims mea L (Is.take 0)=L.map BK:=rfl
 have hCn:V8 s x dims mea L (Is.take Is.length)=V8 s x dims mea L Is:=by rw[List.take_length]
 have wP:∀(i:Int) (C:List G2),Ew s x dims mea C i=C.map fun c=>if AP (b9 s x dims i) c.codes=true then N4 (Ap x i) (BU s x mea i) (decide (0≤mea)) c else c:=fun _ _=>rfl
 have nP:∀(k:Nat) (r:List Int),x.rows[k]?=some r→∀(q:Nat) (d:Pk),dims[q]?=some d→(b9 s x dims k)[q]?=some (N8 s d.col d.lev (x.picks.zip r.tail)).1:=fun k r hk q d hd=>by unfold b9;rw[List.getElem?_map,hd,show ((k:Int)).toNat=k from rfl,D7 hk];rfl
 have ph:∀i,(b9 s x dims i).length=dims.length:=fun i=>List.length_map ..
 have pZ:∀(k:Nat) (r:List Int) (z:Int),x.rows[k]?=some r→r[0]?=some z→Ap x k=z:=fun k r z hk hz=>by unfold Ap;rw[show ((k:Int)).toNat=k from rfl,D7 hk,O6 hz]
 have tA:∀i,BU s x mea i=0:=fun i=>if_neg hm
 have ql:V0 mea=[]:=if_neg hm
 rw[ql]at h7
 generalize V8 s x dims mea L=CT at *
 generalize b9 s x dims=OX at *
 generalize Ew s x dims mea=RT at *
 generalize Ap x=KX at *
 generalize BU s x mea=VX at *
 skip
 generalize L2 s x=eX at *
 obtain⟨pr,ver,picks,rows⟩:=x
 dsimp only at *
 clear e1 e2 e3 hp pA nV wK hL pk
 refine BC Tryz.func16 (by kernel_rfl) rfl rfl rfl rfl rfl (by intro t T h;cases h) fun nL E h0 tJ=>?_
 clear nL
 repeat'((first|(refine E7 12 ?_;refine R6 (id:=12) (σ':=⟨[(2,.sl 2 (dims.map A8)),(5,.iptr (sL s)),(6,.iptr [.str pr,.i ver,.sl 2 (picks.map A8),.sl 1 (rows.map D4)]),(8,.iptr [.i mea]),(9,.iptr [.i cnd.op,.i cnd.col,.i cnd.code,.i cnd.lo,.i cnd.hi,.sl 6 (cnd.kids.map R0)]),(10,.ref 4 0),(14,.sl 1 (L.map D4))],5,[(4,some (.box [.v (.slice none 0 0),.i 0,.v (.slice none 0 0)]))]⟩) (A6 h0) ?_;refine F5 (id:=12) ⟨[(2,.sl 2 (dims.map A8)),(5,.iptr (sL s)),(6,.iptr [.str pr,.i ver,.sl 2 (picks.map A8),.sl 1 (rows.map D4)]),(8,.iptr [.i mea]),(9,.iptr [.i cnd.op,.i cnd.col,.i cnd.code,.i cnd.lo,.i cnd.hi,.sl 6 (cnd.kids.map R0)]),(10,.ref 4 0),(14,.sl 1 (L.map D4)),(16,.ref 5 0)],6,[(4,some (.box [.v (.slice none 0 0),.i 0,.v (.slice none 0 0)])),(5,some (.box [.sl 2 (dims.map A8),.i mea,.v (.slice none 0 0)]))]⟩ ?_ ?_)|refine A0 h1 ?_|refine A0 h2 ?_|refine A0 h3 ?_|refine A0 h4 ?_|refine A0 h5 ?_|refine A0 h6 ?_|(refine E7 7 ?_;refine A9 ?_ ?_;kernel_rfl) |refine S2 ?_|(refine T6 ?_ ?_<;>intro h<;>try exact V1 h)|intro el nJ nK|intro el nJ|exact T4|refine T5 ?_ ?_|intro ex)<;>try conv=>whnf)
 all_goals first
  |(exfalso;omega)
  |exact A7 h0 rfl ⟨rfl,rfl,rfl,rfl,rfl,rfl,rfl,rfl,trivial⟩ ⟨rfl,rfl,trivial⟩ rfl rfl rfl
  |skip
 refine B0 (ι:=Nat) (fun k=>⟨[(2,.sl 2 (dims.map A8)),(5,.iptr (sL s)),(6,.iptr [.str pr,.i ver,.sl 2 (picks.map A8),.sl 1 (rows.map D4)]),(8,.iptr [.i mea]),(9,.iptr [.i cnd.op,.i cnd.col,.i cnd.code,.i cnd.lo,.i cnd.hi,.sl 6 (cnd.kids.map R0)]),(10,.ref 4 0),(16,.ref 5 0),(67,.sl 1 (L.map D4)),(68,.i L.length),(69,.i k)],7,[(4,some (.box [.v (.slice none 0 0),.i 0,.v (.slice none 0 0)])),(5,some (.box [.sl 2 (dims.map A8),.i mea,.row 6 0 k])),(6,some (.row S4 7 0 ((L.take k).map cF)))]⟩)
  (fun k=>k≤L.length) (fun k=>L.length-k) 0 (Nat.zero_le _)
  (C0 (Ab 5 2 (e:=S4) (sz:=7) rfl rfl) (A6 h0)) (fun k hK=>?_)
 by_cases nU:k<L.length
 ·obtain⟨l,up⟩:∃l,L[k]?=some l:=⟨_,List.getElem?_eq_getElem nU⟩
  have pg:L[((k:Nat):Int).toNat]?=some l:=up
  have sG:((L.take k).map cF).length=k:=by rw[List.length_map,List.length_take];omega
  repeat'((first|(refine A2 (x:=l) pg (by omega) ?_) |refine S2 ?_|(refine T6 ?_ ?_<;>intro h<;>try exact V1 h)|intro el nJ nK|intro el nJ|exact T4|refine T5 ?_ ?_|intro ex)<;>try conv=>whnf)
  all_goals first
   |(exfalso;omega)
   |exact⟨k+1,by omega,by omega,A7 h0 rfl ⟨rfl,rfl,rfl,rfl,rfl,rfl,rfl,rfl,rfl,rfl,trivial⟩ ⟨rfl,rfl,⟨_,congrArg (C4.row S4 7 _) (by rw[F1 up,List.map_append];rfl)⟩,trivial⟩ rfl rfl rfl⟩
 have pB:L.take k=L:=List.take_of_length_le (by omega)
 have oS:k=L.length:=by omega
 rw[pB]
 subst oS
 clear pB nU hK
 repeat'((first|refine RU (f:=24) 88 1 rfl ?_|refine l4 [] [] h7 rfl rfl rfl rfl rfl trivial rfl rfl rfl rfl rfl ?_ |refine S2 ?_|(refine T6 ?_ ?_<;>intro h<;>try exact V1 h)|intro el nJ nK|intro el nJ|exact T4|refine T5 ?_ ?_|intro ex)<;>try conv=>whnf)
 all_goals first
  |(exfalso;omega)
  |skip
 refine B0 (ι:=Nat) (fun k=>⟨[(2,.sl 2 (dims.map A8)),(5,.iptr (sL s)),(6,.iptr [.str pr,.i ver,.sl 2 (picks.map A8),.sl 1 (rows.map D4)]),(8,.iptr [.i mea]),(10,.ref 4 0),(16,.ref 5 0),(89,.sl 1 (Is.map wA)),(90,.i Is.length),(91,.i k)],7,[(4,some (.box [.v (.slice none 0 0),.i 0,.v (.slice none 0 0)])),(5,some (.box [.sl 2 (dims.map A8),.i mea,.row 6 0 L.length])),(6,some (.row (U3+S4) 7 0 ((CT (Is.take k)).map N3)))]⟩)
  (fun k=>k≤Is.length) (fun k=>Is.length-k) 0 (Nat.zero_le _)
  (C0 (XD (i:=6) (F:=U3) (.inr rfl) rfl (fun _=>by rw[h0];exact Nat.zero_le _) (by decide) (XP L)) (A7 h0 rfl ⟨rfl,rfl,rfl,rfl,rfl,rfl,rfl,rfl,rfl,trivial⟩ ⟨rfl,rfl,⟨_,congrArg (C4.row (U3+S4) 7 _) (by rw[hC0])⟩,trivial⟩ rfl rfl rfl)) (fun k hK=>?_)
 obtain⟨wI,pz⟩:=hCk k hK
 by_cases nU:k<Is.length
 ·obtain⟨i,hi⟩:∃i,Is[k]?=some i:=⟨_,List.getElem?_eq_getElem nU⟩
  have oI:Is[((k:Nat):Int).toNat]?=some i:=hi
  obtain⟨j,row,sE,nW⟩:=qp i (List.mem_of_getElem? hi)
  have sC:=oY j row nW
  obtain⟨key,pE⟩:∃z,row[0]?=some z:=⟨_,List.getElem?_eq_getElem (by omega)⟩
  have tU:=pZ j row key nW pE
  have qF:=re j row nW
  have oN:=xl k i hi
  rw[wP]at oN
  have uL:=nP j row nW
  have qJ:=ph i
  have xr:=sU i
  have rZ:=tA i
  rw[←sE]at tU uL qF
  have qU:rows[i.toNat]?=some row:=by rw[sE];exact nW
  have uQ:=E9 nW
  have zt:0≤i∧i<rows.length:=by omega
  rw[tU]at oN
  generalize OX i=O at *
  generalize hv0:VX i=v at *
  subst rZ
  generalize CT (Is.take k)=C at *
  clear xl wP nP pZ re qp oY sU
  repeat'((first|(refine A2 (x:=i) oI (by omega) ?_) |refine S2 ?_|(refine T6 ?_ ?_<;>intro h<;>try exact V1 h)|intro el nJ nK|intro el nJ|exact T4|refine T5 ?_ ?_|intro ex)<;>try conv=>whnf)
  all_goals first
   |(exfalso;omega)
   |skip
  refine B0 (ι:=Nat) (fun q=>⟨[(2,.sl 2 (dims.map A8)),(5,.iptr (sL s)),(6,.iptr [.str pr,.i ver,.sl 2 (picks.map A8),.sl 1 (rows.map D4)]),(8,.iptr [.i mea]),(10,.ref 4 0),(16,.ref 5 0),(21,.iptr [.i i]),(22,.iptr [.i 0]),(23,.row 9 0 dims.length),(89,.sl 1 (Is.map wA)),(90,.i Is.length),(91,.i k),(108,.sl 2 (dims.map A8)),(109,.i dims.length),(110,.i q)],10,[(4,some (.box [.v (.slice none 0 0),.i 0,.v (.slice none 0 0)])),(5,some (.box [.sl 2 (dims.map A8),.i mea,.row 6 0 L.length])),(6,some (.row (U3+S4) 7 0 ((C).map N3))),(9,some (.row 3 1 0 ((Aq O dims.length q).map wA)))]⟩)
   (fun q=>q≤dims.length) (fun q=>dims.length-q) 0 (Nat.zero_le _)
   (A7 h0 rfl ⟨rfl,rfl,rfl,rfl,rfl,rfl,rfl,rfl,rfl,rfl,rfl,rfl,rfl,rfl,rfl,trivial⟩ ⟨rfl,rfl,⟨_,rfl⟩,⟨_,congrArg (C4.row 3 1 _) (by rw[Oq];rfl)⟩,trivial⟩ rfl rfl rfl) (fun q hq=>?_)
  have uN:=RW qJ hq
  by_cases ru:q<dims.length
  ·obtain⟨d,hd⟩:∃d,dims[q]?=some d:=⟨_,List.getElem?_eq_getElem ru⟩
   have vj:dims[((q:Nat):Int).toNat]?=some d:=hd
   have hc:=qF d
   have hO:=uL q d hd
   generalize N8 s d.col d.lev (picks.zip row.tail)=Z at *
   obtain⟨z,ok⟩:=Z
   dsimp only at *
   have oE:=RX qJ hO
   have oU:((Aq O dims.length q).map wA).set q [.i z]=(Aq O dims.length (q+1)).map wA:=by rw[←oE,List.map_set]
   repeat'((first|(refine A2 (x:=d) vj (by omega) ?_)|refine A0 hc ?_ |refine S2 ?_|(refine T6 ?_ ?_<;>intro h<;>try exact V1 h)|intro el nJ nK|intro el nJ|exact T4|refine T5 ?_ ?_|intro ex)<;>try conv=>whnf)
   all_goals first
    |(exfalso;omega)
    |exact⟨q+1,by omega,by omega,A7 h0 rfl ⟨rfl,rfl,rfl,rfl,rfl,rfl,rfl,rfl,rfl,rfl,rfl,rfl,rfl,rfl,rfl,trivial⟩ ⟨rfl,rfl,⟨_,rfl⟩,⟨_,congrArg (C4.row 3 1 _) oU.symm⟩,trivial⟩ rfl rfl rfl⟩
  have uk:q=dims.length:=by omega
  subst uk
  rw[RV qJ]
  refine P3 (A7 (σ':=⟨[(2,.sl 2 (dims.map A8)),(5,.iptr (sL s)),(6,.iptr [.str pr,.i ver,.sl 2 (picks.map A8),.sl 1 (rows.map D4)]),(8,.iptr [.i mea]),(10,.ref 4 0),(16,.ref 5 0),(21,.iptr [.i i]),(22,.iptr [.i 0]),(23,.sl 1 (O.map wA)),(89,.sl 1 (Is.map wA)),(90,.i Is.length),(91,.i k),(108,.sl 2 (dims.map A8)),(109,.i dims.length),(110,.i dims.length)],7,[(4,some (.box [.v (.slice none 0 0),.i 0,.v (.slice none 0 0)])),(5,some (.box [.sl 2 (dims.map A8),.i mea,.row 6 0 L.length])),(6,some (.row (U3+S4) 7 0 ((C).map N3)))]⟩) h0 rfl ⟨rfl,rfl,rfl,rfl,rfl,rfl,rfl,rfl,rfl,rfl,rfl,rfl,rfl,rfl,rfl,trivial⟩ ⟨rfl,rfl,⟨_,rfl⟩,trivial⟩ rfl rfl rfl) ?_
  have wi:=Lu (C.map N3) L.length O
  repeat'((first|refine nc [6] [0] wi rfl rfl rfl ⟨rfl,trivial⟩ ?_|refine XQ ?_ |refine S2 ?_|(refine T6 ?_ ?_<;>intro h<;>try exact V1 h)|intro el nJ nK|intro el nJ|exact T4|refine T5 ?_ ?_|intro ex)<;>try conv=>whnf)
  all_goals first
   |(exfalso;omega)
   |skip
  have vk:∀c∈C,c.codes.length≤O.length:=fun c hc=>by have:=(pz c hc).codes;omega
  refine XR ?_
  refine RP (slc:=[(6,.iptr [.str pr,.i ver,.sl 2 (picks.map A8),.sl 1 (rows.map D4)]),(8,.iptr [.i mea]),(21,.iptr [.i i]),(22,.iptr [.i 0])]) (m0:=3) (m1:=3) (hp0:=lN (C.map N3) L.length O) (hp1:=lO ((C.map fun c=>if AP O c.codes=true then N4 key 0 (decide (0≤mea)) c else c).map N3) L.length) (args:=[.ref 1 0,.ref 2 0]) (r:=.tup []) [6,7,8] [0,0,0] rfl tJ (fun l rc q1 q2 q3 q4 q5 q6=>?_) ⟨⟨rfl,rfl⟩,⟨rfl,rfl⟩,⟨rfl,rfl⟩,⟨rfl,rfl⟩,trivial⟩ rfl rfl ⟨rfl,rfl,rfl,trivial⟩ ?_
  ·have vy:C.length≤9223372036854775807:=by omega
   rw[←wI]
   refine KM l rc _ O (fun c=>N4 key 0 (decide (0≤mea)) c) C vy vk (fun M q c hM hq hc=>Ls q1 q2 q3 q4 rfl rfl q5 q6 rfl fun E2 h02=>Fu ?_)
   have wJ:=(pz c hc).ok (by omega)
   have oy:(M.map N3)[q]?=some (N3 c):=by rw[List.getElem?_map,hq];rfl
   have sQ:=Oi (M.map N3) q c oy wJ key 0 xr (decide (0≤mea))
   rw[show (M.map N3).set q (N3 (N4 key 0 (decide (0≤mea)) c))=(M.set q (N4 key 0 (decide (0≤mea)) c)).map N3 by rw[List.map_set]]at sQ
   repeat'((first|(refine CE ?_ ?_ ?_;kernel_rfl;kernel_rfl)|refine nc [0] [0] sQ rfl rfl rfl ⟨rfl,trivial⟩ ?_|(refine A2 (x:=row) qU (by omega) ?_)|(refine A2 (x:=key) pE (by omega) ?_) |refine S2 ?_|(refine T6 ?_ ?_<;>intro h<;>try exact V1 h)|intro el nJ nK|intro el nJ|exact T4|refine T5 ?_ ?_|intro ex)<;>try conv=>whnf)
   all_goals first
    |(exfalso;omega)
    |exact A7 h02 rfl trivial ⟨⟨_,rfl⟩,trivial⟩ rfl rfl rfl
  (try (conv=>whnf))
  repeat'((first|refine S2 ?_|(refine T6 ?_ ?_<;>intro h<;>try exact V1 h)|intro el nJ nK|intro el nJ|exact T4|refine T5 ?_ ?_|intro ex)<;>try conv=>whnf)
  all_goals first
   |(exfalso;omega)
   |exact⟨k+1,by omega,by omega,A7 h0 rfl ⟨rfl,rfl,rfl,rfl,rfl,rfl,rfl,rfl,rfl,trivial⟩ ⟨rfl,rfl,⟨_,congrArg (C4.row (U3+S4) 7 _) (by rw[oN])⟩,trivial⟩ rfl rfl rfl⟩
 have pB:Is.take k=Is:=List.take_of_length_le (by omega)
 have oS:k=Is.length:=by omega
 rw[pB]
 subst oS
 refine P3 (C0 (RJ (i:=6) (F:=U3) (.inr rfl) rfl (by decide) (RS (CT Is))) (C0 (A7 (σ':=⟨[(10,.ref 4 0),(16,.ref 5 0),(90,.i Is.length),(91,.i Is.length)],6,[(4,some (.box [.v (.slice none 0 0),.i 0,.v (.slice none 0 0)])),(5,some (.box [.sl 2 (dims.map A8),.i mea,.sl 7 ((CT Is).map O8)]))]⟩) h0 rfl ⟨rfl,rfl,rfl,rfl,trivial⟩ ⟨rfl,rfl,trivial⟩ rfl rfl rfl) (A7 (σ':=⟨[(10,.ref 4 0),(16,.iptr [.sl 2 (dims.map A8),.i mea,.sl 7 ((CT Is).map O8)]),(90,.i Is.length),(91,.i Is.length)],5,[(4,some (.box [.v (.slice none 0 0),.i 0,.v (.slice none 0 0)]))]⟩) h0 rfl ⟨rfl,rfl,rfl,rfl,trivial⟩ ⟨rfl,trivial⟩ rfl rfl rfl))) ?_
 repeat'((first|refine S2 ?_|(refine T6 ?_ ?_<;>intro h<;>try exact V1 h)|intro el nJ nK|intro el nJ|exact T4|refine T5 ?_ ?_|intro ex)<;>try conv=>whnf)
 all_goals first
  |(exfalso;omega)
  |exact T3 rfl rfl rfl (.refl _) rfl (.refl _) rfl
theorem lZ(s:A4)(x:J9)(dims:List Pk)(mea:Int)(cnd:B7)(L:List (List Int))(e1:L2 s x=0)(e2:L7 s (R9 dims mea cnd)=0)(e3:X8 x.picks (W8 s (j9 dims mea cnd))=true)(hL:U9 s dims [[]]=some L)(hm:0≤mea):A3 Tryz.prog 16 [sA s,X9 x,.sl 2 (dims.map A8),.i mea,D5 cnd] (.tup [S3 ⟨dims,mea,V8 s x dims mea L (b7 s x cnd (V0 mea))⟩,.i 0]):=by
 have h1:=n6 s x
 rw[e1]at h1
 have h2:A3 Tryz.prog 44 [sA s,.sl 2 (dims.map A8),.i mea,D5 cnd] (.i 0):=e2▸Dn s dims mea cnd
 have h3:=FZ s dims mea cnd
 have h4:=CW x.picks (W8 s (j9 dims mea cnd))
 rw[e3]at h4
 obtain⟨hr,rY,pA,ut⟩:=DJ e2
 obtain⟨sf,qa,rh⟩:=Ct pA
 have h5:=GI s hr dims qa rh
 rw[hL]at h5
 have h6:=MA dims (by omega)
 have h7:=HG s x cnd (V0 mea)
 have hLl:=It hL (by decide)
 have ux:∀l∈L,l.length=dims.length:=fun l hl=>by have:=Mt (m:=0) hL (by simp) l hl;omega
 obtain⟨zL,hp,oK,nV⟩:=v6 e1
 have pk:=k9 hp
 have ni:=(D2 hr).2.1
 have sU:=fun i=>Oo hr ut x i
 have re:=fun (k:Nat) (r:List Int) (hk:x.rows[k]?=some r) (d:Pk)=>Dh s hr x k r hk (O7 (nV k r hk)) (by omega) d.col d.lev
 have qp:=fun i=>@LH s x cnd (V0 mea) i
 have zE:=LI s x cnd (V0 mea)
 have oY:=fun (k:Nat) (r:List Int) (hk:x.rows[k]?=some r)=>O7 (nV k r hk)
 generalize wK:b7 s x cnd (V0 mea)=Is at *
 have hCk:=Mu sU ux Is
 have xl:=fun (k:Nat) (i:Int) (h:Is[k]?=some i)=>Iu s x dims mea L h
 have hC0:V8 s x dims mea L (Is.take 0)=L.map BK:=rfl
 have hCn:V8 s x dims mea L (Is.take Is.length)=V8 s x dims mea L Is:=by rw[List.take_length]
 have wP:∀(i:Int) (C:List G2),Ew s x dims mea C i=C.map fun c=>if AP (b9 s x dims i) c.codes=true then N4 (Ap x i) (BU s x mea i) (decide (0≤mea)) c else c:=fun _ _=>rfl
 have nP:∀(k:Nat) (r:List Int),x.rows[k]?=some r→∀(q:Nat) (d:Pk),dims[q]?=some d→(b9 s x dims k)[q]?=some (N8 s d.col d.lev (x.picks.zip r.tail)).1:=fun k r hk q d hd=>by unfold b9;rw[List.getElem?_map,hd,show ((k:Int)).toNat=k from rfl,D7 hk];rfl
 have ph:∀i,(b9 s x dims i).length=dims.length:=fun i=>List.length_map ..
 have pZ:∀(k:Nat) (r:List Int) (z:Int),x.rows[k]?=some r→r[0]?=some z→Ap x k=z:=fun k r z hk hz=>by unfold Ap;rw[show ((k:Int)).toNat=k from rfl,D7 hk,O6 hz]
 have h8:=fun (i:Int) (hi:i∈Is)=>Vw s x e1 [i] (by simp) (fun j hj=>by simp at hj;subst hj;exact qp j hi) mea
 have tA:∀i,BU s x mea i=KI s x mea i:=fun i=>if_pos hm
 have ql:V0 mea=[mea]:=if_pos hm
 rw[ql]at h7
 generalize V8 s x dims mea L=CT at *
 generalize b9 s x dims=OX at *
 generalize Ew s x dims mea=RT at *
 generalize Ap x=KX at *
 generalize BU s x mea=VX at *
 generalize KI s x mea=YX at *
 generalize L2 s x=eX at *
 obtain⟨pr,ver,picks,rows⟩:=x
 dsimp only at *
 clear e1 e2 e3 hp pA nV wK hL pk
 refine BC Tryz.func16 (by kernel_rfl) rfl rfl rfl rfl rfl (by intro t T h;cases h) fun nL E h0 tJ=>?_
 clear nL
 repeat'((first|(refine E7 12 ?_;refine R6 (id:=12) (σ':=⟨[(2,.sl 2 (dims.map A8)),(5,.iptr (sL s)),(6,.iptr [.str pr,.i ver,.sl 2 (picks.map A8),.sl 1 (rows.map D4)]),(8,.iptr [.i mea]),(9,.iptr [.i cnd.op,.i cnd.col,.i cnd.code,.i cnd.lo,.i cnd.hi,.sl 6 (cnd.kids.map R0)]),(10,.ref 4 0),(14,.sl 1 (L.map D4))],5,[(4,some (.box [.v (.slice none 0 0),.i 0,.v (.slice none 0 0)]))]⟩) (A6 h0) ?_;refine F5 (id:=12) ⟨[(2,.sl 2 (dims.map A8)),(5,.iptr (sL s)),(6,.iptr [.str pr,.i ver,.sl 2 (picks.map A8),.sl 1 (rows.map D4)]),(8,.iptr [.i mea]),(9,.iptr [.i cnd.op,.i cnd.col,.i cnd.code,.i cnd.lo,.i cnd.hi,.sl 6 (cnd.kids.map R0)]),(10,.ref 4 0),(14,.sl 1 (L.map D4)),(16,.ref 5 0)],6,[(4,some (.box [.v (.slice none 0 0),.i 0,.v (.slice none 0 0)])),(5,some (.box [.sl 2 (dims.map A8),.i mea,.v (.slice none 0 0)]))]⟩ ?_ ?_)|refine A0 h1 ?_|refine A0 h2 ?_|refine A0 h3 ?_|refine A0 h4 ?_|refine A0 h5 ?_|refine A0 h6 ?_|(refine E7 7 ?_;refine A9 ?_ ?_;kernel_rfl) |refine S2 ?_|(refine T6 ?_ ?_<;>intro h<;>try exact V1 h)|intro el nJ nK|intro el nJ|exact T4|refine T5 ?_ ?_|intro ex)<;>try conv=>whnf)
 all_goals first
  |(exfalso;omega)
  |exact A7 h0 rfl ⟨rfl,rfl,rfl,rfl,rfl,rfl,rfl,rfl,trivial⟩ ⟨rfl,rfl,trivial⟩ rfl rfl rfl
  |skip
 refine B0 (ι:=Nat) (fun k=>⟨[(2,.sl 2 (dims.map A8)),(5,.iptr (sL s)),(6,.iptr [.str pr,.i ver,.sl 2 (picks.map A8),.sl 1 (rows.map D4)]),(8,.iptr [.i mea]),(9,.iptr [.i cnd.op,.i cnd.col,.i cnd.code,.i cnd.lo,.i cnd.hi,.sl 6 (cnd.kids.map R0)]),(10,.ref 4 0),(16,.ref 5 0),(67,.sl 1 (L.map D4)),(68,.i L.length),(69,.i k)],7,[(4,some (.box [.v (.slice none 0 0),.i 0,.v (.slice none 0 0)])),(5,some (.box [.sl 2 (dims.map A8),.i mea,.row 6 0 k])),(6,some (.row S4 7 0 ((L.take k).map cF)))]⟩)
  (fun k=>k≤L.length) (fun k=>L.length-k) 0 (Nat.zero_le _)
  (C0 (Ab 5 2 (e:=S4) (sz:=7) rfl rfl) (A6 h0)) (fun k hK=>?_)
 by_cases nU:k<L.length
 ·obtain⟨l,up⟩:∃l,L[k]?=some l:=⟨_,List.getElem?_eq_getElem nU⟩
  have pg:L[((k:Nat):Int).toNat]?=some l:=up
  have sG:((L.take k).map cF).length=k:=by rw[List.length_map,List.length_take];omega
  repeat'((first|(refine A2 (x:=l) pg (by omega) ?_) |refine S2 ?_|(refine T6 ?_ ?_<;>intro h<;>try exact V1 h)|intro el nJ nK|intro el nJ|exact T4|refine T5 ?_ ?_|intro ex)<;>try conv=>whnf)
  all_goals first
   |(exfalso;omega)
   |exact⟨k+1,by omega,by omega,A7 h0 rfl ⟨rfl,rfl,rfl,rfl,rfl,rfl,rfl,rfl,rfl,rfl,trivial⟩ ⟨rfl,rfl,⟨_,congrArg (C4.row S4 7 _) (by rw[F1 up,List.map_append];rfl)⟩,trivial⟩ rfl rfl rfl⟩
 have pB:L.take k=L:=List.take_of_length_le (by omega)
 have oS:k=L.length:=by omega
 rw[pB]
 subst oS
 clear pB nU hK
 repeat'((first|refine l4 [] [] h7 rfl rfl rfl rfl rfl trivial rfl rfl rfl rfl rfl ?_ |refine S2 ?_|(refine T6 ?_ ?_<;>intro h<;>try exact V1 h)|intro el nJ nK|intro el nJ|exact T4|refine T5 ?_ ?_|intro ex)<;>try conv=>whnf)
 all_goals first
  |(exfalso;omega)
  |skip
 refine B0 (ι:=Nat) (fun k=>⟨[(2,.sl 2 (dims.map A8)),(5,.iptr (sL s)),(6,.iptr [.str pr,.i ver,.sl 2 (picks.map A8),.sl 1 (rows.map D4)]),(8,.iptr [.i mea]),(10,.ref 4 0),(16,.ref 5 0),(89,.sl 1 (Is.map wA)),(90,.i Is.length),(91,.i k)],7,[(4,some (.box [.v (.slice none 0 0),.i 0,.v (.slice none 0 0)])),(5,some (.box [.sl 2 (dims.map A8),.i mea,.row 6 0 L.length])),(6,some (.row (U3+S4) 7 0 ((CT (Is.take k)).map N3)))]⟩)
  (fun k=>k≤Is.length) (fun k=>Is.length-k) 0 (Nat.zero_le _)
  (C0 (XD (i:=6) (F:=U3) (.inr rfl) rfl (fun _=>by rw[h0];exact Nat.zero_le _) (by decide) (XP L)) (A7 h0 rfl ⟨rfl,rfl,rfl,rfl,rfl,rfl,rfl,rfl,rfl,trivial⟩ ⟨rfl,rfl,⟨_,congrArg (C4.row (U3+S4) 7 _) (by rw[hC0])⟩,trivial⟩ rfl rfl rfl)) (fun k hK=>?_)
 obtain⟨wI,pz⟩:=hCk k hK
 by_cases nU:k<Is.length
 ·obtain⟨i,hi⟩:∃i,Is[k]?=some i:=⟨_,List.getElem?_eq_getElem nU⟩
  have oI:Is[((k:Nat):Int).toNat]?=some i:=hi
  obtain⟨j,row,sE,nW⟩:=qp i (List.mem_of_getElem? hi)
  have sC:=oY j row nW
  obtain⟨key,pE⟩:∃z,row[0]?=some z:=⟨_,List.getElem?_eq_getElem (by omega)⟩
  have tU:=pZ j row key nW pE
  have qF:=re j row nW
  have oN:=xl k i hi
  rw[wP]at oN
  have uL:=nP j row nW
  have qJ:=ph i
  have xr:=sU i
  have rZ:=tA i
  rw[←sE]at tU uL qF
  have qU:rows[i.toNat]?=some row:=by rw[sE];exact nW
  have uQ:=E9 nW
  have zt:0≤i∧i<rows.length:=by omega
  rw[tU]at oN
  have h9:=h8 i (List.mem_of_getElem? hi)
  generalize OX i=O at *
  generalize hv0:VX i=v at *
  simp only[List.map_cons,List.map_nil,List.length_singleton,←rZ]at h9
  generalize CT (Is.take k)=C at *
  clear xl wP nP pZ re qp oY sU
  repeat'((first|(refine A2 (x:=i) oI (by omega) ?_)|refine l4 [] [] h9 rfl rfl rfl rfl rfl trivial rfl rfl rfl rfl rfl ?_|(refine gY (x:=[.i v]) rfl rfl ?_) |refine S2 ?_|(refine T6 ?_ ?_<;>intro h<;>try exact V1 h)|intro el nJ nK|intro el nJ|exact T4|refine T5 ?_ ?_|intro ex)<;>try conv=>whnf)
  all_goals first
   |(exfalso;omega)
   |skip
  refine B0 (ι:=Nat) (fun q=>⟨[(2,.sl 2 (dims.map A8)),(5,.iptr (sL s)),(6,.iptr [.str pr,.i ver,.sl 2 (picks.map A8),.sl 1 (rows.map D4)]),(8,.iptr [.i mea]),(10,.ref 4 0),(16,.ref 5 0),(21,.iptr [.i i]),(22,.iptr [.i v]),(23,.row 10 0 dims.length),(89,.sl 1 (Is.map wA)),(90,.i Is.length),(91,.i k),(108,.sl 2 (dims.map A8)),(109,.i dims.length),(110,.i q)],11,[(4,some (.box [.v (.slice none 0 0),.i 0,.v (.slice none 0 0)])),(5,some (.box [.sl 2 (dims.map A8),.i mea,.row 6 0 L.length])),(6,some (.row (U3+S4) 7 0 ((C).map N3))),(10,some (.row 3 1 0 ((Aq O dims.length q).map wA)))]⟩)
   (fun q=>q≤dims.length) (fun q=>dims.length-q) 0 (Nat.zero_le _)
   (A7 h0 rfl ⟨rfl,rfl,rfl,rfl,rfl,rfl,rfl,rfl,rfl,rfl,rfl,rfl,rfl,rfl,rfl,trivial⟩ ⟨rfl,rfl,⟨_,rfl⟩,⟨_,congrArg (C4.row 3 1 _) (by rw[Oq];rfl)⟩,trivial⟩ rfl rfl rfl) (fun q hq=>?_)
  have uN:=RW qJ hq
  by_cases ru:q<dims.length
  ·obtain⟨d,hd⟩:∃d,dims[q]?=some d:=⟨_,List.getElem?_eq_getElem ru⟩
   have vj:dims[((q:Nat):Int).toNat]?=some d:=hd
   have hc:=qF d
   have hO:=uL q d hd
   generalize N8 s d.col d.lev (picks.zip row.tail)=Z at *
   obtain⟨z,ok⟩:=Z
   dsimp only at *
   have oE:=RX qJ hO
   have oU:((Aq O dims.length q).map wA).set q [.i z]=(Aq O dims.length (q+1)).map wA:=by rw[←oE,List.map_set]
   repeat'((first|(refine A2 (x:=d) vj (by omega) ?_)|refine A0 hc ?_ |refine S2 ?_|(refine T6 ?_ ?_<;>intro h<;>try exact V1 h)|intro el nJ nK|intro el nJ|exact T4|refine T5 ?_ ?_|intro ex)<;>try conv=>whnf)
   all_goals first
    |(exfalso;omega)
    |exact⟨q+1,by omega,by omega,A7 h0 rfl ⟨rfl,rfl,rfl,rfl,rfl,rfl,rfl,rfl,rfl,rfl,rfl,rfl,rfl,rfl,rfl,trivial⟩ ⟨rfl,rfl,⟨_,rfl⟩,⟨_,congrArg (C4.row 3 1 _) oU.symm⟩,trivial⟩ rfl rfl rfl⟩
  have uk:q=dims.length:=by omega
  subst uk
  rw[RV qJ]
  refine P3 (A7 (σ':=⟨[(2,.sl 2 (dims.map A8)),(5,.iptr (sL s)),(6,.iptr [.str pr,.i ver,.sl 2 (picks.map A8),.sl 1 (rows.map D4)]),(8,.iptr [.i mea]),(10,.ref 4 0),(16,.ref 5 0),(21,.iptr [.i i]),(22,.iptr [.i v]),(23,.sl 1 (O.map wA)),(89,.sl 1 (Is.map wA)),(90,.i Is.length),(91,.i k),(108,.sl 2 (dims.map A8)),(109,.i dims.length),(110,.i dims.length)],7,[(4,some (.box [.v (.slice none 0 0),.i 0,.v (.slice none 0 0)])),(5,some (.box [.sl 2 (dims.map A8),.i mea,.row 6 0 L.length])),(6,some (.row (U3+S4) 7 0 ((C).map N3)))]⟩) h0 rfl ⟨rfl,rfl,rfl,rfl,rfl,rfl,rfl,rfl,rfl,rfl,rfl,rfl,rfl,rfl,rfl,trivial⟩ ⟨rfl,rfl,⟨_,rfl⟩,trivial⟩ rfl rfl rfl) ?_
  have wi:=Lu (C.map N3) L.length O
  repeat'((first|refine nc [6] [0] wi rfl rfl rfl ⟨rfl,trivial⟩ ?_|refine XQ ?_ |refine S2 ?_|(refine T6 ?_ ?_<;>intro h<;>try exact V1 h)|intro el nJ nK|intro el nJ|exact T4|refine T5 ?_ ?_|intro ex)<;>try conv=>whnf)
  all_goals first
   |(exfalso;omega)
   |skip
  have vk:∀c∈C,c.codes.length≤O.length:=fun c hc=>by have:=(pz c hc).codes;omega
  refine XR ?_
  refine RP (slc:=[(6,.iptr [.str pr,.i ver,.sl 2 (picks.map A8),.sl 1 (rows.map D4)]),(8,.iptr [.i mea]),(21,.iptr [.i i]),(22,.iptr [.i v])]) (m0:=3) (m1:=3) (hp0:=lN (C.map N3) L.length O) (hp1:=lO ((C.map fun c=>if AP O c.codes=true then N4 key v (decide (0≤mea)) c else c).map N3) L.length) (args:=[.ref 1 0,.ref 2 0]) (r:=.tup []) [6,7,8] [0,0,0] rfl tJ (fun l rc q1 q2 q3 q4 q5 q6=>?_) ⟨⟨rfl,rfl⟩,⟨rfl,rfl⟩,⟨rfl,rfl⟩,⟨rfl,rfl⟩,trivial⟩ rfl rfl ⟨rfl,rfl,rfl,trivial⟩ ?_
  ·have vy:C.length≤9223372036854775807:=by omega
   rw[←wI]
   refine KM l rc _ O (fun c=>N4 key v (decide (0≤mea)) c) C vy vk (fun M q c hM hq hc=>Ls q1 q2 q3 q4 rfl rfl q5 q6 rfl fun E2 h02=>Fu ?_)
   have wJ:=(pz c hc).ok (by omega)
   have oy:(M.map N3)[q]?=some (N3 c):=by rw[List.getElem?_map,hq];rfl
   have sQ:=Oi (M.map N3) q c oy wJ key v xr (decide (0≤mea))
   rw[show (M.map N3).set q (N3 (N4 key v (decide (0≤mea)) c))=(M.set q (N4 key v (decide (0≤mea)) c)).map N3 by rw[List.map_set]]at sQ
   repeat'((first|(refine CE ?_ ?_ ?_;kernel_rfl;kernel_rfl)|refine nc [0] [0] sQ rfl rfl rfl ⟨rfl,trivial⟩ ?_|(refine A2 (x:=row) qU (by omega) ?_)|(refine A2 (x:=key) pE (by omega) ?_) |refine S2 ?_|(refine T6 ?_ ?_<;>intro h<;>try exact V1 h)|intro el nJ nK|intro el nJ|exact T4|refine T5 ?_ ?_|intro ex)<;>try conv=>whnf)
   all_goals first
    |(exfalso;omega)
    |exact A7 h02 rfl trivial ⟨⟨_,rfl⟩,trivial⟩ rfl rfl rfl
  (try (conv=>whnf))
  repeat'((first|refine S2 ?_|(refine T6 ?_ ?_<;>intro h<;>try exact V1 h)|intro el nJ nK|intro el nJ|exact T4|refine T5 ?_ ?_|intro ex)<;>try conv=>whnf)
  all_goals first
   |(exfalso;omega)
   |exact⟨k+1,by omega,by omega,A7 h0 rfl ⟨rfl,rfl,rfl,rfl,rfl,rfl,rfl,rfl,rfl,trivial⟩ ⟨rfl,rfl,⟨_,congrArg (C4.row (U3+S4) 7 _) (by rw[oN])⟩,trivial⟩ rfl rfl rfl⟩
 have pB:Is.take k=Is:=List.take_of_length_le (by omega)
 have oS:k=Is.length:=by omega
 rw[pB]
 subst oS
 refine P3 (C0 (RJ (i:=6) (F:=U3) (.inr rfl) rfl (by decide) (RS (CT Is))) (C0 (A7 (σ':=⟨[(10,.ref 4 0),(16,.ref 5 0),(90,.i Is.length),(91,.i Is.length)],6,[(4,some (.box [.v (.slice none 0 0),.i 0,.v (.slice none 0 0)])),(5,some (.box [.sl 2 (dims.map A8),.i mea,.sl 7 ((CT Is).map O8)]))]⟩) h0 rfl ⟨rfl,rfl,rfl,rfl,trivial⟩ ⟨rfl,rfl,trivial⟩ rfl rfl rfl) (A7 (σ':=⟨[(10,.ref 4 0),(16,.iptr [.sl 2 (dims.map A8),.i mea,.sl 7 ((CT Is).map O8)]),(90,.i Is.length),(91,.i Is.length)],5,[(4,some (.box [.v (.slice none 0 0),.i 0,.v (.slice none 0 0)]))]⟩) h0 rfl ⟨rfl,rfl,rfl,rfl,trivial⟩ ⟨rfl,trivial⟩ rfl rfl rfl))) ?_
 repeat'((first|refine S2 ?_|(refine T6 ?_ ?_<;>intro h<;>try exact V1 h)|intro el nJ nK|intro el nJ|exact T4|refine T5 ?_ ?_|intro ex)<;>try conv=>whnf)
 all_goals first
  |(exfalso;omega)
  |exact T3 rfl rfl rfl (.refl _) rfl (.refl _) rfl
end Go.Proofs.YtiphlhoclaogjaaGreatDoor
