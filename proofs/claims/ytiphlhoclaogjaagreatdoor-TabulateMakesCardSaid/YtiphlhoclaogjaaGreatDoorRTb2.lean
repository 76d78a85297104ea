/- Chapter 18: tables: the program, the table. -/
import Derived.Test.YtiphlhoclaogjaaGreatDoorRTb1
import Derived.Test.YtiphlhoclaogjaaGreatDoorRTa5
set_option linter.unusedVariables false
set_option linter.unnecessarySimpa false
set_option linter.unusedSimpArgs false
set_option maxHeartbeats 64000000
namespace Go.Proofs.YtiphlhoclaogjaaGreatDoor
open Go Go.Av
attribute [local irreducible] C9 B3 C7 D1 DQ D0 C6 St.le A3 B7
set_option maxRecDepth 100000
attribute [local irreducible] GN EC KJ Gq
theorem QY{P:Program}{E:Env}{n:Nat}{ops:Array Oper}{rest:List Oper}{σ:St}{K:St→Prop}{o:Option Nat}{f:Nat}{xs:Array Operand}{ts:Array TypeId}{ty:TypeId}{pos:String}{after:Array Edge}(d sz:Nat)(hd:Go.Av.look σ.sl d=some (.v (.slice none 0 0)))(h:B3 P E n ops (⟨o,.call ⟨.value (.func f),xs,ts⟩,ty,pos,after,none⟩::rest) (σ.put d (.sl sz [])) K):B3 P E n ops (⟨o,.call ⟨.value (.func f),xs,ts⟩,ty,pos,after,none⟩::rest) σ K:=DG (ZQ hd) h
def Tz(P:Program)(E:Env)(n:Nat)(g:Operand)(ps:Array Tmp)(assign body:Go.Code)(σ:St)(Q:Exit→St→Prop):Prop:=C9 P E n (.rangeFunc g ps assign body) σ Q
theorem WY{P:Program}{E:Env}{n:Nat}{g:Operand}{ps:Array Tmp}{assign body:Go.Code}{σ:St}{Q:Exit→St→Prop}(h:Tz P E n g ps assign body σ Q):C9 P E n (.rangeFunc g ps assign body) σ Q:=h
theorem WZ{P:Program}{E:Env}{n:Nat}{g:Operand}{ps:Array Tmp}{assign body:Go.Code}{σ:St}{Q:Exit→St→Prop}(h:C9 P E n (.rangeFunc g ps assign body) σ Q):Tz P E n g ps assign body σ Q:=h
attribute [local irreducible] Tz
def z5(O:List Int)(D q:Nat):List Int:=O.take q++List.replicate (D-q) 0
theorem Ns(O:List Int)(D:Nat):(z5 O D 0).map wA=List.replicate D [AV.i 0]:=by simp[z5]
theorem QZ{O:List Int}{D:Nat}(h:O.length=D):z5 O D D=O:=by
 unfold z5
 rw[Nat.sub_self,List.replicate_zero,List.append_nil,List.take_of_length_le (by omega)]
theorem Qa{O:List Int}{D q:Nat}(h:O.length=D)(hq:q≤D):(z5 O D q).length=D:=by
 unfold z5
 rw[List.length_append,List.length_take,List.length_replicate];omega
theorem Qb{O:List Int}{D q:Nat}{z:Int}(h:O.length=D)(hz:O[q]?=some z):(z5 O D q).set q z=z5 O D (q+1):=by
 have hq:=F0 hz
 unfold z5
 rw[E7 hz,List.set_append_right _ _ (by rw[List.length_take];omega),List.length_take,show q-min q O.length=0 by omega,List.append_assoc]
 congr 1
 cases hD:D-q with
 |zero=>omega
 |succ m=>rw[show D-(q+1)=m by omega,List.replicate_succ];rfl
theorem kQ(s:A4)(x:J7)(dims:List Pk)(mea:Int)(cnd:B6)(L:List (List Int))(e1:K9 s x=0)(e2:L6 s (R5 dims mea cnd)=0)(e3:X5 x.picks (W4 s (e9 dims mea cnd))=true)(hL:Y0 s dims [[]]=some L)(hm:¬0≤mea):A3 Tryz.prog 16 [sA s,T8 x,.sl 2 (dims.map A8),.i mea,D5 cnd] (.tup [X8 ⟨dims,mea,W9 s x dims mea L (e8 s x cnd (W5 mea))⟩,.i 0]):=by
 have h1:=j3 s x
 rw[e1]at h1
 have h2:A3 Tryz.prog 44 [sA s,.sl 2 (dims.map A8),.i mea,D5 cnd] (.i 0):=e2▸Cu s dims mea cnd
 have h3:=Ed s dims mea cnd
 have h4:=Ba x.picks (W4 s (e9 dims mea cnd))
 rw[e3]at h4
 obtain⟨hr,qa,nw,th⟩:=CO e2
 obtain⟨rW,po,qj⟩:=Bx nw
 have h5:=FQ s hr dims po qj
 rw[hL]at h5
 have h6:=LC dims (by omega)
 have h7:=GM s x cnd (W5 mea)
 have yn:=Lv hL (by decide)
 have tL:∀l∈L,l.length=dims.length:=fun l hl=>by have:=Lu (m:=0) hL (by simp) l hl;omega
 obtain⟨yj,hp,nG,mV⟩:=o5 e1
 have ob:=f8 hp
 have mf:=(D3 hr).2.1
 have qw:=fun i=>Nr hr th x i
 have qg:=fun (k:Nat) (r:List Int) (hk:x.rows[k]?=some r) (d:Pk)=>Co s hr x k r hk (O6 (mV k r hk)) (by omega) d.col d.lev
 have pq:=fun i=>@KL s x cnd (W5 mea) i
 have yB:=KM s x cnd (W5 mea)
 have nV:=fun (k:Nat) (r:List Int) (hk:x.rows[k]?=some r)=>O6 (mV k r hk)
 generalize vM:e8 s x cnd (W5 mea)=Is at *
 have yD:=Lw qw tL Is
 have wK:=fun (k:Nat) (i:Int) (h:Is[k]?=some i)=>Hr s x dims mea L h
 have yP:W9 s x dims mea L (Is.take 0)=L.map AP:=rfl
 have hCn:W9 s x dims mea L (Is.take Is.length)=W9 s x dims mea L Is:=by rw[List.take_length]
 have ut:∀(i:Int) (C:List G8),EE s x dims mea C i=C.map fun c=>if z1 (b6 s x dims i) c.codes=true then N2 (z4 x i) (Ab s x mea i) (decide (0≤mea)) c else c:=fun _ _=>rfl
 have mO:∀(k:Nat) (r:List Int),x.rows[k]?=some r→∀(q:Nat) (d:Pk),dims[q]?=some d→(b6 s x dims k)[q]?=some (N6 s d.col d.lev (x.picks.zip r.tail)).1:=fun k r hk q d hd=>by unfold b6;rw[List.getElem?_map,hd,show ((k:Int)).toNat=k from rfl,D7 hk];rfl
 have og:∀i,(b6 s x dims i).length=dims.length:=fun i=>List.length_map ..
 have oP:∀(k:Nat) (r:List Int) (z:Int),x.rows[k]?=some r→r[0]?=some z→z4 x k=z:=fun k r z hk hz=>by unfold z4;rw[show ((k:Int)).toNat=k from rfl,D7 hk,O5 hz]
 have rq:∀i,Ab s x mea i=0:=fun i=>if_neg hm
 have pj:W5 mea=[]:=if_neg hm
 rw[pj]at h7
 generalize W9 s x dims mea L=CT at *
 generalize b6 s x dims=OX at *
 generalize EE s x dims mea=RT at *
 generalize z4 x=KX at *
 generalize Ab s x mea=VX at *
 skip
 generalize K9 s x=eX at *
 obtain⟨pr,ver,picks,rows⟩:=x
 dsimp only at *
 clear e1 e2 e3 hp nw mV vM hL ob
 refine AG Tryz.func16 (by kernel_rfl) rfl rfl rfl rfl rfl (by intro t T h;cases h) fun mK E h0 sE=>?_
 clear mK
 repeat'((first|(refine E6 12 ?_;refine R2 (id:=12) (σ':=⟨[(2,.sl 2 (dims.map A8)),(5,.iptr (sL s)),(6,.iptr [.str pr,.i ver,.sl 2 (picks.map A8),.sl 1 (rows.map D2)]),(8,.iptr [.i mea]),(9,.iptr [.i cnd.op,.i cnd.col,.i cnd.code,.i cnd.lo,.i cnd.hi,.sl 6 (cnd.kids.map P9)]),(10,.ref 4 0),(14,.sl 1 (L.map D2))],5,[(4,some (.box [.v (.slice none 0 0),.i 0,.v (.slice none 0 0)]))]⟩) (A6 h0) ?_;refine F3 (id:=12) ⟨[(2,.sl 2 (dims.map A8)),(5,.iptr (sL s)),(6,.iptr [.str pr,.i ver,.sl 2 (picks.map A8),.sl 1 (rows.map D2)]),(8,.iptr [.i mea]),(9,.iptr [.i cnd.op,.i cnd.col,.i cnd.code,.i cnd.lo,.i cnd.hi,.sl 6 (cnd.kids.map P9)]),(10,.ref 4 0),(14,.sl 1 (L.map D2)),(16,.ref 5 0)],6,[(4,some (.box [.v (.slice none 0 0),.i 0,.v (.slice none 0 0)])),(5,some (.box [.sl 2 (dims.map A8),.i mea,.v (.slice none 0 0)]))]⟩ ?_ ?_)|refine A0 h1 ?_|refine A0 h2 ?_|refine A0 h3 ?_|refine A0 h4 ?_|refine A0 h5 ?_|refine A0 h6 ?_|(refine E6 7 ?_;refine B0 ?_ ?_;kernel_rfl) |refine S2 ?_|(refine T6 ?_ ?_<;>intro h<;>try exact V1 h)|intro el mI mJ|intro el mI|exact T4|refine T5 ?_ ?_|intro ex)<;>try conv=>whnf)
 all_goals first
  |(exfalso;omega)
  |exact A6 h0
  |skip
 refine A9 (ι:=Nat) (fun k=>⟨[(2,.sl 2 (dims.map A8)),(5,.iptr (sL s)),(6,.iptr [.str pr,.i ver,.sl 2 (picks.map A8),.sl 1 (rows.map D2)]),(8,.iptr [.i mea]),(9,.iptr [.i cnd.op,.i cnd.col,.i cnd.code,.i cnd.lo,.i cnd.hi,.sl 6 (cnd.kids.map P9)]),(10,.ref 4 0),(16,.ref 5 0),(67,.sl 1 (L.map D2)),(68,.i L.length),(69,.i k)],7,[(4,some (.box [.v (.slice none 0 0),.i 0,.v (.slice none 0 0)])),(5,some (.box [.sl 2 (dims.map A8),.i mea,.row 6 0 k])),(6,some (.row R8 7 0 ((L.take k).map bE)))]⟩)
  (fun k=>k≤L.length) (fun k=>L.length-k) 0 (Nat.zero_le _)
  (B9 (w6 5 2 (e:=R8) (sz:=7) rfl rfl) (A6 h0)) (fun k hK=>?_)
 by_cases mT:k<L.length
 ·obtain⟨l,tQ⟩:∃l,L[k]?=some l:=⟨_,List.getElem?_eq_getElem mT⟩
  have oh:L[((k:Nat):Int).toNat]?=some l:=tQ
  have qV:((L.take k).map bE).length=k:=by rw[List.length_map,List.length_take];omega
  repeat'((first|(refine A2 (x:=l) oh (by omega) ?_) |refine S2 ?_|(refine T6 ?_ ?_<;>intro h<;>try exact V1 h)|intro el mI mJ|intro el mI|exact T4|refine T5 ?_ ?_|intro ex)<;>try conv=>whnf)
  all_goals first
   |(exfalso;omega)
   |exact⟨k+1,by omega,by omega,A7 h0 rfl ⟨rfl,rfl,rfl,rfl,rfl,rfl,rfl,rfl,rfl,rfl,trivial⟩ ⟨rfl,rfl,⟨_,congrArg (C4.row R8 7 _) (by rw[E7 tQ,List.map_append];rfl)⟩,trivial⟩ rfl rfl rfl⟩
 have nu:L.take k=L:=List.take_of_length_le (by omega)
 have nP:k=L.length:=by omega
 rw[nu]
 subst nP
 clear nu mT hK
 repeat'((first|refine QY (f:=24) 88 1 rfl ?_|refine f9 [] [] h7 rfl rfl rfl rfl rfl trivial rfl rfl rfl rfl rfl ?_ |refine S2 ?_|(refine T6 ?_ ?_<;>intro h<;>try exact V1 h)|intro el mI mJ|intro el mI|exact T4|refine T5 ?_ ?_|intro ex)<;>try conv=>whnf)
 all_goals first
  |(exfalso;omega)
  |skip
 refine A9 (ι:=Nat) (fun k=>⟨[(2,.sl 2 (dims.map A8)),(5,.iptr (sL s)),(6,.iptr [.str pr,.i ver,.sl 2 (picks.map A8),.sl 1 (rows.map D2)]),(8,.iptr [.i mea]),(10,.ref 4 0),(16,.ref 5 0),(89,.sl 1 (Is.map wA)),(90,.i Is.length),(91,.i k)],7,[(4,some (.box [.v (.slice none 0 0),.i 0,.v (.slice none 0 0)])),(5,some (.box [.sl 2 (dims.map A8),.i mea,.row 6 0 L.length])),(6,some (.row (U1+R8) 7 0 ((CT (Is.take k)).map N0)))]⟩)
  (fun k=>k≤Is.length) (fun k=>Is.length-k) 0 (Nat.zero_le _)
  (B9 (WL (i:=6) (F:=U1) (.inr rfl) rfl (fun _=>by rw[h0];exact Nat.zero_le _) (by decide) (WX L)) (A7 h0 rfl ⟨rfl,rfl,rfl,rfl,rfl,rfl,rfl,rfl,rfl,trivial⟩ ⟨rfl,rfl,⟨_,congrArg (C4.row (U1+R8) 7 _) (by rw[yP])⟩,trivial⟩ rfl rfl rfl)) (fun k hK=>?_)
 obtain⟨ud,oy⟩:=yD k hK
 by_cases mT:k<Is.length
 ·obtain⟨i,hi⟩:∃i,Is[k]?=some i:=⟨_,List.getElem?_eq_getElem mT⟩
  have nO:Is[((k:Nat):Int).toNat]?=some i:=hi
  obtain⟨j,row,qq,mU⟩:=pq i (List.mem_of_getElem? hi)
  have ql:=nV j row mU
  obtain⟨key,ny⟩:∃z,row[0]?=some z:=⟨_,List.getElem?_eq_getElem (by omega)⟩
  have sP:=oP j row key mU ny
  have pF:=qg j row mU
  have nJ:=wK k i hi
  rw[ut]at nJ
  have sq:=mO j row mU
  have pL:=og i
  have wN:=qw i
  have qh:=rq i
  rw[←qq]at sP sq pF
  have pZ:rows[i.toNat]?=some row:=by rw[qq];exact mU
  have su:=F0 mU
  have yt:0≤i∧i<rows.length:=by omega
  rw[sP]at nJ
  generalize OX i=O at *
  generalize hv0:VX i=v at *
  subst qh
  generalize CT (Is.take k)=C at *
  clear wK ut mO oP qg pq nV qw
  repeat'((first|(refine A2 (x:=i) nO (by omega) ?_) |refine S2 ?_|(refine T6 ?_ ?_<;>intro h<;>try exact V1 h)|intro el mI mJ|intro el mI|exact T4|refine T5 ?_ ?_|intro ex)<;>try conv=>whnf)
  all_goals first
   |(exfalso;omega)
   |skip
  refine A9 (ι:=Nat) (fun q=>⟨[(2,.sl 2 (dims.map A8)),(5,.iptr (sL s)),(6,.iptr [.str pr,.i ver,.sl 2 (picks.map A8),.sl 1 (rows.map D2)]),(8,.iptr [.i mea]),(10,.ref 4 0),(16,.ref 5 0),(21,.iptr [.i i]),(22,.iptr [.i 0]),(23,.row 9 0 dims.length),(89,.sl 1 (Is.map wA)),(90,.i Is.length),(91,.i k),(108,.sl 2 (dims.map A8)),(109,.i dims.length),(110,.i q)],10,[(4,some (.box [.v (.slice none 0 0),.i 0,.v (.slice none 0 0)])),(5,some (.box [.sl 2 (dims.map A8),.i mea,.row 6 0 L.length])),(6,some (.row (U1+R8) 7 0 ((C).map N0))),(9,some (.row 3 1 0 ((z5 O dims.length q).map wA)))]⟩)
   (fun q=>q≤dims.length) (fun q=>dims.length-q) 0 (Nat.zero_le _)
   (A7 h0 rfl ⟨rfl,rfl,rfl,rfl,rfl,rfl,rfl,rfl,rfl,rfl,rfl,rfl,rfl,rfl,rfl,trivial⟩ ⟨rfl,rfl,⟨_,rfl⟩,⟨_,congrArg (C4.row 3 1 _) (by rw[Ns];rfl)⟩,trivial⟩ rfl rfl rfl) (fun q hq=>?_)
  have sw:=Qa pL hq
  by_cases qo:q<dims.length
  ·obtain⟨d,hd⟩:∃d,dims[q]?=some d:=⟨_,List.getElem?_eq_getElem qo⟩
   have ux:dims[((q:Nat):Int).toNat]?=some d:=hd
   have hc:=pF d
   have hO:=sq q d hd
   generalize N6 s d.col d.lev (picks.zip row.tail)=Z at *
   obtain⟨z,ok⟩:=Z
   dsimp only at *
   have nC:=Qb pL hO
   have nS:((z5 O dims.length q).map wA).set q [.i z]=(z5 O dims.length (q+1)).map wA:=by rw[←nC,List.map_set]
   repeat'((first|(refine A2 (x:=d) ux (by omega) ?_)|refine A0 hc ?_ |refine S2 ?_|(refine T6 ?_ ?_<;>intro h<;>try exact V1 h)|intro el mI mJ|intro el mI|exact T4|refine T5 ?_ ?_|intro ex)<;>try conv=>whnf)
   all_goals first
    |(exfalso;omega)
    |exact⟨q+1,by omega,by omega,A7 h0 rfl ⟨rfl,rfl,rfl,rfl,rfl,rfl,rfl,rfl,rfl,rfl,rfl,rfl,rfl,rfl,rfl,trivial⟩ ⟨rfl,rfl,⟨_,rfl⟩,⟨_,congrArg (C4.row 3 1 _) nS.symm⟩,trivial⟩ rfl rfl rfl⟩
  have tN:q=dims.length:=by omega
  subst tN
  rw[QZ pL]
  refine P1 (A7 (σ':=⟨[(2,.sl 2 (dims.map A8)),(5,.iptr (sL s)),(6,.iptr [.str pr,.i ver,.sl 2 (picks.map A8),.sl 1 (rows.map D2)]),(8,.iptr [.i mea]),(10,.ref 4 0),(16,.ref 5 0),(21,.iptr [.i i]),(22,.iptr [.i 0]),(23,.sl 1 (O.map wA)),(89,.sl 1 (Is.map wA)),(90,.i Is.length),(91,.i k),(108,.sl 2 (dims.map A8)),(109,.i dims.length),(110,.i dims.length)],7,[(4,some (.box [.v (.slice none 0 0),.i 0,.v (.slice none 0 0)])),(5,some (.box [.sl 2 (dims.map A8),.i mea,.row 6 0 L.length])),(6,some (.row (U1+R8) 7 0 ((C).map N0)))]⟩) h0 rfl ⟨rfl,rfl,rfl,rfl,rfl,rfl,rfl,rfl,rfl,rfl,rfl,rfl,rfl,rfl,rfl,trivial⟩ ⟨rfl,rfl,⟨_,rfl⟩,trivial⟩ rfl rfl rfl) ?_
  have xD:=Kw (C.map N0) L.length O
  repeat'((first|refine nc [6] [0] xD rfl rfl rfl ⟨rfl,trivial⟩ ?_|refine WY ?_ |refine S2 ?_|(refine T6 ?_ ?_<;>intro h<;>try exact V1 h)|intro el mI mJ|intro el mI|exact T4|refine T5 ?_ ?_|intro ex)<;>try conv=>whnf)
  all_goals first
   |(exfalso;omega)
   |skip
  have up:∀c∈C,c.codes.length≤O.length:=fun c hc=>by have:=(oy c hc).codes;omega
  refine WZ ?_
  refine QR (slc:=[(6,.iptr [.str pr,.i ver,.sl 2 (picks.map A8),.sl 1 (rows.map D2)]),(8,.iptr [.i mea]),(21,.iptr [.i i]),(22,.iptr [.i 0])]) (m0:=3) (m1:=3) (hp0:=kE (C.map N0) L.length O) (hp1:=kF ((C.map fun c=>if z1 O c.codes=true then N2 key 0 (decide (0≤mea)) c else c).map N0) L.length) (args:=[.ref 1 0,.ref 2 0]) (r:=.tup []) [6,7,8] [0,0,0] rfl sE (fun l rc q1 q2 q3 q4 q5 q6=>?_) ⟨⟨rfl,rfl⟩,⟨rfl,rfl⟩,⟨rfl,rfl⟩,⟨rfl,rfl⟩,trivial⟩ rfl rfl ⟨rfl,rfl,rfl,trivial⟩ ?_
  ·have vF:C.length≤9223372036854775807:=by omega
   rw[←ud]
   refine JU l rc _ O (fun c=>N2 key 0 (decide (0≤mea)) c) C vF up (fun M q c hM hq hc=>Ku q1 q2 q3 q4 rfl rfl q5 q6 rfl fun E2 yU=>Ew ?_)
   have uq:=(oy c hc).ok (by omega)
   have nq:(M.map N0)[q]?=some (N0 c):=by rw[List.getElem?_map,hq];rfl
   have rL:=Nj (M.map N0) q c nq uq key 0 wN (decide (0≤mea))
   rw[show (M.map N0).set q (N0 (N2 key 0 (decide (0≤mea)) c))=(M.set q (N2 key 0 (decide (0≤mea)) c)).map N0 by rw[List.map_set]]at rL
   repeat'((first|(refine BI ?_ ?_ ?_;kernel_rfl;kernel_rfl)|refine nc [0] [0] rL rfl rfl rfl ⟨rfl,trivial⟩ ?_|(refine A2 (x:=row) pZ (by omega) ?_)|(refine A2 (x:=key) ny (by omega) ?_) |refine S2 ?_|(refine T6 ?_ ?_<;>intro h<;>try exact V1 h)|intro el mI mJ|intro el mI|exact T4|refine T5 ?_ ?_|intro ex)<;>try conv=>whnf)
   all_goals first
    |(exfalso;omega)
    |exact A7 yU rfl trivial ⟨⟨_,rfl⟩,trivial⟩ rfl rfl rfl
  (try (conv=>whnf))
  repeat'((first|refine S2 ?_|(refine T6 ?_ ?_<;>intro h<;>try exact V1 h)|intro el mI mJ|intro el mI|exact T4|refine T5 ?_ ?_|intro ex)<;>try conv=>whnf)
  all_goals first
   |(exfalso;omega)
   |exact⟨k+1,by omega,by omega,A7 h0 rfl ⟨rfl,rfl,rfl,rfl,rfl,rfl,rfl,rfl,rfl,trivial⟩ ⟨rfl,rfl,⟨_,congrArg (C4.row (U1+R8) 7 _) (by rw[nJ])⟩,trivial⟩ rfl rfl rfl⟩
 have nu:Is.take k=Is:=List.take_of_length_le (by omega)
 have nP:k=Is.length:=by omega
 rw[nu]
 subst nP
 refine P1 (B9 (QL (i:=6) (F:=U1) (.inr rfl) rfl (by decide) (QX (CT Is))) (B9 (A7 (σ':=⟨[(10,.ref 4 0),(16,.ref 5 0),(90,.i Is.length),(91,.i Is.length)],6,[(4,some (.box [.v (.slice none 0 0),.i 0,.v (.slice none 0 0)])),(5,some (.box [.sl 2 (dims.map A8),.i mea,.sl 7 ((CT Is).map U5)]))]⟩) h0 rfl ⟨rfl,rfl,rfl,rfl,trivial⟩ ⟨rfl,rfl,trivial⟩ rfl rfl rfl) (A7 (σ':=⟨[(10,.ref 4 0),(16,.iptr [.sl 2 (dims.map A8),.i mea,.sl 7 ((CT Is).map U5)]),(90,.i Is.length),(91,.i Is.length)],5,[(4,some (.box [.v (.slice none 0 0),.i 0,.v (.slice none 0 0)]))]⟩) h0 rfl ⟨rfl,rfl,rfl,rfl,trivial⟩ ⟨rfl,trivial⟩ rfl rfl rfl))) ?_
 repeat'((first|refine S2 ?_|(refine T6 ?_ ?_<;>intro h<;>try exact V1 h)|intro el mI mJ|intro el mI|exact T4|refine T5 ?_ ?_|intro ex)<;>try conv=>whnf)
 all_goals first
  |(exfalso;omega)
  |exact S8 rfl rfl rfl (.refl _) rfl (.refl _) rfl
theorem kR(s:A4)(x:J7)(dims:List Pk)(mea:Int)(cnd:B6)(L:List (List Int))(e1:K9 s x=0)(e2:L6 s (R5 dims mea cnd)=0)(e3:X5 x.picks (W4 s (e9 dims mea cnd))=true)(hL:Y0 s dims [[]]=some L)(hm:0≤mea):A3 Tryz.prog 16 [sA s,T8 x,.sl 2 (dims.map A8),.i mea,D5 cnd] (.tup [X8 ⟨dims,mea,W9 s x dims mea L (e8 s x cnd (W5 mea))⟩,.i 0]):=by
 have h1:=j3 s x
 rw[e1]at h1
 have h2:A3 Tryz.prog 44 [sA s,.sl 2 (dims.map A8),.i mea,D5 cnd] (.i 0):=e2▸Cu s dims mea cnd
 have h3:=Ed s dims mea cnd
 have h4:=Ba x.picks (W4 s (e9 dims mea cnd))
 rw[e3]at h4
 obtain⟨hr,qa,nw,th⟩:=CO e2
 obtain⟨rW,po,qj⟩:=Bx nw
 have h5:=FQ s hr dims po qj
 rw[hL]at h5
 have h6:=LC dims (by omega)
 have h7:=GM s x cnd (W5 mea)
 have yn:=Lv hL (by decide)
 have tL:∀l∈L,l.length=dims.length:=fun l hl=>by have:=Lu (m:=0) hL (by simp) l hl;omega
 obtain⟨yj,hp,nG,mV⟩:=o5 e1
 have ob:=f8 hp
 have mf:=(D3 hr).2.1
 have qw:=fun i=>Nr hr th x i
 have qg:=fun (k:Nat) (r:List Int) (hk:x.rows[k]?=some r) (d:Pk)=>Co s hr x k r hk (O6 (mV k r hk)) (by omega) d.col d.lev
 have pq:=fun i=>@KL s x cnd (W5 mea) i
 have yB:=KM s x cnd (W5 mea)
 have nV:=fun (k:Nat) (r:List Int) (hk:x.rows[k]?=some r)=>O6 (mV k r hk)
 generalize vM:e8 s x cnd (W5 mea)=Is at *
 have yD:=Lw qw tL Is
 have wK:=fun (k:Nat) (i:Int) (h:Is[k]?=some i)=>Hr s x dims mea L h
 have yP:W9 s x dims mea L (Is.take 0)=L.map AP:=rfl
 have hCn:W9 s x dims mea L (Is.take Is.length)=W9 s x dims mea L Is:=by rw[List.take_length]
 have ut:∀(i:Int) (C:List G8),EE s x dims mea C i=C.map fun c=>if z1 (b6 s x dims i) c.codes=true then N2 (z4 x i) (Ab s x mea i) (decide (0≤mea)) c else c:=fun _ _=>rfl
 have mO:∀(k:Nat) (r:List Int),x.rows[k]?=some r→∀(q:Nat) (d:Pk),dims[q]?=some d→(b6 s x dims k)[q]?=some (N6 s d.col d.lev (x.picks.zip r.tail)).1:=fun k r hk q d hd=>by unfold b6;rw[List.getElem?_map,hd,show ((k:Int)).toNat=k from rfl,D7 hk];rfl
 have og:∀i,(b6 s x dims i).length=dims.length:=fun i=>List.length_map ..
 have oP:∀(k:Nat) (r:List Int) (z:Int),x.rows[k]?=some r→r[0]?=some z→z4 x k=z:=fun k r z hk hz=>by unfold z4;rw[show ((k:Int)).toNat=k from rfl,D7 hk,O5 hz]
 have h8:=fun (i:Int) (hi:i∈Is)=>VA s x e1 [i] (by simp) (fun j hj=>by simp at hj;subst hj;exact pq j hi) mea
 have rq:∀i,Ab s x mea i=JR s x mea i:=fun i=>if_pos hm
 have pj:W5 mea=[mea]:=if_pos hm
 rw[pj]at h7
 generalize W9 s x dims mea L=CT at *
 generalize b6 s x dims=OX at *
 generalize EE s x dims mea=RT at *
 generalize z4 x=KX at *
 generalize Ab s x mea=VX at *
 generalize JR s x mea=YX at *
 generalize K9 s x=eX at *
 obtain⟨pr,ver,picks,rows⟩:=x
 dsimp only at *
 clear e1 e2 e3 hp nw mV vM hL ob
 refine AG Tryz.func16 (by kernel_rfl) rfl rfl rfl rfl rfl (by intro t T h;cases h) fun mK E h0 sE=>?_
 clear mK
 repeat'((first|(refine E6 12 ?_;refine R2 (id:=12) (σ':=⟨[(2,.sl 2 (dims.map A8)),(5,.iptr (sL s)),(6,.iptr [.str pr,.i ver,.sl 2 (picks.map A8),.sl 1 (rows.map D2)]),(8,.iptr [.i mea]),(9,.iptr [.i cnd.op,.i cnd.col,.i cnd.code,.i cnd.lo,.i cnd.hi,.sl 6 (cnd.kids.map P9)]),(10,.ref 4 0),(14,.sl 1 (L.map D2))],5,[(4,some (.box [.v (.slice none 0 0),.i 0,.v (.slice none 0 0)]))]⟩) (A6 h0) ?_;refine F3 (id:=12) ⟨[(2,.sl 2 (dims.map A8)),(5,.iptr (sL s)),(6,.iptr [.str pr,.i ver,.sl 2 (picks.map A8),.sl 1 (rows.map D2)]),(8,.iptr [.i mea]),(9,.iptr [.i cnd.op,.i cnd.col,.i cnd.code,.i cnd.lo,.i cnd.hi,.sl 6 (cnd.kids.map P9)]),(10,.ref 4 0),(14,.sl 1 (L.map D2)),(16,.ref 5 0)],6,[(4,some (.box [.v (.slice none 0 0),.i 0,.v (.slice none 0 0)])),(5,some (.box [.sl 2 (dims.map A8),.i mea,.v (.slice none 0 0)]))]⟩ ?_ ?_)|refine A0 h1 ?_|refine A0 h2 ?_|refine A0 h3 ?_|refine A0 h4 ?_|refine A0 h5 ?_|refine A0 h6 ?_|(refine E6 7 ?_;refine B0 ?_ ?_;kernel_rfl) |refine S2 ?_|(refine T6 ?_ ?_<;>intro h<;>try exact V1 h)|intro el mI mJ|intro el mI|exact T4|refine T5 ?_ ?_|intro ex)<;>try conv=>whnf)
 all_goals first
  |(exfalso;omega)
  |exact A6 h0
  |skip
 refine A9 (ι:=Nat) (fun k=>⟨[(2,.sl 2 (dims.map A8)),(5,.iptr (sL s)),(6,.iptr [.str pr,.i ver,.sl 2 (picks.map A8),.sl 1 (rows.map D2)]),(8,.iptr [.i mea]),(9,.iptr [.i cnd.op,.i cnd.col,.i cnd.code,.i cnd.lo,.i cnd.hi,.sl 6 (cnd.kids.map P9)]),(10,.ref 4 0),(16,.ref 5 0),(67,.sl 1 (L.map D2)),(68,.i L.length),(69,.i k)],7,[(4,some (.box [.v (.slice none 0 0),.i 0,.v (.slice none 0 0)])),(5,some (.box [.sl 2 (dims.map A8),.i mea,.row 6 0 k])),(6,some (.row R8 7 0 ((L.take k).map bE)))]⟩)
  (fun k=>k≤L.length) (fun k=>L.length-k) 0 (Nat.zero_le _)
  (B9 (w6 5 2 (e:=R8) (sz:=7) rfl rfl) (A6 h0)) (fun k hK=>?_)
 by_cases mT:k<L.length
 ·obtain⟨l,tQ⟩:∃l,L[k]?=some l:=⟨_,List.getElem?_eq_getElem mT⟩
  have oh:L[((k:Nat):Int).toNat]?=some l:=tQ
  have qV:((L.take k).map bE).length=k:=by rw[List.length_map,List.length_take];omega
  repeat'((first|(refine A2 (x:=l) oh (by omega) ?_) |refine S2 ?_|(refine T6 ?_ ?_<;>intro h<;>try exact V1 h)|intro el mI mJ|intro el mI|exact T4|refine T5 ?_ ?_|intro ex)<;>try conv=>whnf)
  all_goals first
   |(exfalso;omega)
   |exact⟨k+1,by omega,by omega,A7 h0 rfl ⟨rfl,rfl,rfl,rfl,rfl,rfl,rfl,rfl,rfl,rfl,trivial⟩ ⟨rfl,rfl,⟨_,congrArg (C4.row R8 7 _) (by rw[E7 tQ,List.map_append];rfl)⟩,trivial⟩ rfl rfl rfl⟩
 have nu:L.take k=L:=List.take_of_length_le (by omega)
 have nP:k=L.length:=by omega
 rw[nu]
 subst nP
 clear nu mT hK
 repeat'((first|refine f9 [] [] h7 rfl rfl rfl rfl rfl trivial rfl rfl rfl rfl rfl ?_ |refine S2 ?_|(refine T6 ?_ ?_<;>intro h<;>try exact V1 h)|intro el mI mJ|intro el mI|exact T4|refine T5 ?_ ?_|intro ex)<;>try conv=>whnf)
 all_goals first
  |(exfalso;omega)
  |skip
 refine A9 (ι:=Nat) (fun k=>⟨[(2,.sl 2 (dims.map A8)),(5,.iptr (sL s)),(6,.iptr [.str pr,.i ver,.sl 2 (picks.map A8),.sl 1 (rows.map D2)]),(8,.iptr [.i mea]),(10,.ref 4 0),(16,.ref 5 0),(89,.sl 1 (Is.map wA)),(90,.i Is.length),(91,.i k)],7,[(4,some (.box [.v (.slice none 0 0),.i 0,.v (.slice none 0 0)])),(5,some (.box [.sl 2 (dims.map A8),.i mea,.row 6 0 L.length])),(6,some (.row (U1+R8) 7 0 ((CT (Is.take k)).map N0)))]⟩)
  (fun k=>k≤Is.length) (fun k=>Is.length-k) 0 (Nat.zero_le _)
  (B9 (WL (i:=6) (F:=U1) (.inr rfl) rfl (fun _=>by rw[h0];exact Nat.zero_le _) (by decide) (WX L)) (A7 h0 rfl ⟨rfl,rfl,rfl,rfl,rfl,rfl,rfl,rfl,rfl,trivial⟩ ⟨rfl,rfl,⟨_,congrArg (C4.row (U1+R8) 7 _) (by rw[yP])⟩,trivial⟩ rfl rfl rfl)) (fun k hK=>?_)
 obtain⟨ud,oy⟩:=yD k hK
 by_cases mT:k<Is.length
 ·obtain⟨i,hi⟩:∃i,Is[k]?=some i:=⟨_,List.getElem?_eq_getElem mT⟩
  have nO:Is[((k:Nat):Int).toNat]?=some i:=hi
  obtain⟨j,row,qq,mU⟩:=pq i (List.mem_of_getElem? hi)
  have ql:=nV j row mU
  obtain⟨key,ny⟩:∃z,row[0]?=some z:=⟨_,List.getElem?_eq_getElem (by omega)⟩
  have sP:=oP j row key mU ny
  have pF:=qg j row mU
  have nJ:=wK k i hi
  rw[ut]at nJ
  have sq:=mO j row mU
  have pL:=og i
  have wN:=qw i
  have qh:=rq i
  rw[←qq]at sP sq pF
  have pZ:rows[i.toNat]?=some row:=by rw[qq];exact mU
  have su:=F0 mU
  have yt:0≤i∧i<rows.length:=by omega
  rw[sP]at nJ
  have h9:=h8 i (List.mem_of_getElem? hi)
  generalize OX i=O at *
  generalize hv0:VX i=v at *
  simp only[List.map_cons,List.map_nil,List.length_singleton,←qh]at h9
  generalize CT (Is.take k)=C at *
  clear wK ut mO oP qg pq nV qw
  repeat'((first|(refine A2 (x:=i) nO (by omega) ?_)|refine f9 [] [] h9 rfl rfl rfl rfl rfl trivial rfl rfl rfl rfl rfl ?_|(refine fR (x:=[.i v]) rfl rfl ?_) |refine S2 ?_|(refine T6 ?_ ?_<;>intro h<;>try exact V1 h)|intro el mI mJ|intro el mI|exact T4|refine T5 ?_ ?_|intro ex)<;>try conv=>whnf)
  all_goals first
   |(exfalso;omega)
   |skip
  refine A9 (ι:=Nat) (fun q=>⟨[(2,.sl 2 (dims.map A8)),(5,.iptr (sL s)),(6,.iptr [.str pr,.i ver,.sl 2 (picks.map A8),.sl 1 (rows.map D2)]),(8,.iptr [.i mea]),(10,.ref 4 0),(16,.ref 5 0),(21,.iptr [.i i]),(22,.iptr [.i v]),(23,.row 10 0 dims.length),(89,.sl 1 (Is.map wA)),(90,.i Is.length),(91,.i k),(108,.sl 2 (dims.map A8)),(109,.i dims.length),(110,.i q)],11,[(4,some (.box [.v (.slice none 0 0),.i 0,.v (.slice none 0 0)])),(5,some (.box [.sl 2 (dims.map A8),.i mea,.row 6 0 L.length])),(6,some (.row (U1+R8) 7 0 ((C).map N0))),(10,some (.row 3 1 0 ((z5 O dims.length q).map wA)))]⟩)
   (fun q=>q≤dims.length) (fun q=>dims.length-q) 0 (Nat.zero_le _)
   (A7 h0 rfl ⟨rfl,rfl,rfl,rfl,rfl,rfl,rfl,rfl,rfl,rfl,rfl,rfl,rfl,rfl,rfl,trivial⟩ ⟨rfl,rfl,⟨_,rfl⟩,⟨_,congrArg (C4.row 3 1 _) (by rw[Ns];rfl)⟩,trivial⟩ rfl rfl rfl) (fun q hq=>?_)
  have sw:=Qa pL hq
  by_cases qo:q<dims.length
  ·obtain⟨d,hd⟩:∃d,dims[q]?=some d:=⟨_,List.getElem?_eq_getElem qo⟩
   have ux:dims[((q:Nat):Int).toNat]?=some d:=hd
   have hc:=pF d
   have hO:=sq q d hd
   generalize N6 s d.col d.lev (picks.zip row.tail)=Z at *
   obtain⟨z,ok⟩:=Z
   dsimp only at *
   have nC:=Qb pL hO
   have nS:((z5 O dims.length q).map wA).set q [.i z]=(z5 O dims.length (q+1)).map wA:=by rw[←nC,List.map_set]
   repeat'((first|(refine A2 (x:=d) ux (by omega) ?_)|refine A0 hc ?_ |refine S2 ?_|(refine T6 ?_ ?_<;>intro h<;>try exact V1 h)|intro el mI mJ|intro el mI|exact T4|refine T5 ?_ ?_|intro ex)<;>try conv=>whnf)
   all_goals first
    |(exfalso;omega)
    |exact⟨q+1,by omega,by omega,A7 h0 rfl ⟨rfl,rfl,rfl,rfl,rfl,rfl,rfl,rfl,rfl,rfl,rfl,rfl,rfl,rfl,rfl,trivial⟩ ⟨rfl,rfl,⟨_,rfl⟩,⟨_,congrArg (C4.row 3 1 _) nS.symm⟩,trivial⟩ rfl rfl rfl⟩
  have tN:q=dims.length:=by omega
  subst tN
  rw[QZ pL]
  refine P1 (A7 (σ':=⟨[(2,.sl 2 (dims.map A8)),(5,.iptr (sL s)),(6,.iptr [.str pr,.i ver,.sl 2 (picks.map A8),.sl 1 (rows.map D2)]),(8,.iptr [.i mea]),(10,.ref 4 0),(16,.ref 5 0),(21,.iptr [.i i]),(22,.iptr [.i v]),(23,.sl 1 (O.map wA)),(89,.sl 1 (Is.map wA)),(90,.i Is.length),(91,.i k),(108,.sl 2 (dims.map A8)),(109,.i dims.length),(110,.i dims.length)],7,[(4,some (.box [.v (.slice none 0 0),.i 0,.v (.slice none 0 0)])),(5,some (.box [.sl 2 (dims.map A8),.i mea,.row 6 0 L.length])),(6,some (.row (U1+R8) 7 0 ((C).map N0)))]⟩) h0 rfl ⟨rfl,rfl,rfl,rfl,rfl,rfl,rfl,rfl,rfl,rfl,rfl,rfl,rfl,rfl,rfl,trivial⟩ ⟨rfl,rfl,⟨_,rfl⟩,trivial⟩ rfl rfl rfl) ?_
  have xD:=Kw (C.map N0) L.length O
  repeat'((first|refine nc [6] [0] xD rfl rfl rfl ⟨rfl,trivial⟩ ?_|refine WY ?_ |refine S2 ?_|(refine T6 ?_ ?_<;>intro h<;>try exact V1 h)|intro el mI mJ|intro el mI|exact T4|refine T5 ?_ ?_|intro ex)<;>try conv=>whnf)
  all_goals first
   |(exfalso;omega)
   |skip
  have up:∀c∈C,c.codes.length≤O.length:=fun c hc=>by have:=(oy c hc).codes;omega
  refine WZ ?_
  refine QR (slc:=[(6,.iptr [.str pr,.i ver,.sl 2 (picks.map A8),.sl 1 (rows.map D2)]),(8,.iptr [.i mea]),(21,.iptr [.i i]),(22,.iptr [.i v])]) (m0:=3) (m1:=3) (hp0:=kE (C.map N0) L.length O) (hp1:=kF ((C.map fun c=>if z1 O c.codes=true then N2 key v (decide (0≤mea)) c else c).map N0) L.length) (args:=[.ref 1 0,.ref 2 0]) (r:=.tup []) [6,7,8] [0,0,0] rfl sE (fun l rc q1 q2 q3 q4 q5 q6=>?_) ⟨⟨rfl,rfl⟩,⟨rfl,rfl⟩,⟨rfl,rfl⟩,⟨rfl,rfl⟩,trivial⟩ rfl rfl ⟨rfl,rfl,rfl,trivial⟩ ?_
  ·have vF:C.length≤9223372036854775807:=by omega
   rw[←ud]
   refine JU l rc _ O (fun c=>N2 key v (decide (0≤mea)) c) C vF up (fun M q c hM hq hc=>Ku q1 q2 q3 q4 rfl rfl q5 q6 rfl fun E2 yU=>Ew ?_)
   have uq:=(oy c hc).ok (by omega)
   have nq:(M.map N0)[q]?=some (N0 c):=by rw[List.getElem?_map,hq];rfl
   have rL:=Nj (M.map N0) q c nq uq key v wN (decide (0≤mea))
   rw[show (M.map N0).set q (N0 (N2 key v (decide (0≤mea)) c))=(M.set q (N2 key v (decide (0≤mea)) c)).map N0 by rw[List.map_set]]at rL
   repeat'((first|(refine BI ?_ ?_ ?_;kernel_rfl;kernel_rfl)|refine nc [0] [0] rL rfl rfl rfl ⟨rfl,trivial⟩ ?_|(refine A2 (x:=row) pZ (by omega) ?_)|(refine A2 (x:=key) ny (by omega) ?_) |refine S2 ?_|(refine T6 ?_ ?_<;>intro h<;>try exact V1 h)|intro el mI mJ|intro el mI|exact T4|refine T5 ?_ ?_|intro ex)<;>try conv=>whnf)
   all_goals first
    |(exfalso;omega)
    |exact A7 yU rfl trivial ⟨⟨_,rfl⟩,trivial⟩ rfl rfl rfl
  (try (conv=>whnf))
  repeat'((first|refine S2 ?_|(refine T6 ?_ ?_<;>intro h<;>try exact V1 h)|intro el mI mJ|intro el mI|exact T4|refine T5 ?_ ?_|intro ex)<;>try conv=>whnf)
  all_goals first
   |(exfalso;omega)
   |exact⟨k+1,by omega,by omega,A7 h0 rfl ⟨rfl,rfl,rfl,rfl,rfl,rfl,rfl,rfl,rfl,trivial⟩ ⟨rfl,rfl,⟨_,congrArg (C4.row (U1+R8) 7 _) (by rw[nJ])⟩,trivial⟩ rfl rfl rfl⟩
 have nu:Is.take k=Is:=List.take_of_length_le (by omega)
 have nP:k=Is.length:=by omega
 rw[nu]
 subst nP
 refine P1 (B9 (QL (i:=6) (F:=U1) (.inr rfl) rfl (by decide) (QX (CT Is))) (B9 (A7 (σ':=⟨[(10,.ref 4 0),(16,.ref 5 0),(90,.i Is.length),(91,.i Is.length)],6,[(4,some (.box [.v (.slice none 0 0),.i 0,.v (.slice none 0 0)])),(5,some (.box [.sl 2 (dims.map A8),.i mea,.sl 7 ((CT Is).map U5)]))]⟩) h0 rfl ⟨rfl,rfl,rfl,rfl,trivial⟩ ⟨rfl,rfl,trivial⟩ rfl rfl rfl) (A7 (σ':=⟨[(10,.ref 4 0),(16,.iptr [.sl 2 (dims.map A8),.i mea,.sl 7 ((CT Is).map U5)]),(90,.i Is.length),(91,.i Is.length)],5,[(4,some (.box [.v (.slice none 0 0),.i 0,.v (.slice none 0 0)]))]⟩) h0 rfl ⟨rfl,rfl,rfl,rfl,trivial⟩ ⟨rfl,trivial⟩ rfl rfl rfl))) ?_
 repeat'((first|refine S2 ?_|(refine T6 ?_ ?_<;>intro h<;>try exact V1 h)|intro el mI mJ|intro el mI|exact T4|refine T5 ?_ ?_|intro ex)<;>try conv=>whnf)
 all_goals first
  |(exfalso;omega)
  |exact S8 rfl rfl rfl (.refl _) rfl (.refl _) rfl
end Go.Proofs.YtiphlhoclaogjaaGreatDoor
