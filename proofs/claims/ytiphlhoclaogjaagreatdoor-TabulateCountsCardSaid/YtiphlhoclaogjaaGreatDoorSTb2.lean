/- Chapter 18: tables: the program, the table. -/
import Derived.Test.YtiphlhoclaogjaaGreatDoorSTb1
import Derived.Test.YtiphlhoclaogjaaGreatDoorSTa5
set_option linter.unusedVariables false
set_option linter.unnecessarySimpa false
set_option linter.unusedSimpArgs false
set_option maxHeartbeats 64000000
namespace Go.Proofs.YtiphlhoclaogjaaGreatDoor
open Go Go.Av
attribute [local irreducible] C7 B2 D3 C9 DQ D0 C8 St.le A3 B9
set_option maxRecDepth 100000
attribute [local irreducible] GX EM KW Gx
theorem bG{P:Program}{E:Env}{n:Nat}{ops:Array Oper}{rest:List Oper}{σ:St}{K:St→Prop}{o:Option Nat}{f:Nat}{xs:Array Operand}{ts:Array TypeId}{ty:TypeId}{pos:String}{after:Array Edge}(d sz:Nat)(hd:Go.Av.look σ.sl d=some (.v (.slice none 0 0)))(h:B2 P E n ops (⟨o,.call ⟨.value (.func f),xs,ts⟩,ty,pos,after,none⟩::rest) (σ.put d (.sl sz [])) K):B2 P E n ops (⟨o,.call ⟨.value (.func f),xs,ts⟩,ty,pos,after,none⟩::rest) σ K:=En (SD hd) h
def UB(P:Program)(E:Env)(n:Nat)(g:Operand)(ps:Array Tmp)(assign body:Go.Code)(σ:St)(Q:Exit→St→Prop):Prop:=C7 P E n (.rangeFunc g ps assign body) σ Q
theorem Wb{P:Program}{E:Env}{n:Nat}{g:Operand}{ps:Array Tmp}{assign body:Go.Code}{σ:St}{Q:Exit→St→Prop}(h:UB P E n g ps assign body σ Q):C7 P E n (.rangeFunc g ps assign body) σ Q:=h
theorem Wc{P:Program}{E:Env}{n:Nat}{g:Operand}{ps:Array Tmp}{assign body:Go.Code}{σ:St}{Q:Exit→St→Prop}(h:C7 P E n (.rangeFunc g ps assign body) σ Q):UB P E n g ps assign body σ Q:=h
attribute [local irreducible] UB
def AR(O:List Int)(D q:Nat):List Int:=O.take q++List.replicate (D-q) 0
theorem OB(O:List Int)(D:Nat):(AR O D 0).map wA=List.replicate D [AV.i 0]:=by simp[AR]
theorem Qf{O:List Int}{D:Nat}(h:O.length=D):AR O D D=O:=by
 unfold AR
 rw[Nat.sub_self,List.replicate_zero,List.append_nil,List.take_of_length_le (by omega)]
theorem Qg{O:List Int}{D q:Nat}(h:O.length=D)(hq:q≤D):(AR O D q).length=D:=by
 unfold AR
 rw[List.length_append,List.length_take,List.length_replicate];omega
theorem Qh{O:List Int}{D q:Nat}{z:Int}(h:O.length=D)(hz:O[q]?=some z):(AR O D q).set q z=AR O D (q+1):=by
 have hq:=F5 hz
 unfold AR
 rw[H6 hz,List.set_append_right _ _ (by rw[List.length_take];omega),List.length_take,show q-min q O.length=0 by omega,List.append_assoc]
 congr 1
 cases hD:D-q with
 |zero=>omega
 |succ m=>rw[show D-(q+1)=m by omega,List.replicate_succ];rfl
theorem jp(s:A4)(x:N5)(dims:List Pk)(mea:Int)(cnd:B1)(L:List (List Int))(e1:P6 s x=0)(e2:Q1 s (Bf dims mea cnd)=0)(e3:q8 x.picks (Dk s (Dl dims mea cnd))=true)(hL:AP s dims [[]]=some L)(hm:¬0≤mea):A3 Tryz.prog 16 [sA s,c9 x,.sl 2 (dims.map B4),.i mea,E0 cnd] (.tup [Bk ⟨dims,mea,Z8 s x dims mea L (X8 s x cnd (DM mea))⟩,.i 0]):=by
 have h1:=e8 s x
 rw[e1]at h1
 have h2:A3 Tryz.prog 44 [sA s,.sl 2 (dims.map B4),.i mea,E0 cnd] (.i 0):=e2▸DK s dims mea cnd
 have h3:=Ei s dims mea cnd
 have h4:=Bu x.picks (Dk s (Dl dims mea cnd))
 rw[e3]at h4
 obtain⟨hr,qO,pM,wc⟩:=Jp e2
 obtain⟨sY,qR,tB⟩:=ID pM
 have h5:=FO s hr dims qR tB
 rw[hL]at h5
 have h6:=LN dims (by omega)
 have h7:=GW s x cnd (DM mea)
 have xv:=MH hL (by decide)
 have yC:∀l∈L,l.length=dims.length:=fun l hl=>by have:=MG (m:=0) hL (by simp) l hl;omega
 obtain⟨zV,hp,mf,ll⟩:=BN e1
 have nY:=AA hp
 have ly:=(D5 hr).2.1
 have tZ:=fun i=>bE hr wc x i
 have tw:=fun (k:Nat) (r:List Int) (hk:x.rows[k]?=some r) (d:Pk)=>DF s hr x k r hk (V4 (ll k r hk)) (by omega) d.col d.lev
 have qq:=fun i=>@WY s x cnd (DM mea) i
 have yt:=WZ s x cnd (DM mea)
 have nB:=fun (k:Nat) (r:List Int) (hk:x.rows[k]?=some r)=>V4 (ll k r hk)
 generalize xu:X8 s x cnd (DM mea)=Is at *
 have xt:=MI tZ yC Is
 have vN:=fun (k:Nat) (i:Int) (h:Is[k]?=some i)=>IE s x dims mea L h
 have xd:Z8 s x dims mea L (Is.take 0)=L.map Jo:=rfl
 have hCn:Z8 s x dims mea L (Is.take Is.length)=Z8 s x dims mea L Is:=by rw[List.take_length]
 have uF:∀(i:Int) (C:List J7),IC s x dims mea C i=C.map fun c=>if Bi (FQ s x dims i) c.codes=true then X9 (IB x i) (GE s x mea i) (decide (0≤mea)) c else c:=fun _ _=>rfl
 have la:∀(k:Nat) (r:List Int),x.rows[k]?=some r→∀(q:Nat) (d:Pk),dims[q]?=some d→(FQ s x dims k)[q]?=some (Q0 s d.col d.lev (x.picks.zip r.tail)).1:=fun k r hk q d hd=>by unfold FQ;rw[List.getElem?_map,hd,show ((k:Int)).toNat=k from rfl,E4 hk];rfl
 have rI:∀i,(FQ s x dims i).length=dims.length:=fun i=>List.length_map ..
 have qF:∀(k:Nat) (r:List Int) (z:Int),x.rows[k]?=some r→r[0]?=some z→IB x k=z:=fun k r z hk hz=>by unfold IB;rw[show ((k:Int)).toNat=k from rfl,E4 hk,Q5 hz]
 have vP:∀i,GE s x mea i=0:=fun i=>if_neg hm
 have qB:DM mea=[]:=if_neg hm
 rw[qB]at h7
 generalize Z8 s x dims mea L=CT at *
 generalize FQ s x dims=OX at *
 generalize IC s x dims mea=RT at *
 generalize IB x=KX at *
 generalize GE s x mea=VX at *
 skip
 generalize P6 s x=eX at *
 obtain⟨pr,ver,picks,rows⟩:=x
 dsimp only at *
 clear e1 e2 e3 hp pM ll xu hL nY
 refine Ai Tryz.func16 (by kernel_rfl) rfl rfl rfl rfl rfl (by intro t T h;cases h) fun lW E h0 qp=>?_
 clear lW
 repeat'((first|(refine F6 12 ?_;refine O0 (id:=12) (σ':=⟨[(2,.sl 2 (dims.map B4)),(5,.iptr (sL s)),(6,.iptr [.str pr,.i ver,.sl 2 (picks.map B4),.sl 1 (rows.map F8)]),(8,.iptr [.i mea]),(9,.iptr [.i cnd.op,.i cnd.col,.i cnd.code,.i cnd.lo,.i cnd.hi,.sl 6 (cnd.kids.map L0)]),(10,.ref 4 0),(14,.sl 1 (L.map F8))],5,[(4,some (.box [.v (.slice none 0 0),.i 0,.v (.slice none 0 0)]))]⟩) (A6 h0) ?_;refine G9 (id:=12) ⟨[(2,.sl 2 (dims.map B4)),(5,.iptr (sL s)),(6,.iptr [.str pr,.i ver,.sl 2 (picks.map B4),.sl 1 (rows.map F8)]),(8,.iptr [.i mea]),(9,.iptr [.i cnd.op,.i cnd.col,.i cnd.code,.i cnd.lo,.i cnd.hi,.sl 6 (cnd.kids.map L0)]),(10,.ref 4 0),(14,.sl 1 (L.map F8)),(16,.ref 5 0)],6,[(4,some (.box [.v (.slice none 0 0),.i 0,.v (.slice none 0 0)])),(5,some (.box [.sl 2 (dims.map B4),.i mea,.v (.slice none 0 0)]))]⟩ ?_ ?_)|refine A1 h1 ?_|refine A1 h2 ?_|refine A1 h3 ?_|refine A1 h4 ?_|refine A1 h5 ?_|refine A1 h6 ?_|(refine F6 7 ?_;refine B3 ?_ ?_;kernel_rfl) |refine S2 ?_|(refine T6 ?_ ?_<;>intro h<;>try exact V1 h)|intro el lU lV|intro el lU|exact T4|refine T5 ?_ ?_|intro ex)<;>try conv=>whnf)
 all_goals first
  |(exfalso;omega)
  |exact A6 h0
  |skip
 refine B0 (ι:=Nat) (fun k=>⟨[(2,.sl 2 (dims.map B4)),(5,.iptr (sL s)),(6,.iptr [.str pr,.i ver,.sl 2 (picks.map B4),.sl 1 (rows.map F8)]),(8,.iptr [.i mea]),(9,.iptr [.i cnd.op,.i cnd.col,.i cnd.code,.i cnd.lo,.i cnd.hi,.sl 6 (cnd.kids.map L0)]),(10,.ref 4 0),(16,.ref 5 0),(67,.sl 1 (L.map F8)),(68,.i L.length),(69,.i k)],7,[(4,some (.box [.v (.slice none 0 0),.i 0,.v (.slice none 0 0)])),(5,some (.box [.sl 2 (dims.map B4),.i mea,.row 6 0 k])),(6,some (.row j5 7 0 ((L.take k).map bF)))]⟩)
  (fun k=>k≤L.length) (fun k=>L.length-k) 0 (Nat.zero_le _)
  (B5 (BM 5 2 (e:=j5) (sz:=7) rfl rfl) (A6 h0)) (fun k hK=>?_)
 by_cases lk:k<L.length
 ·obtain⟨l,sx⟩:∃l,L[k]?=some l:=⟨_,List.getElem?_eq_getElem lk⟩
  have nl:L[((k:Nat):Int).toNat]?=some l:=sx
  have qu:((L.take k).map bF).length=k:=by rw[List.length_map,List.length_take];omega
  repeat'((first|(refine A2 (x:=l) nl (by omega) ?_) |refine S2 ?_|(refine T6 ?_ ?_<;>intro h<;>try exact V1 h)|intro el lU lV|intro el lU|exact T4|refine T5 ?_ ?_|intro ex)<;>try conv=>whnf)
  all_goals first
   |(exfalso;omega)
   |exact⟨k+1,by omega,by omega,A9 h0 rfl ⟨rfl,rfl,rfl,rfl,rfl,rfl,rfl,rfl,rfl,rfl,trivial⟩ ⟨rfl,rfl,⟨_,congrArg (C6.row j5 7 _) (by rw[H6 sx,List.map_append];rfl)⟩,trivial⟩ rfl rfl rfl⟩
 have oH:L.take k=L:=List.take_of_length_le (by omega)
 have nH:k=L.length:=by omega
 rw[oH]
 subst nH
 clear oH lk hK
 repeat'((first|refine bG (f:=24) 88 1 rfl ?_|refine b5 [] [] h7 rfl rfl rfl rfl rfl trivial rfl rfl rfl rfl rfl ?_ |refine S2 ?_|(refine T6 ?_ ?_<;>intro h<;>try exact V1 h)|intro el lU lV|intro el lU|exact T4|refine T5 ?_ ?_|intro ex)<;>try conv=>whnf)
 all_goals first
  |(exfalso;omega)
  |skip
 refine B0 (ι:=Nat) (fun k=>⟨[(2,.sl 2 (dims.map B4)),(5,.iptr (sL s)),(6,.iptr [.str pr,.i ver,.sl 2 (picks.map B4),.sl 1 (rows.map F8)]),(8,.iptr [.i mea]),(10,.ref 4 0),(16,.ref 5 0),(89,.sl 1 (Is.map wA)),(90,.i Is.length),(91,.i k)],7,[(4,some (.box [.v (.slice none 0 0),.i 0,.v (.slice none 0 0)])),(5,some (.box [.sl 2 (dims.map B4),.i mea,.row 6 0 L.length])),(6,some (.row (T9+j5) 7 0 ((CT (Is.take k)).map N0)))]⟩)
  (fun k=>k≤Is.length) (fun k=>Is.length-k) 0 (Nat.zero_le _)
  (B5 (WN (i:=6) (F:=T9) (.inr rfl) rfl (fun _=>by rw[h0];exact Nat.zero_le _) (by decide) (Wa L)) (A9 h0 rfl ⟨rfl,rfl,rfl,rfl,rfl,rfl,rfl,rfl,rfl,trivial⟩ ⟨rfl,rfl,⟨_,congrArg (C6.row (T9+j5) 7 _) (by rw[xd])⟩,trivial⟩ rfl rfl rfl)) (fun k hK=>?_)
 obtain⟨tx,pC⟩:=xt k hK
 by_cases lk:k<Is.length
 ·obtain⟨i,hi⟩:∃i,Is[k]?=some i:=⟨_,List.getElem?_eq_getElem lk⟩
  have mr:Is[((k:Nat):Int).toNat]?=some i:=hi
  obtain⟨j,row,sE,lu⟩:=qq i (List.mem_of_getElem? hi)
  have qA:=nB j row lu
  obtain⟨key,pU⟩:∃z,row[0]?=some z:=⟨_,List.getElem?_eq_getElem (by omega)⟩
  have uq:=qF j row key lu pU
  have rJ:=tw j row lu
  have mz:=vN k i hi
  rw[uF]at mz
  have wB:=la j row lu
  have pW:=rI i
  have vS:=tZ i
  have tq:=vP i
  rw[←sE]at uq wB rJ
  have rH:rows[i.toNat]?=some row:=by rw[sE];exact lu
  have sk:=F5 lu
  have hib:0≤i∧i<rows.length:=by omega
  rw[uq]at mz
  generalize OX i=O at *
  generalize zL:VX i=v at *
  subst tq
  generalize CT (Is.take k)=C at *
  clear vN uF la qF tw qq nB tZ
  repeat'((first|(refine A2 (x:=i) mr (by omega) ?_) |refine S2 ?_|(refine T6 ?_ ?_<;>intro h<;>try exact V1 h)|intro el lU lV|intro el lU|exact T4|refine T5 ?_ ?_|intro ex)<;>try conv=>whnf)
  all_goals first
   |(exfalso;omega)
   |skip
  refine B0 (ι:=Nat) (fun q=>⟨[(2,.sl 2 (dims.map B4)),(5,.iptr (sL s)),(6,.iptr [.str pr,.i ver,.sl 2 (picks.map B4),.sl 1 (rows.map F8)]),(8,.iptr [.i mea]),(10,.ref 4 0),(16,.ref 5 0),(21,.iptr [.i i]),(22,.iptr [.i 0]),(23,.row 9 0 dims.length),(89,.sl 1 (Is.map wA)),(90,.i Is.length),(91,.i k),(108,.sl 2 (dims.map B4)),(109,.i dims.length),(110,.i q)],10,[(4,some (.box [.v (.slice none 0 0),.i 0,.v (.slice none 0 0)])),(5,some (.box [.sl 2 (dims.map B4),.i mea,.row 6 0 L.length])),(6,some (.row (T9+j5) 7 0 ((C).map N0))),(9,some (.row 3 1 0 ((AR O dims.length q).map wA)))]⟩)
   (fun q=>q≤dims.length) (fun q=>dims.length-q) 0 (Nat.zero_le _)
   (A9 h0 rfl ⟨rfl,rfl,rfl,rfl,rfl,rfl,rfl,rfl,rfl,rfl,rfl,rfl,rfl,rfl,rfl,trivial⟩ ⟨rfl,rfl,⟨_,rfl⟩,⟨_,congrArg (C6.row 3 1 _) (by rw[OB];rfl)⟩,trivial⟩ rfl rfl rfl) (fun q hq=>?_)
  have ru:=Qg pW hq
  by_cases rD:q<dims.length
  ·obtain⟨d,hd⟩:∃d,dims[q]?=some d:=⟨_,List.getElem?_eq_getElem rD⟩
   have wx:dims[((q:Nat):Int).toNat]?=some d:=hd
   have hc:=rJ d
   have hO:=wB q d hd
   generalize Q0 s d.col d.lev (picks.zip row.tail)=Z at *
   obtain⟨z,ok⟩:=Z
   dsimp only at *
   have nE:=Qh pW hO
   have mc:((AR O dims.length q).map wA).set q [.i z]=(AR O dims.length (q+1)).map wA:=by rw[←nE,List.map_set]
   repeat'((first|(refine A2 (x:=d) wx (by omega) ?_)|refine A1 hc ?_ |refine S2 ?_|(refine T6 ?_ ?_<;>intro h<;>try exact V1 h)|intro el lU lV|intro el lU|exact T4|refine T5 ?_ ?_|intro ex)<;>try conv=>whnf)
   all_goals first
    |(exfalso;omega)
    |exact⟨q+1,by omega,by omega,A9 h0 rfl ⟨rfl,rfl,rfl,rfl,rfl,rfl,rfl,rfl,rfl,rfl,rfl,rfl,rfl,rfl,rfl,trivial⟩ ⟨rfl,rfl,⟨_,rfl⟩,⟨_,congrArg (C6.row 3 1 _) mc.symm⟩,trivial⟩ rfl rfl rfl⟩
  have vB:q=dims.length:=by omega
  subst vB
  rw[Qf pW]
  refine AC (A9 (σ':=⟨[(2,.sl 2 (dims.map B4)),(5,.iptr (sL s)),(6,.iptr [.str pr,.i ver,.sl 2 (picks.map B4),.sl 1 (rows.map F8)]),(8,.iptr [.i mea]),(10,.ref 4 0),(16,.ref 5 0),(21,.iptr [.i i]),(22,.iptr [.i 0]),(23,.sl 1 (O.map wA)),(89,.sl 1 (Is.map wA)),(90,.i Is.length),(91,.i k),(108,.sl 2 (dims.map B4)),(109,.i dims.length),(110,.i dims.length)],7,[(4,some (.box [.v (.slice none 0 0),.i 0,.v (.slice none 0 0)])),(5,some (.box [.sl 2 (dims.map B4),.i mea,.row 6 0 L.length])),(6,some (.row (T9+j5) 7 0 ((C).map N0)))]⟩) h0 rfl ⟨rfl,rfl,rfl,rfl,rfl,rfl,rfl,rfl,rfl,rfl,rfl,rfl,rfl,rfl,rfl,trivial⟩ ⟨rfl,rfl,⟨_,rfl⟩,trivial⟩ rfl rfl rfl) ?_
  have uX:=LK (C.map N0) L.length O
  repeat'((first|refine nc [6] [0] uX rfl rfl rfl ⟨rfl,trivial⟩ ?_|refine Wb ?_ |refine S2 ?_|(refine T6 ?_ ?_<;>intro h<;>try exact V1 h)|intro el lU lV|intro el lU|exact T4|refine T5 ?_ ?_|intro ex)<;>try conv=>whnf)
  all_goals first
   |(exfalso;omega)
   |skip
  have tO:∀c∈C,c.codes.length≤O.length:=fun c hc=>by have:=(pC c hc).codes;omega
  refine Wc ?_
  refine QZ (slc:=[(6,.iptr [.str pr,.i ver,.sl 2 (picks.map B4),.sl 1 (rows.map F8)]),(8,.iptr [.i mea]),(21,.iptr [.i i]),(22,.iptr [.i 0])]) (m0:=3) (m1:=3) (hp0:=je (C.map N0) L.length O) (hp1:=jf ((C.map fun c=>if Bi O c.codes=true then X9 key 0 (decide (0≤mea)) c else c).map N0) L.length) (args:=[.ref 1 0,.ref 2 0]) (r:=.tup []) [6,7,8] [0,0,0] rfl qp (fun l rc q1 q2 q3 q4 q5 q6=>?_) ⟨⟨rfl,rfl⟩,⟨rfl,rfl⟩,⟨rfl,rfl⟩,⟨rfl,rfl⟩,trivial⟩ rfl rfl ⟨rfl,rfl,rfl,trivial⟩ ?_
  ·have vG:C.length≤9223372036854775807:=by omega
   rw[←tx]
   refine Jd l rc _ O (fun c=>X9 key 0 (decide (0≤mea)) c) C vG tO (fun M q c hM hq hc=>LI q1 q2 q3 q4 rfl rfl q5 q6 rfl fun E2 yD=>FA ?_)
   have uA:=(pC c hc).ok (by omega)
   have nC:(M.map N0)[q]?=some (N0 c):=by rw[List.getElem?_map,hq];rfl
   have pw:=Nw (M.map N0) q c nC uA key 0 vS (decide (0≤mea))
   rw[show (M.map N0).set q (N0 (X9 key 0 (decide (0≤mea)) c))=(M.set q (X9 key 0 (decide (0≤mea)) c)).map N0 by rw[List.map_set]]at pw
   repeat'((first|(refine DG ?_ ?_ ?_;kernel_rfl;kernel_rfl)|refine nc [0] [0] pw rfl rfl rfl ⟨rfl,trivial⟩ ?_|(refine A2 (x:=row) rH (by omega) ?_)|(refine A2 (x:=key) pU (by omega) ?_) |refine S2 ?_|(refine T6 ?_ ?_<;>intro h<;>try exact V1 h)|intro el lU lV|intro el lU|exact T4|refine T5 ?_ ?_|intro ex)<;>try conv=>whnf)
   all_goals first
    |(exfalso;omega)
    |exact A9 yD rfl trivial ⟨⟨_,rfl⟩,trivial⟩ rfl rfl rfl
  (try (conv=>whnf))
  repeat'((first|refine S2 ?_|(refine T6 ?_ ?_<;>intro h<;>try exact V1 h)|intro el lU lV|intro el lU|exact T4|refine T5 ?_ ?_|intro ex)<;>try conv=>whnf)
  all_goals first
   |(exfalso;omega)
   |exact⟨k+1,by omega,by omega,A9 h0 rfl ⟨rfl,rfl,rfl,rfl,rfl,rfl,rfl,rfl,rfl,trivial⟩ ⟨rfl,rfl,⟨_,congrArg (C6.row (T9+j5) 7 _) (by rw[mz])⟩,trivial⟩ rfl rfl rfl⟩
 have oH:Is.take k=Is:=List.take_of_length_le (by omega)
 have nH:k=Is.length:=by omega
 rw[oH]
 subst nH
 refine AC (B5 (QR (i:=6) (F:=T9) (.inr rfl) rfl (by decide) (Qe (CT Is))) (B5 (A9 (σ':=⟨[(10,.ref 4 0),(16,.ref 5 0),(90,.i Is.length),(91,.i Is.length)],6,[(4,some (.box [.v (.slice none 0 0),.i 0,.v (.slice none 0 0)])),(5,some (.box [.sl 2 (dims.map B4),.i mea,.sl 7 ((CT Is).map Cf)]))]⟩) h0 rfl ⟨rfl,rfl,rfl,rfl,trivial⟩ ⟨rfl,rfl,trivial⟩ rfl rfl rfl) (A9 (σ':=⟨[(10,.ref 4 0),(16,.iptr [.sl 2 (dims.map B4),.i mea,.sl 7 ((CT Is).map Cf)]),(90,.i Is.length),(91,.i Is.length)],5,[(4,some (.box [.v (.slice none 0 0),.i 0,.v (.slice none 0 0)]))]⟩) h0 rfl ⟨rfl,rfl,rfl,rfl,trivial⟩ ⟨rfl,trivial⟩ rfl rfl rfl))) ?_
 repeat'((first|refine S2 ?_|(refine T6 ?_ ?_<;>intro h<;>try exact V1 h)|intro el lU lV|intro el lU|exact T4|refine T5 ?_ ?_|intro ex)<;>try conv=>whnf)
 all_goals first
  |(exfalso;omega)
  |exact u3 rfl rfl rfl (.refl _) rfl (.refl _) rfl
theorem jq(s:A4)(x:N5)(dims:List Pk)(mea:Int)(cnd:B1)(L:List (List Int))(e1:P6 s x=0)(e2:Q1 s (Bf dims mea cnd)=0)(e3:q8 x.picks (Dk s (Dl dims mea cnd))=true)(hL:AP s dims [[]]=some L)(hm:0≤mea):A3 Tryz.prog 16 [sA s,c9 x,.sl 2 (dims.map B4),.i mea,E0 cnd] (.tup [Bk ⟨dims,mea,Z8 s x dims mea L (X8 s x cnd (DM mea))⟩,.i 0]):=by
 have h1:=e8 s x
 rw[e1]at h1
 have h2:A3 Tryz.prog 44 [sA s,.sl 2 (dims.map B4),.i mea,E0 cnd] (.i 0):=e2▸DK s dims mea cnd
 have h3:=Ei s dims mea cnd
 have h4:=Bu x.picks (Dk s (Dl dims mea cnd))
 rw[e3]at h4
 obtain⟨hr,qO,pM,wc⟩:=Jp e2
 obtain⟨sY,qR,tB⟩:=ID pM
 have h5:=FO s hr dims qR tB
 rw[hL]at h5
 have h6:=LN dims (by omega)
 have h7:=GW s x cnd (DM mea)
 have xv:=MH hL (by decide)
 have yC:∀l∈L,l.length=dims.length:=fun l hl=>by have:=MG (m:=0) hL (by simp) l hl;omega
 obtain⟨zV,hp,mf,ll⟩:=BN e1
 have nY:=AA hp
 have ly:=(D5 hr).2.1
 have tZ:=fun i=>bE hr wc x i
 have tw:=fun (k:Nat) (r:List Int) (hk:x.rows[k]?=some r) (d:Pk)=>DF s hr x k r hk (V4 (ll k r hk)) (by omega) d.col d.lev
 have qq:=fun i=>@WY s x cnd (DM mea) i
 have yt:=WZ s x cnd (DM mea)
 have nB:=fun (k:Nat) (r:List Int) (hk:x.rows[k]?=some r)=>V4 (ll k r hk)
 generalize xu:X8 s x cnd (DM mea)=Is at *
 have xt:=MI tZ yC Is
 have vN:=fun (k:Nat) (i:Int) (h:Is[k]?=some i)=>IE s x dims mea L h
 have xd:Z8 s x dims mea L (Is.take 0)=L.map Jo:=rfl
 have hCn:Z8 s x dims mea L (Is.take Is.length)=Z8 s x dims mea L Is:=by rw[List.take_length]
 have uF:∀(i:Int) (C:List J7),IC s x dims mea C i=C.map fun c=>if Bi (FQ s x dims i) c.codes=true then X9 (IB x i) (GE s x mea i) (decide (0≤mea)) c else c:=fun _ _=>rfl
 have la:∀(k:Nat) (r:List Int),x.rows[k]?=some r→∀(q:Nat) (d:Pk),dims[q]?=some d→(FQ s x dims k)[q]?=some (Q0 s d.col d.lev (x.picks.zip r.tail)).1:=fun k r hk q d hd=>by unfold FQ;rw[List.getElem?_map,hd,show ((k:Int)).toNat=k from rfl,E4 hk];rfl
 have rI:∀i,(FQ s x dims i).length=dims.length:=fun i=>List.length_map ..
 have qF:∀(k:Nat) (r:List Int) (z:Int),x.rows[k]?=some r→r[0]?=some z→IB x k=z:=fun k r z hk hz=>by unfold IB;rw[show ((k:Int)).toNat=k from rfl,E4 hk,Q5 hz]
 have h8:=fun (i:Int) (hi:i∈Is)=>VE s x e1 [i] (by simp) (fun j hj=>by simp at hj;subst hj;exact qq j hi) mea
 have vP:∀i,GE s x mea i=Lw s x mea i:=fun i=>if_pos hm
 have qB:DM mea=[mea]:=if_pos hm
 rw[qB]at h7
 generalize Z8 s x dims mea L=CT at *
 generalize FQ s x dims=OX at *
 generalize IC s x dims mea=RT at *
 generalize IB x=KX at *
 generalize GE s x mea=VX at *
 generalize Lw s x mea=YX at *
 generalize P6 s x=eX at *
 obtain⟨pr,ver,picks,rows⟩:=x
 dsimp only at *
 clear e1 e2 e3 hp pM ll xu hL nY
 refine Ai Tryz.func16 (by kernel_rfl) rfl rfl rfl rfl rfl (by intro t T h;cases h) fun lW E h0 qp=>?_
 clear lW
 repeat'((first|(refine F6 12 ?_;refine O0 (id:=12) (σ':=⟨[(2,.sl 2 (dims.map B4)),(5,.iptr (sL s)),(6,.iptr [.str pr,.i ver,.sl 2 (picks.map B4),.sl 1 (rows.map F8)]),(8,.iptr [.i mea]),(9,.iptr [.i cnd.op,.i cnd.col,.i cnd.code,.i cnd.lo,.i cnd.hi,.sl 6 (cnd.kids.map L0)]),(10,.ref 4 0),(14,.sl 1 (L.map F8))],5,[(4,some (.box [.v (.slice none 0 0),.i 0,.v (.slice none 0 0)]))]⟩) (A6 h0) ?_;refine G9 (id:=12) ⟨[(2,.sl 2 (dims.map B4)),(5,.iptr (sL s)),(6,.iptr [.str pr,.i ver,.sl 2 (picks.map B4),.sl 1 (rows.map F8)]),(8,.iptr [.i mea]),(9,.iptr [.i cnd.op,.i cnd.col,.i cnd.code,.i cnd.lo,.i cnd.hi,.sl 6 (cnd.kids.map L0)]),(10,.ref 4 0),(14,.sl 1 (L.map F8)),(16,.ref 5 0)],6,[(4,some (.box [.v (.slice none 0 0),.i 0,.v (.slice none 0 0)])),(5,some (.box [.sl 2 (dims.map B4),.i mea,.v (.slice none 0 0)]))]⟩ ?_ ?_)|refine A1 h1 ?_|refine A1 h2 ?_|refine A1 h3 ?_|refine A1 h4 ?_|refine A1 h5 ?_|refine A1 h6 ?_|(refine F6 7 ?_;refine B3 ?_ ?_;kernel_rfl) |refine S2 ?_|(refine T6 ?_ ?_<;>intro h<;>try exact V1 h)|intro el lU lV|intro el lU|exact T4|refine T5 ?_ ?_|intro ex)<;>try conv=>whnf)
 all_goals first
  |(exfalso;omega)
  |exact A6 h0
  |skip
 refine B0 (ι:=Nat) (fun k=>⟨[(2,.sl 2 (dims.map B4)),(5,.iptr (sL s)),(6,.iptr [.str pr,.i ver,.sl 2 (picks.map B4),.sl 1 (rows.map F8)]),(8,.iptr [.i mea]),(9,.iptr [.i cnd.op,.i cnd.col,.i cnd.code,.i cnd.lo,.i cnd.hi,.sl 6 (cnd.kids.map L0)]),(10,.ref 4 0),(16,.ref 5 0),(67,.sl 1 (L.map F8)),(68,.i L.length),(69,.i k)],7,[(4,some (.box [.v (.slice none 0 0),.i 0,.v (.slice none 0 0)])),(5,some (.box [.sl 2 (dims.map B4),.i mea,.row 6 0 k])),(6,some (.row j5 7 0 ((L.take k).map bF)))]⟩)
  (fun k=>k≤L.length) (fun k=>L.length-k) 0 (Nat.zero_le _)
  (B5 (BM 5 2 (e:=j5) (sz:=7) rfl rfl) (A6 h0)) (fun k hK=>?_)
 by_cases lk:k<L.length
 ·obtain⟨l,sx⟩:∃l,L[k]?=some l:=⟨_,List.getElem?_eq_getElem lk⟩
  have nl:L[((k:Nat):Int).toNat]?=some l:=sx
  have qu:((L.take k).map bF).length=k:=by rw[List.length_map,List.length_take];omega
  repeat'((first|(refine A2 (x:=l) nl (by omega) ?_) |refine S2 ?_|(refine T6 ?_ ?_<;>intro h<;>try exact V1 h)|intro el lU lV|intro el lU|exact T4|refine T5 ?_ ?_|intro ex)<;>try conv=>whnf)
  all_goals first
   |(exfalso;omega)
   |exact⟨k+1,by omega,by omega,A9 h0 rfl ⟨rfl,rfl,rfl,rfl,rfl,rfl,rfl,rfl,rfl,rfl,trivial⟩ ⟨rfl,rfl,⟨_,congrArg (C6.row j5 7 _) (by rw[H6 sx,List.map_append];rfl)⟩,trivial⟩ rfl rfl rfl⟩
 have oH:L.take k=L:=List.take_of_length_le (by omega)
 have nH:k=L.length:=by omega
 rw[oH]
 subst nH
 clear oH lk hK
 repeat'((first|refine b5 [] [] h7 rfl rfl rfl rfl rfl trivial rfl rfl rfl rfl rfl ?_ |refine S2 ?_|(refine T6 ?_ ?_<;>intro h<;>try exact V1 h)|intro el lU lV|intro el lU|exact T4|refine T5 ?_ ?_|intro ex)<;>try conv=>whnf)
 all_goals first
  |(exfalso;omega)
  |skip
 refine B0 (ι:=Nat) (fun k=>⟨[(2,.sl 2 (dims.map B4)),(5,.iptr (sL s)),(6,.iptr [.str pr,.i ver,.sl 2 (picks.map B4),.sl 1 (rows.map F8)]),(8,.iptr [.i mea]),(10,.ref 4 0),(16,.ref 5 0),(89,.sl 1 (Is.map wA)),(90,.i Is.length),(91,.i k)],7,[(4,some (.box [.v (.slice none 0 0),.i 0,.v (.slice none 0 0)])),(5,some (.box [.sl 2 (dims.map B4),.i mea,.row 6 0 L.length])),(6,some (.row (T9+j5) 7 0 ((CT (Is.take k)).map N0)))]⟩)
  (fun k=>k≤Is.length) (fun k=>Is.length-k) 0 (Nat.zero_le _)
  (B5 (WN (i:=6) (F:=T9) (.inr rfl) rfl (fun _=>by rw[h0];exact Nat.zero_le _) (by decide) (Wa L)) (A9 h0 rfl ⟨rfl,rfl,rfl,rfl,rfl,rfl,rfl,rfl,rfl,trivial⟩ ⟨rfl,rfl,⟨_,congrArg (C6.row (T9+j5) 7 _) (by rw[xd])⟩,trivial⟩ rfl rfl rfl)) (fun k hK=>?_)
 obtain⟨tx,pC⟩:=xt k hK
 by_cases lk:k<Is.length
 ·obtain⟨i,hi⟩:∃i,Is[k]?=some i:=⟨_,List.getElem?_eq_getElem lk⟩
  have mr:Is[((k:Nat):Int).toNat]?=some i:=hi
  obtain⟨j,row,sE,lu⟩:=qq i (List.mem_of_getElem? hi)
  have qA:=nB j row lu
  obtain⟨key,pU⟩:∃z,row[0]?=some z:=⟨_,List.getElem?_eq_getElem (by omega)⟩
  have uq:=qF j row key lu pU
  have rJ:=tw j row lu
  have mz:=vN k i hi
  rw[uF]at mz
  have wB:=la j row lu
  have pW:=rI i
  have vS:=tZ i
  have tq:=vP i
  rw[←sE]at uq wB rJ
  have rH:rows[i.toNat]?=some row:=by rw[sE];exact lu
  have sk:=F5 lu
  have hib:0≤i∧i<rows.length:=by omega
  rw[uq]at mz
  have h9:=h8 i (List.mem_of_getElem? hi)
  generalize OX i=O at *
  generalize zL:VX i=v at *
  simp only[List.map_cons,List.map_nil,List.length_singleton,←tq]at h9
  generalize CT (Is.take k)=C at *
  clear vN uF la qF tw qq nB tZ
  repeat'((first|(refine A2 (x:=i) mr (by omega) ?_)|refine b5 [] [] h9 rfl rfl rfl rfl rfl trivial rfl rfl rfl rfl rfl ?_|(refine fC (x:=[.i v]) rfl rfl ?_) |refine S2 ?_|(refine T6 ?_ ?_<;>intro h<;>try exact V1 h)|intro el lU lV|intro el lU|exact T4|refine T5 ?_ ?_|intro ex)<;>try conv=>whnf)
  all_goals first
   |(exfalso;omega)
   |skip
  refine B0 (ι:=Nat) (fun q=>⟨[(2,.sl 2 (dims.map B4)),(5,.iptr (sL s)),(6,.iptr [.str pr,.i ver,.sl 2 (picks.map B4),.sl 1 (rows.map F8)]),(8,.iptr [.i mea]),(10,.ref 4 0),(16,.ref 5 0),(21,.iptr [.i i]),(22,.iptr [.i v]),(23,.row 10 0 dims.length),(89,.sl 1 (Is.map wA)),(90,.i Is.length),(91,.i k),(108,.sl 2 (dims.map B4)),(109,.i dims.length),(110,.i q)],11,[(4,some (.box [.v (.slice none 0 0),.i 0,.v (.slice none 0 0)])),(5,some (.box [.sl 2 (dims.map B4),.i mea,.row 6 0 L.length])),(6,some (.row (T9+j5) 7 0 ((C).map N0))),(10,some (.row 3 1 0 ((AR O dims.length q).map wA)))]⟩)
   (fun q=>q≤dims.length) (fun q=>dims.length-q) 0 (Nat.zero_le _)
   (A9 h0 rfl ⟨rfl,rfl,rfl,rfl,rfl,rfl,rfl,rfl,rfl,rfl,rfl,rfl,rfl,rfl,rfl,trivial⟩ ⟨rfl,rfl,⟨_,rfl⟩,⟨_,congrArg (C6.row 3 1 _) (by rw[OB];rfl)⟩,trivial⟩ rfl rfl rfl) (fun q hq=>?_)
  have ru:=Qg pW hq
  by_cases rD:q<dims.length
  ·obtain⟨d,hd⟩:∃d,dims[q]?=some d:=⟨_,List.getElem?_eq_getElem rD⟩
   have wx:dims[((q:Nat):Int).toNat]?=some d:=hd
   have hc:=rJ d
   have hO:=wB q d hd
   generalize Q0 s d.col d.lev (picks.zip row.tail)=Z at *
   obtain⟨z,ok⟩:=Z
   dsimp only at *
   have nE:=Qh pW hO
   have mc:((AR O dims.length q).map wA).set q [.i z]=(AR O dims.length (q+1)).map wA:=by rw[←nE,List.map_set]
   repeat'((first|(refine A2 (x:=d) wx (by omega) ?_)|refine A1 hc ?_ |refine S2 ?_|(refine T6 ?_ ?_<;>intro h<;>try exact V1 h)|intro el lU lV|intro el lU|exact T4|refine T5 ?_ ?_|intro ex)<;>try conv=>whnf)
   all_goals first
    |(exfalso;omega)
    |exact⟨q+1,by omega,by omega,A9 h0 rfl ⟨rfl,rfl,rfl,rfl,rfl,rfl,rfl,rfl,rfl,rfl,rfl,rfl,rfl,rfl,rfl,trivial⟩ ⟨rfl,rfl,⟨_,rfl⟩,⟨_,congrArg (C6.row 3 1 _) mc.symm⟩,trivial⟩ rfl rfl rfl⟩
  have vB:q=dims.length:=by omega
  subst vB
  rw[Qf pW]
  refine AC (A9 (σ':=⟨[(2,.sl 2 (dims.map B4)),(5,.iptr (sL s)),(6,.iptr [.str pr,.i ver,.sl 2 (picks.map B4),.sl 1 (rows.map F8)]),(8,.iptr [.i mea]),(10,.ref 4 0),(16,.ref 5 0),(21,.iptr [.i i]),(22,.iptr [.i v]),(23,.sl 1 (O.map wA)),(89,.sl 1 (Is.map wA)),(90,.i Is.length),(91,.i k),(108,.sl 2 (dims.map B4)),(109,.i dims.length),(110,.i dims.length)],7,[(4,some (.box [.v (.slice none 0 0),.i 0,.v (.slice none 0 0)])),(5,some (.box [.sl 2 (dims.map B4),.i mea,.row 6 0 L.length])),(6,some (.row (T9+j5) 7 0 ((C).map N0)))]⟩) h0 rfl ⟨rfl,rfl,rfl,rfl,rfl,rfl,rfl,rfl,rfl,rfl,rfl,rfl,rfl,rfl,rfl,trivial⟩ ⟨rfl,rfl,⟨_,rfl⟩,trivial⟩ rfl rfl rfl) ?_
  have uX:=LK (C.map N0) L.length O
  repeat'((first|refine nc [6] [0] uX rfl rfl rfl ⟨rfl,trivial⟩ ?_|refine Wb ?_ |refine S2 ?_|(refine T6 ?_ ?_<;>intro h<;>try exact V1 h)|intro el lU lV|intro el lU|exact T4|refine T5 ?_ ?_|intro ex)<;>try conv=>whnf)
  all_goals first
   |(exfalso;omega)
   |skip
  have tO:∀c∈C,c.codes.length≤O.length:=fun c hc=>by have:=(pC c hc).codes;omega
  refine Wc ?_
  refine QZ (slc:=[(6,.iptr [.str pr,.i ver,.sl 2 (picks.map B4),.sl 1 (rows.map F8)]),(8,.iptr [.i mea]),(21,.iptr [.i i]),(22,.iptr [.i v])]) (m0:=3) (m1:=3) (hp0:=je (C.map N0) L.length O) (hp1:=jf ((C.map fun c=>if Bi O c.codes=true then X9 key v (decide (0≤mea)) c else c).map N0) L.length) (args:=[.ref 1 0,.ref 2 0]) (r:=.tup []) [6,7,8] [0,0,0] rfl qp (fun l rc q1 q2 q3 q4 q5 q6=>?_) ⟨⟨rfl,rfl⟩,⟨rfl,rfl⟩,⟨rfl,rfl⟩,⟨rfl,rfl⟩,trivial⟩ rfl rfl ⟨rfl,rfl,rfl,trivial⟩ ?_
  ·have vG:C.length≤9223372036854775807:=by omega
   rw[←tx]
   refine Jd l rc _ O (fun c=>X9 key v (decide (0≤mea)) c) C vG tO (fun M q c hM hq hc=>LI q1 q2 q3 q4 rfl rfl q5 q6 rfl fun E2 yD=>FA ?_)
   have uA:=(pC c hc).ok (by omega)
   have nC:(M.map N0)[q]?=some (N0 c):=by rw[List.getElem?_map,hq];rfl
   have pw:=Nw (M.map N0) q c nC uA key v vS (decide (0≤mea))
   rw[show (M.map N0).set q (N0 (X9 key v (decide (0≤mea)) c))=(M.set q (X9 key v (decide (0≤mea)) c)).map N0 by rw[List.map_set]]at pw
   repeat'((first|(refine DG ?_ ?_ ?_;kernel_rfl;kernel_rfl)|refine nc [0] [0] pw rfl rfl rfl ⟨rfl,trivial⟩ ?_|(refine A2 (x:=row) rH (by omega) ?_)|(refine A2 (x:=key) pU (by omega) ?_) |refine S2 ?_|(refine T6 ?_ ?_<;>intro h<;>try exact V1 h)|intro el lU lV|intro el lU|exact T4|refine T5 ?_ ?_|intro ex)<;>try conv=>whnf)
   all_goals first
    |(exfalso;omega)
    |exact A9 yD rfl trivial ⟨⟨_,rfl⟩,trivial⟩ rfl rfl rfl
  (try (conv=>whnf))
  repeat'((first|refine S2 ?_|(refine T6 ?_ ?_<;>intro h<;>try exact V1 h)|intro el lU lV|intro el lU|exact T4|refine T5 ?_ ?_|intro ex)<;>try conv=>whnf)
  all_goals first
   |(exfalso;omega)
   |exact⟨k+1,by omega,by omega,A9 h0 rfl ⟨rfl,rfl,rfl,rfl,rfl,rfl,rfl,rfl,rfl,trivial⟩ ⟨rfl,rfl,⟨_,congrArg (C6.row (T9+j5) 7 _) (by rw[mz])⟩,trivial⟩ rfl rfl rfl⟩
 have oH:Is.take k=Is:=List.take_of_length_le (by omega)
 have nH:k=Is.length:=by omega
 rw[oH]
 subst nH
 refine AC (B5 (QR (i:=6) (F:=T9) (.inr rfl) rfl (by decide) (Qe (CT Is))) (B5 (A9 (σ':=⟨[(10,.ref 4 0),(16,.ref 5 0),(90,.i Is.length),(91,.i Is.length)],6,[(4,some (.box [.v (.slice none 0 0),.i 0,.v (.slice none 0 0)])),(5,some (.box [.sl 2 (dims.map B4),.i mea,.sl 7 ((CT Is).map Cf)]))]⟩) h0 rfl ⟨rfl,rfl,rfl,rfl,trivial⟩ ⟨rfl,rfl,trivial⟩ rfl rfl rfl) (A9 (σ':=⟨[(10,.ref 4 0),(16,.iptr [.sl 2 (dims.map B4),.i mea,.sl 7 ((CT Is).map Cf)]),(90,.i Is.length),(91,.i Is.length)],5,[(4,some (.box [.v (.slice none 0 0),.i 0,.v (.slice none 0 0)]))]⟩) h0 rfl ⟨rfl,rfl,rfl,rfl,trivial⟩ ⟨rfl,trivial⟩ rfl rfl rfl))) ?_
 repeat'((first|refine S2 ?_|(refine T6 ?_ ?_<;>intro h<;>try exact V1 h)|intro el lU lV|intro el lU|exact T4|refine T5 ?_ ?_|intro ex)<;>try conv=>whnf)
 all_goals first
  |(exfalso;omega)
  |exact u3 rfl rfl rfl (.refl _) rfl (.refl _) rfl
end Go.Proofs.YtiphlhoclaogjaaGreatDoor
