/- Chapter 18: tables: the program, the table. -/
import Derived.Test.YtjkbhaaobhgkdabGreatDoorRTb1
import Derived.Test.YtjkbhaaobhgkdabGreatDoorRTa5
set_option linter.unusedVariables false
set_option linter.unnecessarySimpa false
set_option linter.unusedSimpArgs false
set_option maxHeartbeats 64000000
namespace Go.Proofs.YtjkbhaaobhgkdabGreatDoor
open Go Go.Av
attribute [local irreducible] D0 B0 D2 C7 DQ D1 C8 St.le A3 B6
set_option maxRecDepth 100000
attribute [local irreducible] Gc ER Kf Gz
theorem bo{P:Program}{E:Env}{n:Nat}{ops:Array Oper}{rest:List Oper}{σ:St}{K:St→Prop}{o:Option Nat}{f:Nat}{xs:Array Operand}{ts:Array TypeId}{ty:TypeId}{pos:String}{after:Array Edge}(d sz:Nat)(hd:Go.Av.look σ.sl d=some (.v (.slice none 0 0)))(h:B0 P E n ops (⟨o,.call ⟨.value (.func f),xs,ts⟩,ty,pos,after,none⟩::rest) (σ.put d (.sl sz [])) K):B0 P E n ops (⟨o,.call ⟨.value (.func f),xs,ts⟩,ty,pos,after,none⟩::rest) σ K:=Ex (Zu hd) h
def UP(P:Program)(E:Env)(n:Nat)(g:Operand)(ps:Array Tmp)(assign body:Go.Code)(σ:St)(Q:Exit→St→Prop):Prop:=D0 P E n (.rangeFunc g ps assign body) σ Q
theorem Wz{P:Program}{E:Env}{n:Nat}{g:Operand}{ps:Array Tmp}{assign body:Go.Code}{σ:St}{Q:Exit→St→Prop}(h:UP P E n g ps assign body σ Q):D0 P E n (.rangeFunc g ps assign body) σ Q:=h
theorem XA{P:Program}{E:Env}{n:Nat}{g:Operand}{ps:Array Tmp}{assign body:Go.Code}{σ:St}{Q:Exit→St→Prop}(h:D0 P E n (.rangeFunc g ps assign body) σ Q):UP P E n g ps assign body σ Q:=h
attribute [local irreducible] UP
def y9(O:List Int)(D q:Nat):List Int:=O.take q++List.replicate (D-q) 0
theorem OH(O:List Int)(D:Nat):(y9 O D 0).map wA=List.replicate D [AV.i 0]:=by simp[y9]
theorem Qo{O:List Int}{D:Nat}(h:O.length=D):y9 O D D=O:=by
 unfold y9
 rw[Nat.sub_self,List.replicate_zero,List.append_nil,List.take_of_length_le (by omega)]
theorem Qp{O:List Int}{D q:Nat}(h:O.length=D)(hq:q≤D):(y9 O D q).length=D:=by
 unfold y9
 rw[List.length_append,List.length_take,List.length_replicate];omega
theorem Qq{O:List Int}{D q:Nat}{z:Int}(h:O.length=D)(hz:O[q]?=some z):(y9 O D q).set q z=y9 O D (q+1):=by
 have hq:=D6 hz
 unfold y9
 rw[I3 hz,List.set_append_right _ _ (by rw[List.length_take];omega),List.length_take,show q-min q O.length=0 by omega,List.append_assoc]
 congr 1
 cases hD:D-q with
 |zero=>omega
 |succ m=>rw[show D-(q+1)=m by omega,List.replicate_succ];rfl
theorem lT(s:A4)(x:K3)(dims:List Pk)(mea:Int)(cnd:B1)(L:List (List Int))(e1:V4 s x=0)(e2:N4 s (Ab dims mea cnd)=0)(e3:AM x.picks (CF s (DG dims mea cnd))=true)(hL:V8 s dims [[]]=some L)(hm:¬0≤mea):A3 Tryz.prog 7 [sA s,BP x,.sl 2 (dims.map B5),.i mea,E7 cnd] (.tup [BT ⟨dims,mea,S7 s x dims mea L (u7 s x cnd (Aw mea))⟩,.i 0]):=by
 have h1:=a8 s x
 rw[e1]at h1
 have h2:A3 Tryz.prog 20 [sA s,.sl 2 (dims.map B5),.i mea,E7 cnd] (.i 0):=e2▸DE s dims mea cnd
 have h3:=Es s dims mea cnd
 have h4:=Be x.picks (CF s (DG dims mea cnd))
 rw[e3]at h4
 obtain⟨hr,rq,pg,yU⟩:=Ju e2
 obtain⟨uL,ru,uJ⟩:=Ay pg
 have h5:=Fc s hr dims ru uJ
 rw[hL]at h5
 have h6:=Lb dims (by omega)
 have h7:=Gb s x cnd (Aw mea)
 have xR:=MS hL (by decide)
 have zw:∀l∈L,l.length=dims.length:=fun l hl=>by have:=MR (m:=0) hL (by simp) l hl;omega
 obtain⟨hr',hp,od,nd⟩:=EG e1
 have qA:=CU hp
 have nl:=(F2 hr).2.1
 have vQ:=fun i=>UO hr yU x i
 have vd:=fun (k:Nat) (r:List Int) (hk:x.rows[k]?=some r) (d:Pk)=>Cy s hr x k r hk (y5 (nd k r hk)) (by omega) d.col d.lev
 have sc:=fun i=>@PL s x cnd (Aw mea) i
 have xJ:=PM s x cnd (Aw mea)
 have pF:=fun (k:Nat) (r:List Int) (hk:x.rows[k]?=some r)=>y5 (nd k r hk)
 generalize zk:u7 s x cnd (Aw mea)=Is at *
 have zj:=MT vQ zw Is
 have xE:=fun (k:Nat) (i:Int) (h:Is[k]?=some i)=>IB s x dims mea L h
 have zW:S7 s x dims mea L (Is.take 0)=L.map v6:=rfl
 have hCn:S7 s x dims mea L (Is.take Is.length)=S7 s x dims mea L Is:=by rw[List.take_length]
 have vk:∀(i:Int) (C:List F3),ET s x dims mea C i=C.map fun c=>if N1 (CG s x dims i) c.codes=true then M2 (Dh x i) (DH s x mea i) (decide (0≤mea)) c else c:=fun _ _=>rfl
 have nT:∀(k:Nat) (r:List Int),x.rows[k]?=some r→∀(q:Nat) (d:Pk),dims[q]?=some d→(CG s x dims k)[q]?=some (U2 s d.col d.lev (x.picks.zip r.tail)).1:=fun k r hk q d hd=>by unfold CG;rw[List.getElem?_map,hd,show ((k:Int)).toNat=k from rfl,D3 hk];rfl
 have sx:∀i,(CG s x dims i).length=dims.length:=fun i=>List.length_map ..
 have rj:∀(k:Nat) (r:List Int) (z:Int),x.rows[k]?=some r→r[0]?=some z→Dh x k=z:=fun k r z hk hz=>by unfold Dh;rw[show ((k:Int)).toNat=k from rfl,D3 hk,l9 hz]
 have xG:∀i,DH s x mea i=0:=fun i=>if_neg hm
 have re:Aw mea=[]:=if_neg hm
 rw[re]at h7
 generalize S7 s x dims mea L=CT at *
 generalize CG s x dims=OX at *
 generalize ET s x dims mea=RT at *
 generalize Dh x=KX at *
 generalize DH s x mea=VX at *
 skip
 generalize V4 s x=eX at *
 obtain⟨pr,ver,picks,rows⟩:=x
 dsimp only at *
 clear e1 e2 e3 hp pg nd zk hL qA
 refine AG Tryz.func7 (by kernel_rfl) rfl rfl rfl rfl rfl (by intro t T h;cases h) fun nQ E h0 sb=>?_
 clear nQ
 repeat'((first|(refine G3 12 ?_;refine P5 (id:=12) (σ':=⟨[(2,.sl 2 (dims.map B5)),(5,.iptr (sL s)),(6,.iptr [.str pr,.i ver,.sl 2 (picks.map B5),.sl 1 (rows.map H1)]),(8,.iptr [.i mea]),(9,.iptr [.i cnd.op,.i cnd.col,.i cnd.code,.i cnd.lo,.i cnd.hi,.sl 6 (cnd.kids.map W8)]),(10,.ref 4 0),(14,.sl 1 (L.map H1))],5,[(4,some (.box [.v (.slice none 0 0),.i 0,.v (.slice none 0 0)]))]⟩) (A6 h0) ?_;refine H4 (id:=12) ⟨[(2,.sl 2 (dims.map B5)),(5,.iptr (sL s)),(6,.iptr [.str pr,.i ver,.sl 2 (picks.map B5),.sl 1 (rows.map H1)]),(8,.iptr [.i mea]),(9,.iptr [.i cnd.op,.i cnd.col,.i cnd.code,.i cnd.lo,.i cnd.hi,.sl 6 (cnd.kids.map W8)]),(10,.ref 4 0),(14,.sl 1 (L.map H1)),(16,.ref 5 0)],6,[(4,some (.box [.v (.slice none 0 0),.i 0,.v (.slice none 0 0)])),(5,some (.box [.sl 2 (dims.map B5),.i mea,.v (.slice none 0 0)]))]⟩ ?_ ?_)|refine A1 h1 ?_|refine A1 h2 ?_|refine A1 h3 ?_|refine A1 h4 ?_|refine A1 h5 ?_|refine A1 h6 ?_|(refine G3 7 ?_;refine B8 ?_ ?_;kernel_rfl) |refine S2 ?_|(refine T6 ?_ ?_<;>intro h<;>try exact V1 h)|intro el nN nP|intro el nN|exact T4|refine T5 ?_ ?_|intro ex)<;>try conv=>whnf)
 all_goals first
  |(exfalso;omega)
  |exact A8 h0 rfl ⟨rfl,rfl,rfl,rfl,rfl,rfl,rfl,rfl,trivial⟩ ⟨rfl,rfl,trivial⟩ rfl rfl rfl
  |skip
 refine B2 (ι:=Nat) (fun k=>⟨[(2,.sl 2 (dims.map B5)),(5,.iptr (sL s)),(6,.iptr [.str pr,.i ver,.sl 2 (picks.map B5),.sl 1 (rows.map H1)]),(8,.iptr [.i mea]),(9,.iptr [.i cnd.op,.i cnd.col,.i cnd.code,.i cnd.lo,.i cnd.hi,.sl 6 (cnd.kids.map W8)]),(10,.ref 4 0),(16,.ref 5 0),(67,.sl 1 (L.map H1)),(68,.i L.length),(69,.i k)],7,[(4,some (.box [.v (.slice none 0 0),.i 0,.v (.slice none 0 0)])),(5,some (.box [.sl 2 (dims.map B5),.i mea,.row 6 0 k])),(6,some (.row e9 7 0 ((L.take k).map bn)))]⟩)
  (fun k=>k≤L.length) (fun k=>L.length-k) 0 (Nat.zero_le _)
  (C2 (Jf 5 2 (e:=e9) (sz:=7) rfl rfl) (A6 h0)) (fun k hK=>?_)
 by_cases nZ:k<L.length
 ·obtain⟨l,uj⟩:∃l,L[k]?=some l:=⟨_,List.getElem?_eq_getElem nZ⟩
  have pW:L[((k:Nat):Int).toNat]?=some l:=uj
  have qc:((L.take k).map bn).length=k:=by rw[List.length_map,List.length_take];omega
  repeat'((first|(refine A2 (x:=l) pW (by omega) ?_) |refine S2 ?_|(refine T6 ?_ ?_<;>intro h<;>try exact V1 h)|intro el nN nP|intro el nN|exact T4|refine T5 ?_ ?_|intro ex)<;>try conv=>whnf)
  all_goals first
   |(exfalso;omega)
   |exact⟨k+1,by omega,by omega,A8 h0 rfl ⟨rfl,rfl,rfl,rfl,rfl,rfl,rfl,rfl,rfl,rfl,trivial⟩ ⟨rfl,rfl,⟨_,congrArg (C9.row e9 7 _) (by rw[I3 uj,List.map_append];rfl)⟩,trivial⟩ rfl rfl rfl⟩
 have qD:L.take k=L:=List.take_of_length_le (by omega)
 have ou:k=L.length:=by omega
 rw[qD]
 subst ou
 clear qD nZ hK
 repeat'((first|refine bo (f:=25) 88 1 rfl ?_|refine Y9 [] [] h7 rfl rfl rfl rfl rfl trivial rfl rfl rfl rfl rfl ?_ |refine S2 ?_|(refine T6 ?_ ?_<;>intro h<;>try exact V1 h)|intro el nN nP|intro el nN|exact T4|refine T5 ?_ ?_|intro ex)<;>try conv=>whnf)
 all_goals first
  |(exfalso;omega)
  |skip
 refine B2 (ι:=Nat) (fun k=>⟨[(2,.sl 2 (dims.map B5)),(5,.iptr (sL s)),(6,.iptr [.str pr,.i ver,.sl 2 (picks.map B5),.sl 1 (rows.map H1)]),(8,.iptr [.i mea]),(10,.ref 4 0),(16,.ref 5 0),(89,.sl 1 (Is.map wA)),(90,.i Is.length),(91,.i k)],7,[(4,some (.box [.v (.slice none 0 0),.i 0,.v (.slice none 0 0)])),(5,some (.box [.sl 2 (dims.map B5),.i mea,.row 6 0 L.length])),(6,some (.row (P3+e9) 7 0 ((CT (Is.take k)).map M1)))]⟩)
  (fun k=>k≤Is.length) (fun k=>Is.length-k) 0 (Nat.zero_le _)
  (C2 (Wm (i:=6) (F:=P3) (.inr rfl) rfl (fun _=>by rw[h0];exact Nat.zero_le _) (by decide) (Wy L)) (A8 h0 rfl ⟨rfl,rfl,rfl,rfl,rfl,rfl,rfl,rfl,rfl,trivial⟩ ⟨rfl,rfl,⟨_,congrArg (C9.row (P3+e9) 7 _) (by rw[zW])⟩,trivial⟩ rfl rfl rfl)) (fun k hK=>?_)
 obtain⟨ve,qV⟩:=zj k hK
 by_cases nZ:k<Is.length
 ·obtain⟨i,hi⟩:∃i,Is[k]?=some i:=⟨_,List.getElem?_eq_getElem nZ⟩
  have oS:Is[((k:Nat):Int).toNat]?=some i:=hi
  obtain⟨j,row,sT,nk⟩:=sc i (List.mem_of_getElem? hi)
  have uh:=pF j row nk
  obtain⟨key,rE⟩:∃z,row[0]?=some z:=⟨_,List.getElem?_eq_getElem (by omega)⟩
  have wZ:=rj j row key nk rE
  have sy:=vd j row nk
  have oe:=xE k i hi
  rw[vk]at oe
  have xo:=nT j row nk
  have rQ:=sx i
  have xI:=vQ i
  have vY:=xG i
  rw[←sT]at wZ xo sy
  have sw:rows[i.toNat]?=some row:=by rw[sT];exact nk
  have uD:=D6 nk
  have hib:0≤i∧i<rows.length:=by omega
  rw[wZ]at oe
  generalize OX i=O at *
  generalize hv0:VX i=v at *
  subst vY
  generalize CT (Is.take k)=C at *
  clear xE vk nT rj vd sc pF vQ
  repeat'((first|(refine A2 (x:=i) oS (by omega) ?_) |refine S2 ?_|(refine T6 ?_ ?_<;>intro h<;>try exact V1 h)|intro el nN nP|intro el nN|exact T4|refine T5 ?_ ?_|intro ex)<;>try conv=>whnf)
  all_goals first
   |(exfalso;omega)
   |skip
  refine B2 (ι:=Nat) (fun q=>⟨[(2,.sl 2 (dims.map B5)),(5,.iptr (sL s)),(6,.iptr [.str pr,.i ver,.sl 2 (picks.map B5),.sl 1 (rows.map H1)]),(8,.iptr [.i mea]),(10,.ref 4 0),(16,.ref 5 0),(21,.iptr [.i i]),(22,.iptr [.i 0]),(23,.row 9 0 dims.length),(89,.sl 1 (Is.map wA)),(90,.i Is.length),(91,.i k),(108,.sl 2 (dims.map B5)),(109,.i dims.length),(110,.i q)],10,[(4,some (.box [.v (.slice none 0 0),.i 0,.v (.slice none 0 0)])),(5,some (.box [.sl 2 (dims.map B5),.i mea,.row 6 0 L.length])),(6,some (.row (P3+e9) 7 0 ((C).map M1))),(9,some (.row 3 1 0 ((y9 O dims.length q).map wA)))]⟩)
   (fun q=>q≤dims.length) (fun q=>dims.length-q) 0 (Nat.zero_le _)
   (A8 h0 rfl ⟨rfl,rfl,rfl,rfl,rfl,rfl,rfl,rfl,rfl,rfl,rfl,rfl,rfl,rfl,rfl,trivial⟩ ⟨rfl,rfl,⟨_,rfl⟩,⟨_,congrArg (C9.row 3 1 _) (by rw[OH];rfl)⟩,trivial⟩ rfl rfl rfl) (fun q hq=>?_)
  have uY:=Qp rQ hq
  by_cases tw:q<dims.length
  ·obtain⟨d,hd⟩:∃d,dims[q]?=some d:=⟨_,List.getElem?_eq_getElem tw⟩
   have yp:dims[((q:Nat):Int).toNat]?=some d:=hd
   have hc:=sy d
   have hO:=xo q d hd
   generalize U2 s d.col d.lev (picks.zip row.tail)=Z at *
   obtain⟨z,ok⟩:=Z
   dsimp only at *
   have pD:=Qq rQ hO
   have oQ:((y9 O dims.length q).map wA).set q [.i z]=(y9 O dims.length (q+1)).map wA:=by rw[←pD,List.map_set]
   repeat'((first|(refine A2 (x:=d) yp (by omega) ?_)|refine A1 hc ?_ |refine S2 ?_|(refine T6 ?_ ?_<;>intro h<;>try exact V1 h)|intro el nN nP|intro el nN|exact T4|refine T5 ?_ ?_|intro ex)<;>try conv=>whnf)
   all_goals first
    |(exfalso;omega)
    |exact⟨q+1,by omega,by omega,A8 h0 rfl ⟨rfl,rfl,rfl,rfl,rfl,rfl,rfl,rfl,rfl,rfl,rfl,rfl,rfl,rfl,rfl,trivial⟩ ⟨rfl,rfl,⟨_,rfl⟩,⟨_,congrArg (C9.row 3 1 _) oQ.symm⟩,trivial⟩ rfl rfl rfl⟩
  have wq:q=dims.length:=by omega
  subst wq
  rw[Qo rQ]
  refine x4 (A8 (σ':=⟨[(2,.sl 2 (dims.map B5)),(5,.iptr (sL s)),(6,.iptr [.str pr,.i ver,.sl 2 (picks.map B5),.sl 1 (rows.map H1)]),(8,.iptr [.i mea]),(10,.ref 4 0),(16,.ref 5 0),(21,.iptr [.i i]),(22,.iptr [.i 0]),(23,.sl 1 (O.map wA)),(89,.sl 1 (Is.map wA)),(90,.i Is.length),(91,.i k),(108,.sl 2 (dims.map B5)),(109,.i dims.length),(110,.i dims.length)],7,[(4,some (.box [.v (.slice none 0 0),.i 0,.v (.slice none 0 0)])),(5,some (.box [.sl 2 (dims.map B5),.i mea,.row 6 0 L.length])),(6,some (.row (P3+e9) 7 0 ((C).map M1)))]⟩) h0 rfl ⟨rfl,rfl,rfl,rfl,rfl,rfl,rfl,rfl,rfl,rfl,rfl,rfl,rfl,rfl,rfl,trivial⟩ ⟨rfl,rfl,⟨_,rfl⟩,trivial⟩ rfl rfl rfl) ?_
  have yc:=LW (C.map M1) L.length O
  repeat'((first|refine nc [6] [0] yc rfl rfl rfl ⟨rfl,trivial⟩ ?_|refine Wz ?_ |refine S2 ?_|(refine T6 ?_ ?_<;>intro h<;>try exact V1 h)|intro el nN nP|intro el nN|exact T4|refine T5 ?_ ?_|intro ex)<;>try conv=>whnf)
  all_goals first
   |(exfalso;omega)
   |skip
  have vF:∀c∈C,c.codes.length≤O.length:=fun c hc=>by have:=(qV c hc).codes;omega
  refine XA ?_
  refine Qg (slc:=[(6,.iptr [.str pr,.i ver,.sl 2 (picks.map B5),.sl 1 (rows.map H1)]),(8,.iptr [.i mea]),(21,.iptr [.i i]),(22,.iptr [.i 0])]) (m0:=3) (m1:=3) (hp0:=lI (C.map M1) L.length O) (hp1:=lJ ((C.map fun c=>if N1 O c.codes=true then M2 key 0 (decide (0≤mea)) c else c).map M1) L.length) (args:=[.ref 1 0,.ref 2 0]) (r:=.tup []) [6,7,8] [0,0,0] rfl sb (fun l rc q1 q2 q3 q4 q5 q6=>?_) ⟨⟨rfl,rfl⟩,⟨rfl,rfl⟩,⟨rfl,rfl⟩,⟨rfl,rfl⟩,trivial⟩ rfl rfl ⟨rfl,rfl,rfl,trivial⟩ ?_
  ·have ww:C.length≤9223372036854775807:=by omega
   rw[←ve]
   refine Jl l rc _ O (fun c=>M2 key 0 (decide (0≤mea)) c) C ww vF (fun M q c hM hq hc=>LU q1 q2 q3 q4 rfl rfl q5 q6 rfl fun E2 zx=>FQ ?_)
   have vf:=(qV c hc).ok (by omega)
   have pI:(M.map M1)[q]?=some (M1 c):=by rw[List.getElem?_map,hq];rfl
   have rY:=Nz (M.map M1) q c pI vf key 0 xI (decide (0≤mea))
   rw[show (M.map M1).set q (M1 (M2 key 0 (decide (0≤mea)) c))=(M.set q (M2 key 0 (decide (0≤mea)) c)).map M1 by rw[List.map_set]]at rY
   repeat'((first|(refine Cz ?_ ?_ ?_;kernel_rfl;kernel_rfl)|refine nc [0] [0] rY rfl rfl rfl ⟨rfl,trivial⟩ ?_|(refine A2 (x:=row) sw (by omega) ?_)|(refine A2 (x:=key) rE (by omega) ?_) |refine S2 ?_|(refine T6 ?_ ?_<;>intro h<;>try exact V1 h)|intro el nN nP|intro el nN|exact T4|refine T5 ?_ ?_|intro ex)<;>try conv=>whnf)
   all_goals first
    |(exfalso;omega)
    |exact A8 zx rfl trivial ⟨⟨_,rfl⟩,trivial⟩ rfl rfl rfl
  (try (conv=>whnf))
  repeat'((first|refine S2 ?_|(refine T6 ?_ ?_<;>intro h<;>try exact V1 h)|intro el nN nP|intro el nN|exact T4|refine T5 ?_ ?_|intro ex)<;>try conv=>whnf)
  all_goals first
   |(exfalso;omega)
   |exact⟨k+1,by omega,by omega,A8 h0 rfl ⟨rfl,rfl,rfl,rfl,rfl,rfl,rfl,rfl,rfl,trivial⟩ ⟨rfl,rfl,⟨_,congrArg (C9.row (P3+e9) 7 _) (by rw[oe])⟩,trivial⟩ rfl rfl rfl⟩
 have qD:Is.take k=Is:=List.take_of_length_le (by omega)
 have ou:k=Is.length:=by omega
 rw[qD]
 subst ou
 refine x4 (C2 (Qb (i:=6) (F:=P3) (.inr rfl) rfl (by decide) (Qn (CT Is))) (C2 (A8 (σ':=⟨[(10,.ref 4 0),(16,.ref 5 0),(90,.i Is.length),(91,.i Is.length)],6,[(4,some (.box [.v (.slice none 0 0),.i 0,.v (.slice none 0 0)])),(5,some (.box [.sl 2 (dims.map B5),.i mea,.sl 7 ((CT Is).map T3)]))]⟩) h0 rfl ⟨rfl,rfl,rfl,rfl,trivial⟩ ⟨rfl,rfl,trivial⟩ rfl rfl rfl) (A8 (σ':=⟨[(10,.ref 4 0),(16,.iptr [.sl 2 (dims.map B5),.i mea,.sl 7 ((CT Is).map T3)]),(90,.i Is.length),(91,.i Is.length)],5,[(4,some (.box [.v (.slice none 0 0),.i 0,.v (.slice none 0 0)]))]⟩) h0 rfl ⟨rfl,rfl,rfl,rfl,trivial⟩ ⟨rfl,trivial⟩ rfl rfl rfl))) ?_
 repeat'((first|refine S2 ?_|(refine T6 ?_ ?_<;>intro h<;>try exact V1 h)|intro el nN nP|intro el nN|exact T4|refine T5 ?_ ?_|intro ex)<;>try conv=>whnf)
 all_goals first
  |(exfalso;omega)
  |exact q9 rfl rfl rfl (.refl _) rfl (.refl _) rfl
theorem lU(s:A4)(x:K3)(dims:List Pk)(mea:Int)(cnd:B1)(L:List (List Int))(e1:V4 s x=0)(e2:N4 s (Ab dims mea cnd)=0)(e3:AM x.picks (CF s (DG dims mea cnd))=true)(hL:V8 s dims [[]]=some L)(hm:0≤mea):A3 Tryz.prog 7 [sA s,BP x,.sl 2 (dims.map B5),.i mea,E7 cnd] (.tup [BT ⟨dims,mea,S7 s x dims mea L (u7 s x cnd (Aw mea))⟩,.i 0]):=by
 have h1:=a8 s x
 rw[e1]at h1
 have h2:A3 Tryz.prog 20 [sA s,.sl 2 (dims.map B5),.i mea,E7 cnd] (.i 0):=e2▸DE s dims mea cnd
 have h3:=Es s dims mea cnd
 have h4:=Be x.picks (CF s (DG dims mea cnd))
 rw[e3]at h4
 obtain⟨hr,rq,pg,yU⟩:=Ju e2
 obtain⟨uL,ru,uJ⟩:=Ay pg
 have h5:=Fc s hr dims ru uJ
 rw[hL]at h5
 have h6:=Lb dims (by omega)
 have h7:=Gb s x cnd (Aw mea)
 have xR:=MS hL (by decide)
 have zw:∀l∈L,l.length=dims.length:=fun l hl=>by have:=MR (m:=0) hL (by simp) l hl;omega
 obtain⟨hr',hp,od,nd⟩:=EG e1
 have qA:=CU hp
 have nl:=(F2 hr).2.1
 have vQ:=fun i=>UO hr yU x i
 have vd:=fun (k:Nat) (r:List Int) (hk:x.rows[k]?=some r) (d:Pk)=>Cy s hr x k r hk (y5 (nd k r hk)) (by omega) d.col d.lev
 have sc:=fun i=>@PL s x cnd (Aw mea) i
 have xJ:=PM s x cnd (Aw mea)
 have pF:=fun (k:Nat) (r:List Int) (hk:x.rows[k]?=some r)=>y5 (nd k r hk)
 generalize zk:u7 s x cnd (Aw mea)=Is at *
 have zj:=MT vQ zw Is
 have xE:=fun (k:Nat) (i:Int) (h:Is[k]?=some i)=>IB s x dims mea L h
 have zW:S7 s x dims mea L (Is.take 0)=L.map v6:=rfl
 have hCn:S7 s x dims mea L (Is.take Is.length)=S7 s x dims mea L Is:=by rw[List.take_length]
 have vk:∀(i:Int) (C:List F3),ET s x dims mea C i=C.map fun c=>if N1 (CG s x dims i) c.codes=true then M2 (Dh x i) (DH s x mea i) (decide (0≤mea)) c else c:=fun _ _=>rfl
 have nT:∀(k:Nat) (r:List Int),x.rows[k]?=some r→∀(q:Nat) (d:Pk),dims[q]?=some d→(CG s x dims k)[q]?=some (U2 s d.col d.lev (x.picks.zip r.tail)).1:=fun k r hk q d hd=>by unfold CG;rw[List.getElem?_map,hd,show ((k:Int)).toNat=k from rfl,D3 hk];rfl
 have sx:∀i,(CG s x dims i).length=dims.length:=fun i=>List.length_map ..
 have rj:∀(k:Nat) (r:List Int) (z:Int),x.rows[k]?=some r→r[0]?=some z→Dh x k=z:=fun k r z hk hz=>by unfold Dh;rw[show ((k:Int)).toNat=k from rfl,D3 hk,l9 hz]
 have h8:=fun (i:Int) (hi:i∈Is)=>VZ s x e1 [i] (by simp) (fun j hj=>by simp at hj;subst hj;exact sc j hi) mea
 have xG:∀i,DH s x mea i=Ji s x mea i:=fun i=>if_pos hm
 have re:Aw mea=[mea]:=if_pos hm
 rw[re]at h7
 generalize S7 s x dims mea L=CT at *
 generalize CG s x dims=OX at *
 generalize ET s x dims mea=RT at *
 generalize Dh x=KX at *
 generalize DH s x mea=VX at *
 generalize Ji s x mea=YX at *
 generalize V4 s x=eX at *
 obtain⟨pr,ver,picks,rows⟩:=x
 dsimp only at *
 clear e1 e2 e3 hp pg nd zk hL qA
 refine AG Tryz.func7 (by kernel_rfl) rfl rfl rfl rfl rfl (by intro t T h;cases h) fun nQ E h0 sb=>?_
 clear nQ
 repeat'((first|(refine G3 12 ?_;refine P5 (id:=12) (σ':=⟨[(2,.sl 2 (dims.map B5)),(5,.iptr (sL s)),(6,.iptr [.str pr,.i ver,.sl 2 (picks.map B5),.sl 1 (rows.map H1)]),(8,.iptr [.i mea]),(9,.iptr [.i cnd.op,.i cnd.col,.i cnd.code,.i cnd.lo,.i cnd.hi,.sl 6 (cnd.kids.map W8)]),(10,.ref 4 0),(14,.sl 1 (L.map H1))],5,[(4,some (.box [.v (.slice none 0 0),.i 0,.v (.slice none 0 0)]))]⟩) (A6 h0) ?_;refine H4 (id:=12) ⟨[(2,.sl 2 (dims.map B5)),(5,.iptr (sL s)),(6,.iptr [.str pr,.i ver,.sl 2 (picks.map B5),.sl 1 (rows.map H1)]),(8,.iptr [.i mea]),(9,.iptr [.i cnd.op,.i cnd.col,.i cnd.code,.i cnd.lo,.i cnd.hi,.sl 6 (cnd.kids.map W8)]),(10,.ref 4 0),(14,.sl 1 (L.map H1)),(16,.ref 5 0)],6,[(4,some (.box [.v (.slice none 0 0),.i 0,.v (.slice none 0 0)])),(5,some (.box [.sl 2 (dims.map B5),.i mea,.v (.slice none 0 0)]))]⟩ ?_ ?_)|refine A1 h1 ?_|refine A1 h2 ?_|refine A1 h3 ?_|refine A1 h4 ?_|refine A1 h5 ?_|refine A1 h6 ?_|(refine G3 7 ?_;refine B8 ?_ ?_;kernel_rfl) |refine S2 ?_|(refine T6 ?_ ?_<;>intro h<;>try exact V1 h)|intro el nN nP|intro el nN|exact T4|refine T5 ?_ ?_|intro ex)<;>try conv=>whnf)
 all_goals first
  |(exfalso;omega)
  |exact A8 h0 rfl ⟨rfl,rfl,rfl,rfl,rfl,rfl,rfl,rfl,trivial⟩ ⟨rfl,rfl,trivial⟩ rfl rfl rfl
  |skip
 refine B2 (ι:=Nat) (fun k=>⟨[(2,.sl 2 (dims.map B5)),(5,.iptr (sL s)),(6,.iptr [.str pr,.i ver,.sl 2 (picks.map B5),.sl 1 (rows.map H1)]),(8,.iptr [.i mea]),(9,.iptr [.i cnd.op,.i cnd.col,.i cnd.code,.i cnd.lo,.i cnd.hi,.sl 6 (cnd.kids.map W8)]),(10,.ref 4 0),(16,.ref 5 0),(67,.sl 1 (L.map H1)),(68,.i L.length),(69,.i k)],7,[(4,some (.box [.v (.slice none 0 0),.i 0,.v (.slice none 0 0)])),(5,some (.box [.sl 2 (dims.map B5),.i mea,.row 6 0 k])),(6,some (.row e9 7 0 ((L.take k).map bn)))]⟩)
  (fun k=>k≤L.length) (fun k=>L.length-k) 0 (Nat.zero_le _)
  (C2 (Jf 5 2 (e:=e9) (sz:=7) rfl rfl) (A6 h0)) (fun k hK=>?_)
 by_cases nZ:k<L.length
 ·obtain⟨l,uj⟩:∃l,L[k]?=some l:=⟨_,List.getElem?_eq_getElem nZ⟩
  have pW:L[((k:Nat):Int).toNat]?=some l:=uj
  have qc:((L.take k).map bn).length=k:=by rw[List.length_map,List.length_take];omega
  repeat'((first|(refine A2 (x:=l) pW (by omega) ?_) |refine S2 ?_|(refine T6 ?_ ?_<;>intro h<;>try exact V1 h)|intro el nN nP|intro el nN|exact T4|refine T5 ?_ ?_|intro ex)<;>try conv=>whnf)
  all_goals first
   |(exfalso;omega)
   |exact⟨k+1,by omega,by omega,A8 h0 rfl ⟨rfl,rfl,rfl,rfl,rfl,rfl,rfl,rfl,rfl,rfl,trivial⟩ ⟨rfl,rfl,⟨_,congrArg (C9.row e9 7 _) (by rw[I3 uj,List.map_append];rfl)⟩,trivial⟩ rfl rfl rfl⟩
 have qD:L.take k=L:=List.take_of_length_le (by omega)
 have ou:k=L.length:=by omega
 rw[qD]
 subst ou
 clear qD nZ hK
 repeat'((first|refine Y9 [] [] h7 rfl rfl rfl rfl rfl trivial rfl rfl rfl rfl rfl ?_ |refine S2 ?_|(refine T6 ?_ ?_<;>intro h<;>try exact V1 h)|intro el nN nP|intro el nN|exact T4|refine T5 ?_ ?_|intro ex)<;>try conv=>whnf)
 all_goals first
  |(exfalso;omega)
  |skip
 refine B2 (ι:=Nat) (fun k=>⟨[(2,.sl 2 (dims.map B5)),(5,.iptr (sL s)),(6,.iptr [.str pr,.i ver,.sl 2 (picks.map B5),.sl 1 (rows.map H1)]),(8,.iptr [.i mea]),(10,.ref 4 0),(16,.ref 5 0),(89,.sl 1 (Is.map wA)),(90,.i Is.length),(91,.i k)],7,[(4,some (.box [.v (.slice none 0 0),.i 0,.v (.slice none 0 0)])),(5,some (.box [.sl 2 (dims.map B5),.i mea,.row 6 0 L.length])),(6,some (.row (P3+e9) 7 0 ((CT (Is.take k)).map M1)))]⟩)
  (fun k=>k≤Is.length) (fun k=>Is.length-k) 0 (Nat.zero_le _)
  (C2 (Wm (i:=6) (F:=P3) (.inr rfl) rfl (fun _=>by rw[h0];exact Nat.zero_le _) (by decide) (Wy L)) (A8 h0 rfl ⟨rfl,rfl,rfl,rfl,rfl,rfl,rfl,rfl,rfl,trivial⟩ ⟨rfl,rfl,⟨_,congrArg (C9.row (P3+e9) 7 _) (by rw[zW])⟩,trivial⟩ rfl rfl rfl)) (fun k hK=>?_)
 obtain⟨ve,qV⟩:=zj k hK
 by_cases nZ:k<Is.length
 ·obtain⟨i,hi⟩:∃i,Is[k]?=some i:=⟨_,List.getElem?_eq_getElem nZ⟩
  have oS:Is[((k:Nat):Int).toNat]?=some i:=hi
  obtain⟨j,row,sT,nk⟩:=sc i (List.mem_of_getElem? hi)
  have uh:=pF j row nk
  obtain⟨key,rE⟩:∃z,row[0]?=some z:=⟨_,List.getElem?_eq_getElem (by omega)⟩
  have wZ:=rj j row key nk rE
  have sy:=vd j row nk
  have oe:=xE k i hi
  rw[vk]at oe
  have xo:=nT j row nk
  have rQ:=sx i
  have xI:=vQ i
  have vY:=xG i
  rw[←sT]at wZ xo sy
  have sw:rows[i.toNat]?=some row:=by rw[sT];exact nk
  have uD:=D6 nk
  have hib:0≤i∧i<rows.length:=by omega
  rw[wZ]at oe
  have h9:=h8 i (List.mem_of_getElem? hi)
  generalize OX i=O at *
  generalize hv0:VX i=v at *
  simp only[List.map_cons,List.map_nil,List.length_singleton,←vY]at h9
  generalize CT (Is.take k)=C at *
  clear xE vk nT rj vd sc pF vQ
  repeat'((first|(refine A2 (x:=i) oS (by omega) ?_)|refine Y9 [] [] h9 rfl rfl rfl rfl rfl trivial rfl rfl rfl rfl rfl ?_|(refine gQ (x:=[.i v]) rfl rfl ?_) |refine S2 ?_|(refine T6 ?_ ?_<;>intro h<;>try exact V1 h)|intro el nN nP|intro el nN|exact T4|refine T5 ?_ ?_|intro ex)<;>try conv=>whnf)
  all_goals first
   |(exfalso;omega)
   |skip
  refine B2 (ι:=Nat) (fun q=>⟨[(2,.sl 2 (dims.map B5)),(5,.iptr (sL s)),(6,.iptr [.str pr,.i ver,.sl 2 (picks.map B5),.sl 1 (rows.map H1)]),(8,.iptr [.i mea]),(10,.ref 4 0),(16,.ref 5 0),(21,.iptr [.i i]),(22,.iptr [.i v]),(23,.row 10 0 dims.length),(89,.sl 1 (Is.map wA)),(90,.i Is.length),(91,.i k),(108,.sl 2 (dims.map B5)),(109,.i dims.length),(110,.i q)],11,[(4,some (.box [.v (.slice none 0 0),.i 0,.v (.slice none 0 0)])),(5,some (.box [.sl 2 (dims.map B5),.i mea,.row 6 0 L.length])),(6,some (.row (P3+e9) 7 0 ((C).map M1))),(10,some (.row 3 1 0 ((y9 O dims.length q).map wA)))]⟩)
   (fun q=>q≤dims.length) (fun q=>dims.length-q) 0 (Nat.zero_le _)
   (A8 h0 rfl ⟨rfl,rfl,rfl,rfl,rfl,rfl,rfl,rfl,rfl,rfl,rfl,rfl,rfl,rfl,rfl,trivial⟩ ⟨rfl,rfl,⟨_,rfl⟩,⟨_,congrArg (C9.row 3 1 _) (by rw[OH];rfl)⟩,trivial⟩ rfl rfl rfl) (fun q hq=>?_)
  have uY:=Qp rQ hq
  by_cases tw:q<dims.length
  ·obtain⟨d,hd⟩:∃d,dims[q]?=some d:=⟨_,List.getElem?_eq_getElem tw⟩
   have yp:dims[((q:Nat):Int).toNat]?=some d:=hd
   have hc:=sy d
   have hO:=xo q d hd
   generalize U2 s d.col d.lev (picks.zip row.tail)=Z at *
   obtain⟨z,ok⟩:=Z
   dsimp only at *
   have pD:=Qq rQ hO
   have oQ:((y9 O dims.length q).map wA).set q [.i z]=(y9 O dims.length (q+1)).map wA:=by rw[←pD,List.map_set]
   repeat'((first|(refine A2 (x:=d) yp (by omega) ?_)|refine A1 hc ?_ |refine S2 ?_|(refine T6 ?_ ?_<;>intro h<;>try exact V1 h)|intro el nN nP|intro el nN|exact T4|refine T5 ?_ ?_|intro ex)<;>try conv=>whnf)
   all_goals first
    |(exfalso;omega)
    |exact⟨q+1,by omega,by omega,A8 h0 rfl ⟨rfl,rfl,rfl,rfl,rfl,rfl,rfl,rfl,rfl,rfl,rfl,rfl,rfl,rfl,rfl,trivial⟩ ⟨rfl,rfl,⟨_,rfl⟩,⟨_,congrArg (C9.row 3 1 _) oQ.symm⟩,trivial⟩ rfl rfl rfl⟩
  have wq:q=dims.length:=by omega
  subst wq
  rw[Qo rQ]
  refine x4 (A8 (σ':=⟨[(2,.sl 2 (dims.map B5)),(5,.iptr (sL s)),(6,.iptr [.str pr,.i ver,.sl 2 (picks.map B5),.sl 1 (rows.map H1)]),(8,.iptr [.i mea]),(10,.ref 4 0),(16,.ref 5 0),(21,.iptr [.i i]),(22,.iptr [.i v]),(23,.sl 1 (O.map wA)),(89,.sl 1 (Is.map wA)),(90,.i Is.length),(91,.i k),(108,.sl 2 (dims.map B5)),(109,.i dims.length),(110,.i dims.length)],7,[(4,some (.box [.v (.slice none 0 0),.i 0,.v (.slice none 0 0)])),(5,some (.box [.sl 2 (dims.map B5),.i mea,.row 6 0 L.length])),(6,some (.row (P3+e9) 7 0 ((C).map M1)))]⟩) h0 rfl ⟨rfl,rfl,rfl,rfl,rfl,rfl,rfl,rfl,rfl,rfl,rfl,rfl,rfl,rfl,rfl,trivial⟩ ⟨rfl,rfl,⟨_,rfl⟩,trivial⟩ rfl rfl rfl) ?_
  have yc:=LW (C.map M1) L.length O
  repeat'((first|refine nc [6] [0] yc rfl rfl rfl ⟨rfl,trivial⟩ ?_|refine Wz ?_ |refine S2 ?_|(refine T6 ?_ ?_<;>intro h<;>try exact V1 h)|intro el nN nP|intro el nN|exact T4|refine T5 ?_ ?_|intro ex)<;>try conv=>whnf)
  all_goals first
   |(exfalso;omega)
   |skip
  have vF:∀c∈C,c.codes.length≤O.length:=fun c hc=>by have:=(qV c hc).codes;omega
  refine XA ?_
  refine Qg (slc:=[(6,.iptr [.str pr,.i ver,.sl 2 (picks.map B5),.sl 1 (rows.map H1)]),(8,.iptr [.i mea]),(21,.iptr [.i i]),(22,.iptr [.i v])]) (m0:=3) (m1:=3) (hp0:=lI (C.map M1) L.length O) (hp1:=lJ ((C.map fun c=>if N1 O c.codes=true then M2 key v (decide (0≤mea)) c else c).map M1) L.length) (args:=[.ref 1 0,.ref 2 0]) (r:=.tup []) [6,7,8] [0,0,0] rfl sb (fun l rc q1 q2 q3 q4 q5 q6=>?_) ⟨⟨rfl,rfl⟩,⟨rfl,rfl⟩,⟨rfl,rfl⟩,⟨rfl,rfl⟩,trivial⟩ rfl rfl ⟨rfl,rfl,rfl,trivial⟩ ?_
  ·have ww:C.length≤9223372036854775807:=by omega
   rw[←ve]
   refine Jl l rc _ O (fun c=>M2 key v (decide (0≤mea)) c) C ww vF (fun M q c hM hq hc=>LU q1 q2 q3 q4 rfl rfl q5 q6 rfl fun E2 zx=>FQ ?_)
   have vf:=(qV c hc).ok (by omega)
   have pI:(M.map M1)[q]?=some (M1 c):=by rw[List.getElem?_map,hq];rfl
   have rY:=Nz (M.map M1) q c pI vf key v xI (decide (0≤mea))
   rw[show (M.map M1).set q (M1 (M2 key v (decide (0≤mea)) c))=(M.set q (M2 key v (decide (0≤mea)) c)).map M1 by rw[List.map_set]]at rY
   repeat'((first|(refine Cz ?_ ?_ ?_;kernel_rfl;kernel_rfl)|refine nc [0] [0] rY rfl rfl rfl ⟨rfl,trivial⟩ ?_|(refine A2 (x:=row) sw (by omega) ?_)|(refine A2 (x:=key) rE (by omega) ?_) |refine S2 ?_|(refine T6 ?_ ?_<;>intro h<;>try exact V1 h)|intro el nN nP|intro el nN|exact T4|refine T5 ?_ ?_|intro ex)<;>try conv=>whnf)
   all_goals first
    |(exfalso;omega)
    |exact A8 zx rfl trivial ⟨⟨_,rfl⟩,trivial⟩ rfl rfl rfl
  (try (conv=>whnf))
  repeat'((first|refine S2 ?_|(refine T6 ?_ ?_<;>intro h<;>try exact V1 h)|intro el nN nP|intro el nN|exact T4|refine T5 ?_ ?_|intro ex)<;>try conv=>whnf)
  all_goals first
   |(exfalso;omega)
   |exact⟨k+1,by omega,by omega,A8 h0 rfl ⟨rfl,rfl,rfl,rfl,rfl,rfl,rfl,rfl,rfl,trivial⟩ ⟨rfl,rfl,⟨_,congrArg (C9.row (P3+e9) 7 _) (by rw[oe])⟩,trivial⟩ rfl rfl rfl⟩
 have qD:Is.take k=Is:=List.take_of_length_le (by omega)
 have ou:k=Is.length:=by omega
 rw[qD]
 subst ou
 refine x4 (C2 (Qb (i:=6) (F:=P3) (.inr rfl) rfl (by decide) (Qn (CT Is))) (C2 (A8 (σ':=⟨[(10,.ref 4 0),(16,.ref 5 0),(90,.i Is.length),(91,.i Is.length)],6,[(4,some (.box [.v (.slice none 0 0),.i 0,.v (.slice none 0 0)])),(5,some (.box [.sl 2 (dims.map B5),.i mea,.sl 7 ((CT Is).map T3)]))]⟩) h0 rfl ⟨rfl,rfl,rfl,rfl,trivial⟩ ⟨rfl,rfl,trivial⟩ rfl rfl rfl) (A8 (σ':=⟨[(10,.ref 4 0),(16,.iptr [.sl 2 (dims.map B5),.i mea,.sl 7 ((CT Is).map T3)]),(90,.i Is.length),(91,.i Is.length)],5,[(4,some (.box [.v (.slice none 0 0),.i 0,.v (.slice none 0 0)]))]⟩) h0 rfl ⟨rfl,rfl,rfl,rfl,trivial⟩ ⟨rfl,trivial⟩ rfl rfl rfl))) ?_
 repeat'((first|refine S2 ?_|(refine T6 ?_ ?_<;>intro h<;>try exact V1 h)|intro el nN nP|intro el nN|exact T4|refine T5 ?_ ?_|intro ex)<;>try conv=>whnf)
 all_goals first
  |(exfalso;omega)
  |exact q9 rfl rfl rfl (.refl _) rfl (.refl _) rfl
end Go.Proofs.YtjkbhaaobhgkdabGreatDoor
