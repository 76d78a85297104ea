/- Chapter 18: tables: the reference. -/
import Derived.Test.YtiphlhoclaogjaaGreatDoorJTc7
import Derived.Test.YtiphlhoclaogjaaGreatDoorJTb2
import Derived.Test.YtiphlhoclaogjaaGreatDoorJF4
import Derived.Test.YtiphlhoclaogjaaGreatDoorJQn2
import Derived.Test.YtiphlhoclaogjaaGreatDoorJTa5
set_option linter.unusedVariables false
set_option linter.unnecessarySimpa false
set_option linter.unusedSimpArgs false
set_option maxHeartbeats 64000000
namespace Go.Proofs.YtiphlhoclaogjaaGreatDoor
open Go Go.Av
attribute [local irreducible] C9 B3 C8 D1 DQ D0 C7 St.le A3 B8
set_option maxRecDepth 100000
abbrev EL:Nat:=123
def Dp(s:A4)(l:List Pk):Nat:=l.foldl (fun z d=>z*(O9 s d).length) 1
theorem VH(s:A4):∀(ds:List Pk) (z:Nat),ds.foldl (fun z d=>z*(O9 s d).length) z=z*(G4 s ds).length
 |[],z=>by simp[G4]
 |d::r,z=>by
  have h3:(G4 s (d::r)).length=(O9 s d).length*(G4 s r).length:=Ac _ _
  rw[List.foldl_cons,VH s r,h3,Nat.mul_assoc]
theorem My(s:A4)(ds:List Pk):Dp s ds=(G4 s ds).length:=by unfold Dp;rw[VH,Nat.one_mul]
theorem JB(s:A4){ds:List Pk}{k:Nat}{d:Pk}(h:ds[k]?=some d):Dp s (ds.take (k+1))=Dp s (ds.take k)*(O9 s d).length:=by
 unfold Dp
 rw[F1 h,List.foldl_append]
 rfl
theorem Ea(s:A4)(pQ:E4 s)(dims:List Pk)(mea:Int)(cnd:B7):A3 Tryz.prog 55 [sA s,.agg (lX dims mea cnd)] (.sl 2 ((W8 s (j9 dims mea cnd)).map A8)):=z1 (Rp s pQ (j9 dims mea cnd)) ⟨.refl _,CX (gQ dims mea cnd),trivial⟩
abbrev nH(dims:List Pk)(mea:Int)(cnd:B7):List AV:=[.str [116],.i 1,.i cnd.op,.i cnd.col,.i cnd.code,.i cnd.lo,.i cnd.hi,.sl 6 (cnd.kids.map R0),.sl 2 (dims.map A8),.i mea,.v (.slice none 0 0),.i 0,.i 0,.i 0,.i 0,.i 0,.v (.slice none 0 0)]
theorem Dq(s:A4)(dims:List Pk)(mea:Int)(cnd:B7):A3 Tryz.prog 53 [sA s,.agg (nH dims mea cnd)] (.i (L7 s (R9 dims mea cnd))):=z1 (EZ s (R9 dims mea cnd)) ⟨.refl _,CX ⟨.refl _,.refl _,.refl _,.refl _,.refl _,.refl _,.refl _,.refl _,.refl _,.refl _,.nil 1,.refl _,.refl _,.refl _,.refl _,.refl _,.nil 6,trivial⟩,trivial⟩
theorem fS(s:A4)(pQ:E4 s)(x:J9)(dims:List Pk)(mea:Int)(cnd:B7)(hE:¬L2 s x=0):A3 Tryz.prog 17 [sA s,X9 x,.sl 2 (dims.map A8),.i mea,D5 cnd] (.tup [S3 ⟨[],0,[]⟩,.i (L2 s x)]):=by
 have h1:=c8 s x
 generalize L2 s x=e at *
 obtain⟨pr,ver,picks,rows⟩:=x
 try dsimp only at *
 refine B5 Tryz.func17 193 fun nL E h0=>?_
 clear nL
 repeat'((first|refine A0 h1 ?_ |refine S2 ?_|(refine T6 ?_ ?_<;>intro h<;>try exact V1 h)|intro el nJ nK|intro el nJ|exact T4|refine T5 ?_ ?_|intro ex)<;>try conv=>whnf)
 all_goals first
  |(exfalso;omega)
  |exact T3 rfl rfl rfl DK rfl (.refl _) rfl
theorem fT(s:A4)(pQ:E4 s)(x:J9)(dims:List Pk)(mea:Int)(cnd:B7)(e1:L2 s x=0)(hE:¬L7 s (R9 dims mea cnd)=0):A3 Tryz.prog 17 [sA s,X9 x,.sl 2 (dims.map A8),.i mea,D5 cnd] (.tup [S3 ⟨[],0,[]⟩,.i (L7 s (R9 dims mea cnd))]):=by
 have h1:=c8 s x
 rw[e1]at h1
 have h2:=Dq s dims mea cnd
 generalize L7 s (R9 dims mea cnd)=e at *
 obtain⟨pr,ver,picks,rows⟩:=x
 try dsimp only at *
 refine B5 Tryz.func17 193 fun nL E h0=>?_
 clear nL
 repeat'((first|refine A0 h1 ?_|refine A0 h2 ?_ |refine S2 ?_|(refine T6 ?_ ?_<;>intro h<;>try exact V1 h)|intro el nJ nK|intro el nJ|exact T4|refine T5 ?_ ?_|intro ex)<;>try conv=>whnf)
 all_goals first
  |(exfalso;omega)
  |exact T3 rfl rfl rfl DK rfl (.refl _) rfl
theorem fU(s:A4)(pQ:E4 s)(x:J9)(dims:List Pk)(mea:Int)(cnd:B7)(e1:L2 s x=0)(e2:L7 s (R9 dims mea cnd)=0)(hE:X8 x.picks (W8 s (j9 dims mea cnd))=false):A3 Tryz.prog 17 [sA s,X9 x,.sl 2 (dims.map A8),.i mea,D5 cnd] (.tup [S3 ⟨[],0,[]⟩,.i (23)]):=by
 have h1:=c8 s x
 rw[e1]at h1
 have h2:=Dq s dims mea cnd
 rw[e2]at h2
 have h3:=Ea s pQ dims mea cnd
 have h4:=AW (W8 s (j9 dims mea cnd)) x.picks
 rw[hE]at h4
 obtain⟨pr,ver,picks,rows⟩:=x
 try dsimp only at *
 refine B5 Tryz.func17 193 fun nL E h0=>?_
 clear nL
 repeat'((first|refine A0 h1 ?_|refine A0 h2 ?_|refine A0 h3 ?_|refine A0 h4 ?_|(refine E7 7 ?_;refine A9 ?_ ?_;kernel_rfl) |refine S2 ?_|(refine T6 ?_ ?_<;>intro h<;>try exact V1 h)|intro el nJ nK|intro el nJ|exact T4|refine T5 ?_ ?_|intro ex)<;>try conv=>whnf)
 all_goals first
  |(exfalso;omega)
  |exact T3 rfl rfl rfl DK rfl (.refl _) rfl
theorem fV(s:A4)(pQ:E4 s)(x:J9)(dims:List Pk)(mea:Int)(cnd:B7)(e1:L2 s x=0)(e2:L7 s (R9 dims mea cnd)=0)(e3:X8 x.picks (W8 s (j9 dims mea cnd))=true)(hE:2000<(G4 s dims).length):A3 Tryz.prog 17 [sA s,X9 x,.sl 2 (dims.map A8),.i mea,D5 cnd] (.tup [S3 ⟨[],0,[]⟩,.i 1]):=by
 have h1:=c8 s x
 rw[e1]at h1
 have h2:=Dq s dims mea cnd
 rw[e2]at h2
 have h3:=Ea s pQ dims mea cnd
 have h4:=AW (W8 s (j9 dims mea cnd)) x.picks
 rw[e3]at h4
 obtain⟨hr,rY,pA,ut⟩:=DJ e2
 obtain⟨sf,qa,rh⟩:=Ct pA
 have xR:=My s dims
 have tj:=fun (k:Nat) (d:Pk) h=>@JB s dims k d h
 have hp0:Dp s (dims.take 0)=1:=rfl
 have ni:=(D2 hr).2.1
 generalize (G4 s dims).length=n at *
 obtain⟨pr,ver,picks,rows⟩:=x
 dsimp only at *
 generalize Dp s=PS at *
 refine B5 Tryz.func17 193 fun nL E h0=>?_
 clear nL
 repeat'((first|refine A0 h1 ?_|refine A0 h2 ?_|refine A0 h3 ?_|refine A0 h4 ?_|(refine E7 7 ?_;refine A9 ?_ ?_;kernel_rfl) |refine S2 ?_|(refine T6 ?_ ?_<;>intro h<;>try exact V1 h)|intro el nJ nK|intro el nJ|exact T4|refine T5 ?_ ?_|intro ex)<;>try conv=>whnf)
 all_goals first
  |(exfalso;omega)
  |skip
 refine B0 (ι:=Nat) (fun i=>⟨[(2,.sl 2 (dims.map A8)),(3,.i mea),(5,.ref 0 0),(6,.ref 1 0),(9,.ref 2 0),(10,.ref 3 0),(14,.i (PS (dims.take i))),(15,.i i)],4,[(0,some (.box (sL s))),(1,some (.box [.str pr,.i ver,.sl 2 (picks.map A8),.sl 1 (rows.map D4)])),(2,some (.box [.i cnd.op,.i cnd.col,.i cnd.code,.i cnd.lo,.i cnd.hi,.sl 6 (cnd.kids.map R0)])),(3,some (.box [.v (.slice none 0 0),.i 0,.v (.slice none 0 0)]))]⟩)
  (fun i=>i≤dims.length∧PS (dims.take i)≤61 ^ i) (fun i=>dims.length-i) 0 ⟨Nat.zero_le _,by rw[hp0];decide⟩
  (A7 h0 rfl ⟨rfl,rfl,rfl,rfl,rfl,rfl,congrArg (fun z:Nat=>some (AV.i (z:Int))) hp0.symm,rfl,trivial⟩ ⟨rfl,rfl,rfl,rfl,trivial⟩ rfl rfl rfl) (fun i hI=>?_)
 obtain⟨i1,i2⟩:=hI
 by_cases qi:i<dims.length
 ·obtain⟨d,tF⟩:∃d,dims[i]?=some d:=⟨_,List.getElem?_eq_getElem qi⟩
  have tY:dims[((i:Nat):Int).toNat]?=some d:=tF
  obtain⟨wt,vO⟩:=rh d (List.mem_of_getElem? tF)
  obtain⟨xc,L0,hx,nY,hd6,⟨vf,qV⟩,vc,qY,uv⟩:=El hr wt vO
  obtain⟨nm,cs⟩:=L0
  have oN:=(G9 uv).2.2
  have pt:=GC nm cs d.lev (by dsimp only at oN;omega)
  have qJ:(O9 s d).length=(H1 nm cs d.lev).length+1:=by unfold O9;rw[nY,qY];simp
  have sk:(H1 nm cs d.lev).length≤cs.length:=by unfold H1;split<;>first|exact Eg _ _ _|exact Nat.zero_le _
  dsimp only at oN
  have nS:=tj i d tF
  rw[qJ]at nS
  generalize H1 nm cs d.lev=qz at *
  generalize PS (dims.take i)=z at *
  have zA:(61:Nat) ^ i≤61 ^ 2:=Nat.pow_le_pow_right (by decide) (by omega)
  have xb:z*(qz.length+1)≤61 ^ i*61:=Nat.mul_le_mul i2 (by omega)
  have pJ:(((z*(qz.length+1):Nat)):Int)=(z:Int)*((qz.length:Int)+1):=by rw[Int.natCast_mul];rfl
  have nl:0≤(z:Int)*((qz.length:Int)+1)∧(z:Int)*((qz.length:Int)+1)≤226981:=by rw[←pJ];omega
  repeat'((first|(refine A2 (x:=d) tY (by omega) ?_)|(refine A2 (x:=xc) hx (by omega) ?_)|(refine A2 (x:=(nm,cs)) vc (by omega) ?_)|refine A0 pt ?_|(refine A9 ?_ ?_;kernel_rfl) |refine S2 ?_|(refine T6 ?_ ?_<;>intro h<;>try exact V1 h)|intro el nJ nK|intro el nJ|exact T4|refine T5 ?_ ?_|intro ex)<;>try conv=>whnf)
  all_goals first
   |(exfalso;omega)
   |exact⟨i+1,⟨by omega,by rw[nS,Nat.pow_succ];exact xb⟩,by omega,A7 h0 rfl ⟨rfl,rfl,rfl,rfl,rfl,rfl,congrArg (fun z:Int=>some (AV.i z)) (by first|(rw[nS,pJ];done)|(rw[nS,pJ];simp;done)|(rw[nS];simp;done)),rfl,trivial⟩ ⟨rfl,rfl,rfl,rfl,trivial⟩ rfl rfl rfl⟩
 have tn:dims.take i=dims:=List.take_of_length_le (by omega)
 rw[tn,xR]
 repeat'((first|refine S2 ?_|(refine T6 ?_ ?_<;>intro h<;>try exact V1 h)|intro el nJ nK|intro el nJ|exact T4|refine T5 ?_ ?_|intro ex)<;>try conv=>whnf)
 all_goals first
  |(exfalso;omega)
  |exact T3 rfl rfl rfl DK rfl (.refl _) rfl
theorem jh(s:A4)(pQ:E4 s)(x:J9)(dims:List Pk)(mea:Int)(cnd:B7)(e1:L2 s x=0)(e2:L7 s (R9 dims mea cnd)=0)(e3:X8 x.picks (W8 s (j9 dims mea cnd))=true)(hE:¬2000<(G4 s dims).length)(hm:¬0≤mea):A3 Tryz.prog 17 [sA s,X9 x,.sl 2 (dims.map A8),.i mea,D5 cnd] (.tup [S3 ⟨dims,mea,(G4 s dims).map fun l=>P7 l ((b7 s x cnd (V0 mea)).map (BL s x dims mea))⟩,.i 0]):=by
 have h1:=c8 s x
 rw[e1]at h1
 have h2:=Dq s dims mea cnd
 rw[e2]at h2
 have h3:=Ea s pQ dims mea cnd
 have h4:=AW (W8 s (j9 dims mea cnd)) x.picks
 rw[e3]at h4
 obtain⟨hr,rY,pA,ut⟩:=DJ e2
 obtain⟨sf,qa,rh⟩:=Ct pA
 have xR:=My s dims
 have tj:=fun (k:Nat) (d:Pk) h=>@JB s dims k d h
 have hp0:Dp s (dims.take 0)=1:=rfl
 have ni:=(D2 hr).2.1
 have h5:=HO s hr dims qa rh (by omega)
 have ux:∀l∈G4 s dims,l.length=dims.length:=fun l hl=>Iz hl
 have h6:=Kb s x cnd (V0 mea)
 rw[cJ pQ]at h6
 obtain⟨zL,hp,oK,nV⟩:=v6 e1
 have pk:=k9 hp
 have sU:=fun i=>Oo hr ut x i
 have re:=fun (k:Nat) (r:List Int) (hk:x.rows[k]?=some r) (c l:Int)=>HL s hr x k r hk (O7 (nV k r hk)) (by omega) c l
 have qp:=fun i=>@LH s x cnd (V0 mea) i
 have zE:=LI s x cnd (V0 mea)
 have oY:=fun (k:Nat) (r:List Int) (hk:x.rows[k]?=some r)=>O7 (nV k r hk)
 have ng:=N0 s mea
 generalize wK:b7 s x cnd (V0 mea)=Is at *
 have nP:∀(k:Nat) (r:List Int),x.rows[k]?=some r→∀(q:Nat) (d:Pk),dims[q]?=some d→(b9 s x dims k)[q]?=some (N8 s d.col d.lev (x.picks.zip r.tail)).1:=fun k r hk q d hd=>by unfold b9;rw[List.getElem?_map,hd,show ((k:Int)).toNat=k from rfl,D7 hk];rfl
 have ph:∀i,(b9 s x dims i).length=dims.length:=fun i=>List.length_map ..
 have pZ:∀(k:Nat) (r:List Int) (z:Int),x.rows[k]?=some r→r[0]?=some z→Ap x k=z:=fun k r z hk hz=>by unfold Ap;rw[show ((k:Int)).toNat=k from rfl,D7 hk,O6 hz]
 have oD:∀i,BL s x dims mea i=⟨Ap x i,BU s x mea i,b9 s x dims i⟩:=fun _=>rfl
 have nr:∀l∈G4 s dims,A3 Tryz.prog 58 [.sl 3 ((Is.map (BL s x dims mea)).map k5),.sl 1 (l.map wA)] (.agg (O8 (P7 l (Is.map (BL s x dims mea))))):=fun l hl=>Oz l (Is.map (BL s x dims mea)) (by rw[List.length_map];omega) (fun y hy=>by
  rw[List.mem_map]at hy
  obtain⟨i,_,rfl⟩:=hy
  exact sU i) (fun y hy=>by
  rw[List.mem_map]at hy
  obtain⟨i,_,rfl⟩:=hy
  have:=ph i
  have:=ux l hl
  show l.length≤(b9 s x dims i).length
  omega) (by have:=ux l hl;omega)
 have tA:∀i,BU s x mea i=0:=fun i=>if_neg hm
 have ql:V0 mea=[]:=if_neg hm
 rw[ql]at h6
 have rU:(G4 s dims).length≤2000:=by omega
 generalize BL s x dims mea=LX at *
 generalize b9 s x dims=OX at *
 generalize Ap x=KX at *
 generalize BU s x mea=VX at *
 generalize yP:(fun l=>P7 l (Is.map LX))=CR
 have uJ:∀l,P7 l (Is.map LX)=CR l:=fun l=>by rw[←yP]
 simp only[uJ]at nr
 clear e1 e2 e3 hp pA nV wK hE yP uJ
 generalize G4 s dims=L at *
 obtain⟨pr,ver,picks,rows⟩:=x
 dsimp only at *
 generalize Dp s=PS at *
 refine B5 Tryz.func17 193 fun nL E h0=>?_
 clear nL
 repeat'((first|refine A0 h1 ?_|refine A0 h2 ?_|refine A0 h3 ?_|refine A0 h4 ?_|(refine E7 7 ?_;refine A9 ?_ ?_;kernel_rfl) |refine S2 ?_|(refine T6 ?_ ?_<;>intro h<;>try exact V1 h)|intro el nJ nK|intro el nJ|exact T4|refine T5 ?_ ?_|intro ex)<;>try conv=>whnf)
 all_goals first
  |(exfalso;omega)
  |skip
 refine B0 (ι:=Nat) (fun i=>⟨[(2,.sl 2 (dims.map A8)),(3,.i mea),(5,.ref 0 0),(6,.ref 1 0),(9,.ref 2 0),(10,.ref 3 0),(14,.i (PS (dims.take i))),(15,.i i)],4,[(0,some (.box (sL s))),(1,some (.box [.str pr,.i ver,.sl 2 (picks.map A8),.sl 1 (rows.map D4)])),(2,some (.box [.i cnd.op,.i cnd.col,.i cnd.code,.i cnd.lo,.i cnd.hi,.sl 6 (cnd.kids.map R0)])),(3,some (.box [.v (.slice none 0 0),.i 0,.v (.slice none 0 0)]))]⟩)
  (fun i=>i≤dims.length∧PS (dims.take i)≤61 ^ i) (fun i=>dims.length-i) 0 ⟨Nat.zero_le _,by rw[hp0];decide⟩
  (A7 h0 rfl ⟨rfl,rfl,rfl,rfl,rfl,rfl,congrArg (fun z:Nat=>some (AV.i (z:Int))) hp0.symm,rfl,trivial⟩ ⟨rfl,rfl,rfl,rfl,trivial⟩ rfl rfl rfl) (fun i hI=>?_)
 obtain⟨i1,i2⟩:=hI
 by_cases qi:i<dims.length
 ·obtain⟨d,tF⟩:∃d,dims[i]?=some d:=⟨_,List.getElem?_eq_getElem qi⟩
  have tY:dims[((i:Nat):Int).toNat]?=some d:=tF
  obtain⟨wt,vO⟩:=rh d (List.mem_of_getElem? tF)
  obtain⟨xc,L0,hx,nY,hd6,⟨vf,qV⟩,vc,qY,uv⟩:=El hr wt vO
  obtain⟨nm,cs⟩:=L0
  have oN:=(G9 uv).2.2
  have pt:=GC nm cs d.lev (by dsimp only at oN;omega)
  have qJ:(O9 s d).length=(H1 nm cs d.lev).length+1:=by unfold O9;rw[nY,qY];simp
  have sk:(H1 nm cs d.lev).length≤cs.length:=by unfold H1;split<;>first|exact Eg _ _ _|exact Nat.zero_le _
  dsimp only at oN
  have nS:=tj i d tF
  rw[qJ]at nS
  generalize H1 nm cs d.lev=qz at *
  generalize PS (dims.take i)=z at *
  have zA:(61:Nat) ^ i≤61 ^ 2:=Nat.pow_le_pow_right (by decide) (by omega)
  have xb:z*(qz.length+1)≤61 ^ i*61:=Nat.mul_le_mul i2 (by omega)
  have pJ:(((z*(qz.length+1):Nat)):Int)=(z:Int)*((qz.length:Int)+1):=by rw[Int.natCast_mul];rfl
  have nl:0≤(z:Int)*((qz.length:Int)+1)∧(z:Int)*((qz.length:Int)+1)≤226981:=by rw[←pJ];omega
  repeat'((first|(refine A2 (x:=d) tY (by omega) ?_)|(refine A2 (x:=xc) hx (by omega) ?_)|(refine A2 (x:=(nm,cs)) vc (by omega) ?_)|refine A0 pt ?_|(refine A9 ?_ ?_;kernel_rfl) |refine S2 ?_|(refine T6 ?_ ?_<;>intro h<;>try exact V1 h)|intro el nJ nK|intro el nJ|exact T4|refine T5 ?_ ?_|intro ex)<;>try conv=>whnf)
  all_goals first
   |(exfalso;omega)
   |exact⟨i+1,⟨by omega,by rw[nS,Nat.pow_succ];exact xb⟩,by omega,A7 h0 rfl ⟨rfl,rfl,rfl,rfl,rfl,rfl,congrArg (fun z:Int=>some (AV.i z)) (by first|(rw[nS,pJ];done)|(rw[nS,pJ];simp;done)|(rw[nS];simp;done)),rfl,trivial⟩ ⟨rfl,rfl,rfl,rfl,trivial⟩ rfl rfl rfl⟩
 have tn:dims.take i=dims:=List.take_of_length_le (by omega)
 rw[tn,xR]
 repeat'((first|refine RU (f:=25) 100 1 rfl ?_|refine A0 h6 ?_ |refine S2 ?_|(refine T6 ?_ ?_<;>intro h<;>try exact V1 h)|intro el nJ nK|intro el nJ|exact T4|refine T5 ?_ ?_|intro ex)<;>try conv=>whnf)
 all_goals first
  |(exfalso;omega)
  |skip
 refine B0 (ι:=Nat) (fun k=>⟨[(2,.sl 2 (dims.map A8)),(3,.i mea),(5,.iptr (sL s)),(6,.iptr [.str pr,.i ver,.sl 2 (picks.map A8),.sl 1 (rows.map D4)]),(10,.ref 3 0),(16,.ref 4 0),(18,.sl 1 (Is.map wA)),(19,.row 5 0 k),(20,.i k)],6,[(3,some (.box [.v (.slice none 0 0),.i 0,.v (.slice none 0 0)])),(4,some (.box [.sl 2 (dims.map A8),.i mea,.v (.slice none 0 0)])),(5,some (.row EL 3 0 (((Is.take k).map LX).map k5)))]⟩)
  (fun k=>k≤Is.length) (fun k=>Is.length-k) 0 (Nat.zero_le _)
  (C0 (I0 (d:=19) (e:=EL) (sz:=3) rfl) (A6 h0)) (fun k hK=>?_)
 clear tn i1 i2 qi
 by_cases nU:k<Is.length
 ·obtain⟨i,hi⟩:∃i,Is[k]?=some i:=⟨_,List.getElem?_eq_getElem nU⟩
  have oI:Is[((k:Nat):Int).toNat]?=some i:=hi
  obtain⟨j,row,sE,nW⟩:=qp i (List.mem_of_getElem? hi)
  have sC:=oY j row nW
  obtain⟨key,pE⟩:∃z,row[0]?=some z:=⟨_,List.getElem?_eq_getElem (by omega)⟩
  have tU:=pZ j row key nW pE
  have qF:=re j row nW
  have uL:=nP j row nW
  have qJ:=ph i
  have uI:=oD i
  have rZ:=tA i
  rw[←sE]at tU uL qF
  have qU:rows[i.toNat]?=some row:=by rw[sE];exact nW
  have uQ:=E9 nW
  have zt:0≤i∧i<rows.length:=by omega
  rw[tU]at uI
  have qL:(Is.take (k+1)).map LX=(Is.take k).map LX++[LX i]:=by rw[F1 hi,List.map_append];rfl
  have sG:((Is.take k).map LX).length=k:=by rw[List.length_map,List.length_take];omega
  generalize OX i=O at *
  generalize VX i=v at *
  subst rZ
  rw[uI]at qL
  generalize (Is.take k).map LX=A at *
  clear nP pZ re qp oY sU oD tA
  repeat'((first|(refine F5 (id:=25) ⟨[(2,.sl 2 (dims.map A8)),(3,.i mea),(5,.iptr (sL s)),(6,.iptr [.str pr,.i ver,.sl 2 (picks.map A8),.sl 1 (rows.map D4)]),(10,.ref 3 0),(16,.ref 4 0),(18,.sl 1 (Is.map wA)),(19,.row 5 0 k),(20,.i k),(21,.ref 6 0)],7,[(3,some (.box [.v (.slice none 0 0),.i 0,.v (.slice none 0 0)])),(4,some (.box [.sl 2 (dims.map A8),.i mea,.v (.slice none 0 0)])),(5,some (.row EL 3 0 (A.map k5))),(6,some (.box [.i key,.i 0,.v (.slice none 0 0)]))]⟩ ?_ ?_)|(refine A2 (x:=i) oI (by omega) ?_)|(refine A2 (x:=row) qU (by omega) ?_)|(refine A2 (x:=key) pE (by omega) ?_) |refine S2 ?_|(refine T6 ?_ ?_<;>intro h<;>try exact V1 h)|intro el nJ nK|intro el nJ|exact T4|refine T5 ?_ ?_|intro ex)<;>try conv=>whnf)
  all_goals first
   |(exfalso;omega)
   |exact A7 h0 rfl ⟨rfl,rfl,rfl,rfl,rfl,rfl,rfl,rfl,rfl,rfl,trivial⟩ ⟨rfl,rfl,⟨_,rfl⟩,rfl,trivial⟩ rfl rfl rfl
   |skip
  refine B0 (ι:=Nat) (fun q=>⟨[(2,.sl 2 (dims.map A8)),(3,.i mea),(5,.iptr (sL s)),(6,.iptr [.str pr,.i ver,.sl 2 (picks.map A8),.sl 1 (rows.map D4)]),(10,.ref 3 0),(16,.ref 4 0),(18,.sl 1 (Is.map wA)),(19,.row 5 0 k),(20,.i k),(21,.ref 6 0),(22,.i q)],8,[(3,some (.box [.v (.slice none 0 0),.i 0,.v (.slice none 0 0)])),(4,some (.box [.sl 2 (dims.map A8),.i mea,.v (.slice none 0 0)])),(5,some (.row EL 3 0 (A.map k5))),(6,some (.box [.i key,.i 0,.row 7 0 q])),(7,some (.row 3 1 0 ((O.take q).map wA)))]⟩)
   (fun q=>q≤dims.length) (fun q=>dims.length-q) 0 (Nat.zero_le _)
   (C0 (Ab 6 2 (e:=3) (sz:=1) rfl rfl) (A6 h0)) (fun q hq=>?_)
  by_cases ru:q<dims.length
  ·obtain⟨d,hd⟩:∃d,dims[q]?=some d:=⟨_,List.getElem?_eq_getElem ru⟩
   have vj:dims[((q:Nat):Int).toNat]?=some d:=hd
   have hc:=qF d.col d.lev
   have hO:=uL q d hd
   have hoq:(O.take q).length=q:=by rw[List.length_take];omega
   generalize N8 s d.col d.lev (picks.zip row.tail)=Z at *
   obtain⟨z,ok⟩:=Z
   dsimp only at *
   have oE:(O.take (q+1)).map wA=(O.take q).map wA++[[.i z]]:=by rw[F1 hO,List.map_append];rfl
   repeat'((first|(refine A2 (x:=d) vj (by omega) ?_)|(refine A2 (x:=i) oI (by omega) ?_)|refine A0 hc ?_|(refine A9 ?_ ?_;kernel_rfl) |refine S2 ?_|(refine T6 ?_ ?_<;>intro h<;>try exact V1 h)|intro el nJ nK|intro el nJ|exact T4|refine T5 ?_ ?_|intro ex)<;>try conv=>whnf)
   all_goals first
    |(exfalso;omega)
    |exact⟨q+1,by omega,by omega,A7 h0 rfl ⟨rfl,rfl,rfl,rfl,rfl,rfl,rfl,rfl,rfl,rfl,rfl,trivial⟩ ⟨rfl,rfl,⟨_,rfl⟩,rfl,⟨_,congrArg (C4.row 3 1 _) oE⟩,trivial⟩ rfl rfl rfl⟩
  have uk:q=dims.length:=by omega
  subst uk
  rw[List.take_of_length_le (by omega:O.length≤dims.length)]
  refine P3 (A7 (σ':=⟨[(2,.sl 2 (dims.map A8)),(3,.i mea),(5,.iptr (sL s)),(6,.iptr [.str pr,.i ver,.sl 2 (picks.map A8),.sl 1 (rows.map D4)]),(10,.ref 3 0),(16,.ref 4 0),(18,.sl 1 (Is.map wA)),(19,.row 5 0 k),(20,.i k),(21,.ref 6 0),(22,.i dims.length)],7,[(3,some (.box [.v (.slice none 0 0),.i 0,.v (.slice none 0 0)])),(4,some (.box [.sl 2 (dims.map A8),.i mea,.v (.slice none 0 0)])),(5,some (.row EL 3 0 (A.map k5))),(6,some (.box [.i key,.i 0,.sl 1 (O.map wA)]))]⟩) h0 rfl ⟨rfl,rfl,rfl,rfl,rfl,rfl,rfl,rfl,rfl,rfl,rfl,trivial⟩ ⟨rfl,rfl,⟨_,rfl⟩,rfl,trivial⟩ rfl rfl rfl) ?_
  repeat'((first|refine S2 ?_|(refine T6 ?_ ?_<;>intro h<;>try exact V1 h)|intro el nJ nK|intro el nJ|exact T4|refine T5 ?_ ?_|intro ex)<;>try conv=>whnf)
  all_goals first
   |(exfalso;omega)
   |exact A7 h0 rfl ⟨rfl,rfl,rfl,rfl,rfl,rfl,rfl,rfl,rfl,rfl,trivial⟩ ⟨rfl,rfl,⟨_,rfl⟩,rfl,trivial⟩ rfl rfl rfl
   |exact⟨k+1,by omega,by omega,A7 h0 rfl ⟨rfl,rfl,rfl,rfl,rfl,rfl,rfl,rfl,rfl,trivial⟩ ⟨rfl,rfl,⟨_,congrArg (C4.row EL 3 _) (by rw[qL,List.map_append];rfl)⟩,trivial⟩ rfl rfl rfl⟩
 have pB:Is.take k=Is:=List.take_of_length_le (by omega)
 have oS:k=Is.length:=by omega
 rw[pB]
 subst oS
 clear pB hK nU re nP pZ qp oY tA sU oD
 generalize Is.map LX=LN at *
 refine P3 (A7 (σ':=⟨[(2,.sl 2 (dims.map A8)),(5,.iptr (sL s)),(10,.ref 3 0),(16,.ref 4 0),(18,.sl 1 (Is.map wA)),(19,.sl 3 (LN.map k5)),(20,.i Is.length)],5,[(3,some (.box [.v (.slice none 0 0),.i 0,.v (.slice none 0 0)])),(4,some (.box [.sl 2 (dims.map A8),.i mea,.v (.slice none 0 0)]))]⟩) h0 rfl ⟨rfl,rfl,rfl,rfl,rfl,rfl,rfl,trivial⟩ ⟨rfl,rfl,trivial⟩ rfl rfl rfl) ?_
 repeat'((first|refine A0 h5 ?_ |refine S2 ?_|(refine T6 ?_ ?_<;>intro h<;>try exact V1 h)|intro el nJ nK|intro el nJ|exact T4|refine T5 ?_ ?_|intro ex)<;>try conv=>whnf)
 all_goals first
  |(exfalso;omega)
  |skip
 refine B0 (ι:=Nat) (fun k=>⟨[(10,.ref 3 0),(16,.ref 4 0),(19,.sl 3 (LN.map k5)),(25,.sl 1 (L.map D4)),(26,.i k)],6,[(3,some (.box [.v (.slice none 0 0),.i 0,.v (.slice none 0 0)])),(4,some (.box [.sl 2 (dims.map A8),.i mea,.row 5 0 k])),(5,some (.row S4 7 0 (((L.take k).map CR).map O8)))]⟩)
  (fun k=>k≤L.length) (fun k=>L.length-k) 0 (Nat.zero_le _)
  (C0 (Ab 4 2 (e:=S4) (sz:=7) rfl rfl) (A6 h0)) (fun k hK=>?_)
 by_cases nU:k<L.length
 ·obtain⟨l,hl⟩:∃l,L[k]?=some l:=⟨_,List.getElem?_eq_getElem nU⟩
  have nv:L[((k:Nat):Int).toNat]?=some l:=hl
  have pz:=nr l (List.mem_of_getElem? hl)
  have qL:(L.take (k+1)).map CR=(L.take k).map CR++[CR l]:=by rw[F1 hl,List.map_append];rfl
  have sG:((L.take k).map CR).length=k:=by rw[List.length_map,List.length_take];omega
  generalize (L.take k).map CR=A at *
  repeat'((first|(refine F5 (id:=38) ⟨[(10,.ref 3 0),(16,.ref 4 0),(19,.sl 3 (LN.map k5)),(25,.sl 1 (L.map D4)),(26,.i k)],6,[(3,some (.box [.v (.slice none 0 0),.i 0,.v (.slice none 0 0)])),(4,some (.box [.sl 2 (dims.map A8),.i mea,.row 5 0 (k+1)])),(5,some (.row S4 7 0 ((A++[CR l]).map O8)))]⟩ ?_ ?_)|(refine A2 (x:=l) nv (by omega) ?_)|refine A0 pz ?_ |refine S2 ?_|(refine T6 ?_ ?_<;>intro h<;>try exact V1 h)|intro el nJ nK|intro el nJ|exact T4|refine T5 ?_ ?_|intro ex)<;>try conv=>whnf)
  all_goals first
   |(exfalso;omega)
   |exact A7 h0 rfl ⟨rfl,rfl,rfl,rfl,rfl,trivial⟩ ⟨rfl,rfl,⟨_,congrArg (C4.row S4 7 _) (by rw[List.map_append];rfl)⟩,trivial⟩ rfl rfl rfl
   |exact⟨k+1,by omega,by omega,A7 h0 rfl ⟨rfl,rfl,rfl,rfl,rfl,trivial⟩ ⟨rfl,rfl,⟨_,congrArg (C4.row S4 7 _) (by rw[qL])⟩,trivial⟩ rfl rfl rfl⟩
 have pB:L.take k=L:=List.take_of_length_le (by omega)
 have oS:k=L.length:=by omega
 rw[pB]
 subst oS
 refine P3 (C0 (A7 (σ':=⟨[(10,.ref 3 0),(16,.ref 4 0),(25,.sl 1 (L.map D4)),(26,.i L.length)],5,[(3,some (.box [.v (.slice none 0 0),.i 0,.v (.slice none 0 0)])),(4,some (.box [.sl 2 (dims.map A8),.i mea,.sl 7 ((L.map CR).map O8)]))]⟩) h0 rfl ⟨rfl,rfl,rfl,rfl,trivial⟩ ⟨rfl,rfl,trivial⟩ rfl rfl rfl) (A7 (σ':=⟨[(10,.ref 3 0),(16,.iptr [.sl 2 (dims.map A8),.i mea,.sl 7 ((L.map CR).map O8)]),(25,.sl 1 (L.map D4)),(26,.i L.length)],4,[(3,some (.box [.v (.slice none 0 0),.i 0,.v (.slice none 0 0)]))]⟩) h0 rfl ⟨rfl,rfl,rfl,rfl,trivial⟩ ⟨rfl,trivial⟩ rfl rfl rfl)) ?_
 repeat'((first|refine S2 ?_|(refine T6 ?_ ?_<;>intro h<;>try exact V1 h)|intro el nJ nK|intro el nJ|exact T4|refine T5 ?_ ?_|intro ex)<;>try conv=>whnf)
 all_goals first
  |(exfalso;omega)
  |exact T3 rfl rfl rfl (.refl _) rfl (.refl _) rfl
theorem ji(s:A4)(pQ:E4 s)(x:J9)(dims:List Pk)(mea:Int)(cnd:B7)(e1:L2 s x=0)(e2:L7 s (R9 dims mea cnd)=0)(e3:X8 x.picks (W8 s (j9 dims mea cnd))=true)(hE:¬2000<(G4 s dims).length)(hm:0≤mea):A3 Tryz.prog 17 [sA s,X9 x,.sl 2 (dims.map A8),.i mea,D5 cnd] (.tup [S3 ⟨dims,mea,(G4 s dims).map fun l=>P7 l ((b7 s x cnd (V0 mea)).map (BL s x dims mea))⟩,.i 0]):=by
 have h1:=c8 s x
 rw[e1]at h1
 have h2:=Dq s dims mea cnd
 rw[e2]at h2
 have h3:=Ea s pQ dims mea cnd
 have h4:=AW (W8 s (j9 dims mea cnd)) x.picks
 rw[e3]at h4
 obtain⟨hr,rY,pA,ut⟩:=DJ e2
 obtain⟨sf,qa,rh⟩:=Ct pA
 have xR:=My s dims
 have tj:=fun (k:Nat) (d:Pk) h=>@JB s dims k d h
 have hp0:Dp s (dims.take 0)=1:=rfl
 have ni:=(D2 hr).2.1
 have h5:=HO s hr dims qa rh (by omega)
 have ux:∀l∈G4 s dims,l.length=dims.length:=fun l hl=>Iz hl
 have h6:=Kb s x cnd (V0 mea)
 rw[cJ pQ]at h6
 obtain⟨zL,hp,oK,nV⟩:=v6 e1
 have pk:=k9 hp
 have sU:=fun i=>Oo hr ut x i
 have re:=fun (k:Nat) (r:List Int) (hk:x.rows[k]?=some r) (c l:Int)=>HL s hr x k r hk (O7 (nV k r hk)) (by omega) c l
 have qp:=fun i=>@LH s x cnd (V0 mea) i
 have zE:=LI s x cnd (V0 mea)
 have oY:=fun (k:Nat) (r:List Int) (hk:x.rows[k]?=some r)=>O7 (nV k r hk)
 have ng:=N0 s mea
 generalize wK:b7 s x cnd (V0 mea)=Is at *
 have nP:∀(k:Nat) (r:List Int),x.rows[k]?=some r→∀(q:Nat) (d:Pk),dims[q]?=some d→(b9 s x dims k)[q]?=some (N8 s d.col d.lev (x.picks.zip r.tail)).1:=fun k r hk q d hd=>by unfold b9;rw[List.getElem?_map,hd,show ((k:Int)).toNat=k from rfl,D7 hk];rfl
 have ph:∀i,(b9 s x dims i).length=dims.length:=fun i=>List.length_map ..
 have pZ:∀(k:Nat) (r:List Int) (z:Int),x.rows[k]?=some r→r[0]?=some z→Ap x k=z:=fun k r z hk hz=>by unfold Ap;rw[show ((k:Int)).toNat=k from rfl,D7 hk,O6 hz]
 have oD:∀i,BL s x dims mea i=⟨Ap x i,BU s x mea i,b9 s x dims i⟩:=fun _=>rfl
 have nr:∀l∈G4 s dims,A3 Tryz.prog 58 [.sl 3 ((Is.map (BL s x dims mea)).map k5),.sl 1 (l.map wA)] (.agg (O8 (P7 l (Is.map (BL s x dims mea))))):=fun l hl=>Oz l (Is.map (BL s x dims mea)) (by rw[List.length_map];omega) (fun y hy=>by
  rw[List.mem_map]at hy
  obtain⟨i,_,rfl⟩:=hy
  exact sU i) (fun y hy=>by
  rw[List.mem_map]at hy
  obtain⟨i,_,rfl⟩:=hy
  have:=ph i
  have:=ux l hl
  show l.length≤(b9 s x dims i).length
  omega) (by have:=ux l hl;omega)
 have tA:∀(k:Nat) (r:List Int),x.rows[k]?=some r→BU s x mea k=(N8 s mea (B4 s mea) (x.picks.zip r.tail)).1:=fun k r hk=>by unfold BU KI;rw[if_pos hm,show ((k:Int)).toNat=k from rfl,D7 hk]
 have ql:V0 mea=[mea]:=if_pos hm
 rw[ql]at h6
 have rU:(G4 s dims).length≤2000:=by omega
 generalize BL s x dims mea=LX at *
 generalize b9 s x dims=OX at *
 generalize Ap x=KX at *
 generalize BU s x mea=VX at *
 generalize yP:(fun l=>P7 l (Is.map LX))=CR
 have uJ:∀l,P7 l (Is.map LX)=CR l:=fun l=>by rw[←yP]
 simp only[uJ]at nr
 clear e1 e2 e3 hp pA nV wK hE yP uJ
 generalize G4 s dims=L at *
 obtain⟨pr,ver,picks,rows⟩:=x
 dsimp only at *
 generalize Dp s=PS at *
 refine B5 Tryz.func17 193 fun nL E h0=>?_
 clear nL
 repeat'((first|refine A0 h1 ?_|refine A0 h2 ?_|refine A0 h3 ?_|refine A0 h4 ?_|(refine E7 7 ?_;refine A9 ?_ ?_;kernel_rfl) |refine S2 ?_|(refine T6 ?_ ?_<;>intro h<;>try exact V1 h)|intro el nJ nK|intro el nJ|exact T4|refine T5 ?_ ?_|intro ex)<;>try conv=>whnf)
 all_goals first
  |(exfalso;omega)
  |skip
 refine B0 (ι:=Nat) (fun i=>⟨[(2,.sl 2 (dims.map A8)),(3,.i mea),(5,.ref 0 0),(6,.ref 1 0),(9,.ref 2 0),(10,.ref 3 0),(14,.i (PS (dims.take i))),(15,.i i)],4,[(0,some (.box (sL s))),(1,some (.box [.str pr,.i ver,.sl 2 (picks.map A8),.sl 1 (rows.map D4)])),(2,some (.box [.i cnd.op,.i cnd.col,.i cnd.code,.i cnd.lo,.i cnd.hi,.sl 6 (cnd.kids.map R0)])),(3,some (.box [.v (.slice none 0 0),.i 0,.v (.slice none 0 0)]))]⟩)
  (fun i=>i≤dims.length∧PS (dims.take i)≤61 ^ i) (fun i=>dims.length-i) 0 ⟨Nat.zero_le _,by rw[hp0];decide⟩
  (A7 h0 rfl ⟨rfl,rfl,rfl,rfl,rfl,rfl,congrArg (fun z:Nat=>some (AV.i (z:Int))) hp0.symm,rfl,trivial⟩ ⟨rfl,rfl,rfl,rfl,trivial⟩ rfl rfl rfl) (fun i hI=>?_)
 obtain⟨i1,i2⟩:=hI
 by_cases qi:i<dims.length
 ·obtain⟨d,tF⟩:∃d,dims[i]?=some d:=⟨_,List.getElem?_eq_getElem qi⟩
  have tY:dims[((i:Nat):Int).toNat]?=some d:=tF
  obtain⟨wt,vO⟩:=rh d (List.mem_of_getElem? tF)
  obtain⟨xc,L0,hx,nY,hd6,⟨vf,qV⟩,vc,qY,uv⟩:=El hr wt vO
  obtain⟨nm,cs⟩:=L0
  have oN:=(G9 uv).2.2
  have pt:=GC nm cs d.lev (by dsimp only at oN;omega)
  have qJ:(O9 s d).length=(H1 nm cs d.lev).length+1:=by unfold O9;rw[nY,qY];simp
  have sk:(H1 nm cs d.lev).length≤cs.length:=by unfold H1;split<;>first|exact Eg _ _ _|exact Nat.zero_le _
  dsimp only at oN
  have nS:=tj i d tF
  rw[qJ]at nS
  generalize H1 nm cs d.lev=qz at *
  generalize PS (dims.take i)=z at *
  have zA:(61:Nat) ^ i≤61 ^ 2:=Nat.pow_le_pow_right (by decide) (by omega)
  have xb:z*(qz.length+1)≤61 ^ i*61:=Nat.mul_le_mul i2 (by omega)
  have pJ:(((z*(qz.length+1):Nat)):Int)=(z:Int)*((qz.length:Int)+1):=by rw[Int.natCast_mul];rfl
  have nl:0≤(z:Int)*((qz.length:Int)+1)∧(z:Int)*((qz.length:Int)+1)≤226981:=by rw[←pJ];omega
  repeat'((first|(refine A2 (x:=d) tY (by omega) ?_)|(refine A2 (x:=xc) hx (by omega) ?_)|(refine A2 (x:=(nm,cs)) vc (by omega) ?_)|refine A0 pt ?_|(refine A9 ?_ ?_;kernel_rfl) |refine S2 ?_|(refine T6 ?_ ?_<;>intro h<;>try exact V1 h)|intro el nJ nK|intro el nJ|exact T4|refine T5 ?_ ?_|intro ex)<;>try conv=>whnf)
  all_goals first
   |(exfalso;omega)
   |exact⟨i+1,⟨by omega,by rw[nS,Nat.pow_succ];exact xb⟩,by omega,A7 h0 rfl ⟨rfl,rfl,rfl,rfl,rfl,rfl,congrArg (fun z:Int=>some (AV.i z)) (by first|(rw[nS,pJ];done)|(rw[nS,pJ];simp;done)|(rw[nS];simp;done)),rfl,trivial⟩ ⟨rfl,rfl,rfl,rfl,trivial⟩ rfl rfl rfl⟩
 have tn:dims.take i=dims:=List.take_of_length_le (by omega)
 rw[tn,xR]
 repeat'((first|refine A0 h6 ?_|refine I6 5 ?_ |refine S2 ?_|(refine T6 ?_ ?_<;>intro h<;>try exact V1 h)|intro el nJ nK|intro el nJ|exact T4|refine T5 ?_ ?_|intro ex)<;>try conv=>whnf)
 all_goals first
  |(exfalso;omega)
  |skip
 refine B0 (ι:=Nat) (fun k=>⟨[(2,.sl 2 (dims.map A8)),(3,.i mea),(5,.iptr (sL s)),(6,.iptr [.str pr,.i ver,.sl 2 (picks.map A8),.sl 1 (rows.map D4)]),(10,.ref 3 0),(16,.ref 4 0),(18,.sl 1 (Is.map wA)),(19,.row 6 0 k),(20,.i k)],7,[(3,some (.box [.v (.slice none 0 0),.i 0,.v (.slice none 0 0)])),(4,some (.box [.sl 2 (dims.map A8),.i mea,.v (.slice none 0 0)])),(6,some (.row EL 3 0 (((Is.take k).map LX).map k5)))]⟩)
  (fun k=>k≤Is.length) (fun k=>Is.length-k) 0 (Nat.zero_le _)
  (C0 (I0 (d:=19) (e:=EL) (sz:=3) rfl) (A6 h0)) (fun k hK=>?_)
 clear tn i1 i2 qi
 by_cases nU:k<Is.length
 ·obtain⟨i,hi⟩:∃i,Is[k]?=some i:=⟨_,List.getElem?_eq_getElem nU⟩
  have oI:Is[((k:Nat):Int).toNat]?=some i:=hi
  obtain⟨j,row,sE,nW⟩:=qp i (List.mem_of_getElem? hi)
  have sC:=oY j row nW
  obtain⟨key,pE⟩:∃z,row[0]?=some z:=⟨_,List.getElem?_eq_getElem (by omega)⟩
  have tU:=pZ j row key nW pE
  have qF:=re j row nW
  have uL:=nP j row nW
  have qJ:=ph i
  have uI:=oD i
  have rZ:=tA j row nW
  rw[←sE]at tU uL qF rZ
  have qU:rows[i.toNat]?=some row:=by rw[sE];exact nW
  have uQ:=E9 nW
  have zt:0≤i∧i<rows.length:=by omega
  rw[tU]at uI
  have qL:(Is.take (k+1)).map LX=(Is.take k).map LX++[LX i]:=by rw[F1 hi,List.map_append];rfl
  have sG:((Is.take k).map LX).length=k:=by rw[List.length_map,List.length_take];omega
  generalize OX i=O at *
  generalize VX i=v at *
  rw[uI]at qL
  generalize (Is.take k).map LX=A at *
  clear nP pZ re qp oY sU oD tA
  repeat'((first|(refine F5 (id:=25) ⟨[(2,.sl 2 (dims.map A8)),(3,.i mea),(5,.iptr (sL s)),(6,.iptr [.str pr,.i ver,.sl 2 (picks.map A8),.sl 1 (rows.map D4)]),(10,.ref 3 0),(16,.ref 4 0),(18,.sl 1 (Is.map wA)),(19,.row 6 0 k),(20,.i k),(21,.ref 7 0)],8,[(3,some (.box [.v (.slice none 0 0),.i 0,.v (.slice none 0 0)])),(4,some (.box [.sl 2 (dims.map A8),.i mea,.v (.slice none 0 0)])),(6,some (.row EL 3 0 (A.map k5))),(7,some (.box [.i key,.i 0,.v (.slice none 0 0)]))]⟩ ?_ ?_)|(refine A2 (x:=i) oI (by omega) ?_)|(refine A2 (x:=row) qU (by omega) ?_)|(refine A2 (x:=key) pE (by omega) ?_) |refine S2 ?_|(refine T6 ?_ ?_<;>intro h<;>try exact V1 h)|intro el nJ nK|intro el nJ|exact T4|refine T5 ?_ ?_|intro ex)<;>try conv=>whnf)
  all_goals first
   |(exfalso;omega)
   |exact A7 h0 rfl ⟨rfl,rfl,rfl,rfl,rfl,rfl,rfl,rfl,rfl,rfl,trivial⟩ ⟨rfl,rfl,⟨_,rfl⟩,rfl,trivial⟩ rfl rfl rfl
   |skip
  refine B0 (ι:=Nat) (fun q=>⟨[(2,.sl 2 (dims.map A8)),(3,.i mea),(5,.iptr (sL s)),(6,.iptr [.str pr,.i ver,.sl 2 (picks.map A8),.sl 1 (rows.map D4)]),(10,.ref 3 0),(16,.ref 4 0),(18,.sl 1 (Is.map wA)),(19,.row 6 0 k),(20,.i k),(21,.ref 7 0),(22,.i q)],9,[(3,some (.box [.v (.slice none 0 0),.i 0,.v (.slice none 0 0)])),(4,some (.box [.sl 2 (dims.map A8),.i mea,.v (.slice none 0 0)])),(6,some (.row EL 3 0 (A.map k5))),(7,some (.box [.i key,.i 0,.row 8 0 q])),(8,some (.row 3 1 0 ((O.take q).map wA)))]⟩)
   (fun q=>q≤dims.length) (fun q=>dims.length-q) 0 (Nat.zero_le _)
   (C0 (Ab 7 2 (e:=3) (sz:=1) rfl rfl) (A6 h0)) (fun q hq=>?_)
  by_cases ru:q<dims.length
  ·obtain⟨d,hd⟩:∃d,dims[q]?=some d:=⟨_,List.getElem?_eq_getElem ru⟩
   have vj:dims[((q:Nat):Int).toNat]?=some d:=hd
   have hc:=qF d.col d.lev
   have hO:=uL q d hd
   have hoq:(O.take q).length=q:=by rw[List.length_take];omega
   generalize N8 s d.col d.lev (picks.zip row.tail)=Z at *
   obtain⟨z,ok⟩:=Z
   dsimp only at *
   have oE:(O.take (q+1)).map wA=(O.take q).map wA++[[.i z]]:=by rw[F1 hO,List.map_append];rfl
   repeat'((first|(refine A2 (x:=d) vj (by omega) ?_)|(refine A2 (x:=i) oI (by omega) ?_)|refine A0 hc ?_|(refine A9 ?_ ?_;kernel_rfl) |refine S2 ?_|(refine T6 ?_ ?_<;>intro h<;>try exact V1 h)|intro el nJ nK|intro el nJ|exact T4|refine T5 ?_ ?_|intro ex)<;>try conv=>whnf)
   all_goals first
    |(exfalso;omega)
    |exact⟨q+1,by omega,by omega,A7 h0 rfl ⟨rfl,rfl,rfl,rfl,rfl,rfl,rfl,rfl,rfl,rfl,rfl,trivial⟩ ⟨rfl,rfl,⟨_,rfl⟩,rfl,⟨_,congrArg (C4.row 3 1 _) oE⟩,trivial⟩ rfl rfl rfl⟩
  have uk:q=dims.length:=by omega
  subst uk
  rw[List.take_of_length_le (by omega:O.length≤dims.length)]
  refine P3 (A7 (σ':=⟨[(2,.sl 2 (dims.map A8)),(3,.i mea),(5,.iptr (sL s)),(6,.iptr [.str pr,.i ver,.sl 2 (picks.map A8),.sl 1 (rows.map D4)]),(10,.ref 3 0),(16,.ref 4 0),(18,.sl 1 (Is.map wA)),(19,.row 6 0 k),(20,.i k),(21,.ref 7 0),(22,.i dims.length)],8,[(3,some (.box [.v (.slice none 0 0),.i 0,.v (.slice none 0 0)])),(4,some (.box [.sl 2 (dims.map A8),.i mea,.v (.slice none 0 0)])),(6,some (.row EL 3 0 (A.map k5))),(7,some (.box [.i key,.i 0,.sl 1 (O.map wA)]))]⟩) h0 rfl ⟨rfl,rfl,rfl,rfl,rfl,rfl,rfl,rfl,rfl,rfl,rfl,trivial⟩ ⟨rfl,rfl,⟨_,rfl⟩,rfl,trivial⟩ rfl rfl rfl) ?_
  have vo:=qF mea (B4 s mea)
  generalize N8 s mea (B4 s mea) (picks.zip row.tail)=Z at *
  obtain⟨z,ok⟩:=Z
  dsimp only at *
  subst rZ
  repeat'((first|(refine F5 (id:=32) ⟨[(2,.sl 2 (dims.map A8)),(3,.i mea),(5,.iptr (sL s)),(6,.iptr [.str pr,.i ver,.sl 2 (picks.map A8),.sl 1 (rows.map D4)]),(10,.ref 3 0),(16,.ref 4 0),(18,.sl 1 (Is.map wA)),(19,.row 6 0 k),(20,.i k),(21,.ref 7 0)],8,[(3,some (.box [.v (.slice none 0 0),.i 0,.v (.slice none 0 0)])),(4,some (.box [.sl 2 (dims.map A8),.i mea,.v (.slice none 0 0)])),(6,some (.row EL 3 0 (A.map k5))),(7,some (.box [.i key,.i v,.sl 1 (O.map wA)]))]⟩ ?_ ?_)|(refine A2 (x:=i) oI (by omega) ?_)|refine A0 ng ?_|refine A0 vo ?_ |refine S2 ?_|(refine T6 ?_ ?_<;>intro h<;>try exact V1 h)|intro el nJ nK|intro el nJ|exact T4|refine T5 ?_ ?_|intro ex)<;>try conv=>whnf)
  all_goals first
   |(exfalso;omega)
   |exact A7 h0 rfl ⟨rfl,rfl,rfl,rfl,rfl,rfl,rfl,rfl,rfl,rfl,trivial⟩ ⟨rfl,rfl,⟨_,rfl⟩,rfl,trivial⟩ rfl rfl rfl
   |exact⟨k+1,by omega,by omega,A7 h0 rfl ⟨rfl,rfl,rfl,rfl,rfl,rfl,rfl,rfl,rfl,trivial⟩ ⟨rfl,rfl,⟨_,congrArg (C4.row EL 3 _) (by rw[qL,List.map_append];rfl)⟩,trivial⟩ rfl rfl rfl⟩
 have pB:Is.take k=Is:=List.take_of_length_le (by omega)
 have oS:k=Is.length:=by omega
 rw[pB]
 subst oS
 clear pB hK nU re nP pZ qp oY tA sU oD
 generalize Is.map LX=LN at *
 refine P3 (A7 (σ':=⟨[(2,.sl 2 (dims.map A8)),(5,.iptr (sL s)),(10,.ref 3 0),(16,.ref 4 0),(18,.sl 1 (Is.map wA)),(19,.sl 3 (LN.map k5)),(20,.i Is.length)],5,[(3,some (.box [.v (.slice none 0 0),.i 0,.v (.slice none 0 0)])),(4,some (.box [.sl 2 (dims.map A8),.i mea,.v (.slice none 0 0)]))]⟩) h0 rfl ⟨rfl,rfl,rfl,rfl,rfl,rfl,rfl,trivial⟩ ⟨rfl,rfl,trivial⟩ rfl rfl rfl) ?_
 repeat'((first|refine A0 h5 ?_ |refine S2 ?_|(refine T6 ?_ ?_<;>intro h<;>try exact V1 h)|intro el nJ nK|intro el nJ|exact T4|refine T5 ?_ ?_|intro ex)<;>try conv=>whnf)
 all_goals first
  |(exfalso;omega)
  |skip
 refine B0 (ι:=Nat) (fun k=>⟨[(10,.ref 3 0),(16,.ref 4 0),(19,.sl 3 (LN.map k5)),(25,.sl 1 (L.map D4)),(26,.i k)],6,[(3,some (.box [.v (.slice none 0 0),.i 0,.v (.slice none 0 0)])),(4,some (.box [.sl 2 (dims.map A8),.i mea,.row 5 0 k])),(5,some (.row S4 7 0 (((L.take k).map CR).map O8)))]⟩)
  (fun k=>k≤L.length) (fun k=>L.length-k) 0 (Nat.zero_le _)
  (C0 (Ab 4 2 (e:=S4) (sz:=7) rfl rfl) (A6 h0)) (fun k hK=>?_)
 by_cases nU:k<L.length
 ·obtain⟨l,hl⟩:∃l,L[k]?=some l:=⟨_,List.getElem?_eq_getElem nU⟩
  have nv:L[((k:Nat):Int).toNat]?=some l:=hl
  have pz:=nr l (List.mem_of_getElem? hl)
  have qL:(L.take (k+1)).map CR=(L.take k).map CR++[CR l]:=by rw[F1 hl,List.map_append];rfl
  have sG:((L.take k).map CR).length=k:=by rw[List.length_map,List.length_take];omega
  generalize (L.take k).map CR=A at *
  repeat'((first|(refine F5 (id:=38) ⟨[(10,.ref 3 0),(16,.ref 4 0),(19,.sl 3 (LN.map k5)),(25,.sl 1 (L.map D4)),(26,.i k)],6,[(3,some (.box [.v (.slice none 0 0),.i 0,.v (.slice none 0 0)])),(4,some (.box [.sl 2 (dims.map A8),.i mea,.row 5 0 (k+1)])),(5,some (.row S4 7 0 ((A++[CR l]).map O8)))]⟩ ?_ ?_)|(refine A2 (x:=l) nv (by omega) ?_)|refine A0 pz ?_ |refine S2 ?_|(refine T6 ?_ ?_<;>intro h<;>try exact V1 h)|intro el nJ nK|intro el nJ|exact T4|refine T5 ?_ ?_|intro ex)<;>try conv=>whnf)
  all_goals first
   |(exfalso;omega)
   |exact A7 h0 rfl ⟨rfl,rfl,rfl,rfl,rfl,trivial⟩ ⟨rfl,rfl,⟨_,congrArg (C4.row S4 7 _) (by rw[List.map_append];rfl)⟩,trivial⟩ rfl rfl rfl
   |exact⟨k+1,by omega,by omega,A7 h0 rfl ⟨rfl,rfl,rfl,rfl,rfl,trivial⟩ ⟨rfl,rfl,⟨_,congrArg (C4.row S4 7 _) (by rw[qL])⟩,trivial⟩ rfl rfl rfl⟩
 have pB:L.take k=L:=List.take_of_length_le (by omega)
 have oS:k=L.length:=by omega
 rw[pB]
 subst oS
 refine P3 (C0 (A7 (σ':=⟨[(10,.ref 3 0),(16,.ref 4 0),(25,.sl 1 (L.map D4)),(26,.i L.length)],5,[(3,some (.box [.v (.slice none 0 0),.i 0,.v (.slice none 0 0)])),(4,some (.box [.sl 2 (dims.map A8),.i mea,.sl 7 ((L.map CR).map O8)]))]⟩) h0 rfl ⟨rfl,rfl,rfl,rfl,trivial⟩ ⟨rfl,rfl,trivial⟩ rfl rfl rfl) (A7 (σ':=⟨[(10,.ref 3 0),(16,.iptr [.sl 2 (dims.map A8),.i mea,.sl 7 ((L.map CR).map O8)]),(25,.sl 1 (L.map D4)),(26,.i L.length)],4,[(3,some (.box [.v (.slice none 0 0),.i 0,.v (.slice none 0 0)]))]⟩) h0 rfl ⟨rfl,rfl,rfl,rfl,trivial⟩ ⟨rfl,trivial⟩ rfl rfl rfl)) ?_
 repeat'((first|refine S2 ?_|(refine T6 ?_ ?_<;>intro h<;>try exact V1 h)|intro el nJ nK|intro el nJ|exact T4|refine T5 ?_ ?_|intro ex)<;>try conv=>whnf)
 all_goals first
  |(exfalso;omega)
  |exact T3 rfl rfl rfl (.refl _) rfl (.refl _) rfl
end Go.Proofs.YtiphlhoclaogjaaGreatDoor
