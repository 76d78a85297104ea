/- Chapter 18: tables: the reference. -/
import Derived.Test.YtiphlhoclaogjaaGreatDoorRTc7
import Derived.Test.YtiphlhoclaogjaaGreatDoorRTb2
import Derived.Test.YtiphlhoclaogjaaGreatDoorRF4
import Derived.Test.YtiphlhoclaogjaaGreatDoorRQn2
import Derived.Test.YtiphlhoclaogjaaGreatDoorRTa5
set_option linter.unusedVariables false
set_option linter.unnecessarySimpa false
set_option linter.unusedSimpArgs false
set_option maxHeartbeats 64000000
namespace Go.Proofs.YtiphlhoclaogjaaGreatDoor
open Go Go.Av
attribute [local irreducible] C9 B3 C7 D1 DQ D0 C6 St.le A3 B7
set_option maxRecDepth 100000
abbrev DV:Nat:=123
def Cy(s:A4)(l:List Pk):Nat:=l.foldl (fun z d=>z*(O7 s d).length) 1
theorem UO(s:A4):∀(ds:List Pk) (z:Nat),ds.foldl (fun z d=>z*(O7 s d).length) z=z*(G3 s ds).length
 |[],z=>by simp[G3]
 |d::r,z=>by
  have h3:(G3 s (d::r)).length=(O7 s d).length*(G3 s r).length:=w7 _ _
  rw[List.foldl_cons,UO s r,h3,Nat.mul_assoc]
theorem MD(s:A4)(ds:List Pk):Cy s ds=(G3 s ds).length:=by unfold Cy;rw[UO,Nat.one_mul]
theorem Hz(s:A4){ds:List Pk}{k:Nat}{d:Pk}(h:ds[k]?=some d):Cy s (ds.take (k+1))=Cy s (ds.take k)*(O7 s d).length:=by
 unfold Cy
 rw[E7 h,List.foldl_append]
 rfl
theorem Dk(s:A4)(oN:D9 s)(dims:List Pk)(mea:Int)(cnd:B6):A3 Tryz.prog 55 [sA s,.agg (kP dims mea cnd)] (.sl 2 ((W4 s (e9 dims mea cnd)).map A8)):=s5 (Qt s oN (e9 dims mea cnd)) ⟨.refl _,Bb (fJ dims mea cnd),trivial⟩
abbrev py(dims:List Pk)(mea:Int)(cnd:B6):List AV:=[.str [116],.i 1,.i cnd.op,.i cnd.col,.i cnd.code,.i cnd.lo,.i cnd.hi,.sl 6 (cnd.kids.map P9),.sl 2 (dims.map A8),.i mea,.v (.slice none 0 0),.i 0,.i 0,.i 0,.i 0,.i 0,.v (.slice none 0 0)]
theorem DU(s:A4)(dims:List Pk)(mea:Int)(cnd:B6):A3 Tryz.prog 53 [sA s,.agg (py dims mea cnd)] (.i (L6 s (R5 dims mea cnd))):=s5 (Di s (R5 dims mea cnd)) ⟨.refl _,Bb ⟨.refl _,.refl _,.refl _,.refl _,.refl _,.refl _,.refl _,.refl _,.refl _,.refl _,.nil 1,.refl _,.refl _,.refl _,.refl _,.refl _,.nil 6,trivial⟩,trivial⟩
theorem eJ(s:A4)(oN:D9 s)(x:J7)(dims:List Pk)(mea:Int)(cnd:B6)(hE:¬K9 s x=0):A3 Tryz.prog 17 [sA s,T8 x,.sl 2 (dims.map A8),.i mea,D5 cnd] (.tup [X8 ⟨[],0,[]⟩,.i (K9 s x)]):=by
 have h1:=b8 s x
 generalize K9 s x=e at *
 obtain⟨pr,ver,picks,rows⟩:=x
 try dsimp only at *
 refine B5 Tryz.func17 193 fun mK E h0=>?_
 clear mK
 repeat'((first|refine A0 h1 ?_ |refine S2 ?_|(refine T6 ?_ ?_<;>intro h<;>try exact V1 h)|intro el mI mJ|intro el mI|exact T4|refine T5 ?_ ?_|intro ex)<;>try conv=>whnf)
 all_goals first
  |(exfalso;omega)
  |exact S8 rfl rfl rfl CP rfl (.refl _) rfl
theorem eK(s:A4)(oN:D9 s)(x:J7)(dims:List Pk)(mea:Int)(cnd:B6)(e1:K9 s x=0)(hE:¬L6 s (R5 dims mea cnd)=0):A3 Tryz.prog 17 [sA s,T8 x,.sl 2 (dims.map A8),.i mea,D5 cnd] (.tup [X8 ⟨[],0,[]⟩,.i (L6 s (R5 dims mea cnd))]):=by
 have h1:=b8 s x
 rw[e1]at h1
 have h2:=DU s dims mea cnd
 generalize L6 s (R5 dims mea cnd)=e at *
 obtain⟨pr,ver,picks,rows⟩:=x
 try dsimp only at *
 refine B5 Tryz.func17 193 fun mK E h0=>?_
 clear mK
 repeat'((first|refine A0 h1 ?_|refine A0 h2 ?_ |refine S2 ?_|(refine T6 ?_ ?_<;>intro h<;>try exact V1 h)|intro el mI mJ|intro el mI|exact T4|refine T5 ?_ ?_|intro ex)<;>try conv=>whnf)
 all_goals first
  |(exfalso;omega)
  |exact S8 rfl rfl rfl CP rfl (.refl _) rfl
theorem eL(s:A4)(oN:D9 s)(x:J7)(dims:List Pk)(mea:Int)(cnd:B6)(e1:K9 s x=0)(e2:L6 s (R5 dims mea cnd)=0)(hE:X5 x.picks (W4 s (e9 dims mea cnd))=false):A3 Tryz.prog 17 [sA s,T8 x,.sl 2 (dims.map A8),.i mea,D5 cnd] (.tup [X8 ⟨[],0,[]⟩,.i (23)]):=by
 have h1:=b8 s x
 rw[e1]at h1
 have h2:=DU s dims mea cnd
 rw[e2]at h2
 have h3:=Dk s oN dims mea cnd
 have h4:=v6 (W4 s (e9 dims mea cnd)) x.picks
 rw[hE]at h4
 obtain⟨pr,ver,picks,rows⟩:=x
 try dsimp only at *
 refine B5 Tryz.func17 193 fun mK E h0=>?_
 clear mK
 repeat'((first|refine A0 h1 ?_|refine A0 h2 ?_|refine A0 h3 ?_|refine A0 h4 ?_|(refine E6 7 ?_;refine B0 ?_ ?_;kernel_rfl) |refine S2 ?_|(refine T6 ?_ ?_<;>intro h<;>try exact V1 h)|intro el mI mJ|intro el mI|exact T4|refine T5 ?_ ?_|intro ex)<;>try conv=>whnf)
 all_goals first
  |(exfalso;omega)
  |exact S8 rfl rfl rfl CP rfl (.refl _) rfl
theorem eM(s:A4)(oN:D9 s)(x:J7)(dims:List Pk)(mea:Int)(cnd:B6)(e1:K9 s x=0)(e2:L6 s (R5 dims mea cnd)=0)(e3:X5 x.picks (W4 s (e9 dims mea cnd))=true)(hE:2000<(G3 s dims).length):A3 Tryz.prog 17 [sA s,T8 x,.sl 2 (dims.map A8),.i mea,D5 cnd] (.tup [X8 ⟨[],0,[]⟩,.i 1]):=by
 have h1:=b8 s x
 rw[e1]at h1
 have h2:=DU s dims mea cnd
 rw[e2]at h2
 have h3:=Dk s oN dims mea cnd
 have h4:=v6 (W4 s (e9 dims mea cnd)) x.picks
 rw[e3]at h4
 obtain⟨hr,qa,nw,th⟩:=CO e2
 obtain⟨rW,po,qj⟩:=Bx nw
 have ww:=MD s dims
 have uT:=fun (k:Nat) (d:Pk) h=>@Hz s dims k d h
 have hp0:Cy s (dims.take 0)=1:=rfl
 have mf:=(D3 hr).2.1
 generalize (G3 s dims).length=n at *
 obtain⟨pr,ver,picks,rows⟩:=x
 dsimp only at *
 generalize Cy s=PS at *
 refine B5 Tryz.func17 193 fun mK E h0=>?_
 clear mK
 repeat'((first|refine A0 h1 ?_|refine A0 h2 ?_|refine A0 h3 ?_|refine A0 h4 ?_|(refine E6 7 ?_;refine B0 ?_ ?_;kernel_rfl) |refine S2 ?_|(refine T6 ?_ ?_<;>intro h<;>try exact V1 h)|intro el mI mJ|intro el mI|exact T4|refine T5 ?_ ?_|intro ex)<;>try conv=>whnf)
 all_goals first
  |(exfalso;omega)
  |skip
 refine A9 (ι:=Nat) (fun i=>⟨[(2,.sl 2 (dims.map A8)),(3,.i mea),(5,.ref 0 0),(6,.ref 1 0),(9,.ref 2 0),(10,.ref 3 0),(14,.i (PS (dims.take i))),(15,.i i)],4,[(0,some (.box (sL s))),(1,some (.box [.str pr,.i ver,.sl 2 (picks.map A8),.sl 1 (rows.map D2)])),(2,some (.box [.i cnd.op,.i cnd.col,.i cnd.code,.i cnd.lo,.i cnd.hi,.sl 6 (cnd.kids.map P9)])),(3,some (.box [.v (.slice none 0 0),.i 0,.v (.slice none 0 0)]))]⟩)
  (fun i=>i≤dims.length∧PS (dims.take i)≤61 ^ i) (fun i=>dims.length-i) 0 ⟨Nat.zero_le _,by rw[hp0];decide⟩
  (A7 h0 rfl ⟨rfl,rfl,rfl,rfl,rfl,rfl,congrArg (fun z:Nat=>some (AV.i (z:Int))) hp0.symm,rfl,trivial⟩ ⟨rfl,rfl,rfl,rfl,trivial⟩ rfl rfl rfl) (fun i hI=>?_)
 obtain⟨i1,i2⟩:=hI
 by_cases pg:i<dims.length
 ·obtain⟨d,rt⟩:∃d,dims[i]?=some d:=⟨_,List.getElem?_eq_getElem pg⟩
  have sk:dims[((i:Nat):Int).toNat]?=some d:=rt
  obtain⟨wM,uH⟩:=qj d (List.mem_of_getElem? rt)
  obtain⟨xc,L0,hx,mX,hd6,⟨sx,pD⟩,uX,pT,tg⟩:=Dv hr wM uH
  obtain⟨nm,cs⟩:=L0
  have nJ:=(G9 tg).2.2
  have pC:=FH nm cs d.lev (by dsimp only at nJ;omega)
  have pL:(O7 s d).length=(H1 nm cs d.lev).length+1:=by unfold O7;rw[mX,pT];simp
  have rQ:(H1 nm cs d.lev).length≤cs.length:=by unfold H1;split<;>first|exact Dp _ _ _|exact Nat.zero_le _
  dsimp only at nJ
  have mR:=uT i d rt
  rw[pL]at mR
  generalize H1 nm cs d.lev=px at *
  generalize PS (dims.take i)=z at *
  have xh:(61:Nat) ^ i≤61 ^ 2:=Nat.pow_le_pow_right (by decide) (by omega)
  have xa:z*(px.length+1)≤61 ^ i*61:=Nat.mul_le_mul i2 (by omega)
  have sC:(((z*(px.length+1):Nat)):Int)=(z:Int)*((px.length:Int)+1):=by rw[Int.natCast_mul];rfl
  have mj:0≤(z:Int)*((px.length:Int)+1)∧(z:Int)*((px.length:Int)+1)≤226981:=by rw[←sC];omega
  repeat'((first|(refine A2 (x:=d) sk (by omega) ?_)|(refine A2 (x:=xc) hx (by omega) ?_)|(refine A2 (x:=(nm,cs)) uX (by omega) ?_)|refine A0 pC ?_|(refine B0 ?_ ?_;kernel_rfl) |refine S2 ?_|(refine T6 ?_ ?_<;>intro h<;>try exact V1 h)|intro el mI mJ|intro el mI|exact T4|refine T5 ?_ ?_|intro ex)<;>try conv=>whnf)
  all_goals first
   |(exfalso;omega)
   |exact⟨i+1,⟨by omega,by rw[mR,Nat.pow_succ];exact xa⟩,by omega,A7 h0 rfl ⟨rfl,rfl,rfl,rfl,rfl,rfl,congrArg (fun z:Int=>some (AV.i z)) (by first|(rw[mR,sC];done)|(rw[mR,sC];simp;done)|(rw[mR];simp;done)),rfl,trivial⟩ ⟨rfl,rfl,rfl,rfl,trivial⟩ rfl rfl rfl⟩
 have sI:dims.take i=dims:=List.take_of_length_le (by omega)
 rw[sI,ww]
 repeat'((first|refine S2 ?_|(refine T6 ?_ ?_<;>intro h<;>try exact V1 h)|intro el mI mJ|intro el mI|exact T4|refine T5 ?_ ?_|intro ex)<;>try conv=>whnf)
 all_goals first
  |(exfalso;omega)
  |exact S8 rfl rfl rfl CP rfl (.refl _) rfl
theorem ia(s:A4)(oN:D9 s)(x:J7)(dims:List Pk)(mea:Int)(cnd:B6)(e1:K9 s x=0)(e2:L6 s (R5 dims mea cnd)=0)(e3:X5 x.picks (W4 s (e9 dims mea cnd))=true)(hE:¬2000<(G3 s dims).length)(hm:¬0≤mea):A3 Tryz.prog 17 [sA s,T8 x,.sl 2 (dims.map A8),.i mea,D5 cnd] (.tup [X8 ⟨dims,mea,(G3 s dims).map fun l=>P5 l ((e8 s x cnd (W5 mea)).map (Ay s x dims mea))⟩,.i 0]):=by
 have h1:=b8 s x
 rw[e1]at h1
 have h2:=DU s dims mea cnd
 rw[e2]at h2
 have h3:=Dk s oN dims mea cnd
 have h4:=v6 (W4 s (e9 dims mea cnd)) x.picks
 rw[e3]at h4
 obtain⟨hr,qa,nw,th⟩:=CO e2
 obtain⟨rW,po,qj⟩:=Bx nw
 have ww:=MD s dims
 have uT:=fun (k:Nat) (d:Pk) h=>@Hz s dims k d h
 have hp0:Cy s (dims.take 0)=1:=rfl
 have mf:=(D3 hr).2.1
 have h5:=GU s hr dims po qj (by omega)
 have tL:∀l∈G3 s dims,l.length=dims.length:=fun l hl=>Hw hl
 have h6:=Jg s x cnd (W5 mea)
 rw[bI oN]at h6
 obtain⟨yj,hp,nG,mV⟩:=o5 e1
 have ob:=f8 hp
 have qw:=fun i=>Nr hr th x i
 have qg:=fun (k:Nat) (r:List Int) (hk:x.rows[k]?=some r) (c l:Int)=>GR s hr x k r hk (O6 (mV k r hk)) (by omega) c l
 have pq:=fun i=>@KL s x cnd (W5 mea) i
 have yB:=KM s x cnd (W5 mea)
 have nV:=fun (k:Nat) (r:List Int) (hk:x.rows[k]?=some r)=>O6 (mV k r hk)
 have md:=L5 s mea
 generalize vM:e8 s x cnd (W5 mea)=Is at *
 have mO:∀(k:Nat) (r:List Int),x.rows[k]?=some r→∀(q:Nat) (d:Pk),dims[q]?=some d→(b6 s x dims k)[q]?=some (N6 s d.col d.lev (x.picks.zip r.tail)).1:=fun k r hk q d hd=>by unfold b6;rw[List.getElem?_map,hd,show ((k:Int)).toNat=k from rfl,D7 hk];rfl
 have og:∀i,(b6 s x dims i).length=dims.length:=fun i=>List.length_map ..
 have oP:∀(k:Nat) (r:List Int) (z:Int),x.rows[k]?=some r→r[0]?=some z→z4 x k=z:=fun k r z hk hz=>by unfold z4;rw[show ((k:Int)).toNat=k from rfl,D7 hk,O5 hz]
 have nA:∀i,Ay s x dims mea i=⟨z4 x i,Ab s x mea i,b6 s x dims i⟩:=fun _=>rfl
 have mn:∀l∈G3 s dims,A3 Tryz.prog 58 [.sl 3 ((Is.map (Ay s x dims mea)).map AQ),.sl 1 (l.map wA)] (.agg (U5 (P5 l (Is.map (Ay s x dims mea))))):=fun l hl=>OB l (Is.map (Ay s x dims mea)) (by rw[List.length_map];omega) (fun y hy=>by
  rw[List.mem_map]at hy
  obtain⟨i,_,rfl⟩:=hy
  exact qw i) (fun y hy=>by
  rw[List.mem_map]at hy
  obtain⟨i,_,rfl⟩:=hy
  have:=og i
  have:=tL l hl
  show l.length≤(b6 s x dims i).length
  omega) (by have:=tL l hl;omega)
 have rq:∀i,Ab s x mea i=0:=fun i=>if_neg hm
 have pj:W5 mea=[]:=if_neg hm
 rw[pj]at h6
 have qe:(G3 s dims).length≤2000:=by omega
 generalize Ay s x dims mea=LX at *
 generalize b6 s x dims=OX at *
 generalize z4 x=KX at *
 generalize Ab s x mea=VX at *
 generalize yV:(fun l=>P5 l (Is.map LX))=CR
 have uz:∀l,P5 l (Is.map LX)=CR l:=fun l=>by rw[←yV]
 simp only[uz]at mn
 clear e1 e2 e3 hp nw mV vM hE yV uz
 generalize G3 s dims=L at *
 obtain⟨pr,ver,picks,rows⟩:=x
 dsimp only at *
 generalize Cy s=PS at *
 refine B5 Tryz.func17 193 fun mK E h0=>?_
 clear mK
 repeat'((first|refine A0 h1 ?_|refine A0 h2 ?_|refine A0 h3 ?_|refine A0 h4 ?_|(refine E6 7 ?_;refine B0 ?_ ?_;kernel_rfl) |refine S2 ?_|(refine T6 ?_ ?_<;>intro h<;>try exact V1 h)|intro el mI mJ|intro el mI|exact T4|refine T5 ?_ ?_|intro ex)<;>try conv=>whnf)
 all_goals first
  |(exfalso;omega)
  |skip
 refine A9 (ι:=Nat) (fun i=>⟨[(2,.sl 2 (dims.map A8)),(3,.i mea),(5,.ref 0 0),(6,.ref 1 0),(9,.ref 2 0),(10,.ref 3 0),(14,.i (PS (dims.take i))),(15,.i i)],4,[(0,some (.box (sL s))),(1,some (.box [.str pr,.i ver,.sl 2 (picks.map A8),.sl 1 (rows.map D2)])),(2,some (.box [.i cnd.op,.i cnd.col,.i cnd.code,.i cnd.lo,.i cnd.hi,.sl 6 (cnd.kids.map P9)])),(3,some (.box [.v (.slice none 0 0),.i 0,.v (.slice none 0 0)]))]⟩)
  (fun i=>i≤dims.length∧PS (dims.take i)≤61 ^ i) (fun i=>dims.length-i) 0 ⟨Nat.zero_le _,by rw[hp0];decide⟩
  (A7 h0 rfl ⟨rfl,rfl,rfl,rfl,rfl,rfl,congrArg (fun z:Nat=>some (AV.i (z:Int))) hp0.symm,rfl,trivial⟩ ⟨rfl,rfl,rfl,rfl,trivial⟩ rfl rfl rfl) (fun i hI=>?_)
 obtain⟨i1,i2⟩:=hI
 by_cases pg:i<dims.length
 ·obtain⟨d,rt⟩:∃d,dims[i]?=some d:=⟨_,List.getElem?_eq_getElem pg⟩
  have sk:dims[((i:Nat):Int).toNat]?=some d:=rt
  obtain⟨wM,uH⟩:=qj d (List.mem_of_getElem? rt)
  obtain⟨xc,L0,hx,mX,hd6,⟨sx,pD⟩,uX,pT,tg⟩:=Dv hr wM uH
  obtain⟨nm,cs⟩:=L0
  have nJ:=(G9 tg).2.2
  have pC:=FH nm cs d.lev (by dsimp only at nJ;omega)
  have pL:(O7 s d).length=(H1 nm cs d.lev).length+1:=by unfold O7;rw[mX,pT];simp
  have rQ:(H1 nm cs d.lev).length≤cs.length:=by unfold H1;split<;>first|exact Dp _ _ _|exact Nat.zero_le _
  dsimp only at nJ
  have mR:=uT i d rt
  rw[pL]at mR
  generalize H1 nm cs d.lev=px at *
  generalize PS (dims.take i)=z at *
  have xh:(61:Nat) ^ i≤61 ^ 2:=Nat.pow_le_pow_right (by decide) (by omega)
  have xa:z*(px.length+1)≤61 ^ i*61:=Nat.mul_le_mul i2 (by omega)
  have sC:(((z*(px.length+1):Nat)):Int)=(z:Int)*((px.length:Int)+1):=by rw[Int.natCast_mul];rfl
  have mj:0≤(z:Int)*((px.length:Int)+1)∧(z:Int)*((px.length:Int)+1)≤226981:=by rw[←sC];omega
  repeat'((first|(refine A2 (x:=d) sk (by omega) ?_)|(refine A2 (x:=xc) hx (by omega) ?_)|(refine A2 (x:=(nm,cs)) uX (by omega) ?_)|refine A0 pC ?_|(refine B0 ?_ ?_;kernel_rfl) |refine S2 ?_|(refine T6 ?_ ?_<;>intro h<;>try exact V1 h)|intro el mI mJ|intro el mI|exact T4|refine T5 ?_ ?_|intro ex)<;>try conv=>whnf)
  all_goals first
   |(exfalso;omega)
   |exact⟨i+1,⟨by omega,by rw[mR,Nat.pow_succ];exact xa⟩,by omega,A7 h0 rfl ⟨rfl,rfl,rfl,rfl,rfl,rfl,congrArg (fun z:Int=>some (AV.i z)) (by first|(rw[mR,sC];done)|(rw[mR,sC];simp;done)|(rw[mR];simp;done)),rfl,trivial⟩ ⟨rfl,rfl,rfl,rfl,trivial⟩ rfl rfl rfl⟩
 have sI:dims.take i=dims:=List.take_of_length_le (by omega)
 rw[sI,ww]
 repeat'((first|refine QY (f:=25) 100 1 rfl ?_|refine A0 h6 ?_ |refine S2 ?_|(refine T6 ?_ ?_<;>intro h<;>try exact V1 h)|intro el mI mJ|intro el mI|exact T4|refine T5 ?_ ?_|intro ex)<;>try conv=>whnf)
 all_goals first
  |(exfalso;omega)
  |skip
 refine A9 (ι:=Nat) (fun k=>⟨[(2,.sl 2 (dims.map A8)),(3,.i mea),(5,.iptr (sL s)),(6,.iptr [.str pr,.i ver,.sl 2 (picks.map A8),.sl 1 (rows.map D2)]),(10,.ref 3 0),(16,.ref 4 0),(18,.sl 1 (Is.map wA)),(19,.row 5 0 k),(20,.i k)],6,[(3,some (.box [.v (.slice none 0 0),.i 0,.v (.slice none 0 0)])),(4,some (.box [.sl 2 (dims.map A8),.i mea,.v (.slice none 0 0)])),(5,some (.row DV 3 0 (((Is.take k).map LX).map AQ)))]⟩)
  (fun k=>k≤Is.length) (fun k=>Is.length-k) 0 (Nat.zero_le _)
  (B9 (H7 (d:=19) (e:=DV) (sz:=3) rfl) (A6 h0)) (fun k hK=>?_)
 clear sI i1 i2 pg
 by_cases mT:k<Is.length
 ·obtain⟨i,hi⟩:∃i,Is[k]?=some i:=⟨_,List.getElem?_eq_getElem mT⟩
  have nO:Is[((k:Nat):Int).toNat]?=some i:=hi
  obtain⟨j,row,qq,mU⟩:=pq i (List.mem_of_getElem? hi)
  have ql:=nV j row mU
  obtain⟨key,ny⟩:∃z,row[0]?=some z:=⟨_,List.getElem?_eq_getElem (by omega)⟩
  have sP:=oP j row key mU ny
  have pF:=qg j row mU
  have sq:=mO j row mU
  have pL:=og i
  have uZ:=nA i
  have qh:=rq i
  rw[←qq]at sP sq pF
  have pZ:rows[i.toNat]?=some row:=by rw[qq];exact mU
  have su:=F0 mU
  have yt:0≤i∧i<rows.length:=by omega
  rw[sP]at uZ
  have pM:(Is.take (k+1)).map LX=(Is.take k).map LX++[LX i]:=by rw[E7 hi,List.map_append];rfl
  have qV:((Is.take k).map LX).length=k:=by rw[List.length_map,List.length_take];omega
  generalize OX i=O at *
  generalize VX i=v at *
  subst qh
  rw[uZ]at pM
  generalize (Is.take k).map LX=A at *
  clear mO oP qg pq nV qw nA rq
  repeat'((first|(refine F3 (id:=25) ⟨[(2,.sl 2 (dims.map A8)),(3,.i mea),(5,.iptr (sL s)),(6,.iptr [.str pr,.i ver,.sl 2 (picks.map A8),.sl 1 (rows.map D2)]),(10,.ref 3 0),(16,.ref 4 0),(18,.sl 1 (Is.map wA)),(19,.row 5 0 k),(20,.i k),(21,.ref 6 0)],7,[(3,some (.box [.v (.slice none 0 0),.i 0,.v (.slice none 0 0)])),(4,some (.box [.sl 2 (dims.map A8),.i mea,.v (.slice none 0 0)])),(5,some (.row DV 3 0 (A.map AQ))),(6,some (.box [.i key,.i 0,.v (.slice none 0 0)]))]⟩ ?_ ?_)|(refine A2 (x:=i) nO (by omega) ?_)|(refine A2 (x:=row) pZ (by omega) ?_)|(refine A2 (x:=key) ny (by omega) ?_) |refine S2 ?_|(refine T6 ?_ ?_<;>intro h<;>try exact V1 h)|intro el mI mJ|intro el mI|exact T4|refine T5 ?_ ?_|intro ex)<;>try conv=>whnf)
  all_goals first
   |(exfalso;omega)
   |exact A7 h0 rfl ⟨rfl,rfl,rfl,rfl,rfl,rfl,rfl,rfl,rfl,rfl,trivial⟩ ⟨rfl,rfl,⟨_,rfl⟩,rfl,trivial⟩ rfl rfl rfl
   |skip
  refine A9 (ι:=Nat) (fun q=>⟨[(2,.sl 2 (dims.map A8)),(3,.i mea),(5,.iptr (sL s)),(6,.iptr [.str pr,.i ver,.sl 2 (picks.map A8),.sl 1 (rows.map D2)]),(10,.ref 3 0),(16,.ref 4 0),(18,.sl 1 (Is.map wA)),(19,.row 5 0 k),(20,.i k),(21,.ref 6 0),(22,.i q)],8,[(3,some (.box [.v (.slice none 0 0),.i 0,.v (.slice none 0 0)])),(4,some (.box [.sl 2 (dims.map A8),.i mea,.v (.slice none 0 0)])),(5,some (.row DV 3 0 (A.map AQ))),(6,some (.box [.i key,.i 0,.row 7 0 q])),(7,some (.row 3 1 0 ((O.take q).map wA)))]⟩)
   (fun q=>q≤dims.length) (fun q=>dims.length-q) 0 (Nat.zero_le _)
   (B9 (w6 6 2 (e:=3) (sz:=1) rfl rfl) (A6 h0)) (fun q hq=>?_)
  by_cases qo:q<dims.length
  ·obtain⟨d,hd⟩:∃d,dims[q]?=some d:=⟨_,List.getElem?_eq_getElem qo⟩
   have ux:dims[((q:Nat):Int).toNat]?=some d:=hd
   have hc:=pF d.col d.lev
   have hO:=sq q d hd
   have hoq:(O.take q).length=q:=by rw[List.length_take];omega
   generalize N6 s d.col d.lev (picks.zip row.tail)=Z at *
   obtain⟨z,ok⟩:=Z
   dsimp only at *
   have nC:(O.take (q+1)).map wA=(O.take q).map wA++[[.i z]]:=by rw[E7 hO,List.map_append];rfl
   repeat'((first|(refine A2 (x:=d) ux (by omega) ?_)|(refine A2 (x:=i) nO (by omega) ?_)|refine A0 hc ?_|(refine B0 ?_ ?_;kernel_rfl) |refine S2 ?_|(refine T6 ?_ ?_<;>intro h<;>try exact V1 h)|intro el mI mJ|intro el mI|exact T4|refine T5 ?_ ?_|intro ex)<;>try conv=>whnf)
   all_goals first
    |(exfalso;omega)
    |exact⟨q+1,by omega,by omega,A7 h0 rfl ⟨rfl,rfl,rfl,rfl,rfl,rfl,rfl,rfl,rfl,rfl,rfl,trivial⟩ ⟨rfl,rfl,⟨_,rfl⟩,rfl,⟨_,congrArg (C4.row 3 1 _) nC⟩,trivial⟩ rfl rfl rfl⟩
  have tN:q=dims.length:=by omega
  subst tN
  rw[List.take_of_length_le (by omega:O.length≤dims.length)]
  refine P1 (A7 (σ':=⟨[(2,.sl 2 (dims.map A8)),(3,.i mea),(5,.iptr (sL s)),(6,.iptr [.str pr,.i ver,.sl 2 (picks.map A8),.sl 1 (rows.map D2)]),(10,.ref 3 0),(16,.ref 4 0),(18,.sl 1 (Is.map wA)),(19,.row 5 0 k),(20,.i k),(21,.ref 6 0),(22,.i dims.length)],7,[(3,some (.box [.v (.slice none 0 0),.i 0,.v (.slice none 0 0)])),(4,some (.box [.sl 2 (dims.map A8),.i mea,.v (.slice none 0 0)])),(5,some (.row DV 3 0 (A.map AQ))),(6,some (.box [.i key,.i 0,.sl 1 (O.map wA)]))]⟩) h0 rfl ⟨rfl,rfl,rfl,rfl,rfl,rfl,rfl,rfl,rfl,rfl,rfl,trivial⟩ ⟨rfl,rfl,⟨_,rfl⟩,rfl,trivial⟩ rfl rfl rfl) ?_
  repeat'((first|refine S2 ?_|(refine T6 ?_ ?_<;>intro h<;>try exact V1 h)|intro el mI mJ|intro el mI|exact T4|refine T5 ?_ ?_|intro ex)<;>try conv=>whnf)
  all_goals first
   |(exfalso;omega)
   |exact A7 h0 rfl ⟨rfl,rfl,rfl,rfl,rfl,rfl,rfl,rfl,rfl,rfl,trivial⟩ ⟨rfl,rfl,⟨_,rfl⟩,rfl,trivial⟩ rfl rfl rfl
   |exact⟨k+1,by omega,by omega,A7 h0 rfl ⟨rfl,rfl,rfl,rfl,rfl,rfl,rfl,rfl,rfl,trivial⟩ ⟨rfl,rfl,⟨_,congrArg (C4.row DV 3 _) (by rw[pM,List.map_append];rfl)⟩,trivial⟩ rfl rfl rfl⟩
 have nu:Is.take k=Is:=List.take_of_length_le (by omega)
 have nP:k=Is.length:=by omega
 rw[nu]
 subst nP
 clear nu hK mT qg mO oP pq nV rq qw nA
 generalize Is.map LX=LN at *
 refine P1 (A7 (σ':=⟨[(2,.sl 2 (dims.map A8)),(5,.iptr (sL s)),(10,.ref 3 0),(16,.ref 4 0),(18,.sl 1 (Is.map wA)),(19,.sl 3 (LN.map AQ)),(20,.i Is.length)],5,[(3,some (.box [.v (.slice none 0 0),.i 0,.v (.slice none 0 0)])),(4,some (.box [.sl 2 (dims.map A8),.i mea,.v (.slice none 0 0)]))]⟩) h0 rfl ⟨rfl,rfl,rfl,rfl,rfl,rfl,rfl,trivial⟩ ⟨rfl,rfl,trivial⟩ rfl rfl rfl) ?_
 repeat'((first|refine A0 h5 ?_ |refine S2 ?_|(refine T6 ?_ ?_<;>intro h<;>try exact V1 h)|intro el mI mJ|intro el mI|exact T4|refine T5 ?_ ?_|intro ex)<;>try conv=>whnf)
 all_goals first
  |(exfalso;omega)
  |skip
 refine A9 (ι:=Nat) (fun k=>⟨[(10,.ref 3 0),(16,.ref 4 0),(19,.sl 3 (LN.map AQ)),(25,.sl 1 (L.map D2)),(26,.i k)],6,[(3,some (.box [.v (.slice none 0 0),.i 0,.v (.slice none 0 0)])),(4,some (.box [.sl 2 (dims.map A8),.i mea,.row 5 0 k])),(5,some (.row R8 7 0 (((L.take k).map CR).map U5)))]⟩)
  (fun k=>k≤L.length) (fun k=>L.length-k) 0 (Nat.zero_le _)
  (B9 (w6 4 2 (e:=R8) (sz:=7) rfl rfl) (A6 h0)) (fun k hK=>?_)
 by_cases mT:k<L.length
 ·obtain⟨l,hl⟩:∃l,L[k]?=some l:=⟨_,List.getElem?_eq_getElem mT⟩
  have mt:L[((k:Nat):Int).toNat]?=some l:=hl
  have oy:=mn l (List.mem_of_getElem? hl)
  have pM:(L.take (k+1)).map CR=(L.take k).map CR++[CR l]:=by rw[E7 hl,List.map_append];rfl
  have qV:((L.take k).map CR).length=k:=by rw[List.length_map,List.length_take];omega
  generalize (L.take k).map CR=A at *
  repeat'((first|(refine F3 (id:=38) ⟨[(10,.ref 3 0),(16,.ref 4 0),(19,.sl 3 (LN.map AQ)),(25,.sl 1 (L.map D2)),(26,.i k)],6,[(3,some (.box [.v (.slice none 0 0),.i 0,.v (.slice none 0 0)])),(4,some (.box [.sl 2 (dims.map A8),.i mea,.row 5 0 (k+1)])),(5,some (.row R8 7 0 ((A++[CR l]).map U5)))]⟩ ?_ ?_)|(refine A2 (x:=l) mt (by omega) ?_)|refine A0 oy ?_ |refine S2 ?_|(refine T6 ?_ ?_<;>intro h<;>try exact V1 h)|intro el mI mJ|intro el mI|exact T4|refine T5 ?_ ?_|intro ex)<;>try conv=>whnf)
  all_goals first
   |(exfalso;omega)
   |exact A7 h0 rfl ⟨rfl,rfl,rfl,rfl,rfl,trivial⟩ ⟨rfl,rfl,⟨_,congrArg (C4.row R8 7 _) (by rw[List.map_append];rfl)⟩,trivial⟩ rfl rfl rfl
   |exact⟨k+1,by omega,by omega,A7 h0 rfl ⟨rfl,rfl,rfl,rfl,rfl,trivial⟩ ⟨rfl,rfl,⟨_,congrArg (C4.row R8 7 _) (by rw[pM])⟩,trivial⟩ rfl rfl rfl⟩
 have nu:L.take k=L:=List.take_of_length_le (by omega)
 have nP:k=L.length:=by omega
 rw[nu]
 subst nP
 refine P1 (B9 (A7 (σ':=⟨[(10,.ref 3 0),(16,.ref 4 0),(25,.sl 1 (L.map D2)),(26,.i L.length)],5,[(3,some (.box [.v (.slice none 0 0),.i 0,.v (.slice none 0 0)])),(4,some (.box [.sl 2 (dims.map A8),.i mea,.sl 7 ((L.map CR).map U5)]))]⟩) h0 rfl ⟨rfl,rfl,rfl,rfl,trivial⟩ ⟨rfl,rfl,trivial⟩ rfl rfl rfl) (A7 (σ':=⟨[(10,.ref 3 0),(16,.iptr [.sl 2 (dims.map A8),.i mea,.sl 7 ((L.map CR).map U5)]),(25,.sl 1 (L.map D2)),(26,.i L.length)],4,[(3,some (.box [.v (.slice none 0 0),.i 0,.v (.slice none 0 0)]))]⟩) h0 rfl ⟨rfl,rfl,rfl,rfl,trivial⟩ ⟨rfl,trivial⟩ rfl rfl rfl)) ?_
 repeat'((first|refine S2 ?_|(refine T6 ?_ ?_<;>intro h<;>try exact V1 h)|intro el mI mJ|intro el mI|exact T4|refine T5 ?_ ?_|intro ex)<;>try conv=>whnf)
 all_goals first
  |(exfalso;omega)
  |exact S8 rfl rfl rfl (.refl _) rfl (.refl _) rfl
theorem ib(s:A4)(oN:D9 s)(x:J7)(dims:List Pk)(mea:Int)(cnd:B6)(e1:K9 s x=0)(e2:L6 s (R5 dims mea cnd)=0)(e3:X5 x.picks (W4 s (e9 dims mea cnd))=true)(hE:¬2000<(G3 s dims).length)(hm:0≤mea):A3 Tryz.prog 17 [sA s,T8 x,.sl 2 (dims.map A8),.i mea,D5 cnd] (.tup [X8 ⟨dims,mea,(G3 s dims).map fun l=>P5 l ((e8 s x cnd (W5 mea)).map (Ay s x dims mea))⟩,.i 0]):=by
 have h1:=b8 s x
 rw[e1]at h1
 have h2:=DU s dims mea cnd
 rw[e2]at h2
 have h3:=Dk s oN dims mea cnd
 have h4:=v6 (W4 s (e9 dims mea cnd)) x.picks
 rw[e3]at h4
 obtain⟨hr,qa,nw,th⟩:=CO e2
 obtain⟨rW,po,qj⟩:=Bx nw
 have ww:=MD s dims
 have uT:=fun (k:Nat) (d:Pk) h=>@Hz s dims k d h
 have hp0:Cy s (dims.take 0)=1:=rfl
 have mf:=(D3 hr).2.1
 have h5:=GU s hr dims po qj (by omega)
 have tL:∀l∈G3 s dims,l.length=dims.length:=fun l hl=>Hw hl
 have h6:=Jg s x cnd (W5 mea)
 rw[bI oN]at h6
 obtain⟨yj,hp,nG,mV⟩:=o5 e1
 have ob:=f8 hp
 have qw:=fun i=>Nr hr th x i
 have qg:=fun (k:Nat) (r:List Int) (hk:x.rows[k]?=some r) (c l:Int)=>GR s hr x k r hk (O6 (mV k r hk)) (by omega) c l
 have pq:=fun i=>@KL s x cnd (W5 mea) i
 have yB:=KM s x cnd (W5 mea)
 have nV:=fun (k:Nat) (r:List Int) (hk:x.rows[k]?=some r)=>O6 (mV k r hk)
 have md:=L5 s mea
 generalize vM:e8 s x cnd (W5 mea)=Is at *
 have mO:∀(k:Nat) (r:List Int),x.rows[k]?=some r→∀(q:Nat) (d:Pk),dims[q]?=some d→(b6 s x dims k)[q]?=some (N6 s d.col d.lev (x.picks.zip r.tail)).1:=fun k r hk q d hd=>by unfold b6;rw[List.getElem?_map,hd,show ((k:Int)).toNat=k from rfl,D7 hk];rfl
 have og:∀i,(b6 s x dims i).length=dims.length:=fun i=>List.length_map ..
 have oP:∀(k:Nat) (r:List Int) (z:Int),x.rows[k]?=some r→r[0]?=some z→z4 x k=z:=fun k r z hk hz=>by unfold z4;rw[show ((k:Int)).toNat=k from rfl,D7 hk,O5 hz]
 have nA:∀i,Ay s x dims mea i=⟨z4 x i,Ab s x mea i,b6 s x dims i⟩:=fun _=>rfl
 have mn:∀l∈G3 s dims,A3 Tryz.prog 58 [.sl 3 ((Is.map (Ay s x dims mea)).map AQ),.sl 1 (l.map wA)] (.agg (U5 (P5 l (Is.map (Ay s x dims mea))))):=fun l hl=>OB l (Is.map (Ay s x dims mea)) (by rw[List.length_map];omega) (fun y hy=>by
  rw[List.mem_map]at hy
  obtain⟨i,_,rfl⟩:=hy
  exact qw i) (fun y hy=>by
  rw[List.mem_map]at hy
  obtain⟨i,_,rfl⟩:=hy
  have:=og i
  have:=tL l hl
  show l.length≤(b6 s x dims i).length
  omega) (by have:=tL l hl;omega)
 have rq:∀(k:Nat) (r:List Int),x.rows[k]?=some r→Ab s x mea k=(N6 s mea (B4 s mea) (x.picks.zip r.tail)).1:=fun k r hk=>by unfold Ab JR;rw[if_pos hm,show ((k:Int)).toNat=k from rfl,D7 hk]
 have pj:W5 mea=[mea]:=if_pos hm
 rw[pj]at h6
 have qe:(G3 s dims).length≤2000:=by omega
 generalize Ay s x dims mea=LX at *
 generalize b6 s x dims=OX at *
 generalize z4 x=KX at *
 generalize Ab s x mea=VX at *
 generalize yV:(fun l=>P5 l (Is.map LX))=CR
 have uz:∀l,P5 l (Is.map LX)=CR l:=fun l=>by rw[←yV]
 simp only[uz]at mn
 clear e1 e2 e3 hp nw mV vM hE yV uz
 generalize G3 s dims=L at *
 obtain⟨pr,ver,picks,rows⟩:=x
 dsimp only at *
 generalize Cy s=PS at *
 refine B5 Tryz.func17 193 fun mK E h0=>?_
 clear mK
 repeat'((first|refine A0 h1 ?_|refine A0 h2 ?_|refine A0 h3 ?_|refine A0 h4 ?_|(refine E6 7 ?_;refine B0 ?_ ?_;kernel_rfl) |refine S2 ?_|(refine T6 ?_ ?_<;>intro h<;>try exact V1 h)|intro el mI mJ|intro el mI|exact T4|refine T5 ?_ ?_|intro ex)<;>try conv=>whnf)
 all_goals first
  |(exfalso;omega)
  |skip
 refine A9 (ι:=Nat) (fun i=>⟨[(2,.sl 2 (dims.map A8)),(3,.i mea),(5,.ref 0 0),(6,.ref 1 0),(9,.ref 2 0),(10,.ref 3 0),(14,.i (PS (dims.take i))),(15,.i i)],4,[(0,some (.box (sL s))),(1,some (.box [.str pr,.i ver,.sl 2 (picks.map A8),.sl 1 (rows.map D2)])),(2,some (.box [.i cnd.op,.i cnd.col,.i cnd.code,.i cnd.lo,.i cnd.hi,.sl 6 (cnd.kids.map P9)])),(3,some (.box [.v (.slice none 0 0),.i 0,.v (.slice none 0 0)]))]⟩)
  (fun i=>i≤dims.length∧PS (dims.take i)≤61 ^ i) (fun i=>dims.length-i) 0 ⟨Nat.zero_le _,by rw[hp0];decide⟩
  (A7 h0 rfl ⟨rfl,rfl,rfl,rfl,rfl,rfl,congrArg (fun z:Nat=>some (AV.i (z:Int))) hp0.symm,rfl,trivial⟩ ⟨rfl,rfl,rfl,rfl,trivial⟩ rfl rfl rfl) (fun i hI=>?_)
 obtain⟨i1,i2⟩:=hI
 by_cases pg:i<dims.length
 ·obtain⟨d,rt⟩:∃d,dims[i]?=some d:=⟨_,List.getElem?_eq_getElem pg⟩
  have sk:dims[((i:Nat):Int).toNat]?=some d:=rt
  obtain⟨wM,uH⟩:=qj d (List.mem_of_getElem? rt)
  obtain⟨xc,L0,hx,mX,hd6,⟨sx,pD⟩,uX,pT,tg⟩:=Dv hr wM uH
  obtain⟨nm,cs⟩:=L0
  have nJ:=(G9 tg).2.2
  have pC:=FH nm cs d.lev (by dsimp only at nJ;omega)
  have pL:(O7 s d).length=(H1 nm cs d.lev).length+1:=by unfold O7;rw[mX,pT];simp
  have rQ:(H1 nm cs d.lev).length≤cs.length:=by unfold H1;split<;>first|exact Dp _ _ _|exact Nat.zero_le _
  dsimp only at nJ
  have mR:=uT i d rt
  rw[pL]at mR
  generalize H1 nm cs d.lev=px at *
  generalize PS (dims.take i)=z at *
  have xh:(61:Nat) ^ i≤61 ^ 2:=Nat.pow_le_pow_right (by decide) (by omega)
  have xa:z*(px.length+1)≤61 ^ i*61:=Nat.mul_le_mul i2 (by omega)
  have sC:(((z*(px.length+1):Nat)):Int)=(z:Int)*((px.length:Int)+1):=by rw[Int.natCast_mul];rfl
  have mj:0≤(z:Int)*((px.length:Int)+1)∧(z:Int)*((px.length:Int)+1)≤226981:=by rw[←sC];omega
  repeat'((first|(refine A2 (x:=d) sk (by omega) ?_)|(refine A2 (x:=xc) hx (by omega) ?_)|(refine A2 (x:=(nm,cs)) uX (by omega) ?_)|refine A0 pC ?_|(refine B0 ?_ ?_;kernel_rfl) |refine S2 ?_|(refine T6 ?_ ?_<;>intro h<;>try exact V1 h)|intro el mI mJ|intro el mI|exact T4|refine T5 ?_ ?_|intro ex)<;>try conv=>whnf)
  all_goals first
   |(exfalso;omega)
   |exact⟨i+1,⟨by omega,by rw[mR,Nat.pow_succ];exact xa⟩,by omega,A7 h0 rfl ⟨rfl,rfl,rfl,rfl,rfl,rfl,congrArg (fun z:Int=>some (AV.i z)) (by first|(rw[mR,sC];done)|(rw[mR,sC];simp;done)|(rw[mR];simp;done)),rfl,trivial⟩ ⟨rfl,rfl,rfl,rfl,trivial⟩ rfl rfl rfl⟩
 have sI:dims.take i=dims:=List.take_of_length_le (by omega)
 rw[sI,ww]
 repeat'((first|refine A0 h6 ?_|refine I4 5 ?_ |refine S2 ?_|(refine T6 ?_ ?_<;>intro h<;>try exact V1 h)|intro el mI mJ|intro el mI|exact T4|refine T5 ?_ ?_|intro ex)<;>try conv=>whnf)
 all_goals first
  |(exfalso;omega)
  |skip
 refine A9 (ι:=Nat) (fun k=>⟨[(2,.sl 2 (dims.map A8)),(3,.i mea),(5,.iptr (sL s)),(6,.iptr [.str pr,.i ver,.sl 2 (picks.map A8),.sl 1 (rows.map D2)]),(10,.ref 3 0),(16,.ref 4 0),(18,.sl 1 (Is.map wA)),(19,.row 6 0 k),(20,.i k)],7,[(3,some (.box [.v (.slice none 0 0),.i 0,.v (.slice none 0 0)])),(4,some (.box [.sl 2 (dims.map A8),.i mea,.v (.slice none 0 0)])),(6,some (.row DV 3 0 (((Is.take k).map LX).map AQ)))]⟩)
  (fun k=>k≤Is.length) (fun k=>Is.length-k) 0 (Nat.zero_le _)
  (B9 (H7 (d:=19) (e:=DV) (sz:=3) rfl) (A6 h0)) (fun k hK=>?_)
 clear sI i1 i2 pg
 by_cases mT:k<Is.length
 ·obtain⟨i,hi⟩:∃i,Is[k]?=some i:=⟨_,List.getElem?_eq_getElem mT⟩
  have nO:Is[((k:Nat):Int).toNat]?=some i:=hi
  obtain⟨j,row,qq,mU⟩:=pq i (List.mem_of_getElem? hi)
  have ql:=nV j row mU
  obtain⟨key,ny⟩:∃z,row[0]?=some z:=⟨_,List.getElem?_eq_getElem (by omega)⟩
  have sP:=oP j row key mU ny
  have pF:=qg j row mU
  have sq:=mO j row mU
  have pL:=og i
  have uZ:=nA i
  have qh:=rq j row mU
  rw[←qq]at sP sq pF qh
  have pZ:rows[i.toNat]?=some row:=by rw[qq];exact mU
  have su:=F0 mU
  have yt:0≤i∧i<rows.length:=by omega
  rw[sP]at uZ
  have pM:(Is.take (k+1)).map LX=(Is.take k).map LX++[LX i]:=by rw[E7 hi,List.map_append];rfl
  have qV:((Is.take k).map LX).length=k:=by rw[List.length_map,List.length_take];omega
  generalize OX i=O at *
  generalize VX i=v at *
  rw[uZ]at pM
  generalize (Is.take k).map LX=A at *
  clear mO oP qg pq nV qw nA rq
  repeat'((first|(refine F3 (id:=25) ⟨[(2,.sl 2 (dims.map A8)),(3,.i mea),(5,.iptr (sL s)),(6,.iptr [.str pr,.i ver,.sl 2 (picks.map A8),.sl 1 (rows.map D2)]),(10,.ref 3 0),(16,.ref 4 0),(18,.sl 1 (Is.map wA)),(19,.row 6 0 k),(20,.i k),(21,.ref 7 0)],8,[(3,some (.box [.v (.slice none 0 0),.i 0,.v (.slice none 0 0)])),(4,some (.box [.sl 2 (dims.map A8),.i mea,.v (.slice none 0 0)])),(6,some (.row DV 3 0 (A.map AQ))),(7,some (.box [.i key,.i 0,.v (.slice none 0 0)]))]⟩ ?_ ?_)|(refine A2 (x:=i) nO (by omega) ?_)|(refine A2 (x:=row) pZ (by omega) ?_)|(refine A2 (x:=key) ny (by omega) ?_) |refine S2 ?_|(refine T6 ?_ ?_<;>intro h<;>try exact V1 h)|intro el mI mJ|intro el mI|exact T4|refine T5 ?_ ?_|intro ex)<;>try conv=>whnf)
  all_goals first
   |(exfalso;omega)
   |exact A7 h0 rfl ⟨rfl,rfl,rfl,rfl,rfl,rfl,rfl,rfl,rfl,rfl,trivial⟩ ⟨rfl,rfl,⟨_,rfl⟩,rfl,trivial⟩ rfl rfl rfl
   |skip
  refine A9 (ι:=Nat) (fun q=>⟨[(2,.sl 2 (dims.map A8)),(3,.i mea),(5,.iptr (sL s)),(6,.iptr [.str pr,.i ver,.sl 2 (picks.map A8),.sl 1 (rows.map D2)]),(10,.ref 3 0),(16,.ref 4 0),(18,.sl 1 (Is.map wA)),(19,.row 6 0 k),(20,.i k),(21,.ref 7 0),(22,.i q)],9,[(3,some (.box [.v (.slice none 0 0),.i 0,.v (.slice none 0 0)])),(4,some (.box [.sl 2 (dims.map A8),.i mea,.v (.slice none 0 0)])),(6,some (.row DV 3 0 (A.map AQ))),(7,some (.box [.i key,.i 0,.row 8 0 q])),(8,some (.row 3 1 0 ((O.take q).map wA)))]⟩)
   (fun q=>q≤dims.length) (fun q=>dims.length-q) 0 (Nat.zero_le _)
   (B9 (w6 7 2 (e:=3) (sz:=1) rfl rfl) (A6 h0)) (fun q hq=>?_)
  by_cases qo:q<dims.length
  ·obtain⟨d,hd⟩:∃d,dims[q]?=some d:=⟨_,List.getElem?_eq_getElem qo⟩
   have ux:dims[((q:Nat):Int).toNat]?=some d:=hd
   have hc:=pF d.col d.lev
   have hO:=sq q d hd
   have hoq:(O.take q).length=q:=by rw[List.length_take];omega
   generalize N6 s d.col d.lev (picks.zip row.tail)=Z at *
   obtain⟨z,ok⟩:=Z
   dsimp only at *
   have nC:(O.take (q+1)).map wA=(O.take q).map wA++[[.i z]]:=by rw[E7 hO,List.map_append];rfl
   repeat'((first|(refine A2 (x:=d) ux (by omega) ?_)|(refine A2 (x:=i) nO (by omega) ?_)|refine A0 hc ?_|(refine B0 ?_ ?_;kernel_rfl) |refine S2 ?_|(refine T6 ?_ ?_<;>intro h<;>try exact V1 h)|intro el mI mJ|intro el mI|exact T4|refine T5 ?_ ?_|intro ex)<;>try conv=>whnf)
   all_goals first
    |(exfalso;omega)
    |exact⟨q+1,by omega,by omega,A7 h0 rfl ⟨rfl,rfl,rfl,rfl,rfl,rfl,rfl,rfl,rfl,rfl,rfl,trivial⟩ ⟨rfl,rfl,⟨_,rfl⟩,rfl,⟨_,congrArg (C4.row 3 1 _) nC⟩,trivial⟩ rfl rfl rfl⟩
  have tN:q=dims.length:=by omega
  subst tN
  rw[List.take_of_length_le (by omega:O.length≤dims.length)]
  refine P1 (A7 (σ':=⟨[(2,.sl 2 (dims.map A8)),(3,.i mea),(5,.iptr (sL s)),(6,.iptr [.str pr,.i ver,.sl 2 (picks.map A8),.sl 1 (rows.map D2)]),(10,.ref 3 0),(16,.ref 4 0),(18,.sl 1 (Is.map wA)),(19,.row 6 0 k),(20,.i k),(21,.ref 7 0),(22,.i dims.length)],8,[(3,some (.box [.v (.slice none 0 0),.i 0,.v (.slice none 0 0)])),(4,some (.box [.sl 2 (dims.map A8),.i mea,.v (.slice none 0 0)])),(6,some (.row DV 3 0 (A.map AQ))),(7,some (.box [.i key,.i 0,.sl 1 (O.map wA)]))]⟩) h0 rfl ⟨rfl,rfl,rfl,rfl,rfl,rfl,rfl,rfl,rfl,rfl,rfl,trivial⟩ ⟨rfl,rfl,⟨_,rfl⟩,rfl,trivial⟩ rfl rfl rfl) ?_
  have uv:=pF mea (B4 s mea)
  generalize N6 s mea (B4 s mea) (picks.zip row.tail)=Z at *
  obtain⟨z,ok⟩:=Z
  dsimp only at *
  subst qh
  repeat'((first|(refine F3 (id:=32) ⟨[(2,.sl 2 (dims.map A8)),(3,.i mea),(5,.iptr (sL s)),(6,.iptr [.str pr,.i ver,.sl 2 (picks.map A8),.sl 1 (rows.map D2)]),(10,.ref 3 0),(16,.ref 4 0),(18,.sl 1 (Is.map wA)),(19,.row 6 0 k),(20,.i k),(21,.ref 7 0)],8,[(3,some (.box [.v (.slice none 0 0),.i 0,.v (.slice none 0 0)])),(4,some (.box [.sl 2 (dims.map A8),.i mea,.v (.slice none 0 0)])),(6,some (.row DV 3 0 (A.map AQ))),(7,some (.box [.i key,.i v,.sl 1 (O.map wA)]))]⟩ ?_ ?_)|(refine A2 (x:=i) nO (by omega) ?_)|refine A0 md ?_|refine A0 uv ?_ |refine S2 ?_|(refine T6 ?_ ?_<;>intro h<;>try exact V1 h)|intro el mI mJ|intro el mI|exact T4|refine T5 ?_ ?_|intro ex)<;>try conv=>whnf)
  all_goals first
   |(exfalso;omega)
   |exact A7 h0 rfl ⟨rfl,rfl,rfl,rfl,rfl,rfl,rfl,rfl,rfl,rfl,trivial⟩ ⟨rfl,rfl,⟨_,rfl⟩,rfl,trivial⟩ rfl rfl rfl
   |exact⟨k+1,by omega,by omega,A7 h0 rfl ⟨rfl,rfl,rfl,rfl,rfl,rfl,rfl,rfl,rfl,trivial⟩ ⟨rfl,rfl,⟨_,congrArg (C4.row DV 3 _) (by rw[pM,List.map_append];rfl)⟩,trivial⟩ rfl rfl rfl⟩
 have nu:Is.take k=Is:=List.take_of_length_le (by omega)
 have nP:k=Is.length:=by omega
 rw[nu]
 subst nP
 clear nu hK mT qg mO oP pq nV rq qw nA
 generalize Is.map LX=LN at *
 refine P1 (A7 (σ':=⟨[(2,.sl 2 (dims.map A8)),(5,.iptr (sL s)),(10,.ref 3 0),(16,.ref 4 0),(18,.sl 1 (Is.map wA)),(19,.sl 3 (LN.map AQ)),(20,.i Is.length)],5,[(3,some (.box [.v (.slice none 0 0),.i 0,.v (.slice none 0 0)])),(4,some (.box [.sl 2 (dims.map A8),.i mea,.v (.slice none 0 0)]))]⟩) h0 rfl ⟨rfl,rfl,rfl,rfl,rfl,rfl,rfl,trivial⟩ ⟨rfl,rfl,trivial⟩ rfl rfl rfl) ?_
 repeat'((first|refine A0 h5 ?_ |refine S2 ?_|(refine T6 ?_ ?_<;>intro h<;>try exact V1 h)|intro el mI mJ|intro el mI|exact T4|refine T5 ?_ ?_|intro ex)<;>try conv=>whnf)
 all_goals first
  |(exfalso;omega)
  |skip
 refine A9 (ι:=Nat) (fun k=>⟨[(10,.ref 3 0),(16,.ref 4 0),(19,.sl 3 (LN.map AQ)),(25,.sl 1 (L.map D2)),(26,.i k)],6,[(3,some (.box [.v (.slice none 0 0),.i 0,.v (.slice none 0 0)])),(4,some (.box [.sl 2 (dims.map A8),.i mea,.row 5 0 k])),(5,some (.row R8 7 0 (((L.take k).map CR).map U5)))]⟩)
  (fun k=>k≤L.length) (fun k=>L.length-k) 0 (Nat.zero_le _)
  (B9 (w6 4 2 (e:=R8) (sz:=7) rfl rfl) (A6 h0)) (fun k hK=>?_)
 by_cases mT:k<L.length
 ·obtain⟨l,hl⟩:∃l,L[k]?=some l:=⟨_,List.getElem?_eq_getElem mT⟩
  have mt:L[((k:Nat):Int).toNat]?=some l:=hl
  have oy:=mn l (List.mem_of_getElem? hl)
  have pM:(L.take (k+1)).map CR=(L.take k).map CR++[CR l]:=by rw[E7 hl,List.map_append];rfl
  have qV:((L.take k).map CR).length=k:=by rw[List.length_map,List.length_take];omega
  generalize (L.take k).map CR=A at *
  repeat'((first|(refine F3 (id:=38) ⟨[(10,.ref 3 0),(16,.ref 4 0),(19,.sl 3 (LN.map AQ)),(25,.sl 1 (L.map D2)),(26,.i k)],6,[(3,some (.box [.v (.slice none 0 0),.i 0,.v (.slice none 0 0)])),(4,some (.box [.sl 2 (dims.map A8),.i mea,.row 5 0 (k+1)])),(5,some (.row R8 7 0 ((A++[CR l]).map U5)))]⟩ ?_ ?_)|(refine A2 (x:=l) mt (by omega) ?_)|refine A0 oy ?_ |refine S2 ?_|(refine T6 ?_ ?_<;>intro h<;>try exact V1 h)|intro el mI mJ|intro el mI|exact T4|refine T5 ?_ ?_|intro ex)<;>try conv=>whnf)
  all_goals first
   |(exfalso;omega)
   |exact A7 h0 rfl ⟨rfl,rfl,rfl,rfl,rfl,trivial⟩ ⟨rfl,rfl,⟨_,congrArg (C4.row R8 7 _) (by rw[List.map_append];rfl)⟩,trivial⟩ rfl rfl rfl
   |exact⟨k+1,by omega,by omega,A7 h0 rfl ⟨rfl,rfl,rfl,rfl,rfl,trivial⟩ ⟨rfl,rfl,⟨_,congrArg (C4.row R8 7 _) (by rw[pM])⟩,trivial⟩ rfl rfl rfl⟩
 have nu:L.take k=L:=List.take_of_length_le (by omega)
 have nP:k=L.length:=by omega
 rw[nu]
 subst nP
 refine P1 (B9 (A7 (σ':=⟨[(10,.ref 3 0),(16,.ref 4 0),(25,.sl 1 (L.map D2)),(26,.i L.length)],5,[(3,some (.box [.v (.slice none 0 0),.i 0,.v (.slice none 0 0)])),(4,some (.box [.sl 2 (dims.map A8),.i mea,.sl 7 ((L.map CR).map U5)]))]⟩) h0 rfl ⟨rfl,rfl,rfl,rfl,trivial⟩ ⟨rfl,rfl,trivial⟩ rfl rfl rfl) (A7 (σ':=⟨[(10,.ref 3 0),(16,.iptr [.sl 2 (dims.map A8),.i mea,.sl 7 ((L.map CR).map U5)]),(25,.sl 1 (L.map D2)),(26,.i L.length)],4,[(3,some (.box [.v (.slice none 0 0),.i 0,.v (.slice none 0 0)]))]⟩) h0 rfl ⟨rfl,rfl,rfl,rfl,trivial⟩ ⟨rfl,trivial⟩ rfl rfl rfl)) ?_
 repeat'((first|refine S2 ?_|(refine T6 ?_ ?_<;>intro h<;>try exact V1 h)|intro el mI mJ|intro el mI|exact T4|refine T5 ?_ ?_|intro ex)<;>try conv=>whnf)
 all_goals first
  |(exfalso;omega)
  |exact S8 rfl rfl rfl (.refl _) rfl (.refl _) rfl
end Go.Proofs.YtiphlhoclaogjaaGreatDoor
