/- Chapter 8: the texts of questions and declarations: the program's walks. -/
import Derived.Test.YtkcekccdcpmekaaGreatDoorQQr0
import Derived.Test.YtkcekccdcpmekaaGreatDoorQQn1
import Derived.Test.YtkcekccdcpmekaaGreatDoorQSb
import Derived.Test.YtkcekccdcpmekaaGreatDoorQNm1
import Derived.Test.YtkcekccdcpmekaaGreatDoorQSb0
import Derived.Test.YtkcekccdcpmekaaGreatDoorQB12
set_option linter.unusedVariables false
set_option linter.unnecessarySimpa false
set_option linter.unusedSimpArgs false
set_option maxHeartbeats 64000000
namespace Go.Proofs.YtkcekccdcpmekaaGreatDoor
open Go Go.Av
attribute [local irreducible] E8 B5 E5 E1 DQ E7 E9 St.le A4 A9
set_option maxRecDepth 100000
theorem DX(s:A5)(c:A1)(h:G6 s c=0):A4 Tryz.prog 36 [sA s,G9 c] (.str (C6 s c)):=by
 have h1:=TK s c
 have e:GY s c=(C6 s c,0):=by unfold GY;rw[if_pos h]
 rw[e]at h1
 refine D0 Tryz.func36 14 fun ki E h0=>?_
 clear ki
 repeat'((first|refine A0 h1 ?_ |refine S2 ?_|(refine T6 ?_ ?_<;>intro h<;>try exact V1 h)|intro el ke kg|intro el ke|exact T4|refine T5 ?_ ?_|intro ex)<;>try conv=>whnf)
 all_goals first
  |exact A3 rfl rfl
theorem DY(s:A5)(c:Int)(h:0≤c∧c<s.cols.length):A4 Tryz.prog 73 [.i c,.iptr (sL s)] (.str (H6 s c)):=by
 obtain⟨x,hx⟩:∃x,s.cols[c.toNat]?=some x:=⟨_,List.getElem?_eq_getElem (by omega)⟩
 have e:H6 s c=x.name:=by unfold H6 S9;rw[if_neg (by omega),D4 hx]
 rw[e]
 refine D0 Tryz.func73 10 fun ki E h0=>?_
 clear ki
 repeat'((first|(refine A2 (x:=x) hx (by omega) ?_)|(refine I6 ?_ ?_;kernel_rfl) |refine S2 ?_|(refine T6 ?_ ?_<;>intro h<;>try exact V1 h)|intro el ke kg|intro el ke|exact T4|refine T5 ?_ ?_|intro ex)<;>try conv=>whnf)
 all_goals first
  |exact A3 rfl rfl
  |(exfalso;omega)
theorem Cw{α:Type}(f:α→List UInt8)(l:List α)(k:Nat){x:α}(h:l[k]?=some x):(l.take (k+1)).flatMap f=(l.take k).flatMap f++f x:=by
 rw[GE h,List.flatMap_append];simp
theorem iT{a b:List UInt8}(h:a≠[]):a++b≠[]:=by
 cases a with
 |nil=>exact absurd rfl h
 |cons x r=>simp
theorem bI(s:A5)(hr:C8 s=0)(q:E3)(hk:q.kind=1)(hn:q.name.length≤16)(hf:G6 s q.flt=0)(mK:q.dims.length≤3)(oN:∀d∈q.dims,UV s d)(hm:q.mea=-1∨0≤q.mea∧q.mea<s.cols.length):A4 Tryz.prog 37 [sA s,O9 q] (.str (Q3 s q++[10])):=by
 have hc:=DX s q.flt hf
 have lf:=k9 hf
 have lm:=j3 hr q.mea
 unfold Q3 GK
 rw[if_pos hk]
 generalize C6 s q.flt=F at *
 have w1:=IE (u9++q.name++Bm) (by simp only[List.length_append,List.length_cons,List.length_nil];omega)
 have hl:∀k,(q.dims.take k).length≤3:=fun k=>by rw[List.length_take];omega
 have mU:∀k,((q.dims.take k).flatMap (Y3 s)).length≤123:=fun k=>by
  have h1:=v6 (l:=q.dims.take k) (f:=Y3 s) (n:=41) fun d hd=>KG hr (oN d (List.mem_of_mem_take hd))
  have h2:(q.dims.take k).length*41≤3*41:=Nat.mul_le_mul_right _ (hl k)
  omega
 refine D0 Tryz.func37 99 fun ki E h0=>?_
 have kf:q.dims.length≤9223372036854775807:=by omega
 clear ki
 repeat'((first|refine EO (T:=84) rfl ?_|(refine E0 ?_ ?_;(simp only[List.length_append,List.length_cons,List.length_nil];omega)) |refine S2 ?_|(refine T6 ?_ ?_<;>intro h<;>try exact V1 h)|intro el ke kg|intro el ke|exact T4|refine T5 ?_ ?_|intro ex|refine nc [2] [0] w1 rfl rfl rfl ⟨rfl,trivial⟩ ?_|refine s4 0 ?_)<;>try conv=>whnf)
 all_goals first
  |(exfalso;omega)
  |skip
 clear w1
 refine D5 (ι:=Nat) (fun k=>⟨[(2,.iptr (sL s)),(3,.iptr (C0 q)),(5,.fn 73 [.iptr (sL s)]),(6,.ref 2 0),(38,.sl 2 (q.dims.map N7)),(39,.i q.dims.length),(40,.i k)],4,[(2,some (.bx bB [.ref 2 0,.row 3 0 (u9++q.name++Bm++(q.dims.take k).flatMap (Y3 s)).length])),(3,some (.row eB 1 0 (Q9 (u9++q.name++Bm++(q.dims.take k).flatMap (Y3 s)))))]⟩) (fun k=>k≤q.dims.length) (fun k=>q.dims.length-k) 0 (Nat.zero_le _)
  (by exact B0 h0 rfl ⟨rfl,rfl,rfl,rfl,rfl,rfl,rfl,trivial⟩ ⟨congrArg (fun z:List UInt8=>G1.bx bB [.ref 2 0,.row 3 0 z.length]) (by rw[List.take_zero,List.flatMap_nil,List.append_nil]),⟨_,congrArg (fun z:List UInt8=>G1.row eB 1 _ (Q9 z)) (by rw[List.take_zero,List.flatMap_nil,List.append_nil])⟩,trivial⟩ rfl rfl rfl) (fun k lJ=>?_)
 have oo:=mU k
 by_cases kj:k<q.dims.length
 ·obtain⟨d,hd⟩:∃d,q.dims[k]?=some d:=⟨_,List.getElem?_eq_getElem kj⟩
  have lI:=oN d (List.mem_of_getElem? hd)
  have h1:=DY s d.col lI.1
  have h2:=P3 d.lev (by have:=lI.2;omega) (by have:=lI.2;omega)
  have l1:=j3 hr d.col
  have l2:=Lib.itoa_length_le d.lev (by have:=lI.2;omega) (by have:=lI.2;omega)
  have li:=Cw (Y3 s) q.dims k hd
  have w2:=HE (u9++q.name++Bm++(q.dims.take k).flatMap (Y3 s)) ([32]++H6 s d.col++[47]++Lib.itoa d.lev) (by simp only[List.length_append,List.length_cons,List.length_nil];omega)
  unfold Y3 at li
  have mg:u9++q.name++Bm++(q.dims.take k).flatMap (Y3 s)++([32]++H6 s d.col++[47]++Lib.itoa d.lev)=u9++q.name++Bm++(q.dims.take (k+1)).flatMap (Y3 s):=by
   rw[List.append_assoc _ _ ([32]++H6 s d.col++[47]++Lib.itoa d.lev)]
   congr 1
   exact li.symm
  clear hc hm oN hl mU li
  generalize u9++q.name++Bm++(q.dims.take k).flatMap (Y3 s)=T at *
  generalize H6 s d.col=N1 at *
  generalize Lib.itoa d.lev=N2 at *
  repeat'((first|(refine B6 10 ?_;refine F5 (id:=10) (σ':=⟨[(2,.iptr (sL s)),(3,.iptr (C0 q)),(5,.fn 73 [.iptr (sL s)]),(6,.ref 2 0),(8,.iptr (N7 d)),(38,.sl 2 (q.dims.map N7)),(39,.i q.dims.length),(40,.i k)],4,[(2,some (.bx bB [.ref 2 0,.row 3 0 (T).length])),(3,some (.row eB 1 0 (Q9 (T))))]⟩) (B2 h0) ?_;refine C5 (id:=10) ⟨[(2,.iptr (sL s)),(3,.iptr (C0 q)),(5,.fn 73 [.iptr (sL s)]),(6,.ref 2 0),(38,.sl 2 (q.dims.map N7)),(39,.i q.dims.length),(40,.i k)],4,[(2,some (.bx bB [.ref 2 0,.row 3 1 (T++([32]++N1++[47]++N2)).length])),(3,some (.row eB 1 1 (Q9 (T++([32]++N1++[47]++N2)))))]⟩ ?_ ?_)|(refine A2 (x:=d) hd (by omega) ?_)|refine A0 h1 ?_|refine A0 h2 ?_|(refine E0 ?_ ?_;(simp only[List.length_append,List.length_cons,List.length_nil];omega)) |refine S2 ?_|(refine T6 ?_ ?_<;>intro h<;>try exact V1 h)|intro el ke kg|intro el ke|exact T4|refine T5 ?_ ?_|intro ex|refine nc [2,3] [0,0] w2 rfl rfl rfl ⟨rfl,rfl,trivial⟩ ?_)<;>try conv=>whnf)
  all_goals first
   |exact B0 h0 rfl ⟨rfl,rfl,rfl,rfl,rfl,rfl,rfl,trivial⟩ ⟨rfl,⟨_,rfl⟩,trivial⟩ rfl rfl rfl
   |exact⟨k+1,by omega,by omega,B0 h0 rfl ⟨rfl,rfl,rfl,rfl,rfl,rfl,congrArg (fun z:Int=>some (AV.i z)) (by omega),trivial⟩ ⟨congrArg (fun z:List UInt8=>G1.bx bB [.ref 2 0,.row 3 0 z.length]) mg.symm,⟨_,congrArg (fun z:List UInt8=>G1.row eB 1 _ (Q9 z)) mg.symm⟩,trivial⟩ rfl rfl rfl⟩
   |(exfalso;omega)
 ·obtain rfl:k=q.dims.length:=by omega
  rw[List.take_length]at oo ⊢
  have hne:u9++q.name++Bm++q.dims.flatMap (Y3 s)≠[]:=by simp
  clear hl mU oN
  by_cases pI:0≤q.mea
  ·have h1:=DY s q.mea (by omega)
   rw[if_pos pI]
   have w3:=HE (u9++q.name++Bm++q.dims.flatMap (Y3 s)) (Rm++H6 s q.mea) (by simp only[List.length_append,List.length_cons,List.length_nil];omega)
   have g2:=Je (u9++q.name++Bm++q.dims.flatMap (Y3 s)++(Rm++H6 s q.mea)) (iT hne)
   generalize H6 s q.mea=M at *
   have uW:(u9++q.name++Bm++q.dims.flatMap (Y3 s)).length≤200:=by simp only[List.length_append,List.length_cons,List.length_nil];omega
   generalize u9++q.name++Bm++q.dims.flatMap (Y3 s)=T0 at *
   have uL:(T0++(Rm++M)).length≤300:=by simp only[List.length_append,List.length_cons,List.length_nil];omega
   generalize hT:T0++(Rm++M)=T at *
   repeat'((first|(refine B6 21 ?_;refine F5 (id:=21) (σ':=⟨[(2,.iptr (sL s)),(3,.iptr (C0 q)),(6,.ref 2 0)],4,[(2,some (.bx bB [.ref 2 0,.row 3 0 (T).length])),(3,some (.row eB 1 0 (Q9 (T))))]⟩) (B2 h0) ?_;refine C5 (id:=21) ⟨[(4,.str (T++D6++F++[10]))],4,[]⟩ ?_ ?_)|refine A0 h1 ?_|refine A0 hc ?_|(refine E0 ?_ ?_;(simp only[List.length_append,List.length_cons,List.length_nil];omega)) |refine S2 ?_|(refine T6 ?_ ?_<;>intro h<;>try exact V1 h)|intro el ke kg|intro el ke|exact T4|refine T5 ?_ ?_|intro ex|refine nc [2,3] [0,0] w3 rfl rfl rfl ⟨rfl,rfl,trivial⟩ ?_|refine nc [2,3] [0,0] g2 rfl rfl rfl ⟨rfl,rfl,trivial⟩ ?_)<;>try conv=>whnf)
   all_goals first
    |exact B0 h0 rfl ⟨rfl,trivial⟩ trivial rfl rfl rfl
    |exact A3 rfl rfl
    |(exfalso;omega)
  ·rw[if_neg pI,List.append_nil]
   have g2:=Je (u9++q.name++Bm++q.dims.flatMap (Y3 s)) hne
   have uW:(u9++q.name++Bm++q.dims.flatMap (Y3 s)).length≤200:=by simp only[List.length_append,List.length_cons,List.length_nil];omega
   generalize u9++q.name++Bm++q.dims.flatMap (Y3 s)=T at *
   repeat'((first|(refine B6 21 ?_;refine F5 (id:=21) (σ':=⟨[(2,.iptr (sL s)),(3,.iptr (C0 q)),(6,.ref 2 0)],4,[(2,some (.bx bB [.ref 2 0,.row 3 0 (T).length])),(3,some (.row eB 1 0 (Q9 (T))))]⟩) (B2 h0) ?_;refine C5 (id:=21) ⟨[(4,.str (T++D6++F++[10]))],4,[]⟩ ?_ ?_)|refine A0 hc ?_|(refine E0 ?_ ?_;(simp only[List.length_append,List.length_cons,List.length_nil];omega)) |refine S2 ?_|(refine T6 ?_ ?_<;>intro h<;>try exact V1 h)|intro el ke kg|intro el ke|exact T4|refine T5 ?_ ?_|intro ex|refine nc [2,3] [0,0] g2 rfl rfl rfl ⟨rfl,rfl,trivial⟩ ?_)<;>try conv=>whnf)
   all_goals first
    |exact B0 h0 rfl ⟨rfl,trivial⟩ trivial rfl rfl rfl
    |exact A3 rfl rfl
    |(exfalso;omega)
theorem bJ(s:A5)(hr:C8 s=0)(q:E3)(hk:q.kind=2)(hn:q.name.length≤16)(hf:G6 s q.flt=0)(mK:q.trms.length≤3)(oN:∀c∈q.trms,0≤c∧c<s.cols.length)(hm:0≤q.mea∧q.mea<s.cols.length):A4 Tryz.prog 37 [sA s,O9 q] (.str (Q3 s q++[10])):=by
 have hc:=DX s q.flt hf
 have lf:=k9 hf
 have lm:=j3 hr q.mea
 have h1:=DY s q.mea hm
 unfold Q3 GK
 rw[if_neg (by omega),if_pos hk]
 generalize C6 s q.flt=F at *
 generalize H6 s q.mea=M at *
 have w1:=IE (x6++q.name++W3++M++CG) (by simp only[List.length_append,List.length_cons,List.length_nil];omega)
 have hl:∀k,(q.trms.take k).length≤3:=fun k=>by rw[List.length_take];omega
 have mU:∀k,((q.trms.take k).flatMap (n8 s)).length≤51:=fun k=>by
  have h1:=v6 (l:=q.trms.take k) (f:=n8 s) (n:=17) fun d hd=>KH hr d
  have h2:(q.trms.take k).length*17≤3*17:=Nat.mul_le_mul_right _ (hl k)
  omega
 refine D0 Tryz.func37 99 fun ki E h0=>?_
 have kf:q.trms.length≤9223372036854775807:=by omega
 clear ki
 repeat'((first|(refine B6 15 ?_;refine F5 (id:=15) (σ':=⟨[(2,.iptr (sL s)),(3,.iptr (C0 q)),(5,.fn 73 [.iptr (sL s)]),(6,.ref 2 0)],3,[(2,some SG)]⟩) (B2 h0) ?_;refine C5 (id:=15) ⟨[(2,.iptr (sL s)),(3,.iptr (C0 q)),(5,.fn 73 [.iptr (sL s)]),(6,.ref 2 0)],4,[(2,some (.bx bB [.ref 2 0,.row 3 1 (x6++q.name++W3++M++CG).length])),(3,some (.row eB 1 1 (Q9 (x6++q.name++W3++M++CG))))]⟩ ?_ ?_)|refine EO (T:=84) rfl ?_|refine A0 h1 ?_|(refine E0 ?_ ?_;(simp only[List.length_append,List.length_cons,List.length_nil];omega)) |refine S2 ?_|(refine T6 ?_ ?_<;>intro h<;>try exact V1 h)|intro el ke kg|intro el ke|exact T4|refine T5 ?_ ?_|intro ex|refine nc [2] [0] w1 rfl rfl rfl ⟨rfl,trivial⟩ ?_|refine s4 0 ?_)<;>try conv=>whnf)
 all_goals first
  |exact B0 h0 rfl ⟨rfl,rfl,rfl,rfl,trivial⟩ ⟨rfl,⟨_,rfl⟩,trivial⟩ rfl rfl rfl
  |(exfalso;omega)
  |skip
 clear w1 h1
 refine D5 (ι:=Nat) (fun k=>⟨[(2,.iptr (sL s)),(3,.iptr (C0 q)),(5,.fn 73 [.iptr (sL s)]),(6,.ref 2 0),(79,.sl 1 (q.trms.map wA)),(80,.i q.trms.length),(81,.i k)],4,[(2,some (.bx bB [.ref 2 0,.row 3 0 (x6++q.name++W3++M++CG++(q.trms.take k).flatMap (n8 s)).length])),(3,some (.row eB 1 0 (Q9 (x6++q.name++W3++M++CG++(q.trms.take k).flatMap (n8 s)))))]⟩) (fun k=>k≤q.trms.length) (fun k=>q.trms.length-k) 0 (Nat.zero_le _)
  (by exact B0 h0 rfl ⟨rfl,rfl,rfl,rfl,rfl,rfl,rfl,trivial⟩ ⟨congrArg (fun z:List UInt8=>G1.bx bB [.ref 2 0,.row 3 0 z.length]) (by rw[List.take_zero,List.flatMap_nil,List.append_nil]),⟨_,congrArg (fun z:List UInt8=>G1.row eB 1 _ (Q9 z)) (by rw[List.take_zero,List.flatMap_nil,List.append_nil])⟩,trivial⟩ rfl rfl rfl) (fun k lJ=>?_)
 have oo:=mU k
 by_cases kj:k<q.trms.length
 ·obtain⟨d,hd⟩:∃d,q.trms[k]?=some d:=⟨_,List.getElem?_eq_getElem kj⟩
  have lI:=oN d (List.mem_of_getElem? hd)
  have h1:=DY s d lI
  have l1:=j3 hr d
  have li:=Cw (n8 s) q.trms k hd
  have w2:=HE (x6++q.name++W3++M++CG++(q.trms.take k).flatMap (n8 s)) ([32]++H6 s d) (by simp only[List.length_append,List.length_cons,List.length_nil];omega)
  unfold n8 at li
  have mg:x6++q.name++W3++M++CG++(q.trms.take k).flatMap (n8 s)++([32]++H6 s d)=x6++q.name++W3++M++CG++(q.trms.take (k+1)).flatMap (n8 s):=by
   rw[List.append_assoc _ _ ([32]++H6 s d)]
   congr 1
   exact li.symm
  have uW:(x6++q.name++W3++M++CG++(q.trms.take k).flatMap (n8 s)).length≤200:=by simp only[List.length_append,List.length_cons,List.length_nil];omega
  clear hc oN hl mU li
  generalize x6++q.name++W3++M++CG++(q.trms.take k).flatMap (n8 s)=T at *
  generalize H6 s d=N1 at *
  repeat'((first|(refine A2 (x:=d) hd (by omega) ?_)|refine A0 h1 ?_|(refine E0 ?_ ?_;(simp only[List.length_append,List.length_cons,List.length_nil];omega)) |refine S2 ?_|(refine T6 ?_ ?_<;>intro h<;>try exact V1 h)|intro el ke kg|intro el ke|exact T4|refine T5 ?_ ?_|intro ex|refine nc [2,3] [0,0] w2 rfl rfl rfl ⟨rfl,rfl,trivial⟩ ?_)<;>try conv=>whnf)
  all_goals first
   |exact⟨k+1,by omega,by omega,B0 h0 rfl ⟨rfl,rfl,rfl,rfl,rfl,rfl,congrArg (fun z:Int=>some (AV.i z)) (by omega),trivial⟩ ⟨congrArg (fun z:List UInt8=>G1.bx bB [.ref 2 0,.row 3 0 z.length]) mg.symm,⟨_,congrArg (fun z:List UInt8=>G1.row eB 1 _ (Q9 z)) mg.symm⟩,trivial⟩ rfl rfl rfl⟩
   |(exfalso;omega)
 ·obtain rfl:k=q.trms.length:=by omega
  rw[List.take_length]at oo ⊢
  have hne:x6++q.name++W3++M++CG++q.trms.flatMap (n8 s)≠[]:=by simp
  clear hl mU oN
  have g2:=Je (x6++q.name++W3++M++CG++q.trms.flatMap (n8 s)) hne
  have uW:(x6++q.name++W3++M++CG++q.trms.flatMap (n8 s)).length≤200:=by simp only[List.length_append,List.length_cons,List.length_nil];omega
  generalize x6++q.name++W3++M++CG++q.trms.flatMap (n8 s)=T at *
  repeat'((first|(refine B6 21 ?_;refine F5 (id:=21) (σ':=⟨[(2,.iptr (sL s)),(3,.iptr (C0 q)),(6,.ref 2 0)],4,[(2,some (.bx bB [.ref 2 0,.row 3 0 (T).length])),(3,some (.row eB 1 0 (Q9 (T))))]⟩) (B2 h0) ?_;refine C5 (id:=21) ⟨[(4,.str (T++D6++F++[10]))],4,[]⟩ ?_ ?_)|refine A0 hc ?_|(refine E0 ?_ ?_;(simp only[List.length_append,List.length_cons,List.length_nil];omega)) |refine S2 ?_|(refine T6 ?_ ?_<;>intro h<;>try exact V1 h)|intro el ke kg|intro el ke|exact T4|refine T5 ?_ ?_|intro ex|refine nc [2,3] [0,0] g2 rfl rfl rfl ⟨rfl,rfl,trivial⟩ ?_)<;>try conv=>whnf)
  all_goals first
   |exact B0 h0 rfl ⟨rfl,trivial⟩ trivial rfl rfl rfl
   |exact A3 rfl rfl
   |(exfalso;omega)
theorem bK(s:A5)(hr:C8 s=0)(q:E3)(hk:q.kind=3)(hn:q.name.length≤16)(hf:G6 s q.flt=0)(hv:G6 s q.evt=0)(hm:0≤q.mea∧q.mea<s.cols.length):A4 Tryz.prog 37 [sA s,O9 q] (.str (Q3 s q++[10])):=by
 have hc:=DX s q.flt hf
 have pL:=DX s q.evt hv
 have lf:=k9 hf
 have lv:=k9 hv
 have lm:=j3 hr q.mea
 have h1:=DY s q.mea hm
 unfold Q3 GK
 rw[if_neg (by omega),if_neg (by omega)]
 generalize C6 s q.flt=F at *
 generalize C6 s q.evt=V at *
 generalize H6 s q.mea=M at *
 have uW:(Nm++q.name++W3++M++Nn++V).length≤4200:=by simp only[List.length_append,List.length_cons,List.length_nil];omega
 have w1:=IE (Nm++q.name++W3++M++Nn++V) (by omega)
 have hne:Nm++q.name++W3++M++Nn++V≠[]:=by simp
 have g2:=Je (Nm++q.name++W3++M++Nn++V) hne
 generalize hT:Nm++q.name++W3++M++Nn++V=T at *
 refine D0 Tryz.func37 99 fun ki E h0=>?_
 clear ki
 repeat'((first|(refine B6 4 ?_;refine F5 (id:=4) (σ':=⟨[(2,.iptr (sL s)),(3,.iptr (C0 q)),(5,.fn 73 [.iptr (sL s)]),(6,.ref 2 0)],3,[(2,some SG)]⟩) (B2 h0) ?_;refine C5 (id:=4) ⟨[(2,.iptr (sL s)),(3,.iptr (C0 q)),(5,.fn 73 [.iptr (sL s)]),(6,.ref 2 0)],4,[(2,some (.bx bB [.ref 2 0,.row 3 1 (T).length])),(3,some (.row eB 1 1 (Q9 (T))))]⟩ ?_ ?_)|(refine B6 21 ?_;refine F5 (id:=21) (σ':=⟨[(2,.iptr (sL s)),(3,.iptr (C0 q)),(6,.ref 2 0)],4,[(2,some (.bx bB [.ref 2 0,.row 3 0 (T).length])),(3,some (.row eB 1 0 (Q9 (T))))]⟩) (B2 h0) ?_;refine C5 (id:=21) ⟨[(4,.str (T++D6++F++[10]))],4,[]⟩ ?_ ?_)|refine EO (T:=84) rfl ?_|refine A0 h1 ?_|refine A0 hc ?_|refine A0 pL ?_|(refine E0 ?_ ?_;(simp only[List.length_append,List.length_cons,List.length_nil];omega)) |refine S2 ?_|(refine T6 ?_ ?_<;>intro h<;>try exact V1 h)|intro el ke kg|intro el ke|exact T4|refine T5 ?_ ?_|intro ex|(rw[hT];refine nc [2] [0] w1 rfl rfl rfl ⟨rfl,trivial⟩ ?_)|refine nc [2,3] [0,0] g2 rfl rfl rfl ⟨rfl,rfl,trivial⟩ ?_|refine s4 0 ?_)<;>try conv=>whnf)
 all_goals first
  |exact B0 h0 rfl ⟨rfl,rfl,rfl,rfl,trivial⟩ ⟨rfl,⟨_,rfl⟩,trivial⟩ rfl rfl rfl
  |exact B0 h0 rfl ⟨rfl,trivial⟩ trivial rfl rfl rfl
  |exact A3 rfl rfl
  |(exfalso;omega)
theorem Ya(s:A5)(hr:C8 s=0)(q:E3)(h:FB s q):A4 Tryz.prog 37 [sA s,O9 q] (.str (Q3 s q++[10])):=by
 have hn:=R4 h.name
 rcases h.kind with ⟨k,⟨_,d2,d3⟩,m,_⟩|⟨k,m,⟨_,d2,d3⟩,_⟩|⟨k,m,d2,_⟩
 ·exact bI s hr q k hn h.flt d2 d3 m
 ·exact bJ s hr q k hn h.flt d2 d3 m
 ·exact bK s hr q k hn h.flt d2 m
theorem ep(s:A5)(d:G0):EC s d=x8++d.prj++Rn++d.src++Ro++C6 s d.coh++[10]:=rfl
theorem Ks(s:A5)(d:G0):A4 Tryz.prog 11 [sA s,R3 d] (.tup [.str (Hx s d).1,.i (Hx s d).2]):=by
 have h1:=Gb s d
 unfold Hx
 by_cases h:j8 s d=0
 case neg =>
  rw[if_neg h]
  generalize j8 s d=z at *
  dsimp only
  refine D0 Tryz.func11 65 fun ki E h0=>?_
  clear ki
  repeat'((first|refine A0 h1 ?_ |refine S2 ?_|(refine T6 ?_ ?_<;>intro h<;>try exact V1 h)|intro el ke kg|intro el ke|exact T4|refine T5 ?_ ?_|intro ex)<;>try conv=>whnf)
  all_goals first
   |exact O3 rfl rfl rfl
   |(exfalso;omega)
 rw[if_pos h]
 have lI:=(Fi s d).1 h
 rw[h]at h1
 have hr:=lI.sch
 have sP:∀q∈d.qs,FB s q:=fun q hq=>by
  obtain⟨i,hi⟩:=List.mem_iff_getElem?.1 hq
  exact(KF (lI.qs i q hi).1).2
 have lt:=Rq lI
 have ls:=LV lI
 have pB:=lI.len
 have hnum:=lI.num
 have pv:∀k,(d.qs.take k).length≤8:=fun k=>by rw[List.length_take];omega
 have lq:∀k,(O7 s (d.qs.take k)).length≤70000:=fun k=>Ot hr (pv k) fun q hq=>sP q (List.mem_of_mem_take hq)
 have hc:=DX s d.coh lI.coh
 have l1:=R4 lI.prj
 have l2:=R4 lI.src
 have l3:=k9 lI.coh
 have i1:=P3 d.part (by omega) (by omega)
 have i2:=P3 d.of (by omega) (by omega)
 have i3:=P3 d.seed (by omega) (by omega)
 have m1:=Lib.itoa_length_le d.part (by omega) (by omega)
 have m2:=Lib.itoa_length_le d.of (by omega) (by omega)
 have m3:=Lib.itoa_length_le d.seed (by omega) (by omega)
 generalize hZ:(if 20000<(ED s d).length then (([]:List UInt8),(1:Int))else (ED s d,0))=Z
 have w1:=IE (x8++d.prj++Rn++d.src++Ro++C6 s d.coh++[10]) (by simp only[List.length_append,List.length_cons,List.length_nil];omega)
 have w2:=HE (EC s d) (Fh++Lib.itoa d.part++W3++Lib.itoa d.of++DR++Lib.itoa d.seed++[10]) (by simp only[List.length_append,List.length_cons,List.length_nil];omega)
 have et:=ep s d
 have xf:ED s d=EC s d++(Fh++Lib.itoa d.part++W3++Lib.itoa d.of++DR++Lib.itoa d.seed++[10])++O7 s d.qs:=rfl
 generalize EC s d=T1 at *
 generalize Lib.itoa d.part=N1 at *
 generalize Lib.itoa d.of=N2 at *
 generalize Lib.itoa d.seed=N3 at *
 clear h lI
 refine D0 Tryz.func11 65 fun ki E h0=>?_
 have kf:d.qs.length≤9223372036854775807:=by omega
 clear ki
 repeat'((first|(refine B6 5 ?_;refine F5 (id:=5) (σ':=⟨[(2,.iptr (sL s)),(3,.iptr (FZ d)),(7,.ref 2 0)],3,[(2,some SG)]⟩) (B2 h0) ?_;refine C5 (id:=5) ⟨[(2,.iptr (sL s)),(3,.iptr (FZ d)),(7,.ref 2 0)],4,[(2,some (.bx bB [.ref 2 0,.row 3 1 (T1).length])),(3,some (.row eB 1 1 (Q9 (T1))))]⟩ ?_ ?_)|(refine B6 6 ?_;refine F5 (id:=6) (σ':=⟨[(2,.iptr (sL s)),(3,.iptr (FZ d)),(7,.ref 2 0)],4,[(2,some (.bx bB [.ref 2 0,.row 3 0 (T1).length])),(3,some (.row eB 1 0 (Q9 (T1))))]⟩) (B2 h0) ?_;refine C5 (id:=6) ⟨[(2,.iptr (sL s)),(3,.iptr (FZ d)),(7,.ref 2 0)],4,[(2,some (.bx bB [.ref 2 0,.row 3 1 (T1++(Fh++N1++W3++N2++DR++N3++[10])).length])),(3,some (.row eB 1 1 (Q9 (T1++(Fh++N1++W3++N2++DR++N3++[10])))))]⟩ ?_ ?_)|refine EO (T:=84) rfl ?_|refine A0 h1 ?_|refine A0 hc ?_|refine A0 i1 ?_|refine A0 i2 ?_|refine A0 i3 ?_|(refine E0 ?_ ?_;(simp only[List.length_append,List.length_cons,List.length_nil];omega)) |refine S2 ?_|(refine T6 ?_ ?_<;>intro h<;>try exact V1 h)|intro el ke kg|intro el ke|exact T4|refine T5 ?_ ?_|intro ex|refine nc [2] [0] w1 rfl rfl rfl ⟨rfl,trivial⟩ ?_|refine nc [2,3] [0,0] w2 rfl rfl rfl ⟨rfl,rfl,trivial⟩ ?_)<;>try conv=>whnf)
 all_goals first
  |exact B0 h0 rfl ⟨rfl,rfl,rfl,trivial⟩ ⟨congrArg (fun z:List UInt8=>G1.bx bB [.ref 2 0,.row 3 1 z.length]) et,⟨_,congrArg (fun z:List UInt8=>G1.row eB 1 _ (Q9 z)) et⟩,trivial⟩ rfl rfl rfl
  |exact B0 h0 rfl ⟨rfl,rfl,rfl,trivial⟩ ⟨rfl,⟨_,rfl⟩,trivial⟩ rfl rfl rfl
  |(exfalso;omega)
  |skip
 clear w1 w2 hc i1 i2 i3 h1
 have uF:∀k,T1++(Fh++N1++W3++N2++DR++N3++[10])++O7 s (d.qs.take k)≠[]:=fun k=>by rw[et];simp
 have hLen:(T1++(Fh++N1++W3++N2++DR++N3++[10])).length≤4300:=by simp only[List.length_append,List.length_cons,List.length_nil];omega
 have hD:ED s d=T1++(Fh++N1++W3++N2++DR++N3++[10])++O7 s d.qs:=xf
 clear et
 generalize T1++(Fh++N1++W3++N2++DR++N3++[10])=T2 at *
 refine D5 (ι:=Nat) (fun k=>⟨[(2,.iptr (sL s)),(7,.ref 2 0),(51,.sl 17 (d.qs.map C0)),(52,.i d.qs.length),(53,.i k)],4,[(2,some (.bx bB [.ref 2 0,.row 3 0 (T2++O7 s (d.qs.take k)).length])),(3,some (.row eB 1 0 (Q9 (T2++O7 s (d.qs.take k)))))]⟩) (fun k=>k≤d.qs.length) (fun k=>d.qs.length-k) 0 (Nat.zero_le _)
  (by exact B0 h0 rfl ⟨rfl,rfl,rfl,rfl,rfl,trivial⟩ ⟨congrArg (fun z:List UInt8=>G1.bx bB [.ref 2 0,.row 3 0 z.length]) (by rw[List.take_zero];exact List.append_nil _),⟨_,congrArg (fun z:List UInt8=>G1.row eB 1 _ (Q9 z)) (by rw[List.take_zero];exact List.append_nil _)⟩,trivial⟩ rfl rfl rfl) (fun k lJ=>?_)
 have oo:=lq k
 have wC:=uF k
 by_cases kj:k<d.qs.length
 ·obtain⟨x,hx⟩:∃x,d.qs[k]?=some x:=⟨_,List.getElem?_eq_getElem kj⟩
  have wa:=sP x (List.mem_of_getElem? hx)
  have h1:=Ya s hr x wa
  have l4:=LU hr wa
  have li:=Cw (fun q=>Q3 s q++[10]) d.qs k hx
  have w2:=HE (T2++O7 s (d.qs.take k)) (Q3 s x++[10]) (by simp only[List.length_append,List.length_cons,List.length_nil];omega)
  have mg:T2++O7 s (d.qs.take k)++(Q3 s x++[10])=T2++O7 s (d.qs.take (k+1)):=by
   rw[List.append_assoc _ _ (Q3 s x++[10])]
   congr 1
   exact li.symm
  clear sP pv lq li hD hZ
  generalize T2++O7 s (d.qs.take k)=T at *
  generalize Q3 s x++[10]=N at *
  repeat'((first|(refine A2 (x:=x) hx (by omega) ?_)|refine A0 h1 ?_ |refine S2 ?_|(refine T6 ?_ ?_<;>intro h<;>try exact V1 h)|intro el ke kg|intro el ke|exact T4|refine T5 ?_ ?_|intro ex|refine nc [2,3] [0,0] w2 rfl rfl rfl ⟨rfl,rfl,trivial⟩ ?_)<;>try conv=>whnf)
  all_goals first
   |exact⟨k+1,by omega,by omega,B0 h0 rfl ⟨rfl,rfl,rfl,rfl,congrArg (fun z:Int=>some (AV.i z)) (by omega),trivial⟩ ⟨congrArg (fun z:List UInt8=>G1.bx bB [.ref 2 0,.row 3 0 z.length]) mg.symm,⟨_,congrArg (fun z:List UInt8=>G1.row eB 1 _ (Q9 z)) mg.symm⟩,trivial⟩ rfl rfl rfl⟩
   |(exfalso;omega)
 ·obtain rfl:k=d.qs.length:=by omega
  rw[List.take_length]at oo wC ⊢
  rw[hD]at hZ
  have g1:=iS eB (T2++O7 s d.qs).length (Q9 (T2++O7 s d.qs))
  have g2:=Je (T2++O7 s d.qs) wC
  have l5:(T2++O7 s d.qs).length≤80000:=by rw[List.length_append];omega
  clear sP pv lq hD uF
  generalize T2++O7 s d.qs=T at *
  repeat'((first|refine S2 ?_|(refine T6 ?_ ?_<;>intro h<;>try exact V1 h)|intro el ke kg|intro el ke|exact T4|refine T5 ?_ ?_|intro ex|refine nc [2,3] [0,0] g1 rfl rfl rfl ⟨rfl,rfl,trivial⟩ ?_|refine nc [2,3] [0,1] g2 rfl rfl rfl ⟨rfl,rfl,trivial⟩ ?_)<;>try conv=>whnf)
  all_goals first
   |(rw[if_pos (by omega)]at hZ;subst hZ;exact O3 rfl rfl rfl)
   |(rw[if_neg (by omega)]at hZ;subst hZ;exact O3 rfl rfl rfl)
   |(exfalso;omega)
def Ox:A5:=⟨[([108],[⟨[97],-1⟩])],[⟨[119,104,111],1,0,0,0,[],false⟩,⟨[115,101,120],2,0,0,0,[],false⟩]⟩
abbrev SH:AV:=.agg [.sl 2 [[.str [108],.sl 2 [[.str [97],.i (-1)]]]],.sl 7 [[.str [119,104,111],.i 1,.i 0,.i 0,.i 0,.v (.slice none 0 0),.b false],[.str [115,101,120],.i 2,.i 0,.i 0,.i 0,.v (.slice none 0 0),.b false]]]
theorem er:NL SH (sA Ox):=HA ⟨.refl _,ja ⟨⟨.refl _,.refl _,.refl _,.refl _,.refl _,.nil 1,.refl _,trivial⟩,⟨.refl _,.refl _,.refl _,.refl _,.refl _,.nil 1,.refl _,trivial⟩,trivial⟩,trivial⟩
theorem SI{f:Nat}{l:List AV}{r:AV}(h:A4 Tryz.prog f (sA Ox::l) r):A4 Tryz.prog f (SH::l) r:=aP h ⟨er,Gz.refl l⟩
abbrev SJ:List UInt8:=[112,114,111,106,101,99,116,32,112,10,115,111,117,114,99,101,32,115,10,99,111,104,111,114,116,32,97,108,108,10,115,97,109,112,108,101,32,49,32,111,102,32,50,32,115,101,101,100,32,51,10,116,97,98,108,101,32,116,32,98,121,32,115,101,120,47,48,32,119,104,101,114,101,32,110,111,116,32,97,108,108,10]
abbrev WQ:E3:=⟨[116],1,.mk 7 0 0 0 0 [.mk 1 0 0 0 0 []],[⟨1,0⟩],-1,[],zX⟩
abbrev Jf:G0:=⟨[112],[115],.mk 1 0 0 0 0 [],1,2,3,[WQ]⟩
theorem iU:JZ Ox SJ=(Jf,0,0):=by kernel_rfl
theorem iV:Hx Ox Jf=(SJ,0):=by kernel_rfl
theorem iW:j8 Ox Jf=0:=by kernel_rfl
theorem TV:A4 Tryz.prog 9 [] (.b true):=by
 have c1:A4 Tryz.prog 15 [SH,.str SJ] (.tup [R3 Jf,.i 0,.i 0]):=SI ((Kr Ox SJ).congr (congrArg (fun z:G0×Int×Int=>AV.tup [R3 z.1,.i z.2.1,.i z.2.2]) iU))
 have c2:A4 Tryz.prog 11 [SH,R3 Jf] (.tup [.str SJ,.i 0]):=SI ((Ks Ox Jf).congr (congrArg (fun z:List UInt8×Int=>AV.tup [.str z.1,.i z.2]) iV))
 have c3:A4 Tryz.prog 34 [SH,R3 Jf] (.i 0):=SI ((Gb Ox Jf).congr (congrArg AV.i iW))
 have hx:[WQ][(0:Int).toNat]?=some WQ:=rfl
 refine D0 Tryz.func9 70 fun ki E h0=>?_
 clear ki
 repeat'((first|refine A0 c1 ?_|refine A0 c2 ?_|refine A0 c3 ?_|(refine A2 (x:=WQ) hx (by omega) ?_) |refine S2 ?_|(refine T6 ?_ ?_<;>intro h<;>try exact V1 h)|intro el ke kg|intro el ke|exact T4|refine T5 ?_ ?_|intro ex)<;>try conv=>whnf)
 all_goals first
  |exact A3 rfl rfl
end Go.Proofs.YtkcekccdcpmekaaGreatDoor
