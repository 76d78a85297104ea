/- Chapter 8: the texts of questions and declarations: the reference's walks. -/
import Derived.Test.YtkcekccdcpmekaaGreatDoorQAw9
import Derived.Test.YtkcekccdcpmekaaGreatDoorQCr2
import Derived.Test.YtkcekccdcpmekaaGreatDoorQQn2
import Derived.Test.YtkcekccdcpmekaaGreatDoorQQd0
import Derived.Test.YtkcekccdcpmekaaGreatDoorQQr0
import Derived.Test.YtkcekccdcpmekaaGreatDoorQRp3
import Derived.Test.YtkcekccdcpmekaaGreatDoorQC3
import Derived.Test.YtkcekccdcpmekaaGreatDoorQD2
import Derived.Test.YtkcekccdcpmekaaGreatDoorQF6
import Derived.Test.YtkcekccdcpmekaaGreatDoorQCm1
import Derived.Test.YtkcekccdcpmekaaGreatDoorQC1
import Derived.Test.YtkcekccdcpmekaaGreatDoorQB12
import Derived.Test.YtkcekccdcpmekaaGreatDoorQB4
set_option linter.unusedVariables false
set_option linter.unnecessarySimpa false
set_option linter.unusedSimpArgs false
set_option maxHeartbeats 64000000
namespace Go.Proofs.YtkcekccdcpmekaaGreatDoor
open Go Go.Av
attribute [local irreducible] E8 B5 E5 E1 DQ E7 E9 St.le A4 A9
set_option maxRecDepth 100000
theorem CT(s:A5)(c:A1)(h:G6 s c=0):A4 Tryz.prog 41 [sA s,G9 c] (.str (C6 s c)):=by
 have h1:=Tf s c
 have e:GY s c=(C6 s c,0):=by unfold GY;rw[if_pos h]
 rw[e]at h1
 refine D0 Tryz.func41 14 fun ki E h0=>?_
 clear ki
 repeat'((first|refine A0 h1 ?_ |refine S2 ?_|(refine T6 ?_ ?_<;>intro h<;>try exact V1 h)|intro el ke kg|intro el ke|exact T4|refine T5 ?_ ?_|intro ex)<;>try conv=>whnf)
 all_goals first
  |exact A3 rfl rfl
theorem Jk{s:A5}{c:Int}(h:0≤c∧c<s.cols.length):∃x,s.cols[c.toNat]?=some x∧H6 s c=x.name:=by
 refine⟨_,List.getElem?_eq_getElem (by omega),?_⟩
 unfold H6 S9
 rw[if_neg (by omega),D4 (List.getElem?_eq_getElem (by omega))]
theorem Yo(s:A5)(hr:C8 s=0)(q:E3)(hk:q.kind=1)(hn:q.name.length≤16)(hf:G6 s q.flt=0)(mK:q.dims.length≤3)(oN:∀d∈q.dims,UV s d)(hm:q.mea=-1∨0≤q.mea∧q.mea<s.cols.length):A4 Tryz.prog 42 [sA s,O9 q] (.str (Q3 s q++[10])):=by
 have hc:=CT s q.flt hf
 have lf:=k9 hf
 have lm:=j3 hr q.mea
 unfold Q3 GK
 rw[if_pos hk]
 generalize C6 s q.flt=F at *
 have hl:∀k,(q.dims.take k).length≤3:=fun k=>by rw[List.length_take];omega
 have mU:∀k,((q.dims.take k).flatMap (Y3 s)).length≤123:=fun k=>by
  have h1:=v6 (l:=q.dims.take k) (f:=Y3 s) (n:=41) fun d hd=>KG hr (oN d (List.mem_of_mem_take hd))
  have h2:(q.dims.take k).length*41≤3*41:=Nat.mul_le_mul_right _ (hl k)
  omega
 refine D0 Tryz.func42 120 fun ki E h0=>?_
 clear ki
 repeat'((first|(refine E0 ?_ ?_;(simp only[List.length_append,List.length_cons,List.length_nil];omega)) |refine S2 ?_|(refine T6 ?_ ?_<;>intro h<;>try exact V1 h)|intro el ke kg|intro el ke|exact T4|refine T5 ?_ ?_|intro ex)<;>try conv=>whnf)
 all_goals first
  |(exfalso;omega)
  |skip
 refine D5 (ι:=Nat) (fun k=>⟨[(2,.iptr (sL s)),(3,.iptr (C0 q)),(5,.str (u9++q.name++Bm++(q.dims.take k).flatMap (Y3 s))),(6,.i k)],0,[]⟩) (fun k=>k≤q.dims.length) (fun k=>q.dims.length-k) 0 (Nat.zero_le _)
  (by exact B0 h0 rfl ⟨rfl,rfl,congrArg (fun z=>some (AV.str z)) (by rw[List.take_zero,List.flatMap_nil,List.append_nil]),rfl,trivial⟩ trivial rfl rfl rfl) (fun k lJ=>?_)
 have oo:=mU k
 by_cases kj:k<q.dims.length
 ·obtain⟨d,hd⟩:∃d,q.dims[k]?=some d:=⟨_,List.getElem?_eq_getElem kj⟩
  have lI:=oN d (List.mem_of_getElem? hd)
  obtain⟨x,hx,qS⟩:=Jk lI.1
  have hok1:=lI.1
  have h2:=P3 d.lev (by have:=lI.2;omega) (by have:=lI.2;omega)
  have l1:=j3 hr d.col
  have l2:=Lib.itoa_length_le d.lev (by have:=lI.2;omega) (by have:=lI.2;omega)
  have li:=Cw (Y3 s) q.dims k hd
  unfold Y3 at li
  have mg:u9++q.name++Bm++(q.dims.take k).flatMap (Y3 s)++([32]++H6 s d.col++[47]++Lib.itoa d.lev)=u9++q.name++Bm++(q.dims.take (k+1)).flatMap (Y3 s):=by
   rw[List.append_assoc _ _ ([32]++H6 s d.col++[47]++Lib.itoa d.lev)]
   congr 1
   exact li.symm
  rw[qS]at mg l1
  have sq:(u9++q.name++Bm++(q.dims.take k).flatMap (Y3 s)).length≤300:=by simp only[List.length_append,List.length_cons,List.length_nil];omega
  clear hc hm oN hl mU li qS oo
  generalize u9++q.name++Bm++(q.dims.take k).flatMap (Y3 s)=T at *
  generalize Lib.itoa d.lev=N2 at *
  repeat'((first|(refine A2 (x:=d) hd (by omega) ?_)|(refine A2 (x:=x) hx (by omega) ?_)|refine A0 h2 ?_|(refine E0 ?_ ?_;(simp only[List.length_append,List.length_cons,List.length_nil];omega)) |refine S2 ?_|(refine T6 ?_ ?_<;>intro h<;>try exact V1 h)|intro el ke kg|intro el ke|exact T4|refine T5 ?_ ?_|intro ex)<;>try conv=>whnf)
  all_goals first
   |exact B0 h0 rfl ⟨rfl,rfl,rfl,rfl,trivial⟩ trivial rfl rfl rfl
   |exact⟨k+1,by omega,by omega,B0 h0 rfl ⟨rfl,rfl,congrArg (fun z=>some (AV.str z)) mg,congrArg (fun z:Int=>some (AV.i z)) (by omega),trivial⟩ trivial rfl rfl rfl⟩
   |(exfalso;omega)
 ·obtain rfl:k=q.dims.length:=by omega
  rw[List.take_length]at oo ⊢
  have sq:(u9++q.name++Bm++q.dims.flatMap (Y3 s)).length≤300:=by simp only[List.length_append,List.length_cons,List.length_nil];omega
  clear hl mU oN
  generalize u9++q.name++Bm++q.dims.flatMap (Y3 s)=T at *
  by_cases pI:0≤q.mea
  ·have uM:0≤q.mea∧q.mea<s.cols.length:=by omega
   obtain⟨x,hx,qS⟩:=Jk uM
   rw[if_pos pI,qS]
   rw[qS]at lm
   clear qS hm
   repeat'((first|(refine A2 (x:=x) hx (by omega) ?_)|refine A0 hc ?_|(refine E0 ?_ ?_;(simp only[List.length_append,List.length_cons,List.length_nil];omega)) |refine S2 ?_|(refine T6 ?_ ?_<;>intro h<;>try exact V1 h)|intro el ke kg|intro el ke|exact T4|refine T5 ?_ ?_|intro ex)<;>try conv=>whnf)
   all_goals first
    |exact A3 rfl rfl
    |(exfalso;omega)
  ·rw[if_neg pI,List.append_nil]
   repeat'((first|refine A0 hc ?_|(refine E0 ?_ ?_;(simp only[List.length_append,List.length_cons,List.length_nil];omega)) |refine S2 ?_|(refine T6 ?_ ?_<;>intro h<;>try exact V1 h)|intro el ke kg|intro el ke|exact T4|refine T5 ?_ ?_|intro ex)<;>try conv=>whnf)
   all_goals first
    |exact A3 rfl rfl
    |(exfalso;omega)
theorem Yp(s:A5)(hr:C8 s=0)(q:E3)(hk:q.kind=2)(hn:q.name.length≤16)(hf:G6 s q.flt=0)(mK:q.trms.length≤3)(oN:∀c∈q.trms,0≤c∧c<s.cols.length)(hm:0≤q.mea∧q.mea<s.cols.length):A4 Tryz.prog 42 [sA s,O9 q] (.str (Q3 s q++[10])):=by
 have hc:=CT s q.flt hf
 have lf:=k9 hf
 have lm:=j3 hr q.mea
 unfold Q3 GK
 rw[if_neg (by omega),if_pos hk]
 obtain⟨y,hy,sX⟩:=Jk hm
 rw[sX]at lm ⊢
 clear sX
 generalize C6 s q.flt=F at *
 have hl:∀k,(q.trms.take k).length≤3:=fun k=>by rw[List.length_take];omega
 have mU:∀k,((q.trms.take k).flatMap (n8 s)).length≤51:=fun k=>by
  have h1:=v6 (l:=q.trms.take k) (f:=n8 s) (n:=17) fun d hd=>KH hr d
  have h2:(q.trms.take k).length*17≤3*17:=Nat.mul_le_mul_right _ (hl k)
  omega
 refine D0 Tryz.func42 120 fun ki E h0=>?_
 clear ki
 repeat'((first|(refine A2 (x:=y) hy (by omega) ?_)|(refine E0 ?_ ?_;(simp only[List.length_append,List.length_cons,List.length_nil];omega)) |refine S2 ?_|(refine T6 ?_ ?_<;>intro h<;>try exact V1 h)|intro el ke kg|intro el ke|exact T4|refine T5 ?_ ?_|intro ex)<;>try conv=>whnf)
 all_goals first
  |exact B0 h0 rfl ⟨rfl,rfl,rfl,trivial⟩ trivial rfl rfl rfl
  |(exfalso;omega)
  |skip
 refine D5 (ι:=Nat) (fun k=>⟨[(2,.iptr (sL s)),(3,.iptr (C0 q)),(5,.str (x6++q.name++W3++y.name++CG++(q.trms.take k).flatMap (n8 s))),(7,.i k)],0,[]⟩) (fun k=>k≤q.trms.length) (fun k=>q.trms.length-k) 0 (Nat.zero_le _)
  (by exact B0 h0 rfl ⟨rfl,rfl,congrArg (fun z=>some (AV.str z)) (by rw[List.take_zero,List.flatMap_nil,List.append_nil]),rfl,trivial⟩ trivial rfl rfl rfl) (fun k lJ=>?_)
 have oo:=mU k
 by_cases kj:k<q.trms.length
 ·obtain⟨c,hd⟩:∃c,q.trms[k]?=some c:=⟨_,List.getElem?_eq_getElem kj⟩
  have lI:=oN c (List.mem_of_getElem? hd)
  obtain⟨x,hx,qS⟩:=Jk lI
  have l1:=j3 hr c
  have li:=Cw (n8 s) q.trms k hd
  unfold n8 at li
  have mg:x6++q.name++W3++y.name++CG++(q.trms.take k).flatMap (n8 s)++([32]++H6 s c)=x6++q.name++W3++y.name++CG++(q.trms.take (k+1)).flatMap (n8 s):=by
   rw[List.append_assoc _ _ ([32]++H6 s c)]
   congr 1
   exact li.symm
  rw[qS]at mg l1
  have sq:(x6++q.name++W3++y.name++CG++(q.trms.take k).flatMap (n8 s)).length≤300:=by simp only[List.length_append,List.length_cons,List.length_nil];omega
  clear hc oN hl mU li qS oo
  generalize x6++q.name++W3++y.name++CG++(q.trms.take k).flatMap (n8 s)=T at *
  repeat'((first|(refine A2 (x:=c) hd (by omega) ?_)|(refine A2 (x:=x) hx (by omega) ?_)|(refine E0 ?_ ?_;(simp only[List.length_append,List.length_cons,List.length_nil];omega)) |refine S2 ?_|(refine T6 ?_ ?_<;>intro h<;>try exact V1 h)|intro el ke kg|intro el ke|exact T4|refine T5 ?_ ?_|intro ex)<;>try conv=>whnf)
  all_goals first
   |exact B0 h0 rfl ⟨rfl,rfl,rfl,rfl,trivial⟩ trivial rfl rfl rfl
   |exact⟨k+1,by omega,by omega,B0 h0 rfl ⟨rfl,rfl,congrArg (fun z=>some (AV.str z)) mg,congrArg (fun z:Int=>some (AV.i z)) (by omega),trivial⟩ trivial rfl rfl rfl⟩
   |(exfalso;omega)
 ·obtain rfl:k=q.trms.length:=by omega
  rw[List.take_length]at oo ⊢
  have sq:(x6++q.name++W3++y.name++CG++q.trms.flatMap (n8 s)).length≤300:=by simp only[List.length_append,List.length_cons,List.length_nil];omega
  clear hl mU oN
  generalize x6++q.name++W3++y.name++CG++q.trms.flatMap (n8 s)=T at *
  repeat'((first|refine A0 hc ?_|(refine E0 ?_ ?_;(simp only[List.length_append,List.length_cons,List.length_nil];omega)) |refine S2 ?_|(refine T6 ?_ ?_<;>intro h<;>try exact V1 h)|intro el ke kg|intro el ke|exact T4|refine T5 ?_ ?_|intro ex)<;>try conv=>whnf)
  all_goals first
   |exact A3 rfl rfl
   |(exfalso;omega)
theorem Yq(s:A5)(hr:C8 s=0)(q:E3)(hk:q.kind=3)(hn:q.name.length≤16)(hf:G6 s q.flt=0)(he:G6 s q.evt=0)(hm:0≤q.mea∧q.mea<s.cols.length):A4 Tryz.prog 42 [sA s,O9 q] (.str (Q3 s q++[10])):=by
 have hc:=CT s q.flt hf
 have nH:=CT s q.evt he
 have lf:=k9 hf
 have le2:=k9 he
 have lm:=j3 hr q.mea
 unfold Q3 GK
 rw[if_neg (by omega),if_neg (by omega)]
 obtain⟨y,hy,sX⟩:=Jk hm
 rw[sX]at lm ⊢
 clear sX
 generalize C6 s q.flt=F at *
 generalize C6 s q.evt=V at *
 refine D0 Tryz.func42 120 fun ki E h0=>?_
 clear ki
 repeat'((first|(refine A2 (x:=y) hy (by omega) ?_)|refine A0 hc ?_|refine A0 nH ?_|(refine E0 ?_ ?_;(simp only[List.length_append,List.length_cons,List.length_nil];omega)) |refine S2 ?_|(refine T6 ?_ ?_<;>intro h<;>try exact V1 h)|intro el ke kg|intro el ke|exact T4|refine T5 ?_ ?_|intro ex)<;>try conv=>whnf)
 all_goals first
  |exact B0 h0 rfl ⟨rfl,rfl,rfl,trivial⟩ trivial rfl rfl rfl
  |exact A3 rfl rfl
  |(exfalso;omega)
theorem Wa(s:A5)(hr:C8 s=0){q:E3}(h:FB s q):A4 Tryz.prog 42 [sA s,O9 q] (.str (Q3 s q++[10])):=by
 have hn:=R4 h.name
 rcases h.kind with ⟨k,⟨_,d2,d3⟩,hm,_⟩|⟨k,hm,⟨_,d2,d3⟩,_⟩|⟨k,hm,d2,_⟩
 ·exact Yo s hr q k hn h.flt d2 d3 hm
 ·exact Yp s hr q k hn h.flt d2 d3 hm
 ·exact Yq s hr q k hn h.flt d2 hm
theorem cB(s:A5){l:List E3}{k:Nat}{q:E3}(h:l[k]?=some q):O7 s (l.take (k+1))=O7 s (l.take k)++(Q3 s q++[10]):=by
 unfold O7
 exact Cw _ l k h
theorem Jl(s:A5)(d:G0):A4 Tryz.prog 12 [sA s,R3 d] (.tup [.str (Hx s d).1,.i (Hx s d).2]):=by
 have h1:=Jj s d
 unfold Hx
 by_cases he:¬j8 s d=0
 ·rw[if_neg he]
  generalize j8 s d=e at *
  refine D0 Tryz.func12 67 fun ki E h0=>?_
  clear ki
  repeat'((first|refine A0 h1 ?_ |refine S2 ?_|(refine T6 ?_ ?_<;>intro h<;>try exact V1 h)|intro el ke kg|intro el ke|exact T4|refine T5 ?_ ?_|intro ex)<;>try conv=>whnf)
  all_goals first
   |exact O3 rfl rfl rfl
   |(exfalso;omega)
 have rU:j8 s d=0:=Decidable.of_not_not he
 rw[if_pos rU]
 rw[rU]at h1
 have lI:=(Fi s d).1 rU
 have hr:=lI.sch
 have pU:=CT s d.coh lI.coh
 have hn:=lI.num
 have n1:=P3 d.part (by omega) (by omega)
 have n2:=P3 d.of (by omega) (by omega)
 have n3:=P3 d.seed (by omega) (by omega)
 have lt0:=Rq lI
 have wt:=LV lI
 have pB:=lI.len
 have nB:∀q∈d.qs,FB s q:=fun q hq=>by
  obtain⟨i,hi⟩:=List.mem_iff_getElem?.1 hq
  exact(KF (lI.qs i q hi).1).2
 have mU:∀k,(O7 s (d.qs.take k)).length≤70000:=fun k=>Ot hr (by rw[List.length_take];omega) fun q hq=>nB q (List.mem_of_mem_take hq)
 have wY:x8++d.prj++Rn++d.src++Ro++C6 s d.coh++([10]++Fh)++Lib.itoa d.part++W3++Lib.itoa d.of++DR++Lib.itoa d.seed++[10]=EC s d++LS d:=by
  unfold EC LS
  simp only[List.append_assoc]
 have lH:(EC s d++LS d).length≤4200:=by rw[List.length_append];omega
 have hT:ED s d=EC s d++LS d++O7 s d.qs:=rfl
 rw[hT]
 rw[←wY]at lH ⊢
 clear wY hT lt0 wt lI
 refine D0 Tryz.func12 67 fun ki E h0=>?_
 clear ki
 generalize C6 s d.coh=C at *
 generalize Lib.itoa d.part=N1 at *
 generalize Lib.itoa d.of=N2 at *
 generalize Lib.itoa d.seed=N3 at *
 have wD:=lH
 simp only[List.length_append,List.length_cons,List.length_nil]at wD
 repeat'((first|refine A0 h1 ?_|refine A0 pU ?_|refine A0 n1 ?_|refine A0 n2 ?_|refine A0 n3 ?_|(refine E0 ?_ ?_;(simp only[List.length_append,List.length_cons,List.length_nil];omega)) |refine S2 ?_|(refine T6 ?_ ?_<;>intro h<;>try exact V1 h)|intro el ke kg|intro el ke|exact T4|refine T5 ?_ ?_|intro ex)<;>try conv=>whnf)
 all_goals first
  |exact B0 h0 rfl ⟨rfl,rfl,rfl,trivial⟩ trivial rfl rfl rfl
  |(exfalso;omega)
  |skip
 clear h1 pU n1 n2 n3 wD
 generalize hH:x8++d.prj++Rn++d.src++Ro++C++([10]++Fh)++N1++W3++N2++DR++N3++[10]=H at *
 refine D5 (ι:=Nat) (fun k=>⟨[(2,.iptr (sL s)),(3,.iptr (FZ d)),(7,.str (H++O7 s (d.qs.take k))),(8,.i k)],0,[]⟩) (fun k=>k≤d.qs.length) (fun k=>d.qs.length-k) 0 (Nat.zero_le _)
  (by exact B0 h0 rfl ⟨rfl,rfl,congrArg (fun z=>some (AV.str z)) (by rw[List.take_zero];show _=H++[];rw[List.append_nil,←hH];rfl),rfl,trivial⟩ trivial rfl rfl rfl) (fun k lJ=>?_)
 have oo:=mU k
 by_cases kj:k<d.qs.length
 ·obtain⟨q,hq⟩:∃q,d.qs[k]?=some q:=⟨_,List.getElem?_eq_getElem kj⟩
  have h2:=Wa s hr (nB q (List.mem_of_getElem? hq))
  have xc:=LU hr (nB q (List.mem_of_getElem? hq))
  have li:H++O7 s (d.qs.take k)++(Q3 s q++[10])=H++O7 s (d.qs.take (k+1)):=by rw[cB s hq,List.append_assoc]
  have vn:(Q3 s q++[10]).length≤8201:=by rw[List.length_append,List.length_singleton];omega
  have sq:(H++O7 s (d.qs.take k)).length≤75000:=by rw[List.length_append];omega
  clear nB mU oo xc
  generalize H++O7 s (d.qs.take k)=T at *
  generalize Q3 s q++[10]=A at *
  repeat'((first|(refine A2 (x:=q) hq (by omega) ?_)|refine A0 h2 ?_ |refine S2 ?_|(refine T6 ?_ ?_<;>intro h<;>try exact V1 h)|intro el ke kg|intro el ke|exact T4|refine T5 ?_ ?_|intro ex)<;>try conv=>whnf)
  all_goals first
   |exact B0 h0 rfl ⟨rfl,rfl,rfl,rfl,trivial⟩ trivial rfl rfl rfl
   |exact⟨k+1,by omega,by omega,B0 h0 rfl ⟨rfl,rfl,congrArg (fun z=>some (AV.str z)) li,congrArg (fun z:Int=>some (AV.i z)) (by omega),trivial⟩ trivial rfl rfl rfl⟩
   |(exfalso;omega)
 ·obtain rfl:k=d.qs.length:=by omega
  rw[List.take_length]at oo ⊢
  have sq:(H++O7 s d.qs).length≤75000:=by rw[List.length_append];omega
  clear nB mU
  generalize H++O7 s d.qs=T at *
  by_cases h20:20000<T.length
  ·rw[if_pos h20]
   repeat'((first|refine S2 ?_|(refine T6 ?_ ?_<;>intro h<;>try exact V1 h)|intro el ke kg|intro el ke|exact T4|refine T5 ?_ ?_|intro ex)<;>try conv=>whnf)
   all_goals first
    |exact O3 rfl rfl rfl
    |(exfalso;omega)
  ·rw[if_neg h20]
   repeat'((first|refine S2 ?_|(refine T6 ?_ ?_<;>intro h<;>try exact V1 h)|intro el ke kg|intro el ke|exact T4|refine T5 ?_ ?_|intro ex)<;>try conv=>whnf)
   all_goals first
    |exact O3 rfl rfl rfl
    |(exfalso;omega)
def Yr(q:E3):Prop:=J0 q.flt≤7∧J0 q.evt≤3
theorem iz:J0 zC=1:=rfl
theorem fZ{s:A5}(hd:F7 s)(l nm:List UInt8)(a:Nat):Yr (GZ l s nm a).1:=by
 have hk:=I7 l a (n:=3) (by omega)
 have hz:=iz
 have hc:J0 (L9 l s (B8 l a 3).1 (B8 l a 3).2).1≤7:=by
  have h1:=(Dz hd l (B8 l a 3).1 (B8 l a 3).2).2.1
  have h2:2 ^ ((B8 l a 3).1+1)≤2 ^ 3:=Nat.pow_le_pow_right (by omega) (by omega)
  omega
 have hv:∀b,J0 (L9 l s 1 b).1≤3:=fun b=>by
  have:=(Dz hd l 1 b).2.1
  omega
 unfold GZ
 dsimp only
 split
 ·exact⟨hc,by show J0 zC≤3;omega⟩
 ·split
  ·split
   ·exact⟨hc,by show J0 zC≤3;omega⟩
   ·exact⟨hc,by show J0 zC≤3;omega⟩
  ·split
   ·split
    ·exact⟨hc,hv _⟩
    ·exact⟨hc,by show J0 zC≤3;omega⟩
   ·exact⟨hc,by show J0 zC≤3;omega⟩
theorem Un{s:A5}(hd:F7 s)(l:List UInt8):∀(n:Nat) (x:List E3×Nat),(∀q∈x.1,Yr q)→∀q∈(v8 l s n x).1,Yr q
 |0,x,h=>h
 |n+1,x,h=>by
  rw[v8]
  refine Un hd l n _ fun q hq=>?_
  dsimp only at hq
  rcases List.mem_append.1 hq with hq|hq
  ·exact h q hq
  ·rw[List.mem_singleton.1 hq];exact fZ hd l _ _
theorem Lg{s:A5}{c:A1}(h:G6 s c=0):(C6 s c).length≤100*J0 c:=by
 obtain⟨hr,h3,h4,h5⟩:=CA h
 exact(Hv s hr c h5 (by omega)).2
theorem fa{s:A5}(hr:C8 s=0){q:E3}(h:FB s q)(hs:Yr q):(Q3 s q).length≤1200:=by
 have hn:=R4 h.name
 have hm:=j3 hr q.mea
 have hf:=Lg h.flt
 have sE:=hs.1
 have oB:=hs.2
 have hh:(GK s q).length≤400:=by
  unfold GK
  rcases h.kind with ⟨k,⟨_,d2,d3⟩,_⟩|⟨k,_,⟨_,d2,_⟩,_⟩|⟨k,_,d2,_⟩
  ·have h1:=v6 (l:=q.dims) (f:=Y3 s) fun d hd=>KG hr (d3 d hd)
   have h2:q.dims.length*41≤3*41:=Nat.mul_le_mul_right _ d2
   rw[if_pos k]
   split<;>simp only[List.length_append,List.length_cons,List.length_nil]<;>omega
  ·have h1:=v6 (l:=q.trms) (f:=n8 s) fun d hd=>KH hr d
   have h2:q.trms.length*17≤3*17:=Nat.mul_le_mul_right _ d2
   rw[if_neg (by omega),if_pos k]
   simp only[List.length_append,List.length_cons,List.length_nil]
   omega
  ·have h1:=Lg d2
   rw[if_neg (by omega),if_neg (by omega)]
   simp only[List.length_append,List.length_cons,List.length_nil]
   omega
 unfold Q3
 simp only[List.length_append,List.length_cons,List.length_nil]
 omega
theorem fb{s:A5}(hd:F7 s)(l:List UInt8)(a:Nat):(∀q∈(U7 l s a).1.qs,Yr q)∧J0 (U7 l s a).1.coh≤3:=by
 refine⟨Un hd l _ _ (fun q hq=>by cases hq),?_⟩
 have hv:=(Dz hd l 1 (B8 l a 3).2).2.1
 show J0 (N0 l s a).1.coh≤3
 have sy:J0 (if ((B8 l (B8 l (L9 l s 1 (B8 l a 3).2).2 999).2 3).1:Int)=3-1 then Di else (L9 l s 1 (B8 l a 3).2).1)≤3:=by
  split
  ·show 1≤3;omega
  ·omega
 unfold N0
 dsimp only
 split
 ·exact sy
 ·exact sy
theorem cC{s:A5}(hd:F7 s)(l:List UInt8)(a:Nat):Pj s (U7 l s a).1∧(U7 l s a).1.qs.length≤3∧(ED s (U7 l s a).1).length≤5000:=by
 obtain⟨h1,h2,h3⟩:=Ms hd l a
 obtain⟨s1,s2⟩:=fb hd l a
 generalize (U7 l s a).1=d at *
 have h:=(Fi s d).1 h1
 refine⟨h,h3,?_⟩
 have t1:=R4 h.prj
 have t2:=R4 h.src
 have t3:=Lg h.coh
 have t4:=LV h
 have t5:(O7 s d.qs).length≤d.qs.length*1201:=by
  unfold O7
  refine v6 fun q hq=>?_
  obtain⟨i,hi⟩:=List.mem_iff_getElem?.1 hq
  have:=fa h.sch (KF (h.qs i q hi).1).2 (s1 q hq)
  rw[List.length_append,List.length_singleton];omega
 have t6:d.qs.length*1201≤3*1201:=Nat.mul_le_mul_right _ h3
 unfold ED EC
 simp only[List.length_append,List.length_cons,List.length_nil]
 omega
theorem Jm(c:A1):A4 Tryz.prog 50 [G9 c,G9 c] (.b true):=by
 refine T8 (p:=fun c=>A4 Tryz.prog 50 [G9 c,G9 c] (.b true)) (fun c ih=>?_) c
 rw[T7]
 refine D0 Tryz.func50 67 fun ki E h0=>?_
 have kf:c.kids.length≤9223372036854775807:=by
  have:=((ki _ (List.mem_cons_self ..)).agg (.sl 6 (c.kids.map I9)) (by simp)).sl
  simpa using this
 clear ki
 repeat'((first|(refine I6 ?_ ?_;kernel_rfl) |refine S2 ?_|(refine T6 ?_ ?_<;>intro h<;>try exact V1 h)|intro el ke kg|intro el ke|exact T4|refine T5 ?_ ?_|intro ex)<;>try conv=>whnf)
 all_goals first
  |(exfalso;omega)
  |skip
 refine D5 (ι:=Nat) (fun k=>⟨[(2,.ref 0 0),(3,.ref 1 0),(5,.i k)],2,[(0,some (.box (CJ c))),(1,some (.box (CJ c)))]⟩) (fun k=>k≤c.kids.length) (fun k=>c.kids.length-k) 0 (Nat.zero_le _)
  (B2 h0) (fun k hk=>?_)
 repeat'((first|(refine A0 (ih _ (List.mem_of_getElem? (by assumption))) ?_)|(refine I6 ?_ ?_;kernel_rfl) |refine S2 ?_|(refine T6 ?_ ?_<;>intro h<;>try exact V1 h)|intro el ke kg|intro el ke|exact T4|refine T5 ?_ ?_|intro ex)<;>try conv=>whnf)
 all_goals first
  |exact A3 rfl rfl
  |exact⟨k+1,by omega,by omega,B2 h0⟩
  |(exfalso;omega)
theorem jA{p q:Pk}(h:p.col=q.col∧p.lev=q.lev):p=q:=by
 cases p;cases q
 dsimp only at h
 rw[Pk.mk.injEq];exact h
theorem Ny(a b:List Pk):A4 Tryz.prog 97 [.sl 2 (a.map N7),.sl 2 (b.map N7)] (.b (decide (a=b))):=by
 refine D0 Tryz.func97 26 fun ki E h0=>?_
 have kf:a.length≤9223372036854775807:=by have:=(ki (.sl 2 (a.map N7)) (by simp)).sl;simpa using this
 have tW:b.length≤9223372036854775807:=by have:=(ki (.sl 2 (b.map N7)) (by simp)).sl;simpa using this
 clear ki
 repeat'((first|refine S2 ?_|(refine T6 ?_ ?_<;>intro h<;>try exact V1 h)|intro el ke kg|intro el ke|exact T4|refine T5 ?_ ?_|intro ex)<;>try conv=>whnf)
 all_goals first
  |exact A3 rfl (congrArg AV.b (decide_eq_false (fun e=>by subst e;contradiction)).symm)
  |skip
 refine D5 (ι:=Nat) (fun k=>⟨[(0,.sl 2 (a.map N7)),(1,.sl 2 (b.map N7)),(5,.i k)],0,[]⟩) (fun k=>k≤a.length∧a.take k=b.take k) (fun k=>a.length-k) 0 ⟨Nat.zero_le _,rfl⟩
  (B2 h0) (fun k hI=>?_)
 obtain⟨hk,hI⟩:=hI
 by_cases kj:k<a.length
 ·obtain⟨p,hp⟩:∃p,a[k]?=some p:=⟨_,List.getElem?_eq_getElem kj⟩
  obtain⟨q,hq⟩:∃q,b[k]?=some q:=⟨_,List.getElem?_eq_getElem (by omega)⟩
  repeat'((first|(refine A2 (x:=p) hp (by omega) ?_)|(refine A2 (x:=q) hq (by omega) ?_)|(refine I6 ?_ ?_;kernel_rfl) |refine S2 ?_|(refine T6 ?_ ?_<;>intro h<;>try exact V1 h)|intro el ke kg|intro el ke|exact T4|refine T5 ?_ ?_|intro ex)<;>try conv=>whnf)
  all_goals first
   |(exfalso;omega)
   |exact⟨k+1,⟨by omega,by rw[GE hp,GE hq,hI,jA h]⟩,by omega,B2 h0⟩
   |exact A3 rfl (congrArg AV.b (decide_eq_false (fun e=>by subst e;rw[hp]at hq;cases hq;exact h ⟨rfl,rfl⟩)).symm)
 ·repeat'((first|refine S2 ?_|(refine T6 ?_ ?_<;>intro h<;>try exact V1 h)|intro el ke kg|intro el ke|exact T4|refine T5 ?_ ?_|intro ex)<;>try conv=>whnf)
  all_goals first
   |(exfalso;omega)
   |exact A3 rfl (congrArg AV.b (decide_eq_true (by rw[List.take_of_length_le (by omega),List.take_of_length_le (by omega)]at hI;exact hI)).symm)
theorem Wb(xs ys:List Int):A4 Tryz.prog 98 [.sl 1 (xs.map wA),.sl 1 (ys.map wA)] (.b (decide (xs=ys))):=by
 refine D0 Tryz.func98 26 fun ki E h0=>?_
 have kf:xs.length≤9223372036854775807:=by
  have:=(ki (.sl 1 (xs.map wA)) (by simp)).sl
  simpa using this
 have tW:ys.length≤9223372036854775807:=by
  have:=(ki (.sl 1 (ys.map wA)) (by simp)).sl
  simpa using this
 clear ki
 repeat'((first|refine S2 ?_|(refine T6 ?_ ?_<;>intro h<;>try exact V1 h)|intro el ke kg|intro el ke|exact T4|refine T5 ?_ ?_|intro ex)<;>try conv=>whnf)
 ·exact A3 rfl (congrArg AV.b (by
   have:xs≠ys:=by intro e;subst e;omega
   simp[this]))
 have hl:xs.length=ys.length:=by omega
 refine D5 (ι:=Nat) (fun k=>⟨[(0,.sl 1 (xs.map wA)),(1,.sl 1 (ys.map wA)),(5,.i k)],0,[]⟩) (fun k=>k≤xs.length∧ys.take k=xs.take k) (fun k=>xs.length-k) 0 ⟨Nat.zero_le _,rfl⟩ (B2 h0) (fun k hI=>?_)
 obtain⟨hk,hI⟩:=hI
 by_cases kj:k<xs.length
 ·obtain⟨x,hx⟩:∃x,xs[k]?=some x:=⟨_,List.getElem?_eq_getElem kj⟩
  obtain⟨y,hy⟩:∃y,ys[k]?=some y:=⟨_,List.getElem?_eq_getElem (by omega)⟩
  repeat'((first|(refine A2 (x:=x) hx (by omega) ?_)|(refine A2 (x:=y) hy (by omega) ?_)|(refine I6 ?_ ?_;kernel_rfl) |refine S2 ?_|(refine T6 ?_ ?_<;>intro h<;>try exact V1 h)|intro el ke kg|intro el ke|exact T4|refine T5 ?_ ?_|intro ex)<;>try conv=>whnf)
  all_goals first
   |(exfalso;omega)
   |(refine A3 rfl (congrArg AV.b (decide_eq_false (fun e=>?_)).symm)
     subst e
     rw[hx]at hy
     cases hy
     omega)
   |exact⟨k+1,⟨by omega,by rw[GE hx,GE hy,hI];congr 2;omega⟩,by omega,B2 h0⟩
 ·repeat'((first|refine S2 ?_|(refine T6 ?_ ?_<;>intro h<;>try exact V1 h)|intro el ke kg|intro el ke|exact T4|refine T5 ?_ ?_|intro ex)<;>try conv=>whnf)
  all_goals first
   |(exfalso;omega)
   |(refine A3 rfl (congrArg AV.b (decide_eq_true ?_).symm)
     rw[List.take_of_length_le (by omega),List.take_of_length_le (by omega)]at hI
     exact hI.symm)
end Go.Proofs.YtkcekccdcpmekaaGreatDoor
