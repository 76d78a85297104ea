/- Chapter 16: the text of an expression: the walk. -/
import Derived.Test.YtjmbhlgocikfiaaGreatDoorTPg1
import Derived.Test.YtjmbhlgocikfiaaGreatDoorTSj
set_option linter.unusedVariables false
set_option linter.unnecessarySimpa false
set_option linter.unusedSimpArgs false
namespace Go.Proofs.YtjmbhlgocikfiaaGreatDoor
open Go Go.Av
attribute [local irreducible] AWp AOps AAny MAny DQ retQ retG St.le FCall GCall
set_option maxRecDepth 100000
abbrev strT:Nat:=9
abbrev nilS:AV:=.v (.slice none 0 0)
theorem xjoin_call (l:List (List UInt8)) (sep:List UInt8) (h1:l.length ≤ 100) (h:(jnS sep l).length ≤ 100000):FCall Tryz.prog 74 [.sl 1 (l.map strJ), .str sep] (.str (jnS sep l)):=by
 rw [← join_jnS] at h ⊢
 exact join_call l sep (by omega) (by omega)
set_option maxHeartbeats 8000000 in
theorem text_leaf (s:Sch) (e:Xpr) (hg:RigE s e) (ho:e.op = 1 ∨ e.op = 2):FCall Tryz.prog 35 [sA s,xprA e] (.str (txtX s e)):=by
 rcases ho with ho | ho
 ·have hpar:=hg.par
  unfold parB at hpar
  rw [if_pos ho] at hpar
  have hb:=of_decide_eq_true hpar
  have r1:=itoaI_call e.num (by omega) (by omega)
  rw [txtX_eq,if_pos ho,xprA_eq]
  refine fci Tryz.func35 155 fun hrd E h0=>?_
  clear hrd
  repeat' ((first | refine call_i r1 ?_ |refine aops_go ?_|refine S1 ?_|refine Z1 ?_|refine Z2 ?_|(refine And.intro ?_ ?_<;>intro h<;>try first|(exfalso;omega)|exact absurd rfl h)|refine Z3 ?_|refine Z4 ?_|intro el hel hbB|intro el hel|intro ex|refine Z5 ?_|(refine free_i ?_ ?_;exact ⟨by kernel_rfl,by decide⟩)|refine allI_c ?_ ?_|exact allI_n|refine allMP_c ?_ ?_|exact allMP_n|(refine many_step ?_ ?_ ?_;kernel_rfl;kernel_rfl)) <;> (try (conv=>whnf)))
  all_goals first
   | exact ret_tmp rfl rfl
   | (exfalso;omega)
 ·rw [txtX_eq,if_neg (by omega),if_pos ho,xprA_eq]
  refine fci Tryz.func35 155 fun hrd E h0=>?_
  clear hrd
  repeat' ((first|refine aops_go ?_|refine S1 ?_|refine Z1 ?_|refine Z2 ?_|(refine And.intro ?_ ?_<;>intro h<;>try first|(exfalso;omega)|exact absurd rfl h)|refine Z3 ?_|refine Z4 ?_|intro el hel hbB|intro el hel|intro ex|refine Z5 ?_|(refine free_i ?_ ?_;exact ⟨by kernel_rfl,by decide⟩)|refine allI_c ?_ ?_|exact allI_n|refine allMP_c ?_ ?_|exact allMP_n|(refine many_step ?_ ?_ ?_;kernel_rfl;kernel_rfl)) <;> (try (conv=>whnf)))
  all_goals first
   | exact ret_tmp rfl rfl
   | (exfalso;omega)
set_option maxHeartbeats 8000000 in
theorem text_pair (s:Sch) (e:Xpr) (ho:6 ≤ e.op ∧ e.op ≤ 9) (x y:Xpr) (hk:e.kids = [x,y]) (zx zy:List UInt8) (rx:FCall Tryz.prog 35 [sA s,xprA x] (.str zx)) (ry:FCall Tryz.prog 35 [sA s,xprA y] (.str zy)) (lx:zx.length ≤ 20000000) (ly:zy.length ≤ 20000000) :
  FCall Tryz.prog 35 [sA s,xprA e] (.str ([40] ++ zx ++ sgnX e.op ++ zy ++ [41])):=by
 have hs:=sign16_call e.op ho
 have hp:=pair16_call e.op
 have hl:=sgnX_len e.op
 rw [decide_eq_true (show pairP e.op from ho)] at hp
 generalize sgnX e.op = zs at *
 have hx0:e.kids[0]? = some x:=by rw [hk];rfl
 have hy0:e.kids[1]? = some y:=by rw [hk];rfl
 rw [xprA_eq]
 refine fci Tryz.func35 155 fun hrd E h0=>?_
 clear hrd
 repeat' ((first | (refine each_knownm (x:=x) hx0 (by decide) ?_) | (refine each_knownm (x:=y) hy0 (by decide) ?_) | refine call_i hp ?_ | refine call_i hs ?_ | refine call_i rx ?_ | refine call_i ry ?_ | (refine side_i ?_ ?_;(simp only [List.length_append,List.length_cons,List.length_nil];omega)) | (refine draw_q ?_ ?_;kernel_rfl) |refine aops_go ?_|refine S1 ?_|refine Z1 ?_|refine Z2 ?_|(refine And.intro ?_ ?_<;>intro h<;>try first|(exfalso;omega)|exact absurd rfl h)|refine Z3 ?_|refine Z4 ?_|intro el hel hbB|intro el hel|intro ex|refine Z5 ?_|(refine free_i ?_ ?_;exact ⟨by kernel_rfl,by decide⟩)|refine allI_c ?_ ?_|exact allI_n|refine allMP_c ?_ ?_|exact allMP_n|(refine many_step ?_ ?_ ?_;kernel_rfl;kernel_rfl)) <;> (try (conv=>whnf)))
 all_goals first
  | exact ret_tmp rfl rfl
  | (exfalso;omega)
set_option maxHeartbeats 8000000 in
theorem text_cnt (s:Sch) (e:Xpr) (ho:e.op = 3) (hd:e.dims = []) (W C:List UInt8) (hw:FCall Tryz.prog 76 [.i e.op] (.str W)) (lw:W.length ≤ 5) (hc:FCall Tryz.prog 75 [sA s,cndA e.cnd] (.str C)) (hj:(jnS bSep ([] ++ [C])).length ≤ 13000) :
  FCall Tryz.prog 35 [sA s,xprA e] (.str (W ++ [40] ++ jnS bSep ([] ++ [C]) ++ [41])):=by
 have hp:=pair16_call e.op
 rw [decide_eq_false (show ¬ pairP e.op by simp only [pairP];omega)] at hp
 have hJ:=xjoin_call ([] ++ [C]) bSep (by simp) (by omega)
 generalize jnS bSep ([] ++ [C]) = J at *
 rw [xprA_eq]
 refine fci Tryz.func35 155 fun hrd E h0=>?_
 clear hrd
 repeat' ((first | refine call_i hp ?_ | refine ncall_frz 0 ?_ |refine aops_go ?_|refine S1 ?_|refine Z1 ?_|refine Z2 ?_|(refine And.intro ?_ ?_<;>intro h<;>try first|(exfalso;omega)|exact absurd rfl h)|refine Z3 ?_|refine Z4 ?_|intro el hel hbB|intro el hel|intro ex|refine Z5 ?_|(refine free_i ?_ ?_;exact ⟨by kernel_rfl,by decide⟩)|refine allI_c ?_ ?_|exact allI_n|refine allMP_c ?_ ?_|exact allMP_n|(refine many_step ?_ ?_ ?_;kernel_rfl;kernel_rfl)) <;> (try (conv=>whnf)))
 refine loop_i (ι:=Unit) (fun _=>⟨[(2, .iptr (sL s)),(3, .iptr (xprY e)),(5, .fn 73 [.iptr (sL s)]),(6,nilS),(7,nilS),(51, .i 0),(52, .i 0)],2,[]⟩) (fun _=>True) (fun _=>0) () trivial (le_of h0 rfl ⟨rfl,rfl,rfl,rfl,rfl,congrArg (fun z:List Pk=>some (AV.i (z.length:Nat))) hd,rfl,trivial⟩ trivial rfl rfl rfl) (fun _ _=>?_)
 repeat' ((first | refine call_i hp ?_ | refine call_i hw ?_ | refine call_i hc ?_ | (refine side_i ?_ ?_;(simp only [List.length_append,List.length_cons,List.length_nil];omega)) |refine aops_go ?_|refine S1 ?_|refine Z1 ?_|refine Z2 ?_|(refine And.intro ?_ ?_<;>intro h<;>try first|(exfalso;omega)|exact absurd rfl h)|refine Z3 ?_|refine Z4 ?_|intro el hel hbB|intro el hel|intro ex|refine Z5 ?_|(refine free_i ?_ ?_;exact ⟨by kernel_rfl,by decide⟩)|refine allI_c ?_ ?_|exact allI_n|refine allMP_c ?_ ?_|exact allMP_n|(refine many_step ?_ ?_ ?_;kernel_rfl;kernel_rfl) | (refine draw_id 30 ?_;refine draw_le (id:=30) (σ':=⟨[(2, .iptr (sL s)),(3, .iptr (xprY e)),(6,nilS)],2,[]⟩) (le_of h0 rfl ⟨rfl,rfl,rfl,trivial⟩ trivial rfl rfl rfl) ?_;refine draw_m (id:=30) ⟨[(4, .str (W ++ [40] ++ J ++ [41]))],2,[]⟩ ?_ ?_) | refine ncall_lend [2] hJ rfl rfl rfl rfl rfl rfl ?_) <;> (try (conv=>whnf)))
 all_goals first
  | exact le_of h0 rfl ⟨rfl,trivial⟩ trivial rfl rfl rfl
  | exact le_of h0 rfl ⟨rfl,rfl,rfl,trivial⟩ ⟨⟨_,rfl⟩,trivial⟩ rfl rfl rfl
  | exact ret_tmp rfl rfl
  | (exfalso;omega)
set_option maxHeartbeats 8000000 in
theorem text_one (s:Sch) (e:Xpr) (ho:e.op = 4 ∨ e.op = 5 ∨ e.op = 14) (hd:e.dims = []) (N:List UInt8) (hn:FCall Tryz.prog 73 [.i e.col, .iptr (sL s)] (.str N)) (W C:List UInt8) (hw:FCall Tryz.prog 76 [.i e.op] (.str W)) (lw:W.length ≤ 5) (hc:FCall Tryz.prog 75 [sA s,cndA e.cnd] (.str C)) (hj:(jnS bSep ([N] ++ [C])).length ≤ 13000) :
  FCall Tryz.prog 35 [sA s,xprA e] (.str (W ++ [40] ++ jnS bSep ([N] ++ [C]) ++ [41])):=by
 have hp:=pair16_call e.op
 rw [decide_eq_false (show ¬ pairP e.op by simp only [pairP];omega)] at hp
 have hJ:=xjoin_call ([N] ++ [C]) bSep (by simp) (by omega)
 generalize jnS bSep ([N] ++ [C]) = J at *
 rw [xprA_eq]
 refine fci Tryz.func35 155 fun hrd E h0=>?_
 clear hrd
 repeat' ((first | refine call_i hp ?_ | refine ncall_frz 0 ?_ |refine aops_go ?_|refine S1 ?_|refine Z1 ?_|refine Z2 ?_|(refine And.intro ?_ ?_<;>intro h<;>try first|(exfalso;omega)|exact absurd rfl h)|refine Z3 ?_|refine Z4 ?_|intro el hel hbB|intro el hel|intro ex|refine Z5 ?_|(refine free_i ?_ ?_;exact ⟨by kernel_rfl,by decide⟩)|refine allI_c ?_ ?_|exact allI_n|refine allMP_c ?_ ?_|exact allMP_n|(refine many_step ?_ ?_ ?_;kernel_rfl;kernel_rfl)) <;> (try (conv=>whnf)))
 refine loop_i (ι:=Unit) (fun _=>⟨[(2, .iptr (sL s)),(3, .iptr (xprY e)),(5, .fn 73 [.iptr (sL s)]),(6,nilS),(7,nilS),(51, .i 0),(52, .i 0)],2,[]⟩) (fun _=>True) (fun _=>0) () trivial (le_of h0 rfl ⟨rfl,rfl,rfl,rfl,rfl,congrArg (fun z:List Pk=>some (AV.i (z.length:Nat))) hd,rfl,trivial⟩ trivial rfl rfl rfl) (fun _ _=>?_)
 repeat' ((first | refine call_i hp ?_ | refine call_i hw ?_ | refine call_i hc ?_ | refine call_i hn ?_ | (refine side_i ?_ ?_;(simp only [List.length_append,List.length_cons,List.length_nil];omega)) |refine aops_go ?_|refine S1 ?_|refine Z1 ?_|refine Z2 ?_|(refine And.intro ?_ ?_<;>intro h<;>try first|(exfalso;omega)|exact absurd rfl h)|refine Z3 ?_|refine Z4 ?_|intro el hel hbB|intro el hel|intro ex|refine Z5 ?_|(refine free_i ?_ ?_;exact ⟨by kernel_rfl,by decide⟩)|refine allI_c ?_ ?_|exact allI_n|refine allMP_c ?_ ?_|exact allMP_n|(refine many_step ?_ ?_ ?_;kernel_rfl;kernel_rfl) | (refine draw_id 30 ?_;refine draw_le (id:=30) (σ':=⟨[(2, .iptr (sL s)),(3, .iptr (xprY e)),(6, .row 2 1 1)],3,[(2,some (.row strT 1 1 [[.str N]]))]⟩) (le_of h0 rfl ⟨rfl,rfl,rfl,trivial⟩ ⟨⟨_,rfl⟩,trivial⟩ rfl rfl rfl) ?_;refine draw_m (id:=30) ⟨[(4, .str (W ++ [40] ++ J ++ [41]))],3,[]⟩ ?_ ?_) | refine ncall_lend [2] hJ rfl rfl rfl rfl rfl rfl ?_) <;> (try (conv=>whnf)))
 all_goals first
  | exact le_of h0 rfl ⟨rfl,trivial⟩ trivial rfl rfl rfl
  | exact le_of h0 rfl ⟨rfl,rfl,rfl,trivial⟩ ⟨⟨_,rfl⟩,trivial⟩ rfl rfl rfl
  | exact ret_tmp rfl rfl
  | (exfalso;omega)
set_option maxHeartbeats 8000000 in
theorem text_his (s:Sch) (e:Xpr) (ho:e.op = 13) (hd:e.dims = []) (hb:0 ≤ e.num ∧ e.num ≤ 1000000) (N:List UInt8) (hn:FCall Tryz.prog 73 [.i e.col, .iptr (sL s)] (.str N)) (W C:List UInt8) (hw:FCall Tryz.prog 76 [.i e.op] (.str W)) (lw:W.length ≤ 5) (hc:FCall Tryz.prog 75 [sA s,cndA e.cnd] (.str C)) (hj:(jnS bSep ([N,Lib.itoa e.num] ++ [C])).length ≤ 13000) :
  FCall Tryz.prog 35 [sA s,xprA e] (.str (W ++ [40] ++ jnS bSep ([N,Lib.itoa e.num] ++ [C]) ++ [41])):=by
 have hp:=pair16_call e.op
 rw [decide_eq_false (show ¬ pairP e.op by simp only [pairP];omega)] at hp
 have hJ:=xjoin_call ([N,Lib.itoa e.num] ++ [C]) bSep (by simp) (by omega)
 generalize jnS bSep ([N,Lib.itoa e.num] ++ [C]) = J at *
 have hi:=itoaI_call e.num (by omega) (by omega)
 generalize Lib.itoa e.num = I at *
 rw [xprA_eq]
 refine fci Tryz.func35 155 fun hrd E h0=>?_
 clear hrd
 repeat' ((first | refine call_i hp ?_ | refine ncall_frz 0 ?_ |refine aops_go ?_|refine S1 ?_|refine Z1 ?_|refine Z2 ?_|(refine And.intro ?_ ?_<;>intro h<;>try first|(exfalso;omega)|exact absurd rfl h)|refine Z3 ?_|refine Z4 ?_|intro el hel hbB|intro el hel|intro ex|refine Z5 ?_|(refine free_i ?_ ?_;exact ⟨by kernel_rfl,by decide⟩)|refine allI_c ?_ ?_|exact allI_n|refine allMP_c ?_ ?_|exact allMP_n|(refine many_step ?_ ?_ ?_;kernel_rfl;kernel_rfl)) <;> (try (conv=>whnf)))
 refine loop_i (ι:=Unit) (fun _=>⟨[(2, .iptr (sL s)),(3, .iptr (xprY e)),(5, .fn 73 [.iptr (sL s)]),(6,nilS),(7,nilS),(51, .i 0),(52, .i 0)],2,[]⟩) (fun _=>True) (fun _=>0) () trivial (le_of h0 rfl ⟨rfl,rfl,rfl,rfl,rfl,congrArg (fun z:List Pk=>some (AV.i (z.length:Nat))) hd,rfl,trivial⟩ trivial rfl rfl rfl) (fun _ _=>?_)
 repeat' ((first | refine call_i hp ?_ | refine call_i hw ?_ | refine call_i hc ?_ | refine call_i hn ?_ | refine call_i hi ?_ | (refine side_i ?_ ?_;(simp only [List.length_append,List.length_cons,List.length_nil];omega)) |refine aops_go ?_|refine S1 ?_|refine Z1 ?_|refine Z2 ?_|(refine And.intro ?_ ?_<;>intro h<;>try first|(exfalso;omega)|exact absurd rfl h)|refine Z3 ?_|refine Z4 ?_|intro el hel hbB|intro el hel|intro ex|refine Z5 ?_|(refine free_i ?_ ?_;exact ⟨by kernel_rfl,by decide⟩)|refine allI_c ?_ ?_|exact allI_n|refine allMP_c ?_ ?_|exact allMP_n|(refine many_step ?_ ?_ ?_;kernel_rfl;kernel_rfl) | (refine draw_id 27 ?_;refine draw_le (id:=27) (σ':=⟨[(2, .iptr (sL s)),(3, .iptr (xprY e)),(5, .fn 73 [.iptr (sL s)]),(6,nilS)],2,[]⟩) (le_of h0 rfl ⟨rfl,rfl,rfl,rfl,trivial⟩ trivial rfl rfl rfl) ?_;refine draw_m (id:=27) ⟨[(2, .iptr (sL s)),(3, .iptr (xprY e)),(6, .row 2 1 2)],3,[(2,some (.row strT 1 1 [[.str N],[.str I]]))]⟩ ?_ ?_) | (refine draw_id 30 ?_;refine draw_le (id:=30) (σ':=⟨[(2, .iptr (sL s)),(3, .iptr (xprY e)),(6, .row 2 1 2)],3,[(2,some (.row strT 1 1 [[.str N],[.str I]]))]⟩) (le_of h0 rfl ⟨rfl,rfl,rfl,trivial⟩ ⟨⟨_,rfl⟩,trivial⟩ rfl rfl rfl) ?_;refine draw_m (id:=30) ⟨[(4, .str (W ++ [40] ++ J ++ [41]))],3,[]⟩ ?_ ?_) | refine ncall_lend [2] hJ rfl rfl rfl rfl rfl rfl ?_) <;> (try (conv=>whnf)))
 all_goals first
  | exact le_of h0 rfl ⟨rfl,trivial⟩ trivial rfl rfl rfl
  | exact le_of h0 rfl ⟨rfl,rfl,rfl,trivial⟩ ⟨⟨_,rfl⟩,trivial⟩ rfl rfl rfl
  | exact ret_tmp rfl rfl
  | (exfalso;omega)
set_option maxHeartbeats 8000000 in
theorem text_cur (s:Sch) (e:Xpr) (ho:e.op = 12) (hd:e.dims = []) (N:List UInt8) (hn:FCall Tryz.prog 73 [.i e.col, .iptr (sL s)] (.str N)) (V:List UInt8) (hv:FCall Tryz.prog 75 [sA s,cndA e.evt] (.str V)) (W C:List UInt8) (hw:FCall Tryz.prog 76 [.i e.op] (.str W)) (lw:W.length ≤ 5) (hc:FCall Tryz.prog 75 [sA s,cndA e.cnd] (.str C)) (hj:(jnS bSep ([N,V] ++ [C])).length ≤ 13000) :
  FCall Tryz.prog 35 [sA s,xprA e] (.str (W ++ [40] ++ jnS bSep ([N,V] ++ [C]) ++ [41])):=by
 have hp:=pair16_call e.op
 rw [decide_eq_false (show ¬ pairP e.op by simp only [pairP];omega)] at hp
 have hJ:=xjoin_call ([N,V] ++ [C]) bSep (by simp) (by omega)
 generalize jnS bSep ([N,V] ++ [C]) = J at *
 rw [xprA_eq]
 refine fci Tryz.func35 155 fun hrd E h0=>?_
 clear hrd
 repeat' ((first | refine call_i hp ?_ | refine ncall_frz 0 ?_ |refine aops_go ?_|refine S1 ?_|refine Z1 ?_|refine Z2 ?_|(refine And.intro ?_ ?_<;>intro h<;>try first|(exfalso;omega)|exact absurd rfl h)|refine Z3 ?_|refine Z4 ?_|intro el hel hbB|intro el hel|intro ex|refine Z5 ?_|(refine free_i ?_ ?_;exact ⟨by kernel_rfl,by decide⟩)|refine allI_c ?_ ?_|exact allI_n|refine allMP_c ?_ ?_|exact allMP_n|(refine many_step ?_ ?_ ?_;kernel_rfl;kernel_rfl)) <;> (try (conv=>whnf)))
 refine loop_i (ι:=Unit) (fun _=>⟨[(2, .iptr (sL s)),(3, .iptr (xprY e)),(5, .fn 73 [.iptr (sL s)]),(6,nilS),(7,nilS),(51, .i 0),(52, .i 0)],2,[]⟩) (fun _=>True) (fun _=>0) () trivial (le_of h0 rfl ⟨rfl,rfl,rfl,rfl,rfl,congrArg (fun z:List Pk=>some (AV.i (z.length:Nat))) hd,rfl,trivial⟩ trivial rfl rfl rfl) (fun _ _=>?_)
 repeat' ((first | refine call_i hp ?_ | refine call_i hw ?_ | refine call_i hc ?_ | refine call_i hn ?_ | refine call_i hv ?_ | (refine side_i ?_ ?_;(simp only [List.length_append,List.length_cons,List.length_nil];omega)) |refine aops_go ?_|refine S1 ?_|refine Z1 ?_|refine Z2 ?_|(refine And.intro ?_ ?_<;>intro h<;>try first|(exfalso;omega)|exact absurd rfl h)|refine Z3 ?_|refine Z4 ?_|intro el hel hbB|intro el hel|intro ex|refine Z5 ?_|(refine free_i ?_ ?_;exact ⟨by kernel_rfl,by decide⟩)|refine allI_c ?_ ?_|exact allI_n|refine allMP_c ?_ ?_|exact allMP_n|(refine many_step ?_ ?_ ?_;kernel_rfl;kernel_rfl) | (refine draw_id 29 ?_;refine draw_le (id:=29) (σ':=⟨[(2, .iptr (sL s)),(3, .iptr (xprY e)),(5, .fn 73 [.iptr (sL s)]),(6,nilS)],2,[]⟩) (le_of h0 rfl ⟨rfl,rfl,rfl,rfl,trivial⟩ trivial rfl rfl rfl) ?_;refine draw_m (id:=29) ⟨[(2, .iptr (sL s)),(3, .iptr (xprY e)),(6, .row 2 1 2)],3,[(2,some (.row strT 1 1 [[.str N],[.str V]]))]⟩ ?_ ?_) | (refine draw_id 30 ?_;refine draw_le (id:=30) (σ':=⟨[(2, .iptr (sL s)),(3, .iptr (xprY e)),(6, .row 2 1 2)],3,[(2,some (.row strT 1 1 [[.str N],[.str V]]))]⟩) (le_of h0 rfl ⟨rfl,rfl,rfl,trivial⟩ ⟨⟨_,rfl⟩,trivial⟩ rfl rfl rfl) ?_;refine draw_m (id:=30) ⟨[(4, .str (W ++ [40] ++ J ++ [41]))],3,[]⟩ ?_ ?_) | refine ncall_lend [2] hJ rfl rfl rfl rfl rfl rfl ?_) <;> (try (conv=>whnf)))
 all_goals first
  | exact le_of h0 rfl ⟨rfl,trivial⟩ trivial rfl rfl rfl
  | exact le_of h0 rfl ⟨rfl,rfl,rfl,trivial⟩ ⟨⟨_,rfl⟩,trivial⟩ rfl rfl rfl
  | exact ret_tmp rfl rfl
  | (exfalso;omega)
set_option maxHeartbeats 8000000 in
theorem text_mod (s:Sch) (e:Xpr) (ho:e.op = 11) (hd:e.dims = []) (hcl:e.cols.length ≤ 3) (hcs:∀ c ∈ e.cols,c < s.cols.length) (T:List UInt8) (hT:T = jnS bCom (e.cols.map (nmD s))) (lT:T.length ≤ 100) (N:List UInt8) (hn:FCall Tryz.prog 73 [.i e.col, .iptr (sL s)] (.str N)) (W C:List UInt8) (hw:FCall Tryz.prog 76 [.i e.op] (.str W)) (lw:W.length ≤ 5) (hc:FCall Tryz.prog 75 [sA s,cndA e.cnd] (.str C)) (hj:(jnS bSep ([N,T] ++ [C])).length ≤ 13000) :
  FCall Tryz.prog 35 [sA s,xprA e] (.str (W ++ [40] ++ jnS bSep ([N,T] ++ [C]) ++ [41])):=by
 have hp:=pair16_call e.op
 rw [decide_eq_false (show ¬ pairP e.op by simp only [pairP];omega)] at hp
 have hJ:=xjoin_call ([N,T] ++ [C]) bSep (by simp) (by omega)
 generalize jnS bSep ([N,T] ++ [C]) = J at *
 have hJ0:=xjoin_call (e.cols.map (nmD s)) bCom (by rw [List.length_map];omega) (by rw [← hT];omega)
 rw [← hT] at hJ0
 clear hT
 rw [xprA_eq]
 refine fci Tryz.func35 155 fun hrd E h0=>?_
 clear hrd
 repeat' ((first | refine call_i hp ?_ | refine ncall_frz 0 ?_ |refine aops_go ?_|refine S1 ?_|refine Z1 ?_|refine Z2 ?_|(refine And.intro ?_ ?_<;>intro h<;>try first|(exfalso;omega)|exact absurd rfl h)|refine Z3 ?_|refine Z4 ?_|intro el hel hbB|intro el hel|intro ex|refine Z5 ?_|(refine free_i ?_ ?_;exact ⟨by kernel_rfl,by decide⟩)|refine allI_c ?_ ?_|exact allI_n|refine allMP_c ?_ ?_|exact allMP_n|(refine many_step ?_ ?_ ?_;kernel_rfl;kernel_rfl)) <;> (try (conv=>whnf)))
 refine loop_i (ι:=Unit) (fun _=>⟨[(2, .iptr (sL s)),(3, .iptr (xprY e)),(5, .fn 73 [.iptr (sL s)]),(6,nilS),(7,nilS),(51, .i 0),(52, .i 0)],2,[]⟩) (fun _=>True) (fun _=>0) () trivial (le_of h0 rfl ⟨rfl,rfl,rfl,rfl,rfl,congrArg (fun z:List Pk=>some (AV.i (z.length:Nat))) hd,rfl,trivial⟩ trivial rfl rfl rfl) (fun _ _=>?_)
 repeat' ((first | refine call_i hp ?_ |refine aops_go ?_|refine S1 ?_|refine Z1 ?_|refine Z2 ?_|(refine And.intro ?_ ?_<;>intro h<;>try first|(exfalso;omega)|exact absurd rfl h)|refine Z3 ?_|refine Z4 ?_|intro el hel hbB|intro el hel|intro ex|refine Z5 ?_|(refine free_i ?_ ?_;exact ⟨by kernel_rfl,by decide⟩)|refine allI_c ?_ ?_|exact allI_n|refine allMP_c ?_ ?_|exact allMP_n|(refine many_step ?_ ?_ ?_;kernel_rfl;kernel_rfl)) <;> (try (conv=>whnf)))
 refine loop_i (ι:=Nat × List (List UInt8)) (fun x=>⟨[(2, .iptr (sL s)),(3, .iptr (xprY e)),(5, .fn 73 [.iptr (sL s)]),(6,nilS),(7, .row 2 0 x.2.length),(94, .sl 1 (e.cols.map wA)),(95, .i e.cols.length),(96, .i x.1)],3,[(2,some (.row strT 1 0 (x.2.map strJ)))]⟩) (fun x=>x.1 ≤ e.cols.length ∧ x.2 = (e.cols.take x.1).map (nmD s)) (fun x=>e.cols.length - x.1) (0,[]) ⟨Nat.zero_le _,rfl⟩
  (le_trans (le_adopt (d:=7) (e:=strT) (sz:=1) rfl) (le_of h0 rfl ⟨rfl,rfl,rfl,rfl,rfl,rfl,rfl,rfl,trivial⟩ ⟨⟨_,rfl⟩,trivial⟩ rfl rfl rfl)) (fun x hI=>?_)
 obtain ⟨k,l⟩:=x
 obtain ⟨hk,hI⟩:=hI
 dsimp only at hk hI ⊢
 have hll:l.length ≤ 3:=by rw [hI,List.length_map,List.length_take];omega
 by_cases hlt:k < e.cols.length
 ·obtain ⟨c,hcg⟩:∃ c,e.cols[k]? = some c:=⟨_,List.getElem?_eq_getElem hlt⟩
  have hn2:=name16_call s c (hcs c (List.mem_of_getElem? hcg))
  generalize hz:nmD s c = z at *
  repeat' ((first | (refine each_knownm (x:=c) hcg (by omega) ?_) | refine call_i hn2 ?_ |refine aops_go ?_|refine S1 ?_|refine Z1 ?_|refine Z2 ?_|(refine And.intro ?_ ?_<;>intro h<;>try first|(exfalso;omega)|exact absurd rfl h)|refine Z3 ?_|refine Z4 ?_|intro el hel hbB|intro el hel|intro ex|refine Z5 ?_|(refine free_i ?_ ?_;exact ⟨by kernel_rfl,by decide⟩)|refine allI_c ?_ ?_|exact allI_n|refine allMP_c ?_ ?_|exact allMP_n|(refine many_step ?_ ?_ ?_;kernel_rfl;kernel_rfl)) <;> (try (conv=>whnf)))
  all_goals first
   | exact ⟨(k + 1,l ++ [z]),⟨by dsimp only;omega,by dsimp only;rw [hI,List.take_add_one,hcg, ← hz,List.map_append];rfl⟩,by dsimp only;omega,le_of h0 rfl ⟨rfl,rfl,rfl,rfl,congrArg (fun z:Nat=>some (AV.row 2 0 z)) (by rw [List.length_append];rfl),rfl,rfl,rfl,trivial⟩ ⟨⟨_,congrArg (Blk.row strT 1 _) (by rw [List.map_append];rfl)⟩,trivial⟩ rfl rfl rfl⟩
   | (exfalso;omega)
 have hkl:k = e.cols.length:=by omega
 have hfull:l = e.cols.map (nmD s):=by rw [hI,hkl,List.take_length]
 rw [← hfull] at hJ0
 clear hI hfull
 repeat' ((first | refine call_i hp ?_ | refine call_i hw ?_ | refine call_i hc ?_ | refine call_i hn ?_ | (refine side_i ?_ ?_;(simp only [List.length_append,List.length_cons,List.length_nil];omega)) |refine aops_go ?_|refine S1 ?_|refine Z1 ?_|refine Z2 ?_|(refine And.intro ?_ ?_<;>intro h<;>try first|(exfalso;omega)|exact absurd rfl h)|refine Z3 ?_|refine Z4 ?_|intro el hel hbB|intro el hel|intro ex|refine Z5 ?_|(refine free_i ?_ ?_;exact ⟨by kernel_rfl,by decide⟩)|refine allI_c ?_ ?_|exact allI_n|refine allMP_c ?_ ?_|exact allMP_n|(refine many_step ?_ ?_ ?_;kernel_rfl;kernel_rfl) | refine ncall_lend [2] hJ0 rfl rfl rfl rfl rfl rfl ?_ | (refine draw_id 30 ?_;refine draw_le (id:=30) (σ':=⟨[(2, .iptr (sL s)),(3, .iptr (xprY e)),(6, .row 3 1 2)],4,[(3,some (.row strT 1 1 [[.str N],[.str T]]))]⟩) (le_of h0 rfl ⟨rfl,rfl,rfl,trivial⟩ ⟨⟨_,rfl⟩,trivial⟩ rfl rfl rfl) ?_;refine draw_m (id:=30) ⟨[(4, .str (W ++ [40] ++ J ++ [41]))],4,[]⟩ ?_ ?_) | refine ncall_lend [3] hJ rfl rfl rfl rfl rfl rfl ?_) <;> (try (conv=>whnf)))
 all_goals first
  | exact le_of h0 rfl ⟨rfl,trivial⟩ trivial rfl rfl rfl
  | exact le_of h0 rfl ⟨rfl,rfl,rfl,trivial⟩ ⟨⟨_,rfl⟩,trivial⟩ rfl rfl rfl
  | exact ret_tmp rfl rfl
  | (exfalso;omega)
set_option maxHeartbeats 8000000 in
theorem text_tab (s:Sch) (e:Xpr) (ho:e.op = 10) (hdl:e.dims.length ≤ 3) (hr:schE s = 0) (hds:∀ d ∈ e.dims,okD s d) (T:List UInt8) (hT:T = jnS bCom (e.dims.map (dimT s))) (lT:T.length ≤ 200) (N:List UInt8) (hn:FCall Tryz.prog 73 [.i e.col, .iptr (sL s)] (.str N)) (W C:List UInt8) (hw:FCall Tryz.prog 76 [.i e.op] (.str W)) (lw:W.length ≤ 5) (hc:FCall Tryz.prog 75 [sA s,cndA e.cnd] (.str C)) (hj:(jnS bSep ([T,N] ++ [C])).length ≤ 13000) :
  FCall Tryz.prog 35 [sA s,xprA e] (.str (W ++ [40] ++ jnS bSep ([T,N] ++ [C]) ++ [41])):=by
 have hp:=pair16_call e.op
 rw [decide_eq_false (show ¬ pairP e.op by simp only [pairP];omega)] at hp
 have hJ:=xjoin_call ([T,N] ++ [C]) bSep (by simp) (by omega)
 generalize jnS bSep ([T,N] ++ [C]) = J at *
 have hJ0:=xjoin_call (e.dims.map (dimT s)) bCom (by rw [List.length_map];omega) (by rw [← hT];omega)
 rw [← hT] at hJ0
 clear hT
 rw [xprA_eq]
 refine fci Tryz.func35 155 fun hrd E h0=>?_
 clear hrd
 repeat' ((first | refine call_i hp ?_ | refine ncall_frz 0 ?_ |refine aops_go ?_|refine S1 ?_|refine Z1 ?_|refine Z2 ?_|(refine And.intro ?_ ?_<;>intro h<;>try first|(exfalso;omega)|exact absurd rfl h)|refine Z3 ?_|refine Z4 ?_|intro el hel hbB|intro el hel|intro ex|refine Z5 ?_|(refine free_i ?_ ?_;exact ⟨by kernel_rfl,by decide⟩)|refine allI_c ?_ ?_|exact allI_n|refine allMP_c ?_ ?_|exact allMP_n|(refine many_step ?_ ?_ ?_;kernel_rfl;kernel_rfl)) <;> (try (conv=>whnf)))
 refine loop_i (ι:=Nat × List (List UInt8)) (fun x=>⟨[(2, .iptr (sL s)),(3, .iptr (xprY e)),(5, .fn 73 [.iptr (sL s)]),(6,nilS),(7, .row 2 0 x.2.length),(50, .sl 2 (e.dims.map pkL)),(51, .i e.dims.length),(52, .i x.1)],3,[(2,some (.row strT 1 0 (x.2.map strJ)))]⟩) (fun x=>x.1 ≤ e.dims.length ∧ x.2 = (e.dims.take x.1).map (dimT s)) (fun x=>e.dims.length - x.1) (0,[]) ⟨Nat.zero_le _,rfl⟩
  (le_trans (le_adopt (d:=7) (e:=strT) (sz:=1) rfl) (le_of h0 rfl ⟨rfl,rfl,rfl,rfl,rfl,rfl,rfl,rfl,trivial⟩ ⟨⟨_,rfl⟩,trivial⟩ rfl rfl rfl)) (fun x hI=>?_)
 obtain ⟨k,l⟩:=x
 obtain ⟨hk,hI⟩:=hI
 dsimp only at hk hI ⊢
 have hll:l.length ≤ 3:=by rw [hI,List.length_map,List.length_take];omega
 by_cases hlt:k < e.dims.length
 ·obtain ⟨d,hdg⟩:∃ d,e.dims[k]? = some d:=⟨_,List.getElem?_eq_getElem hlt⟩
  have hok:=hds d (List.mem_of_getElem? hdg)
  have hn2:=name16_call s d.col hok.1.2
  have hi2:=itoaI_call d.lev (by have:=hok.2;omega) (by have:=hok.2;omega)
  have ln:=nmD_len hr d.col
  have li:=Lib.itoa_length_le d.lev (by have:=hok.2;omega) (by have:=hok.2;omega)
  have hz:dimT s d = nmD s d.col ++ [47] ++ Lib.itoa d.lev:=rfl
  generalize nmD s d.col = z at *
  generalize Lib.itoa d.lev = y at *
  repeat' ((first | (refine each_knownm (x:=d) hdg (by omega) ?_) | refine call_i hn2 ?_ | refine call_i hi2 ?_ | (refine side_i ?_ ?_;(simp only [List.length_append,List.length_cons,List.length_nil];omega)) |refine aops_go ?_|refine S1 ?_|refine Z1 ?_|refine Z2 ?_|(refine And.intro ?_ ?_<;>intro h<;>try first|(exfalso;omega)|exact absurd rfl h)|refine Z3 ?_|refine Z4 ?_|intro el hel hbB|intro el hel|intro ex|refine Z5 ?_|(refine free_i ?_ ?_;exact ⟨by kernel_rfl,by decide⟩)|refine allI_c ?_ ?_|exact allI_n|refine allMP_c ?_ ?_|exact allMP_n|(refine many_step ?_ ?_ ?_;kernel_rfl;kernel_rfl) | (refine draw_id 12 ?_;refine draw_le (id:=12) (σ':=⟨[(2, .iptr (sL s)),(3, .iptr (xprY e)),(5, .fn 73 [.iptr (sL s)]),(6,nilS),(7, .row 2 0 l.length),(9, .iptr (pkL d)),(50, .sl 2 (e.dims.map pkL)),(51, .i e.dims.length),(52, .i k)],3,[(2,some (.row strT 1 0 (l.map strJ)))]⟩) (le_of h0 rfl ⟨rfl,rfl,rfl,rfl,rfl,rfl,rfl,rfl,rfl,trivial⟩ ⟨⟨_,rfl⟩,trivial⟩ rfl rfl rfl) ?_;refine draw_m (id:=12) ⟨[(2, .iptr (sL s)),(3, .iptr (xprY e)),(5, .fn 73 [.iptr (sL s)]),(6,nilS),(7, .row 2 1 (l.length + 1)),(50, .sl 2 (e.dims.map pkL)),(51, .i e.dims.length),(52, .i k)],3,[(2,some (.row strT 1 1 (l.map strJ ++ [[.str (z ++ [47] ++ y)]])))]⟩ ?_ ?_)) <;> (try (conv=>whnf)))
  all_goals first
   | exact le_of h0 rfl ⟨rfl,rfl,rfl,rfl,rfl,rfl,rfl,rfl,trivial⟩ ⟨⟨_,rfl⟩,trivial⟩ rfl rfl rfl
   | exact ⟨(k + 1,l ++ [z ++ [47] ++ y]),⟨by dsimp only;omega,by dsimp only;rw [hI,List.take_add_one,hdg, ← hz,List.map_append];rfl⟩,by dsimp only;omega,le_of h0 rfl ⟨rfl,rfl,rfl,rfl,congrArg (fun z:Nat=>some (AV.row 2 0 z)) (by rw [List.length_append];rfl),rfl,rfl,rfl,trivial⟩ ⟨⟨_,congrArg (Blk.row strT 1 _) (by rw [List.map_append];rfl)⟩,trivial⟩ rfl rfl rfl⟩
   | (exfalso;omega)
 have hkl:k = e.dims.length:=by omega
 have hfull:l = e.dims.map (dimT s):=by rw [hI,hkl,List.take_length]
 rw [← hfull] at hJ0
 clear hI hfull
 repeat' ((first | refine call_i hp ?_ | refine call_i hw ?_ | refine call_i hc ?_ | refine call_i hn ?_ | refine call_i hJ0 ?_ | (refine side_i ?_ ?_;(simp only [List.length_append,List.length_cons,List.length_nil];omega)) |refine aops_go ?_|refine S1 ?_|refine Z1 ?_|refine Z2 ?_|(refine And.intro ?_ ?_<;>intro h<;>try first|(exfalso;omega)|exact absurd rfl h)|refine Z3 ?_|refine Z4 ?_|intro el hel hbB|intro el hel|intro ex|refine Z5 ?_|(refine free_i ?_ ?_;exact ⟨by kernel_rfl,by decide⟩)|refine allI_c ?_ ?_|exact allI_n|refine allMP_c ?_ ?_|exact allMP_n|(refine many_step ?_ ?_ ?_;kernel_rfl;kernel_rfl) | (refine draw_id 18 ?_;refine draw_le (id:=18) (σ':=⟨[(2, .iptr (sL s)),(3, .iptr (xprY e)),(5, .fn 73 [.iptr (sL s)]),(6,nilS),(7, .sl 1 (l.map strJ))],3,[]⟩) (le_of h0 rfl ⟨rfl,rfl,rfl,rfl,rfl,trivial⟩ trivial rfl rfl rfl) ?_;refine draw_m (id:=18) ⟨[(2, .iptr (sL s)),(3, .iptr (xprY e)),(6, .row 3 1 2)],4,[(3,some (.row strT 1 1 [[.str T],[.str N]]))]⟩ ?_ ?_) | (refine draw_id 30 ?_;refine draw_le (id:=30) (σ':=⟨[(2, .iptr (sL s)),(3, .iptr (xprY e)),(6, .row 3 1 2)],4,[(3,some (.row strT 1 1 [[.str T],[.str N]]))]⟩) (le_of h0 rfl ⟨rfl,rfl,rfl,trivial⟩ ⟨⟨_,rfl⟩,trivial⟩ rfl rfl rfl) ?_;refine draw_m (id:=30) ⟨[(4, .str (W ++ [40] ++ J ++ [41]))],4,[]⟩ ?_ ?_) | refine ncall_lend [3] hJ rfl rfl rfl rfl rfl rfl ?_) <;> (try (conv=>whnf)))
 all_goals first
  | exact le_of h0 rfl ⟨rfl,trivial⟩ trivial rfl rfl rfl
  | exact le_of h0 rfl ⟨rfl,rfl,rfl,trivial⟩ ⟨⟨_,rfl⟩,trivial⟩ rfl rfl rfl
  | exact ret_tmp rfl rfl
  | (exfalso;omega)
end Go.Proofs.YtjmbhlgocikfiaaGreatDoor
