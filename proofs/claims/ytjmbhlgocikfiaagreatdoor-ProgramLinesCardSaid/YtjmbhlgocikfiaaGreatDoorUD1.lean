/- Chapter 5: the reader's numbers, and what stands behind a column's name. Chapter 5: the reader: a condition about one column, behind the column's name. Chapter 5: the reader: conditions. Chapter 5: texts of conditions; conditions out of texts. -/
import Derived.Test.YtjmbhlgocikfiaaGreatDoorUC4
import Derived.Test.YtjmbhlgocikfiaaGreatDoorUC3
import Derived.Lib.AtoiAllCases
import Derived.Lib.ItoaLen
set_option linter.unusedVariables false
set_option linter.unnecessarySimpa false
set_option linter.unusedSimpArgs false
namespace Go.Proofs.YtjmbhlgocikfiaaGreatDoor
open Go Go.Av
attribute [local irreducible] AWp AOps AAny MAny DQ retQ retG St.le FCall GCall
set_option maxRecDepth 100000
theorem cut_cases (w t:List UInt8):cutS w t = (t,false) ∨ ∃ u,cutS w t = (u,true) ∧ u.length ≤ t.length:=by
 unfold cutS
 split
 ·exact .inr ⟨_,rfl,by simp⟩
 ·exact .inl rfl
set_option maxHeartbeats 4000000 in
theorem numv_call (s:Sch) (t u w r sg:List UInt8) (neg:Bool) (left:Int) (hc:cutS [45] t = (u,neg)) (hw:u.takeWhile isW = w) (hr:u.dropWhile isW = r) (hsg:sg = if neg = true then [45] else []) (ht:t.length ≤ 140737488355328) (hu:u.length ≤ t.length) (v:Int) (b:Bool)
  (hat:FCall Tryz.prog 150 [.str (sg ++ w)] (.tup [.v (.int .i64 v),if b = true then .v .nilIface else .err])) (hb:b = true → -9223372036854775808 ≤ v ∧ v ≤ 9223372036854775807) :
  GCall Tryz.prog 224 1 (rdB s t left) [.ref 0 0] 1 (rdB s r left) (.tup [.i v, .b (b && decide (Lib.itoa v = sg ++ w))]):=by
 have r1:=take_call s t [45] left (by omega) (by decide)
 have r2:=word_call s u left (by omega)
 have hwl:=takeWhile_len isW u
 rw [hc] at r1
 rw [hw] at hwl
 rw [hw,hr] at r2
 dsimp only at r1
 have r4:b = true → FCall Tryz.prog 27 [.v (.int .i64 v)] (.str (Lib.itoa v)):=fun h=>itoaI_call v (hb h).1 (hb h).2
 cases neg
 ·obtain rfl:sg = []:=hsg
  cases b
  ·rw [if_neg Bool.false_ne_true] at hat
   refine gci Tryz.func224 30 fun E h0=>?_
   repeat' ((first | refine ⟨ncall_h [0] [0] r1 rfl rfl rfl rfl rfl ⟨rfl,trivial⟩ rfl rfl rfl rfl rfl ?_⟩ | refine ⟨ncall_h [0] [0] r2 rfl rfl rfl rfl rfl ⟨rfl,trivial⟩ rfl rfl rfl rfl rfl ?_⟩ | refine call_i hat ?_ | (refine side_i ?_ ?_;(show 0 + w.length ≤ 9223372036854775807;omega)) |refine aops_go ?_|refine S1 ?_|refine Z1 ?_|refine Z2 ?_|(refine And.intro ?_ ?_<;>intro h<;>try first|(exfalso;omega)|exact absurd rfl h)|refine Z3 ?_|refine Z4 ?_|intro el hel hbB|intro el hel|intro ex|refine Z5 ?_|(refine free_i ?_ ?_;exact ⟨by kernel_rfl,by decide⟩)|refine allI_c ?_ ?_|exact allI_n|refine allMP_c ?_ ?_|exact allMP_n|(refine many_step ?_ ?_ ?_;kernel_rfl;kernel_rfl)) <;> (try (conv=>whnf)))
   all_goals first
    | exact retg_vs (rvs:=[.tmp 2, .tmp 3]) (vs:=[_,_]) trivial rfl rfl (le_of h0 rfl ⟨rfl,rfl,trivial⟩ ⟨rfl,trivial⟩ rfl rfl rfl) rfl
  ·have r5:=r4 rfl
   rw [if_pos rfl] at hat
   refine gci Tryz.func224 30 fun E h0=>?_
   repeat' ((first | refine ⟨ncall_h [0] [0] r1 rfl rfl rfl rfl rfl ⟨rfl,trivial⟩ rfl rfl rfl rfl rfl ?_⟩ | refine ⟨ncall_h [0] [0] r2 rfl rfl rfl rfl rfl ⟨rfl,trivial⟩ rfl rfl rfl rfl rfl ?_⟩ | refine call_i hat ?_ | (refine side_i ?_ ?_;(show 0 + w.length ≤ 9223372036854775807;omega)) | refine call_i r5 ?_ |refine aops_go ?_|refine S1 ?_|refine Z1 ?_|refine Z2 ?_|(refine And.intro ?_ ?_<;>intro h<;>try first|(exfalso;omega)|exact absurd rfl h)|refine Z3 ?_|refine Z4 ?_|intro el hel hbB|intro el hel|intro ex|refine Z5 ?_|(refine free_i ?_ ?_;exact ⟨by kernel_rfl,by decide⟩)|refine allI_c ?_ ?_|exact allI_n|refine allMP_c ?_ ?_|exact allMP_n|(refine many_step ?_ ?_ ?_;kernel_rfl;kernel_rfl)) <;> (try (conv=>whnf)))
   all_goals first
    | exact retg_vs (rvs:=[.tmp 2, .tmp 3]) (vs:=[_,_]) trivial rfl rfl (le_of h0 rfl ⟨rfl,rfl,trivial⟩ ⟨rfl,trivial⟩ rfl rfl rfl) rfl
 ·obtain rfl:sg = [45]:=hsg
  cases b
  ·rw [if_neg Bool.false_ne_true] at hat
   refine gci Tryz.func224 30 fun E h0=>?_
   repeat' ((first | refine ⟨ncall_h [0] [0] r1 rfl rfl rfl rfl rfl ⟨rfl,trivial⟩ rfl rfl rfl rfl rfl ?_⟩ | refine ⟨ncall_h [0] [0] r2 rfl rfl rfl rfl rfl ⟨rfl,trivial⟩ rfl rfl rfl rfl rfl ?_⟩ | refine call_i hat ?_ | (refine side_i ?_ ?_;(show 1 + w.length ≤ 9223372036854775807;omega)) |refine aops_go ?_|refine S1 ?_|refine Z1 ?_|refine Z2 ?_|(refine And.intro ?_ ?_<;>intro h<;>try first|(exfalso;omega)|exact absurd rfl h)|refine Z3 ?_|refine Z4 ?_|intro el hel hbB|intro el hel|intro ex|refine Z5 ?_|(refine free_i ?_ ?_;exact ⟨by kernel_rfl,by decide⟩)|refine allI_c ?_ ?_|exact allI_n|refine allMP_c ?_ ?_|exact allMP_n|(refine many_step ?_ ?_ ?_;kernel_rfl;kernel_rfl)) <;> (try (conv=>whnf)))
   all_goals first
    | exact retg_vs (rvs:=[.tmp 2, .tmp 3]) (vs:=[_,_]) trivial rfl rfl (le_of h0 rfl ⟨rfl,rfl,trivial⟩ ⟨rfl,trivial⟩ rfl rfl rfl) rfl
  ·have r5:=r4 rfl
   rw [if_pos rfl] at hat
   refine gci Tryz.func224 30 fun E h0=>?_
   repeat' ((first | refine ⟨ncall_h [0] [0] r1 rfl rfl rfl rfl rfl ⟨rfl,trivial⟩ rfl rfl rfl rfl rfl ?_⟩ | refine ⟨ncall_h [0] [0] r2 rfl rfl rfl rfl rfl ⟨rfl,trivial⟩ rfl rfl rfl rfl rfl ?_⟩ | refine call_i hat ?_ | (refine side_i ?_ ?_;(show 1 + w.length ≤ 9223372036854775807;omega)) | refine call_i r5 ?_ |refine aops_go ?_|refine S1 ?_|refine Z1 ?_|refine Z2 ?_|(refine And.intro ?_ ?_<;>intro h<;>try first|(exfalso;omega)|exact absurd rfl h)|refine Z3 ?_|refine Z4 ?_|intro el hel hbB|intro el hel|intro ex|refine Z5 ?_|(refine free_i ?_ ?_;exact ⟨by kernel_rfl,by decide⟩)|refine allI_c ?_ ?_|exact allI_n|refine allMP_c ?_ ?_|exact allMP_n|(refine many_step ?_ ?_ ?_;kernel_rfl;kernel_rfl)) <;> (try (conv=>whnf)))
   all_goals first
    | exact retg_vs (rvs:=[.tmp 2, .tmp 3]) (vs:=[_,_]) trivial rfl rfl (le_of h0 rfl ⟨rfl,rfl,trivial⟩ ⟨rfl,trivial⟩ rfl rfl rfl) rfl
theorem number_call (s:Sch) (t:List UInt8) (left:Int) (ht:t.length ≤ 140737488355328):GCall Tryz.prog 224 1 (rdB s t left) [.ref 0 0] 1 (rdB s (numS t).2.2 left) (.tup [.i (numS t).1, .b (numS t).2.1]):=by
 have hl:=cutS_len [45] t
 have hwl:=takeWhile_len isW (cutS [45] t).1
 have hz:(numZ t).length ≤ 281474976710656:=by
  unfold numZ
  rw [List.length_append]
  have:(if (cutS [45] t).2 = true then [45] else ([]:List UInt8)).length ≤ 1:=by split <;> simp
  omega
 cases h:Lib.atoiAll (numZ t) with
 | ok v =>
  have:=numv_call s t (cutS [45] t).1 _ _ _ (cutS [45] t).2 left rfl rfl rfl rfl ht hl v true (atoi_ok _ hz h) (fun _=>Lib.atoiAll_bounds h)
  rw [Bool.true_and] at this
  unfold numS numV
  rw [h]
  exact this
 | range =>
  have:=numv_call s t (cutS [45] t).1 _ _ _ (cutS [45] t).2 left rfl rfl rfl rfl ht hl _ false (atoi_rng _ hz h) (fun h=>by cases h)
  rw [Bool.false_and] at this
  unfold numS numV
  rw [h]
  exact this
 | _ =>
  have:=numv_call s t (cutS [45] t).1 _ _ _ (cutS [45] t).2 left rfl rfl rfl rfl ht hl 0 false (atoi_syn _ hz h) (fun h=>by cases h)
  rw [Bool.false_and] at this
  unfold numS numV
  rw [h]
  exact this
abbrev zeroC:List AV:=[.i 0, .i 0, .i 0, .i 0, .i 0, .v (.slice none 0 0)]
set_option maxHeartbeats 8000000 in
theorem patom_call (s:Sch) (hr:schE s = 0) (t:List UInt8) (col left:Int) (x:Col) (hx:s.cols[col.toNat]? = some x) (h0c:0 ≤ col) (ht:t.length ≤ 140737488355328):GCall Tryz.prog 214 1 (rdB s t left) [.ref 0 0, .i col] 1 (rdB s (atoP s col t).2.2 left) (.tup [cndA (atoP s col t).1, .b (atoP s col t).2.1]):=by
 unfold atoP
 rw [colAt_get hx]
 have r1:=take_call s t bUnder left (by omega) (by decide)
 rcases cut_cases bUnder t with e1 | ⟨u,e1,hu⟩
 case inr =>
  rw [e1] at r1 ⊢
  dsimp only at r1 ⊢
  rw [if_pos rfl]
  by_cases hk:x.kind = 2
  ·rw [if_pos hk]
   have hl:=RightS.lst hr (List.mem_of_getElem? hx) hk
   obtain ⟨lx,hlx⟩:∃ l,s.lists[x.lst.toNat]? = some l:=⟨_,List.getElem?_eq_getElem (by omega)⟩
   rw [lstOf_get hlx]
   have hchk:chk lx.1 lx.2 = 0:=(schE_parts hr).2.2.1 _ (List.mem_of_getElem? hlx)
   have hg:=good60 hchk
   have r2:=word_call s u left (by omega)
   have r3:=find_call lx.1 lx.2 (u.takeWhile isW) (by omega)
   generalize u.takeWhile isW = w at *
   generalize u.dropWhile isW = r at *
   generalize findS lx.1 lx.2 w = code at *
   refine gci Tryz.func214 80 fun E h0=>?_
   repeat' ((first | refine ⟨ncall_h [0] [0] r1 rfl rfl rfl rfl rfl ⟨rfl,trivial⟩ rfl rfl rfl rfl rfl ?_⟩ | refine ⟨ncall_h [0] [0] r2 rfl rfl rfl rfl rfl ⟨rfl,trivial⟩ rfl rfl rfl rfl rfl ?_⟩ | refine call_i r3 ?_ | (refine each_knownm (x:=x) hx (by omega) ?_) | (refine each_knownm (x:=lx) hlx (by omega) ?_) | (refine draw_id 6 ?_;refine draw_m (id:=6) ⟨[(0, .ref 0 0),(4, .ref 1 0),(5, .b false),(6, .ref 2 0)],3,[(0,some (.box [.sl 2 (s.lists.map clL), .sl 7 (s.cols.map colL), .str r, .i left])),(1,some (.box zeroC)),(2,some (.box [.i 2, .i col, .i code, .i 0, .i 0, .v (.slice none 0 0)]))]⟩ ?_ ?_) | (refine draw_id 7 ?_;refine draw_m (id:=7) ⟨[(4, .ref 1 0),(5, .b (decide (0 ≤ code)))],2,[(0,some (.box [.sl 2 (s.lists.map clL), .sl 7 (s.cols.map colL), .str r, .i left])),(1,some (.box [.i 2, .i col, .i code, .i 0, .i 0, .v (.slice none 0 0)]))]⟩ ?_ ?_) |refine aops_go ?_|refine S1 ?_|refine Z1 ?_|refine Z2 ?_|(refine And.intro ?_ ?_<;>intro h<;>try first|(exfalso;omega)|exact absurd rfl h)|refine Z3 ?_|refine Z4 ?_|intro el hel hbB|intro el hel|intro ex|refine Z5 ?_|(refine free_i ?_ ?_;exact ⟨by kernel_rfl,by decide⟩)|refine allI_c ?_ ?_|exact allI_n|refine allMP_c ?_ ?_|exact allMP_n|(refine many_step ?_ ?_ ?_;kernel_rfl;kernel_rfl)) <;> (try (conv=>whnf)))
   all_goals first
    | exact le_of h0 rfl ⟨rfl,rfl,rfl,rfl,trivial⟩ ⟨rfl,rfl,rfl,trivial⟩ rfl rfl rfl
    | exact le_of h0 rfl ⟨rfl,rfl,trivial⟩ ⟨rfl,rfl,trivial⟩ rfl rfl rfl
    | exact retg_vs (rvs:=[.cell 4 cndT, .tmp 5]) (vs:=[_,_]) ⟨1,_,_,rfl,rfl,inferInstance,rfl,rfl,trivial⟩ rfl rfl (le_trans (le_slot 4 _ rfl (nl_leaf _ _ _ _ _)) (le_of h0 rfl ⟨rfl,rfl,trivial⟩ ⟨rfl,trivial⟩ rfl rfl rfl)) rfl
  ·rw [if_neg hk]
   refine gci Tryz.func214 80 fun E h0=>?_
   repeat' ((first | refine ⟨ncall_h [0] [0] r1 rfl rfl rfl rfl rfl ⟨rfl,trivial⟩ rfl rfl rfl rfl rfl ?_⟩ | (refine each_knownm (x:=x) hx (by omega) ?_) |refine aops_go ?_|refine S1 ?_|refine Z1 ?_|refine Z2 ?_|(refine And.intro ?_ ?_<;>intro h<;>try first|(exfalso;omega)|exact absurd rfl h)|refine Z3 ?_|refine Z4 ?_|intro el hel hbB|intro el hel|intro ex|refine Z5 ?_|(refine free_i ?_ ?_;exact ⟨by kernel_rfl,by decide⟩)|refine allI_c ?_ ?_|exact allI_n|refine allMP_c ?_ ?_|exact allMP_n|(refine many_step ?_ ?_ ?_;kernel_rfl;kernel_rfl)) <;> (try (conv=>whnf)))
   all_goals first
    | (exfalso;omega)
    | exact retg_vs (rvs:=[.cell 4 cndT, .tmp 5]) (vs:=[_,_]) ⟨1,_,_,rfl,rfl,inferInstance,rfl,rfl,trivial⟩ rfl rfl (le_trans (le_slot 4 _ rfl (nl_leaf _ _ _ _ _)) (le_of h0 rfl ⟨rfl,rfl,trivial⟩ ⟨rfl,trivial⟩ rfl rfl rfl)) rfl
 rw [e1] at r1 ⊢
 dsimp only at r1 ⊢
 rw [if_neg Bool.false_ne_true]
 have r2:=take_call s t bFrom left (by omega) (by decide)
 rcases cut_cases bFrom t with e2 | ⟨u,e2,hu⟩
 case inr =>
  rw [e2] at r2 ⊢
  dsimp only at r2 ⊢
  rw [if_pos rfl]
  have r3:=number_call s u left (by omega)
  have hn:=numS_len u
  generalize numS u = N at *
  obtain ⟨lo,ok,v⟩:=N
  dsimp only at r3 hn ⊢
  cases ok
  ·rw [if_neg Bool.false_ne_true]
   refine gci Tryz.func214 80 fun E h0=>?_
   repeat' ((first | refine ⟨ncall_h [0] [0] r1 rfl rfl rfl rfl rfl ⟨rfl,trivial⟩ rfl rfl rfl rfl rfl ?_⟩ | refine ⟨ncall_h [0] [0] r2 rfl rfl rfl rfl rfl ⟨rfl,trivial⟩ rfl rfl rfl rfl rfl ?_⟩ | refine ⟨ncall_h [0] [0] r3 rfl rfl rfl rfl rfl ⟨rfl,trivial⟩ rfl rfl rfl rfl rfl ?_⟩ |refine aops_go ?_|refine S1 ?_|refine Z1 ?_|refine Z2 ?_|(refine And.intro ?_ ?_<;>intro h<;>try first|(exfalso;omega)|exact absurd rfl h)|refine Z3 ?_|refine Z4 ?_|intro el hel hbB|intro el hel|intro ex|refine Z5 ?_|(refine free_i ?_ ?_;exact ⟨by kernel_rfl,by decide⟩)|refine allI_c ?_ ?_|exact allI_n|refine allMP_c ?_ ?_|exact allMP_n|(refine many_step ?_ ?_ ?_;kernel_rfl;kernel_rfl)) <;> (try (conv=>whnf)))
   all_goals first
    | exact retg_vs (rvs:=[.cell 4 cndT, .tmp 5]) (vs:=[_,_]) ⟨1,_,_,rfl,rfl,inferInstance,rfl,rfl,trivial⟩ rfl rfl (le_trans (le_slot 4 _ rfl (nl_leaf _ _ _ _ _)) (le_of h0 rfl ⟨rfl,rfl,trivial⟩ ⟨rfl,trivial⟩ rfl rfl rfl)) rfl
  ·rw [if_pos rfl]
   have r4:=take_call s v bTo left (by omega) (by decide)
   rcases cut_cases bTo v with e3 | ⟨y,e3,hy⟩
   ·rw [e3] at r4 ⊢
    dsimp only at r4 ⊢
    rw [if_neg Bool.false_ne_true]
    refine gci Tryz.func214 80 fun E h0=>?_
    repeat' ((first | refine ⟨ncall_h [0] [0] r1 rfl rfl rfl rfl rfl ⟨rfl,trivial⟩ rfl rfl rfl rfl rfl ?_⟩ | refine ⟨ncall_h [0] [0] r2 rfl rfl rfl rfl rfl ⟨rfl,trivial⟩ rfl rfl rfl rfl rfl ?_⟩ | refine ⟨ncall_h [0] [0] r3 rfl rfl rfl rfl rfl ⟨rfl,trivial⟩ rfl rfl rfl rfl rfl ?_⟩ | refine ⟨ncall_h [0] [0] r4 rfl rfl rfl rfl rfl ⟨rfl,trivial⟩ rfl rfl rfl rfl rfl ?_⟩ |refine aops_go ?_|refine S1 ?_|refine Z1 ?_|refine Z2 ?_|(refine And.intro ?_ ?_<;>intro h<;>try first|(exfalso;omega)|exact absurd rfl h)|refine Z3 ?_|refine Z4 ?_|intro el hel hbB|intro el hel|intro ex|refine Z5 ?_|(refine free_i ?_ ?_;exact ⟨by kernel_rfl,by decide⟩)|refine allI_c ?_ ?_|exact allI_n|refine allMP_c ?_ ?_|exact allMP_n|(refine many_step ?_ ?_ ?_;kernel_rfl;kernel_rfl)) <;> (try (conv=>whnf)))
    all_goals first
     | exact retg_vs (rvs:=[.cell 4 cndT, .tmp 5]) (vs:=[_,_]) ⟨1,_,_,rfl,rfl,inferInstance,rfl,rfl,trivial⟩ rfl rfl (le_trans (le_slot 4 _ rfl (nl_leaf _ _ _ _ _)) (le_of h0 rfl ⟨rfl,rfl,trivial⟩ ⟨rfl,trivial⟩ rfl rfl rfl)) rfl
   ·rw [e3] at r4 ⊢
    dsimp only at r4 ⊢
    rw [if_pos rfl]
    have r5:=number_call s y left (by omega)
    generalize numS y = M at *
    obtain ⟨hi,ok2,z⟩:=M
    dsimp only at r5 ⊢
    refine gci Tryz.func214 80 fun E h0=>?_
    repeat' ((first | refine ⟨ncall_h [0] [0] r1 rfl rfl rfl rfl rfl ⟨rfl,trivial⟩ rfl rfl rfl rfl rfl ?_⟩ | refine ⟨ncall_h [0] [0] r2 rfl rfl rfl rfl rfl ⟨rfl,trivial⟩ rfl rfl rfl rfl rfl ?_⟩ | refine ⟨ncall_h [0] [0] r3 rfl rfl rfl rfl rfl ⟨rfl,trivial⟩ rfl rfl rfl rfl rfl ?_⟩ | refine ⟨ncall_h [0] [0] r4 rfl rfl rfl rfl rfl ⟨rfl,trivial⟩ rfl rfl rfl rfl rfl ?_⟩ | refine ⟨ncall_h [0] [0] r5 rfl rfl rfl rfl rfl ⟨rfl,trivial⟩ rfl rfl rfl rfl rfl ?_⟩ |refine aops_go ?_|refine S1 ?_|refine Z1 ?_|refine Z2 ?_|(refine And.intro ?_ ?_<;>intro h<;>try first|(exfalso;omega)|exact absurd rfl h)|refine Z3 ?_|refine Z4 ?_|intro el hel hbB|intro el hel|intro ex|refine Z5 ?_|(refine free_i ?_ ?_;exact ⟨by kernel_rfl,by decide⟩)|refine allI_c ?_ ?_|exact allI_n|refine allMP_c ?_ ?_|exact allMP_n|(refine many_step ?_ ?_ ?_;kernel_rfl;kernel_rfl)) <;> (try (conv=>whnf)))
    all_goals first
     | exact retg_vs (rvs:=[.cell 4 cndT, .tmp 5]) (vs:=[_,_]) ⟨1,_,_,rfl,rfl,inferInstance,rfl,rfl,trivial⟩ rfl rfl (le_trans (le_slot 4 _ rfl (nl_leaf _ _ _ _ _)) (le_of h0 rfl ⟨rfl,rfl,trivial⟩ ⟨rfl,trivial⟩ rfl rfl rfl)) rfl
 rw [e2] at r2 ⊢
 dsimp only at r2 ⊢
 rw [if_neg Bool.false_ne_true]
 have r3:=take_call s t bMiss left (by omega) (by decide)
 rcases cut_cases bMiss t with e3 | ⟨u,e3,hu⟩
 ·rw [e3] at r3 ⊢
  dsimp only at r3 ⊢
  rw [if_neg Bool.false_ne_true]
  refine gci Tryz.func214 80 fun E h0=>?_
  repeat' ((first | refine ⟨ncall_h [0] [0] r1 rfl rfl rfl rfl rfl ⟨rfl,trivial⟩ rfl rfl rfl rfl rfl ?_⟩ | refine ⟨ncall_h [0] [0] r2 rfl rfl rfl rfl rfl ⟨rfl,trivial⟩ rfl rfl rfl rfl rfl ?_⟩ | refine ⟨ncall_h [0] [0] r3 rfl rfl rfl rfl rfl ⟨rfl,trivial⟩ rfl rfl rfl rfl rfl ?_⟩ |refine aops_go ?_|refine S1 ?_|refine Z1 ?_|refine Z2 ?_|(refine And.intro ?_ ?_<;>intro h<;>try first|(exfalso;omega)|exact absurd rfl h)|refine Z3 ?_|refine Z4 ?_|intro el hel hbB|intro el hel|intro ex|refine Z5 ?_|(refine free_i ?_ ?_;exact ⟨by kernel_rfl,by decide⟩)|refine allI_c ?_ ?_|exact allI_n|refine allMP_c ?_ ?_|exact allMP_n|(refine many_step ?_ ?_ ?_;kernel_rfl;kernel_rfl)) <;> (try (conv=>whnf)))
  all_goals first
   | exact retg_vs (rvs:=[.cell 4 cndT, .tmp 5]) (vs:=[_,_]) ⟨1,_,_,rfl,rfl,inferInstance,rfl,rfl,trivial⟩ rfl rfl (le_trans (le_slot 4 _ rfl (nl_leaf _ _ _ _ _)) (le_of h0 rfl ⟨rfl,rfl,trivial⟩ ⟨rfl,trivial⟩ rfl rfl rfl)) rfl
 ·rw [e3] at r3 ⊢
  dsimp only at r3 ⊢
  rw [if_pos rfl]
  refine gci Tryz.func214 80 fun E h0=>?_
  repeat' ((first | refine ⟨ncall_h [0] [0] r1 rfl rfl rfl rfl rfl ⟨rfl,trivial⟩ rfl rfl rfl rfl rfl ?_⟩ | refine ⟨ncall_h [0] [0] r2 rfl rfl rfl rfl rfl ⟨rfl,trivial⟩ rfl rfl rfl rfl rfl ?_⟩ | refine ⟨ncall_h [0] [0] r3 rfl rfl rfl rfl rfl ⟨rfl,trivial⟩ rfl rfl rfl rfl rfl ?_⟩ |refine aops_go ?_|refine S1 ?_|refine Z1 ?_|refine Z2 ?_|(refine And.intro ?_ ?_<;>intro h<;>try first|(exfalso;omega)|exact absurd rfl h)|refine Z3 ?_|refine Z4 ?_|intro el hel hbB|intro el hel|intro ex|refine Z5 ?_|(refine free_i ?_ ?_;exact ⟨by kernel_rfl,by decide⟩)|refine allI_c ?_ ?_|exact allI_n|refine allMP_c ?_ ?_|exact allMP_n|(refine many_step ?_ ?_ ?_;kernel_rfl;kernel_rfl)) <;> (try (conv=>whnf)))
  all_goals first
   | exact retg_vs (rvs:=[.cell 4 cndT, .tmp 5]) (vs:=[_,_]) ⟨1,_,_,rfl,rfl,inferInstance,rfl,rfl,trivial⟩ rfl rfl (le_trans (le_slot 4 _ rfl (nl_leaf _ _ _ _ _)) (le_of h0 rfl ⟨rfl,rfl,trivial⟩ ⟨rfl,trivial⟩ rfl rfl rfl)) rfl
end Go.Proofs.YtjmbhlgocikfiaaGreatDoor
namespace Go.Proofs.YtjmbhlgocikfiaaGreatDoor
open Go Go.Av
attribute [local irreducible] AWp AOps AAny MAny DQ retQ retG St.le FCall GCall
set_option maxRecDepth 100000
set_option maxHeartbeats 8000000 in
theorem pair_call (s:Sch) (d:Nat) (hd:d ≤ 10) (f:Int → List UInt8 → Rd4) (hf:∀ l u,(f l u).t.length ≤ u.length ∧ l - wd d ≤ (f l u).left ∧ (f l u).left ≤ l) (t:List UInt8) (left:Int) (hl:-1000000 ≤ left - 2 * wd d) (hl2:left ≤ 1000000) (ht:t.length ≤ 140737488355328)
  (ih:∀ (left:Int) (t:List UInt8), -1000000 ≤ left - wd d → left ≤ 1000000 → t.length ≤ 140737488355328 → GCall Tryz.prog 200 1 (rdB s t left) [.ref 0 0, .i (((d + 1:Nat):Int) - 1)] 1 (rdB s (f left t).t (f left t).left) (.tup [cndA (f left t).c, .b (f left t).ok])) :
  GCall Tryz.prog 212 1 (rdB s t left) [.ref 0 0, .i (d + 1:Nat)] 1 (rdB s (parJ f left t).t (parJ f left t).left) (.tup [cndA (parJ f left t).c, .b (parJ f left t).ok]):=by
 have hw:=wd_pos d
 unfold parJ
 have r1:=ih left t (by omega) hl2 ht
 obtain ⟨k1,k2,k5⟩:=hf left t
 generalize f left t = a at *
 obtain ⟨ac,aok,at',al⟩:=a
 dsimp only at *
 cases aok
 ·rw [if_neg Bool.false_ne_true]
  refine gci Tryz.func212 46 fun E h0=>?_
  repeat' ((first | refine ⟨ncall_h [0] [0] r1 rfl rfl rfl rfl rfl ⟨rfl,trivial⟩ rfl rfl rfl rfl rfl ?_⟩ |refine aops_go ?_|refine S1 ?_|refine Z1 ?_|refine Z2 ?_|(refine And.intro ?_ ?_<;>intro h<;>try first|(exfalso;omega)|exact absurd rfl h)|refine Z3 ?_|refine Z4 ?_|intro el hel hbB|intro el hel|intro ex|refine Z5 ?_|(refine free_i ?_ ?_;exact ⟨by kernel_rfl,by decide⟩)|refine allI_c ?_ ?_|exact allI_n|refine allMP_c ?_ ?_|exact allMP_n|(refine many_step ?_ ?_ ?_;kernel_rfl;kernel_rfl)) <;> (try (conv=>whnf)))
  all_goals first
   | exact retg_vs (rvs:=[.cell 4 cndT, .tmp 5]) (vs:=[_,_]) ⟨1,_,_,rfl,rfl,inferInstance,rfl,rfl,trivial⟩ rfl rfl (le_of h0 rfl ⟨rfl,rfl,trivial⟩ ⟨rfl,trivial⟩ rfl rfl rfl) rfl
 rw [if_pos rfl]
 have r2:=take_call s at' bAnd al (by omega) (by decide)
 rcases cut_cases bAnd at' with e2 | ⟨u,e2,hu⟩
 case inr =>
  rw [e2] at r2 ⊢
  dsimp only at r2 ⊢
  rw [if_pos rfl]
  have r3:=ih al u (by omega) (by omega) (by omega)
  obtain ⟨k3,k4,k6⟩:=hf al u
  generalize f al u = b at *
  obtain ⟨bc,bok,bt,bl⟩:=b
  dsimp only at *
  cases bok
  ·rw [if_neg Bool.false_ne_true]
   refine gci Tryz.func212 46 fun E h0=>?_
   repeat' ((first | refine ⟨ncall_h [0] [0] r1 rfl rfl rfl rfl rfl ⟨rfl,trivial⟩ rfl rfl rfl rfl rfl ?_⟩ | refine ⟨ncall_h [0] [0] r2 rfl rfl rfl rfl rfl ⟨rfl,trivial⟩ rfl rfl rfl rfl rfl ?_⟩ | refine ⟨ncall_h [0] [0] r3 rfl rfl rfl rfl rfl ⟨rfl,trivial⟩ rfl rfl rfl rfl rfl ?_⟩ | (refine draw_id 11 ?_;refine draw_e (id:=11) ⟨[(4, .ref 1 0),(5, .b false)],2,[(0,some (.box [.sl 2 (s.lists.map clL), .sl 7 (s.cols.map colL), .str bt, .i bl])),(1,some (.box [.i 5, .i 0, .i 0, .i 0, .i 0, .sl 6 [cndX ac,cndX bc]]))]⟩ ?_ ?_) |refine aops_go ?_|refine S1 ?_|refine Z1 ?_|refine Z2 ?_|(refine And.intro ?_ ?_<;>intro h<;>try first|(exfalso;omega)|exact absurd rfl h)|refine Z3 ?_|refine Z4 ?_|intro el hel hbB|intro el hel|intro ex|refine Z5 ?_|(refine free_i ?_ ?_;exact ⟨by kernel_rfl,by decide⟩)|refine allI_c ?_ ?_|exact allI_n|refine allMP_c ?_ ?_|exact allMP_n|(refine many_step ?_ ?_ ?_;kernel_rfl;kernel_rfl)) <;> (try (conv=>whnf)))
   all_goals first
    | exact le_of h0 rfl ⟨rfl,rfl,trivial⟩ ⟨rfl,rfl,trivial⟩ rfl rfl rfl
    | exact retg_vs (rvs:=[.cell 4 cndT, .tmp 5]) (vs:=[_,_]) ⟨1,_,_,rfl,rfl,inferInstance,rfl,rfl,trivial⟩ rfl rfl (le_trans (le_slot 4 _ rfl (nl_two 5 ac bc)) (le_of h0 rfl ⟨rfl,rfl,trivial⟩ ⟨rfl,trivial⟩ rfl rfl rfl)) rfl
  ·rw [if_pos rfl]
   have r4:=take_call s bt [41] bl (by omega) (by decide)
   generalize cutS [41] bt = q at *
   obtain ⟨qt,qb⟩:=q
   dsimp only at *
   refine gci Tryz.func212 46 fun E h0=>?_
   repeat' ((first | refine ⟨ncall_h [0] [0] r1 rfl rfl rfl rfl rfl ⟨rfl,trivial⟩ rfl rfl rfl rfl rfl ?_⟩ | refine ⟨ncall_h [0] [0] r2 rfl rfl rfl rfl rfl ⟨rfl,trivial⟩ rfl rfl rfl rfl rfl ?_⟩ | refine ⟨ncall_h [0] [0] r3 rfl rfl rfl rfl rfl ⟨rfl,trivial⟩ rfl rfl rfl rfl rfl ?_⟩ | refine ⟨ncall_h [0] [0] r4 rfl rfl rfl rfl rfl ⟨rfl,trivial⟩ rfl rfl rfl rfl rfl ?_⟩ | (refine draw_id 11 ?_;refine draw_e (id:=11) ⟨[(4, .ref 1 0),(5, .b qb)],2,[(0,some (.box [.sl 2 (s.lists.map clL), .sl 7 (s.cols.map colL), .str qt, .i bl])),(1,some (.box [.i 5, .i 0, .i 0, .i 0, .i 0, .sl 6 [cndX ac,cndX bc]]))]⟩ ?_ ?_) |refine aops_go ?_|refine S1 ?_|refine Z1 ?_|refine Z2 ?_|(refine And.intro ?_ ?_<;>intro h<;>try first|(exfalso;omega)|exact absurd rfl h)|refine Z3 ?_|refine Z4 ?_|intro el hel hbB|intro el hel|intro ex|refine Z5 ?_|(refine free_i ?_ ?_;exact ⟨by kernel_rfl,by decide⟩)|refine allI_c ?_ ?_|exact allI_n|refine allMP_c ?_ ?_|exact allMP_n|(refine many_step ?_ ?_ ?_;kernel_rfl;kernel_rfl)) <;> (try (conv=>whnf)))
   all_goals first
    | exact le_of h0 rfl ⟨rfl,rfl,trivial⟩ ⟨rfl,rfl,trivial⟩ rfl rfl rfl
    | exact retg_vs (rvs:=[.cell 4 cndT, .tmp 5]) (vs:=[_,_]) ⟨1,_,_,rfl,rfl,inferInstance,rfl,rfl,trivial⟩ rfl rfl (le_trans (le_slot 4 _ rfl (nl_two 5 ac bc)) (le_of h0 rfl ⟨rfl,rfl,trivial⟩ ⟨rfl,trivial⟩ rfl rfl rfl)) rfl
 rw [e2] at r2 ⊢
 dsimp only at r2 ⊢
 rw [if_neg Bool.false_ne_true]
 have r5:=take_call s at' bOr al (by omega) (by decide)
 rcases cut_cases bOr at' with e3 | ⟨u,e3,hu⟩
 ·rw [e3] at r5 ⊢
  dsimp only at r5 ⊢
  rw [if_neg Bool.false_ne_true]
  refine gci Tryz.func212 46 fun E h0=>?_
  repeat' ((first | refine ⟨ncall_h [0] [0] r1 rfl rfl rfl rfl rfl ⟨rfl,trivial⟩ rfl rfl rfl rfl rfl ?_⟩ | refine ⟨ncall_h [0] [0] r2 rfl rfl rfl rfl rfl ⟨rfl,trivial⟩ rfl rfl rfl rfl rfl ?_⟩ | refine ⟨ncall_h [0] [0] r5 rfl rfl rfl rfl rfl ⟨rfl,trivial⟩ rfl rfl rfl rfl rfl ?_⟩ |refine aops_go ?_|refine S1 ?_|refine Z1 ?_|refine Z2 ?_|(refine And.intro ?_ ?_<;>intro h<;>try first|(exfalso;omega)|exact absurd rfl h)|refine Z3 ?_|refine Z4 ?_|intro el hel hbB|intro el hel|intro ex|refine Z5 ?_|(refine free_i ?_ ?_;exact ⟨by kernel_rfl,by decide⟩)|refine allI_c ?_ ?_|exact allI_n|refine allMP_c ?_ ?_|exact allMP_n|(refine many_step ?_ ?_ ?_;kernel_rfl;kernel_rfl)) <;> (try (conv=>whnf)))
  all_goals first
   | exact retg_vs (rvs:=[.cell 4 cndT, .tmp 5]) (vs:=[_,_]) ⟨1,_,_,rfl,rfl,inferInstance,rfl,rfl,trivial⟩ rfl rfl (le_trans (le_slot 4 _ rfl (nl_leaf 6 0 0 0 0)) (le_of h0 rfl ⟨rfl,rfl,trivial⟩ ⟨rfl,trivial⟩ rfl rfl rfl)) rfl
 rw [e3] at r5 ⊢
 dsimp only at r5 ⊢
 rw [if_pos rfl]
 have r3:=ih al u (by omega) (by omega) (by omega)
 obtain ⟨k3,k4,k6⟩:=hf al u
 generalize f al u = b at *
 obtain ⟨bc,bok,bt,bl⟩:=b
 dsimp only at *
 cases bok
 ·rw [if_neg Bool.false_ne_true]
  refine gci Tryz.func212 46 fun E h0=>?_
  repeat' ((first | refine ⟨ncall_h [0] [0] r1 rfl rfl rfl rfl rfl ⟨rfl,trivial⟩ rfl rfl rfl rfl rfl ?_⟩ | refine ⟨ncall_h [0] [0] r2 rfl rfl rfl rfl rfl ⟨rfl,trivial⟩ rfl rfl rfl rfl rfl ?_⟩ | refine ⟨ncall_h [0] [0] r5 rfl rfl rfl rfl rfl ⟨rfl,trivial⟩ rfl rfl rfl rfl rfl ?_⟩ | refine ⟨ncall_h [0] [0] r3 rfl rfl rfl rfl rfl ⟨rfl,trivial⟩ rfl rfl rfl rfl rfl ?_⟩ | (refine draw_id 11 ?_;refine draw_e (id:=11) ⟨[(4, .ref 1 0),(5, .b false)],2,[(0,some (.box [.sl 2 (s.lists.map clL), .sl 7 (s.cols.map colL), .str bt, .i bl])),(1,some (.box [.i 6, .i 0, .i 0, .i 0, .i 0, .sl 6 [cndX ac,cndX bc]]))]⟩ ?_ ?_) |refine aops_go ?_|refine S1 ?_|refine Z1 ?_|refine Z2 ?_|(refine And.intro ?_ ?_<;>intro h<;>try first|(exfalso;omega)|exact absurd rfl h)|refine Z3 ?_|refine Z4 ?_|intro el hel hbB|intro el hel|intro ex|refine Z5 ?_|(refine free_i ?_ ?_;exact ⟨by kernel_rfl,by decide⟩)|refine allI_c ?_ ?_|exact allI_n|refine allMP_c ?_ ?_|exact allMP_n|(refine many_step ?_ ?_ ?_;kernel_rfl;kernel_rfl)) <;> (try (conv=>whnf)))
  all_goals first
   | exact le_of h0 rfl ⟨rfl,rfl,trivial⟩ ⟨rfl,rfl,trivial⟩ rfl rfl rfl
   | exact retg_vs (rvs:=[.cell 4 cndT, .tmp 5]) (vs:=[_,_]) ⟨1,_,_,rfl,rfl,inferInstance,rfl,rfl,trivial⟩ rfl rfl (le_trans (le_slot 4 _ rfl (nl_two 6 ac bc)) (le_of h0 rfl ⟨rfl,rfl,trivial⟩ ⟨rfl,trivial⟩ rfl rfl rfl)) rfl
 ·rw [if_pos rfl]
  have r4:=take_call s bt [41] bl (by omega) (by decide)
  generalize cutS [41] bt = q at *
  obtain ⟨qt,qb⟩:=q
  dsimp only at *
  refine gci Tryz.func212 46 fun E h0=>?_
  repeat' ((first | refine ⟨ncall_h [0] [0] r1 rfl rfl rfl rfl rfl ⟨rfl,trivial⟩ rfl rfl rfl rfl rfl ?_⟩ | refine ⟨ncall_h [0] [0] r2 rfl rfl rfl rfl rfl ⟨rfl,trivial⟩ rfl rfl rfl rfl rfl ?_⟩ | refine ⟨ncall_h [0] [0] r5 rfl rfl rfl rfl rfl ⟨rfl,trivial⟩ rfl rfl rfl rfl rfl ?_⟩ | refine ⟨ncall_h [0] [0] r3 rfl rfl rfl rfl rfl ⟨rfl,trivial⟩ rfl rfl rfl rfl rfl ?_⟩ | refine ⟨ncall_h [0] [0] r4 rfl rfl rfl rfl rfl ⟨rfl,trivial⟩ rfl rfl rfl rfl rfl ?_⟩ | (refine draw_id 11 ?_;refine draw_e (id:=11) ⟨[(4, .ref 1 0),(5, .b qb)],2,[(0,some (.box [.sl 2 (s.lists.map clL), .sl 7 (s.cols.map colL), .str qt, .i bl])),(1,some (.box [.i 6, .i 0, .i 0, .i 0, .i 0, .sl 6 [cndX ac,cndX bc]]))]⟩ ?_ ?_) |refine aops_go ?_|refine S1 ?_|refine Z1 ?_|refine Z2 ?_|(refine And.intro ?_ ?_<;>intro h<;>try first|(exfalso;omega)|exact absurd rfl h)|refine Z3 ?_|refine Z4 ?_|intro el hel hbB|intro el hel|intro ex|refine Z5 ?_|(refine free_i ?_ ?_;exact ⟨by kernel_rfl,by decide⟩)|refine allI_c ?_ ?_|exact allI_n|refine allMP_c ?_ ?_|exact allMP_n|(refine many_step ?_ ?_ ?_;kernel_rfl;kernel_rfl)) <;> (try (conv=>whnf)))
  all_goals first
   | exact le_of h0 rfl ⟨rfl,rfl,trivial⟩ ⟨rfl,rfl,trivial⟩ rfl rfl rfl
   | exact retg_vs (rvs:=[.cell 4 cndT, .tmp 5]) (vs:=[_,_]) ⟨1,_,_,rfl,rfl,inferInstance,rfl,rfl,trivial⟩ rfl rfl (le_trans (le_slot 4 _ rfl (nl_two 6 ac bc)) (le_of h0 rfl ⟨rfl,rfl,trivial⟩ ⟨rfl,trivial⟩ rfl rfl rfl)) rfl
theorem idxP_hit {α:Type} (p:α → Bool):∀ (l:List α) (k:Int),0 ≤ k → 0 ≤ idxP p l k → ∃ x,l[(idxP p l k - k).toNat]? = some x
 | l,k,h0,h=>by
  rcases idxP_ge p l k with h1 | ⟨h1,h2⟩
  ·omega
  ·exact ⟨_,List.getElem?_eq_getElem (by omega)⟩
set_option maxHeartbeats 8000000 in
theorem pcond_call (s:Sch) (hr:schE s = 0):∀ (d:Nat),d ≤ 10 → ∀ (left:Int) (t:List UInt8), -1000000 ≤ left - wd d → left ≤ 1000000 → t.length ≤ 140737488355328 → GCall Tryz.prog 200 1 (rdB s t left) [.ref 0 0, .i d] 1 (rdB s (conP s d left t).t (conP s d left t).left) (.tup [cndA (conP s d left t).c, .b (conP s d left t).ok]):=by
 intro d
 induction d with
 | zero =>
  intro _ left t hl hl2 ht
  unfold conP
  unfold wd at hl
  refine gci Tryz.func200 66 fun E h0=>?_
  repeat' ((first|refine aops_go ?_|refine S1 ?_|refine Z1 ?_|refine Z2 ?_|(refine And.intro ?_ ?_<;>intro h<;>try first|(exfalso;omega)|exact absurd rfl h)|refine Z3 ?_|refine Z4 ?_|intro el hel hbB|intro el hel|intro ex|refine Z5 ?_|(refine free_i ?_ ?_;exact ⟨by kernel_rfl,by decide⟩)|refine allI_c ?_ ?_|exact allI_n|refine allMP_c ?_ ?_|exact allMP_n|(refine many_step ?_ ?_ ?_;kernel_rfl;kernel_rfl)) <;> (try (conv=>whnf)))
  all_goals first
   | exact retg_vs (rvs:=[.cell 4 cndT, .tmp 5]) (vs:=[_,_]) ⟨1,_,_,rfl,rfl,inferInstance,rfl,rfl,trivial⟩ rfl rfl (le_trans (le_slot 4 _ rfl (nl_leaf 0 0 0 0 0)) (le_of h0 rfl ⟨rfl,rfl,trivial⟩ ⟨rfl,trivial⟩ rfl rfl rfl)) rfl
 | succ d ih =>
  intro hd left t hl hl2 ht
  have e1:(((d + 1:Nat):Int) - 1) = (d:Int):=by omega
  have ih:=ih (by omega)
  rw [← e1] at ih
  unfold wd at hl
  have hw:=wd_pos d
  have hpair:=fun u (hu:u.length ≤ t.length)=>pair_call s d (by omega) (fun l u=>conP s d l u) (conP_ok s d) u (left - 1) (by omega) (by omega) (by omega) ih
  unfold conP
  by_cases h1:left - 1 < 0
  ·rw [if_pos h1]
   refine gci Tryz.func200 66 fun E h0=>?_
   repeat' ((first|refine aops_go ?_|refine S1 ?_|refine Z1 ?_|refine Z2 ?_|(refine And.intro ?_ ?_<;>intro h<;>try first|(exfalso;omega)|exact absurd rfl h)|refine Z3 ?_|refine Z4 ?_|intro el hel hbB|intro el hel|intro ex|refine Z5 ?_|(refine free_i ?_ ?_;exact ⟨by kernel_rfl,by decide⟩)|refine allI_c ?_ ?_|exact allI_n|refine allMP_c ?_ ?_|exact allMP_n|(refine many_step ?_ ?_ ?_;kernel_rfl;kernel_rfl)) <;> (try (conv=>whnf)))
   all_goals first
    | exact retg_vs (rvs:=[.cell 4 cndT, .tmp 5]) (vs:=[_,_]) ⟨1,_,_,rfl,rfl,inferInstance,rfl,rfl,trivial⟩ rfl rfl (le_trans (le_slot 4 _ rfl (nl_leaf 0 0 0 0 0)) (le_of h0 rfl ⟨rfl,rfl,trivial⟩ ⟨rfl,trivial⟩ rfl rfl rfl)) rfl
    | (exfalso;omega)
  rw [if_neg h1]
  have r1:=take_call s t [40] (left - 1) (by omega) (by decide)
  rcases cut_cases [40] t with e2 | ⟨u,e2,hu⟩
  case inr =>
   rw [e2] at r1 ⊢
   dsimp only at r1 ⊢
   rw [if_pos rfl]
   have r2:=hpair u hu
   generalize parJ (fun l u=>conP s d l u) (left - 1) u = a at *
   obtain ⟨ac,aok,at',al⟩:=a
   dsimp only at *
   refine gci Tryz.func200 66 fun E h0=>?_
   repeat' ((first | refine ⟨ncall_h [0] [0] r1 rfl rfl rfl rfl rfl ⟨rfl,trivial⟩ rfl rfl rfl rfl rfl ?_⟩ | refine ⟨ncall_h [0] [0] r2 rfl rfl rfl rfl rfl ⟨rfl,trivial⟩ rfl rfl rfl rfl rfl ?_⟩ |refine aops_go ?_|refine S1 ?_|refine Z1 ?_|refine Z2 ?_|(refine And.intro ?_ ?_<;>intro h<;>try first|(exfalso;omega)|exact absurd rfl h)|refine Z3 ?_|refine Z4 ?_|intro el hel hbB|intro el hel|intro ex|refine Z5 ?_|(refine free_i ?_ ?_;exact ⟨by kernel_rfl,by decide⟩)|refine allI_c ?_ ?_|exact allI_n|refine allMP_c ?_ ?_|exact allMP_n|(refine many_step ?_ ?_ ?_;kernel_rfl;kernel_rfl)) <;> (try (conv=>whnf)))
   all_goals first
    | exact retg_vs (rvs:=[.cell 4 cndT, .tmp 5]) (vs:=[_,_]) ⟨1,_,_,rfl,rfl,inferInstance,rfl,rfl,trivial⟩ rfl rfl (le_of h0 rfl ⟨rfl,rfl,trivial⟩ ⟨rfl,trivial⟩ rfl rfl rfl) rfl
    | (exfalso;omega)
  clear hpair
  rw [e2] at r1 ⊢
  dsimp only at r1 ⊢
  rw [if_neg Bool.false_ne_true]
  have r2:=take_call s t bNot (left - 1) (by omega) (by decide)
  rcases cut_cases bNot t with e3 | ⟨u,e3,hu⟩
  case inr =>
   rw [e3] at r2 ⊢
   dsimp only at r2 ⊢
   rw [if_pos rfl]
   have r3:=ih (left - 1) u (by omega) (by omega) (by omega)
   generalize conP s d (left - 1) u = a at *
   obtain ⟨ac,aok,at',al⟩:=a
   dsimp only at *
   refine gci Tryz.func200 66 fun E h0=>?_
   repeat' ((first | refine ⟨ncall_h [0] [0] r1 rfl rfl rfl rfl rfl ⟨rfl,trivial⟩ rfl rfl rfl rfl rfl ?_⟩ | refine ⟨ncall_h [0] [0] r2 rfl rfl rfl rfl rfl ⟨rfl,trivial⟩ rfl rfl rfl rfl rfl ?_⟩ | refine ⟨ncall_h [0] [0] r3 rfl rfl rfl rfl rfl ⟨rfl,trivial⟩ rfl rfl rfl rfl rfl ?_⟩ |refine aops_go ?_|refine S1 ?_|refine Z1 ?_|refine Z2 ?_|(refine And.intro ?_ ?_<;>intro h<;>try first|(exfalso;omega)|exact absurd rfl h)|refine Z3 ?_|refine Z4 ?_|intro el hel hbB|intro el hel|intro ex|refine Z5 ?_|(refine free_i ?_ ?_;exact ⟨by kernel_rfl,by decide⟩)|refine allI_c ?_ ?_|exact allI_n|refine allMP_c ?_ ?_|exact allMP_n|(refine many_step ?_ ?_ ?_;kernel_rfl;kernel_rfl)) <;> (try (conv=>whnf)))
   all_goals first
    | exact retg_vs (rvs:=[.cell 4 cndT, .tmp 5]) (vs:=[_,_]) ⟨1,_,_,rfl,rfl,inferInstance,rfl,rfl,trivial⟩ rfl rfl (le_trans (le_slot 4 _ rfl (nl_one 7 ac)) (le_of h0 rfl ⟨rfl,rfl,trivial⟩ ⟨rfl,trivial⟩ rfl rfl rfl)) rfl
    | (exfalso;omega)
  rw [e3] at r2 ⊢
  dsimp only at r2 ⊢
  rw [if_neg Bool.false_ne_true]
  have r3:=word_call s t (left - 1) (by omega)
  have hdl:=dropWhile_len isW t
  generalize t.takeWhile isW = w at *
  generalize t.dropWhile isW = r at *
  by_cases h2:w = bAll
  ·rw [if_pos h2]
   subst h2
   refine gci Tryz.func200 66 fun E h0=>?_
   repeat' ((first | refine ⟨ncall_h [0] [0] r1 rfl rfl rfl rfl rfl ⟨rfl,trivial⟩ rfl rfl rfl rfl rfl ?_⟩ | refine ⟨ncall_h [0] [0] r2 rfl rfl rfl rfl rfl ⟨rfl,trivial⟩ rfl rfl rfl rfl rfl ?_⟩ | refine ⟨ncall_h [0] [0] r3 rfl rfl rfl rfl rfl ⟨rfl,trivial⟩ rfl rfl rfl rfl rfl ?_⟩ |refine aops_go ?_|refine S1 ?_|refine Z1 ?_|refine Z2 ?_|(refine And.intro ?_ ?_<;>intro h<;>try first|(exfalso;omega)|exact absurd rfl h)|refine Z3 ?_|refine Z4 ?_|intro el hel hbB|intro el hel|intro ex|refine Z5 ?_|(refine free_i ?_ ?_;exact ⟨by kernel_rfl,by decide⟩)|refine allI_c ?_ ?_|exact allI_n|refine allMP_c ?_ ?_|exact allMP_n|(refine many_step ?_ ?_ ?_;kernel_rfl;kernel_rfl)) <;> (try (conv=>whnf)))
   all_goals first
    | (exfalso;omega)
    | (exfalso;exact absurd rfl (by assumption))
    | exact retg_vs (rvs:=[.cell 4 cndT, .tmp 5]) (vs:=[_,_]) ⟨1,_,_,rfl,rfl,inferInstance,rfl,rfl,trivial⟩ rfl rfl (le_trans (le_slot 4 _ rfl (nl_leaf 1 0 0 0 0)) (le_of h0 rfl ⟨rfl,rfl,trivial⟩ ⟨rfl,trivial⟩ rfl rfl rfl)) rfl
  rw [if_neg h2]
  have r4:=find2_call s w
  have hidx:=idxP_hit (fun c:Col=>decide (c.name = w)) s.cols 0 (Int.le_refl _)
  rw [Int.sub_zero] at hidx
  unfold findS2 at *
  generalize idxP (fun c:Col=>decide (c.name = w)) s.cols 0 = col at *
  by_cases h3:col < 0
  ·rw [if_pos h3]
   refine gci Tryz.func200 66 fun E h0=>?_
   repeat' ((first | refine ⟨ncall_h [0] [0] r1 rfl rfl rfl rfl rfl ⟨rfl,trivial⟩ rfl rfl rfl rfl rfl ?_⟩ | refine ⟨ncall_h [0] [0] r2 rfl rfl rfl rfl rfl ⟨rfl,trivial⟩ rfl rfl rfl rfl rfl ?_⟩ | refine ⟨ncall_h [0] [0] r3 rfl rfl rfl rfl rfl ⟨rfl,trivial⟩ rfl rfl rfl rfl rfl ?_⟩ | refine call_i r4 ?_ |refine aops_go ?_|refine S1 ?_|refine Z1 ?_|refine Z2 ?_|(refine And.intro ?_ ?_<;>intro h<;>try first|(exfalso;omega)|exact absurd rfl h)|refine Z3 ?_|refine Z4 ?_|intro el hel hbB|intro el hel|intro ex|refine Z5 ?_|(refine free_i ?_ ?_;exact ⟨by kernel_rfl,by decide⟩)|refine allI_c ?_ ?_|exact allI_n|refine allMP_c ?_ ?_|exact allMP_n|(refine many_step ?_ ?_ ?_;kernel_rfl;kernel_rfl)) <;> (try (conv=>whnf)))
   all_goals first
    | (exfalso;omega)
    | (exfalso;exact absurd (by assumption) h2)
    | exact retg_vs (rvs:=[.cell 4 cndT, .tmp 5]) (vs:=[_,_]) ⟨1,_,_,rfl,rfl,inferInstance,rfl,rfl,trivial⟩ rfl rfl (le_trans (le_slot 4 _ rfl (nl_leaf 0 0 0 0 0)) (le_of h0 rfl ⟨rfl,rfl,trivial⟩ ⟨rfl,trivial⟩ rfl rfl rfl)) rfl
  ·rw [if_neg h3]
   obtain ⟨x,hx⟩:=hidx (by omega)
   have r5:=patom_call s hr r col (left - 1) x hx (by omega) (by omega)
   generalize atoP s col r = a at *
   obtain ⟨ac,aok,at'⟩:=a
   dsimp only at *
   refine gci Tryz.func200 66 fun E h0=>?_
   repeat' ((first | refine ⟨ncall_h [0] [0] r1 rfl rfl rfl rfl rfl ⟨rfl,trivial⟩ rfl rfl rfl rfl rfl ?_⟩ | refine ⟨ncall_h [0] [0] r2 rfl rfl rfl rfl rfl ⟨rfl,trivial⟩ rfl rfl rfl rfl rfl ?_⟩ | refine ⟨ncall_h [0] [0] r3 rfl rfl rfl rfl rfl ⟨rfl,trivial⟩ rfl rfl rfl rfl rfl ?_⟩ | refine call_i r4 ?_ | refine ⟨ncall_h [0] [0] r5 rfl rfl rfl rfl rfl ⟨rfl,trivial⟩ rfl rfl rfl rfl rfl ?_⟩ |refine aops_go ?_|refine S1 ?_|refine Z1 ?_|refine Z2 ?_|(refine And.intro ?_ ?_<;>intro h<;>try first|(exfalso;omega)|exact absurd rfl h)|refine Z3 ?_|refine Z4 ?_|intro el hel hbB|intro el hel|intro ex|refine Z5 ?_|(refine free_i ?_ ?_;exact ⟨by kernel_rfl,by decide⟩)|refine allI_c ?_ ?_|exact allI_n|refine allMP_c ?_ ?_|exact allMP_n|(refine many_step ?_ ?_ ?_;kernel_rfl;kernel_rfl)) <;> (try (conv=>whnf)))
   all_goals first
    | (exfalso;omega)
    | (exfalso;exact absurd (by assumption) h2)
    | exact retg_vs (rvs:=[.cell 4 cndT, .tmp 5]) (vs:=[_,_]) ⟨1,_,_,rfl,rfl,inferInstance,rfl,rfl,trivial⟩ rfl rfl (le_of h0 rfl ⟨rfl,rfl,trivial⟩ ⟨rfl,trivial⟩ rfl rfl rfl) rfl
end Go.Proofs.YtjmbhlgocikfiaaGreatDoor
namespace Go.Proofs.YtjmbhlgocikfiaaGreatDoor
open Go Go.Av
attribute [local irreducible] AWp AOps AAny MAny DQ retQ retG St.le FCall GCall
set_option maxRecDepth 100000
theorem scan_names:∀ (r pre:List Code),scan pre r = none → ∀ c ∈ r,nameB c.name = true
 | [],_,_,c,hc=>by cases hc
 | x :: r,pre,h,c,hc=>by
  unfold scan at h
  split at h
  ·cases h
  ·rename_i hn
   split at h
   ·cases h
   ·split at h
    ·cases h
    ·rcases List.mem_cons.1 hc with rfl | hc
     ·cases hb:nameB c.name
      ·exact absurd hb hn
      ·rfl
     ·exact scan_names r _ h c hc
theorem scan_not0:∀ (r pre:List Code),scan pre r ≠ some 0
 | [],_=>by unfold scan;exact fun h=>by cases h
 | x :: r,pre=>by
  unfold scan
  split
  ·exact fun h=>by cases h
  ·split
   ·exact fun h=>by cases h
   ·split
    ·exact fun h=>by cases h
    ·exact scan_not0 r _
theorem conE_col {s:Sch} {c:Cnd} (h:conE s c = 0) (ho:¬ (c.op = 2 ∨ c.op = 3 ∨ c.op = 4)):c.col = 0:=by
 unfold conE at h
 by_cases h1:c.op < 1 ∨ 7 < c.op
 ·rw [if_pos h1] at h;cases h
 rw [if_neg h1] at h
 split at h
 ·cases h
 ·rename_i h2
  omega
theorem schE_pos {s:Sch} (h:schE s = 0):0 < s.cols.length:=by
 obtain ⟨_,_,_,_,h5⟩:=schE_parts h
 cases hc:s.cols with
 | nil=>rw [hc] at h5;cases h5
 | cons a r=>simp
theorem chk_names {nm:List UInt8} {cs:List Code} (h:chk nm cs = 0):∀ c ∈ cs,nameB c.name = true:=by
 unfold chk at h
 split at h
 ·cases h
 split at h
 ·cases h
 split at h
 ·cases h
 cases hs:scan [] cs with
 | some e =>
  rw [hs] at h
  dsimp only at h
  subst h
  exact absurd hs (scan_not0 cs [])
 | none=>exact scan_names cs [] hs
theorem nameB_len {l:List UInt8} (h:nameB l = true):l.length ≤ 16:=by
 unfold nameB at h
 simp only [Bool.and_eq_true,decide_eq_true_eq] at h
 exact h.1.1.1
theorem col_name {s:Sch} (hr:schE s = 0) {i:Nat} {c:Col} (hc:s.cols[i]? = some c):nameB c.name = true:=by
 obtain ⟨_,_,_,h4,_⟩:=schE_parts hr
 have:=h4 i c hc
 unfold colE at this
 split at this
 ·cases this
 ·rename_i hn
  cases hb:nameB c.name
  ·exact absurd hb hn
  ·rfl
theorem cod_name {s:Sch} (hr:schE s = 0) {l:CL} (hl:l ∈ s.lists) {i:Nat} {c:Code} (hc:l.2[i]? = some c):nameB c.name = true :=
 chk_names ((schE_parts hr).2.2.1 l hl) c (List.mem_of_getElem? hc)
theorem totL_mem':∀ {l:List Cnd} {k:Cnd},k ∈ l → totS k ≤ totL l
 | x :: r,k,h=>by
  unfold totL
  rcases List.mem_cons.1 h with rfl | h
  ·omega
  ·have:=totL_mem' h;omega
theorem totL_two:∀ {l:List Cnd} {x y:Cnd},l[0]? = some x → l[1]? = some y → totS x + totS y ≤ totL l
 | a :: b :: r,x,y,h0,h1=>by
  simp at h0 h1
  subst h0 h1
  unfold totL totL
  omega
 | [_],x,y,_,h1=>by simp at h1
 | [],x,y,h0,_=>by simp at h0
theorem txtS_eq (s:Sch) (c:Cnd):txtS s c = if c.op = 2 then colNm s c.col ++ bUnder ++ codNm s c.col c.code
  else if c.op = 3 then colNm s c.col ++ bFrom ++ Lib.itoa c.lo ++ bTo ++ Lib.itoa c.hi
  else if c.op = 4 then colNm s c.col ++ bMiss
  else if c.op = 5 then [40] ++ (c.kids.map (txtS s)).getD 0 [] ++ bAnd ++ (c.kids.map (txtS s)).getD 1 [] ++ [41]
  else if c.op = 6 then [40] ++ (c.kids.map (txtS s)).getD 0 [] ++ bOr ++ (c.kids.map (txtS s)).getD 1 [] ++ [41]
  else if c.op = 7 then bNot ++ (c.kids.map (txtS s)).getD 0 []
  else bAll:=by
 cases c
 rw [txtS,txtL_map]
 rfl
set_option maxHeartbeats 8000000 in
theorem ctext_call (s:Sch) (hr:schE s = 0) (c:Cnd):chkS s c = 0 → totS c ≤ 1000 → FCall Tryz.prog 149 [sA s,cndA c] (.str (txtS s c)) ∧ (txtS s c).length ≤ 100 * totS c:=by
 refine cnd_ind (p:=fun c=>chkS s c = 0 → totS c ≤ 1000 → FCall Tryz.prog 149 [sA s,cndA c] (.str (txtS s c)) ∧ (txtS s c).length ≤ 100 * totS c) (fun c ih h ht=>?_) c
 obtain ⟨h1,h2⟩:=chkS_parts h
 obtain ⟨p1,p2,p3,p4,p5,p6⟩:=conE_parts h1
 obtain ⟨k1,k2,k3⟩:=kidN_of c.op
 have hkid:∀ k,k ∈ c.kids → FCall Tryz.prog 149 [sA s,cndA k] (.str (txtS s k)) ∧ (txtS s k).length ≤ 100 * totS k:=fun k hk=>by
  have:=totL_mem' hk
  rw [totS_eq] at ht
  exact ih k hk (h2 k hk) (by omega)
 have hcol:∃ x,s.cols[c.col.toNat]? = some x ∧ 0 ≤ c.col:=by
  by_cases ho:c.op = 2 ∨ c.op = 3 ∨ c.op = 4
  ·have:=p3 ho
   exact ⟨_,List.getElem?_eq_getElem (by omega),by omega⟩
  ·have hz:=conE_col h1 (by omega)
   have:=schE_pos hr
   exact ⟨_,List.getElem?_eq_getElem (by omega),by omega⟩
 obtain ⟨x,hx,hc0⟩:=hcol
 have hnm:=nameB_len (col_name hr hx)
 rw [totS_eq] at ht ⊢
 rw [txtS_eq]
 unfold colNm codNm
 rw [colAt_get hx] at p4 ⊢
 rw [cndA_eq] at *
 by_cases o2:c.op = 2
 ·rw [if_pos o2]
  obtain ⟨hk,hcd⟩:=p4 o2
  have hl:=RightS.lst hr (List.mem_of_getElem? hx) hk
  obtain ⟨lx,hlx⟩:∃ l,s.lists[x.lst.toNat]? = some l:=⟨_,List.getElem?_eq_getElem (by omega)⟩
  rw [lstOf_get hlx] at hcd ⊢
  obtain ⟨cd,hcx⟩:∃ d,lx.2[c.code.toNat]? = some d:=⟨_,List.getElem?_eq_getElem (by omega)⟩
  rw [getD_get hcx]
  have hcn:=nameB_len (cod_name hr (List.mem_of_getElem? hlx) hcx)
  refine ⟨?_,by simp only [List.length_append,List.length_cons,List.length_nil];omega⟩
  refine fci Tryz.func149 99 fun hrd E h0=>?_
  clear hrd
  repeat' ((first | (refine each_knownm (x:=x) hx (by omega) ?_) | (refine each_knownm (x:=lx) hlx (by omega) ?_) | (refine each_knownm (x:=cd) hcx (by omega) ?_) | (refine side_i ?_ ?_;(show x.name.length + 7 ≤ 9223372036854775807;omega)) | (refine side_i ?_ ?_;(rw [List.length_append];show x.name.length + 7 + cd.name.length ≤ 9223372036854775807;omega)) | (refine draw_q ?_ ?_;kernel_rfl) |refine aops_go ?_|refine S1 ?_|refine Z1 ?_|refine Z2 ?_|(refine And.intro ?_ ?_<;>intro h<;>try first|(exfalso;omega)|exact absurd rfl h)|refine Z3 ?_|refine Z4 ?_|intro el hel hbB|intro el hel|intro ex|refine Z5 ?_|(refine free_i ?_ ?_;exact ⟨by kernel_rfl,by decide⟩)|refine allI_c ?_ ?_|exact allI_n|refine allMP_c ?_ ?_|exact allMP_n|(refine many_step ?_ ?_ ?_;kernel_rfl;kernel_rfl)) <;> (try (conv=>whnf)))
  all_goals first
   | exact ret_tmp rfl rfl
   | (exfalso;omega)
 rw [if_neg o2]
 by_cases o3:c.op = 3
 ·rw [if_pos o3]
  obtain ⟨_,q1,q2,q3⟩:=p5 o3
  have l1:=Lib.itoa_length_le c.lo (by omega) (by omega)
  have l2:=Lib.itoa_length_le c.hi (by omega) (by omega)
  have r1:=itoaI_call c.lo (by omega) (by omega)
  have r2:=itoaI_call c.hi (by omega) (by omega)
  refine ⟨?_,by simp only [List.length_append,List.length_cons,List.length_nil];omega⟩
  refine fci Tryz.func149 99 fun hrd E h0=>?_
  clear hrd
  generalize Lib.itoa c.lo = zl at *
  generalize Lib.itoa c.hi = zh at *
  repeat' ((first | (refine each_knownm (x:=x) hx (by omega) ?_) | refine call_i r1 ?_ | refine call_i r2 ?_ | (refine side_i ?_ ?_;(show x.name.length + 6 ≤ 9223372036854775807;omega)) | (refine side_i ?_ ?_;(rw [List.length_append];show x.name.length + 6 + zl.length ≤ 9223372036854775807;omega)) | (refine side_i ?_ ?_;(rw [List.length_append,List.length_append];show x.name.length + 6 + zl.length + 4 ≤ 9223372036854775807;omega)) | (refine side_i ?_ ?_;(rw [List.length_append,List.length_append,List.length_append];show x.name.length + 6 + zl.length + 4 + zh.length ≤ 9223372036854775807;omega)) | (refine draw_q ?_ ?_;kernel_rfl) |refine aops_go ?_|refine S1 ?_|refine Z1 ?_|refine Z2 ?_|(refine And.intro ?_ ?_<;>intro h<;>try first|(exfalso;omega)|exact absurd rfl h)|refine Z3 ?_|refine Z4 ?_|intro el hel hbB|intro el hel|intro ex|refine Z5 ?_|(refine free_i ?_ ?_;exact ⟨by kernel_rfl,by decide⟩)|refine allI_c ?_ ?_|exact allI_n|refine allMP_c ?_ ?_|exact allMP_n|(refine many_step ?_ ?_ ?_;kernel_rfl;kernel_rfl)) <;> (try (conv=>whnf)))
  all_goals first
   | exact ret_tmp rfl rfl
   | (exfalso;omega)
 rw [if_neg o3]
 by_cases o4:c.op = 4
 ·rw [if_pos o4]
  refine ⟨?_,by simp only [List.length_append,List.length_cons,List.length_nil];omega⟩
  refine fci Tryz.func149 99 fun hrd E h0=>?_
  clear hrd
  repeat' ((first | (refine each_knownm (x:=x) hx (by omega) ?_) | (refine side_i ?_ ?_;(show x.name.length + 8 ≤ 9223372036854775807;omega)) |refine aops_go ?_|refine S1 ?_|refine Z1 ?_|refine Z2 ?_|(refine And.intro ?_ ?_<;>intro h<;>try first|(exfalso;omega)|exact absurd rfl h)|refine Z3 ?_|refine Z4 ?_|intro el hel hbB|intro el hel|intro ex|refine Z5 ?_|(refine free_i ?_ ?_;exact ⟨by kernel_rfl,by decide⟩)|refine allI_c ?_ ?_|exact allI_n|refine allMP_c ?_ ?_|exact allMP_n|(refine many_step ?_ ?_ ?_;kernel_rfl;kernel_rfl)) <;> (try (conv=>whnf)))
  all_goals first
   | exact ret_tmp rfl rfl
   | (exfalso;omega)
 rw [if_neg o4]
 by_cases o5:c.op = 5
 ·rw [if_pos o5]
  have hkl:=k1 (.inl o5)
  obtain ⟨a,ha⟩:∃ a,c.kids[0]? = some a:=⟨_,List.getElem?_eq_getElem (by omega)⟩
  obtain ⟨b,hb⟩:∃ b,c.kids[1]? = some b:=⟨_,List.getElem?_eq_getElem (by omega)⟩
  obtain ⟨r1,l1⟩:=hkid a (List.mem_of_getElem? ha)
  obtain ⟨r2,l2⟩:=hkid b (List.mem_of_getElem? hb)
  have ht2:=totL_two ha hb
  rw [getD_get (l:=c.kids.map (txtS s)) (k:=0) (x:=txtS s a) (by simp [ha]),getD_get (l:=c.kids.map (txtS s)) (k:=1) (x:=txtS s b) (by simp [hb])]
  generalize txtS s a = za at *
  generalize txtS s b = zb at *
  refine ⟨?_,by simp only [List.length_append,List.length_cons,List.length_nil];omega⟩
  refine fci Tryz.func149 99 fun hrd E h0=>?_
  clear hrd
  repeat' ((first | (refine each_knownm (x:=x) hx (by omega) ?_) | (refine each_knownm (x:=a) ha (by decide) ?_) | (refine each_knownm (x:=b) hb (by decide) ?_) | refine call_i r1 ?_ | refine call_i r2 ?_ | (refine side_i ?_ ?_;(show 1 + za.length ≤ 9223372036854775807;omega)) | (refine side_i ?_ ?_;(rw [List.length_append];show 1 + za.length + 5 ≤ 9223372036854775807;omega)) | (refine side_i ?_ ?_;(rw [List.length_append,List.length_append];show 1 + za.length + 5 + zb.length ≤ 9223372036854775807;omega)) | (refine side_i ?_ ?_;(rw [List.length_append,List.length_append,List.length_append];show 1 + za.length + 5 + zb.length + 1 ≤ 9223372036854775807;omega)) | (refine draw_q ?_ ?_;kernel_rfl) |refine aops_go ?_|refine S1 ?_|refine Z1 ?_|refine Z2 ?_|(refine And.intro ?_ ?_<;>intro h<;>try first|(exfalso;omega)|exact absurd rfl h)|refine Z3 ?_|refine Z4 ?_|intro el hel hbB|intro el hel|intro ex|refine Z5 ?_|(refine free_i ?_ ?_;exact ⟨by kernel_rfl,by decide⟩)|refine allI_c ?_ ?_|exact allI_n|refine allMP_c ?_ ?_|exact allMP_n|(refine many_step ?_ ?_ ?_;kernel_rfl;kernel_rfl)) <;> (try (conv=>whnf)))
  all_goals first
   | exact ret_tmp rfl rfl
   | (exfalso;omega)
 rw [if_neg o5]
 by_cases o6:c.op = 6
 ·rw [if_pos o6]
  have hkl:=k1 (.inr o6)
  obtain ⟨a,ha⟩:∃ a,c.kids[0]? = some a:=⟨_,List.getElem?_eq_getElem (by omega)⟩
  obtain ⟨b,hb⟩:∃ b,c.kids[1]? = some b:=⟨_,List.getElem?_eq_getElem (by omega)⟩
  obtain ⟨r1,l1⟩:=hkid a (List.mem_of_getElem? ha)
  obtain ⟨r2,l2⟩:=hkid b (List.mem_of_getElem? hb)
  have ht2:=totL_two ha hb
  rw [getD_get (l:=c.kids.map (txtS s)) (k:=0) (x:=txtS s a) (by simp [ha]),getD_get (l:=c.kids.map (txtS s)) (k:=1) (x:=txtS s b) (by simp [hb])]
  generalize txtS s a = za at *
  generalize txtS s b = zb at *
  refine ⟨?_,by simp only [List.length_append,List.length_cons,List.length_nil];omega⟩
  refine fci Tryz.func149 99 fun hrd E h0=>?_
  clear hrd
  repeat' ((first | (refine each_knownm (x:=x) hx (by omega) ?_) | (refine each_knownm (x:=a) ha (by decide) ?_) | (refine each_knownm (x:=b) hb (by decide) ?_) | refine call_i r1 ?_ | refine call_i r2 ?_ | (refine side_i ?_ ?_;(show 1 + za.length ≤ 9223372036854775807;omega)) | (refine side_i ?_ ?_;(rw [List.length_append];show 1 + za.length + 4 ≤ 9223372036854775807;omega)) | (refine side_i ?_ ?_;(rw [List.length_append,List.length_append];show 1 + za.length + 4 + zb.length ≤ 9223372036854775807;omega)) | (refine side_i ?_ ?_;(rw [List.length_append,List.length_append,List.length_append];show 1 + za.length + 4 + zb.length + 1 ≤ 9223372036854775807;omega)) | (refine draw_q ?_ ?_;kernel_rfl) |refine aops_go ?_|refine S1 ?_|refine Z1 ?_|refine Z2 ?_|(refine And.intro ?_ ?_<;>intro h<;>try first|(exfalso;omega)|exact absurd rfl h)|refine Z3 ?_|refine Z4 ?_|intro el hel hbB|intro el hel|intro ex|refine Z5 ?_|(refine free_i ?_ ?_;exact ⟨by kernel_rfl,by decide⟩)|refine allI_c ?_ ?_|exact allI_n|refine allMP_c ?_ ?_|exact allMP_n|(refine many_step ?_ ?_ ?_;kernel_rfl;kernel_rfl)) <;> (try (conv=>whnf)))
  all_goals first
   | exact ret_tmp rfl rfl
   | (exfalso;omega)
 rw [if_neg o6]
 by_cases o7:c.op = 7
 ·rw [if_pos o7]
  have hkl:=k2 o7
  obtain ⟨a,ha⟩:∃ a,c.kids[0]? = some a:=⟨_,List.getElem?_eq_getElem (by omega)⟩
  obtain ⟨r1,l1⟩:=hkid a (List.mem_of_getElem? ha)
  have ht2:=totL_mem' (List.mem_of_getElem? ha)
  rw [getD_get (l:=c.kids.map (txtS s)) (k:=0) (x:=txtS s a) (by simp [ha])]
  generalize txtS s a = za at *
  refine ⟨?_,by simp only [List.length_append,List.length_cons,List.length_nil];omega⟩
  refine fci Tryz.func149 99 fun hrd E h0=>?_
  clear hrd
  repeat' ((first | (refine each_knownm (x:=x) hx (by omega) ?_) | (refine each_knownm (x:=a) ha (by decide) ?_) | refine call_i r1 ?_ | (refine side_i ?_ ?_;(show 4 + za.length ≤ 9223372036854775807;omega)) | (refine draw_q ?_ ?_;kernel_rfl) |refine aops_go ?_|refine S1 ?_|refine Z1 ?_|refine Z2 ?_|(refine And.intro ?_ ?_<;>intro h<;>try first|(exfalso;omega)|exact absurd rfl h)|refine Z3 ?_|refine Z4 ?_|intro el hel hbB|intro el hel|intro ex|refine Z5 ?_|(refine free_i ?_ ?_;exact ⟨by kernel_rfl,by decide⟩)|refine allI_c ?_ ?_|exact allI_n|refine allMP_c ?_ ?_|exact allMP_n|(refine many_step ?_ ?_ ?_;kernel_rfl;kernel_rfl)) <;> (try (conv=>whnf)))
  all_goals first
   | exact ret_tmp rfl rfl
   | (exfalso;omega)
 rw [if_neg o7]
 refine ⟨?_,by simp only [List.length_cons,List.length_nil];omega⟩
 refine fci Tryz.func149 99 fun hrd E h0=>?_
 clear hrd
 repeat' ((first | (refine each_knownm (x:=x) hx (by omega) ?_) |refine aops_go ?_|refine S1 ?_|refine Z1 ?_|refine Z2 ?_|(refine And.intro ?_ ?_<;>intro h<;>try first|(exfalso;omega)|exact absurd rfl h)|refine Z3 ?_|refine Z4 ?_|intro el hel hbB|intro el hel|intro ex|refine Z5 ?_|(refine free_i ?_ ?_;exact ⟨by kernel_rfl,by decide⟩)|refine allI_c ?_ ?_|exact allI_n|refine allMP_c ?_ ?_|exact allMP_n|(refine many_step ?_ ?_ ?_;kernel_rfl;kernel_rfl)) <;> (try (conv=>whnf)))
 all_goals first
  | exact ret_tmp rfl rfl
  | (exfalso;omega)
def priS (s:Sch) (c:Cnd):List UInt8 × Int:=if cndE s c = 0 then (txtS s c,0) else ([],cndE s c)
set_option maxHeartbeats 4000000 in
theorem cprint_call (s:Sch) (c:Cnd):FCall Tryz.prog 114 [sA s,cndA c] (.tup [.str (priS s c).1, .i (priS s c).2]):=by
 have h1:=ccheck_call s c
 have h2:¬ cndE s c ≠ 0 → FCall Tryz.prog 149 [sA s,cndA c] (.str (txtS s c)):=fun h=>by
  obtain ⟨a,b,_,d⟩:=cndE_parts (Decidable.of_not_not h)
  exact (ctext_call s a c d (by omega)).1
 unfold priS
 rw [cndA_eq] at *
 refine fci Tryz.func114 16 fun hrd E h0=>?_
 clear hrd
 repeat' ((first | refine call_i h1 ?_ | (refine call_i (h2 (by assumption)) ?_) |refine aops_go ?_|refine S1 ?_|refine Z1 ?_|refine Z2 ?_|(refine And.intro ?_ ?_<;>intro h<;>try first|(exfalso;omega)|exact absurd rfl h)|refine Z3 ?_|refine Z4 ?_|intro el hel hbB|intro el hel|intro ex|refine Z5 ?_|(refine free_i ?_ ?_;exact ⟨by kernel_rfl,by decide⟩)|refine allI_c ?_ ?_|exact allI_n|refine allMP_c ?_ ?_|exact allMP_n|(refine many_step ?_ ?_ ?_;kernel_rfl;kernel_rfl)) <;> (try (conv=>whnf)))
 all_goals first
  | (rw [if_neg (by omega)];exact ret_tmp2 rfl rfl rfl)
  | (rw [if_pos (by omega)];exact ret_tmp2 rfl rfl rfl)
end Go.Proofs.YtjmbhlgocikfiaaGreatDoor
