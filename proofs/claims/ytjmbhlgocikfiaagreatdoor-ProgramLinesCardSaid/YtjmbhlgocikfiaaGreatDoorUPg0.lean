/- Chapter 16: the program's reader: words, numbers, columns, conditions. -/
import Derived.Test.YtjmbhlgocikfiaaGreatDoorUXc
import Derived.Test.YtjmbhlgocikfiaaGreatDoorUD1
set_option linter.unusedVariables false
set_option linter.unnecessarySimpa false
set_option linter.unusedSimpArgs false
namespace Go.Proofs.YtjmbhlgocikfiaaGreatDoor
open Go Go.Av
attribute [local irreducible] AWp AOps AAny MAny DQ retQ retG St.le FCall GCall
set_option maxRecDepth 100000
abbrev rdP (s:Sch) (t:List UInt8):Hp:=[(0,some (.box [.sl 2 (s.lists.map clL), .sl 7 (s.cols.map colL), .str t]))]
abbrev rdN (s:Sch):Hp:=[(0,some (.box [.sl 2 (s.lists.map clL), .sl 7 (s.cols.map colL), .any]))]
theorem le_rd {E:Env} {n:Nat} {σ:St} (i:Nat) {x y z:AV} (hb:lookB σ.hp i = some (.box [x,y,z])):St.le E n σ (σ.set i (.box [x,y, .any])):=by
 unfold St.le
 rintro a w ⟨θ,h⟩
 obtain ⟨b,arr,T',hθ,hh,hs,hr⟩:=(h.owns i _ hb).2
 have ht:=h.turn (v':=θ i) (b':=.box [x,y, .any]) (w':=w) hb rfl rfl rfl (Nat.le_refl _) (fun _ _ _=>rfl) (fun k hk=>.inl hk) rfl fun le=>?_
 ·exact ⟨_,ht⟩
 ·refine ⟨b,arr,T',(by simp only [cx,upd_self];exact hθ),hh,hs,fun j u v hu hv=>?_⟩
  match j,hu with
  | 0,hu=>exact (hr 0 u v hu hv).mono le
  | 1,hu=>exact (hr 1 u v hu hv).mono le
  | 2,hu=>cases hu;exact .any _
theorem ptake_call (s:Sch) (t w:List UInt8) (ht:t.length ≤ 9223372036854775807) (hw:w.length ≤ 9223372036854775807):GCall Tryz.prog 79 1 (rdP s t) [.ref 0 0, .str w] 1 (rdP s (cutS w t).1) (.b (cutS w t).2):=by
 have hp:=cutPrefix_call t w ht hw
 refine gci Tryz.func79 21 fun E h0=>?_
 repeat' ((first | refine call_i hp ?_ |refine aops_go ?_|refine S1 ?_|refine Z1 ?_|refine Z2 ?_|(refine And.intro ?_ ?_<;>intro h<;>try first|(exfalso;omega)|exact absurd rfl h)|refine Z3 ?_|refine Z4 ?_|intro el hel hbB|intro el hel|intro ex|refine Z5 ?_|(refine free_i ?_ ?_;exact ⟨by kernel_rfl,by decide⟩)|refine allI_c ?_ ?_|exact allI_n|refine allMP_c ?_ ?_|exact allMP_n|(refine many_step ?_ ?_ ?_;kernel_rfl;kernel_rfl)) <;> (try (conv=>whnf)))
 all_goals exact retg_tmp (le_of h0 rfl ⟨rfl,trivial⟩ ⟨rfl,trivial⟩ rfl rfl rfl)
theorem takC_yes {w t u:List UInt8} (h:takO w t = some u):cutS w t = (u,true) ∧ u.length ≤ t.length:=by
 unfold takO at h
 split at h
 ·rename_i h2
  cases h
  exact ⟨by rw [← h2],cutS_len w t⟩
 ·cases h
theorem takC_no {w t:List UInt8} (h:takO w t = none):cutS w t = (t,false):=by
 rcases cut_cases w t with e | ⟨u,e,_⟩
 ·exact e
 ·unfold takO at h
  rw [e,if_pos rfl] at h
  cases h
theorem ptake_yes {s:Sch} {t w u:List UInt8} (h:takO w t = some u) (ht:t.length ≤ 9223372036854775807) (hw:w.length ≤ 9223372036854775807):GCall Tryz.prog 79 1 (rdP s t) [.ref 0 0, .str w] 1 (rdP s u) (.b true):=by
 have:=ptake_call s t w ht hw
 rw [(takC_yes h).1] at this
 exact this
theorem ptake_no {s:Sch} {t w:List UInt8} (h:takO w t = none) (ht:t.length ≤ 9223372036854775807) (hw:w.length ≤ 9223372036854775807):GCall Tryz.prog 79 1 (rdP s t) [.ref 0 0, .str w] 1 (rdP s t) (.b false):=by
 have:=ptake_call s t w ht hw
 rw [takC_no h] at this
 exact this
set_option maxHeartbeats 8000000 in
theorem pword_call (s:Sch) (t:List UInt8) (ht:t.length ≤ 9223372036854775806):GCall Tryz.prog 118 1 (rdP s t) [.ref 0 0] 1 (rdP s (t.dropWhile isW)) (.str (t.takeWhile isW)):=by
 refine gci Tryz.func118 75 fun E h0=>?_
 repeat' ((first|refine aops_go ?_|refine S1 ?_|refine Z1 ?_|refine Z2 ?_|(refine And.intro ?_ ?_<;>intro h<;>try first|(exfalso;omega)|exact absurd rfl h)|refine Z3 ?_|refine Z4 ?_|intro el hel hbB|intro el hel|intro ex|refine Z5 ?_|(refine free_i ?_ ?_;exact ⟨by kernel_rfl,by decide⟩)|refine allI_c ?_ ?_|exact allI_n|refine allMP_c ?_ ?_|exact allMP_n|(refine many_step ?_ ?_ ?_;kernel_rfl;kernel_rfl)) <;> (try (conv=>whnf)))
 refine loop_i (ι:=Nat) (fun n=>⟨[(0, .ref 0 0),(3, .i n)],1,rdP s t⟩) (fun n=>WAtt t n) (fun n=>t.length - n) 0 ⟨Nat.zero_le _,fun i b hi=>absurd hi (Nat.not_lt_zero _)⟩ (le_of h0 rfl ⟨rfl,rfl,trivial⟩ ⟨rfl,trivial⟩ rfl rfl rfl) (fun n hI=>?_)
 have hn:=hI.1
 by_cases hlt:n < t.length
 ·obtain ⟨b,hb⟩:∃ b,t[n]? = some b:=⟨_,List.getElem?_eq_getElem hlt⟩
  by_cases hw:97 ≤ b.toNat ∧ b.toNat ≤ 122 ∨ 48 ≤ b.toNat ∧ b.toNat ≤ 57 ∨ b.toNat = 95
  ·repeat' ((first | (refine each_known (x:=b) hb (by omega) ?_) |refine aops_go ?_|refine S1 ?_|refine Z1 ?_|refine Z2 ?_|(refine And.intro ?_ ?_<;>intro h<;>try first|(exfalso;omega)|exact absurd rfl h)|refine Z3 ?_|refine Z4 ?_|intro el hel hbB|intro el hel|intro ex|refine Z5 ?_|(refine free_i ?_ ?_;exact ⟨by kernel_rfl,by decide⟩)|refine allI_c ?_ ?_|exact allI_n|refine allMP_c ?_ ?_|exact allMP_n|(refine many_step ?_ ?_ ?_;kernel_rfl;kernel_rfl)) <;> (try (conv=>whnf)))
   all_goals first
    | exact ⟨n + 1,hI.step hb (isW_true hw),by omega,le_of h0 rfl ⟨rfl,rfl,trivial⟩ ⟨rfl,trivial⟩ rfl rfl rfl⟩
    | (exfalso;omega)
  ·obtain ⟨e1,e2⟩:=hI.ends hb (isW_false hw)
   rw [e1,e2]
   repeat' ((first | (refine each_known (x:=b) hb (by omega) ?_) |refine aops_go ?_|refine S1 ?_|refine Z1 ?_|refine Z2 ?_|(refine And.intro ?_ ?_<;>intro h<;>try first|(exfalso;omega)|exact absurd rfl h)|refine Z3 ?_|refine Z4 ?_|intro el hel hbB|intro el hel|intro ex|refine Z5 ?_|(refine free_i ?_ ?_;exact ⟨by kernel_rfl,by decide⟩)|refine allI_c ?_ ?_|exact allI_n|refine allMP_c ?_ ?_|exact allMP_n|(refine many_step ?_ ?_ ?_;kernel_rfl;kernel_rfl)) <;> (try (conv=>whnf)))
   all_goals first
    | (exfalso;omega)
    | exact retg_tmp (le_of h0 rfl ⟨congrArg (fun z=>some (AV.str z)) (by simp),trivial⟩ ⟨congrArg (fun z=>Blk.box [.sl 2 (s.lists.map clL), .sl 7 (s.cols.map colL), .str z]) (by simp),trivial⟩ rfl rfl rfl)
 ·obtain ⟨e1,e2⟩:=hI.all (by omega)
  rw [e1,e2]
  repeat' ((first|refine aops_go ?_|refine S1 ?_|refine Z1 ?_|refine Z2 ?_|(refine And.intro ?_ ?_<;>intro h<;>try first|(exfalso;omega)|exact absurd rfl h)|refine Z3 ?_|refine Z4 ?_|intro el hel hbB|intro el hel|intro ex|refine Z5 ?_|(refine free_i ?_ ?_;exact ⟨by kernel_rfl,by decide⟩)|refine allI_c ?_ ?_|exact allI_n|refine allMP_c ?_ ?_|exact allMP_n|(refine many_step ?_ ?_ ?_;kernel_rfl;kernel_rfl)) <;> (try (conv=>whnf)))
  all_goals first
   | (exfalso;omega)
   | exact retg_tmp (le_of h0 rfl ⟨congrArg (fun z=>some (AV.str z)) (by simp),trivial⟩ ⟨congrArg (fun z=>Blk.box [.sl 2 (s.lists.map clL), .sl 7 (s.cols.map colL), .str z]) (by simp),trivial⟩ rfl rfl rfl)
set_option maxHeartbeats 4000000 in
theorem pnumv_call (s:Sch) (t u w r sg:List UInt8) (neg:Bool) (hc:cutS [45] t = (u,neg)) (hw:u.takeWhile isW = w) (hr:u.dropWhile isW = r) (hsg:sg = if neg = true then [45] else []) (ht:t.length ≤ 140737488355328) (hu:u.length ≤ t.length) (v:Int) (b:Bool)
  (hat:FCall Tryz.prog 150 [.str (sg ++ w)] (.tup [.v (.int .i64 v),if b = true then .v .nilIface else .err])) (hb:b = true → -9223372036854775808 ≤ v ∧ v ≤ 9223372036854775807) :
  GCall Tryz.prog 117 1 (rdP s t) [.ref 0 0] 1 (rdP s r) (.tup [.i v, .b (decide (w.length ≤ 15) && (b && decide (Lib.itoa v = sg ++ w)))]):=by
 have r1:=ptake_call s t [45] (by omega) (by decide)
 have r2:=pword_call s u (by omega)
 have hwl:=takeWhile_len isW u
 rw [hc] at r1
 rw [hw] at hwl
 rw [hw,hr] at r2
 dsimp only at r1
 have r4:b = true → FCall Tryz.prog 27 [.v (.int .i64 v)] (.str (Lib.itoa v)):=fun h=>itoaI_call v (hb h).1 (hb h).2
 cases neg
 ·obtain rfl:sg = []:=hsg
  cases b
  ·rw [if_neg Bool.false_ne_true] at hat
   rw [Bool.false_and,Bool.and_false]
   refine gci Tryz.func117 35 fun E h0=>?_
   repeat' ((first | refine call_i hat ?_ | (refine side_i ?_ ?_;(show 0 + w.length ≤ 9223372036854775807;omega)) |refine aops_go ?_|refine S1 ?_|refine Z1 ?_|refine Z2 ?_|(refine And.intro ?_ ?_<;>intro h<;>try first|(exfalso;omega)|exact absurd rfl h)|refine Z3 ?_|refine Z4 ?_|intro el hel hbB|intro el hel|intro ex|refine Z5 ?_|(refine free_i ?_ ?_;exact ⟨by kernel_rfl,by decide⟩)|refine allI_c ?_ ?_|exact allI_n|refine allMP_c ?_ ?_|exact allMP_n|(refine many_step ?_ ?_ ?_;kernel_rfl;kernel_rfl) | refine nc [0] [0] r1 rfl rfl rfl ⟨rfl,trivial⟩ ?_ | refine nc [0] [0] r2 rfl rfl rfl ⟨rfl,trivial⟩ ?_) <;> (try (conv=>whnf)))
   all_goals first
    | exact retg_vs (rvs:=[.tmp 2, .tmp 3]) (vs:=[_,_]) trivial rfl rfl (le_of h0 rfl ⟨rfl,rfl,trivial⟩ ⟨rfl,trivial⟩ rfl rfl rfl) rfl
  ·have r5:=r4 rfl
   rw [if_pos rfl] at hat
   rw [Bool.true_and]
   by_cases hl:w.length ≤ 15
   ·rw [decide_eq_true hl,Bool.true_and]
    refine gci Tryz.func117 35 fun E h0=>?_
    repeat' ((first | refine call_i hat ?_ | (refine side_i ?_ ?_;(show 0 + w.length ≤ 9223372036854775807;omega)) | refine call_i r5 ?_ |refine aops_go ?_|refine S1 ?_|refine Z1 ?_|refine Z2 ?_|(refine And.intro ?_ ?_<;>intro h<;>try first|(exfalso;omega)|exact absurd rfl h)|refine Z3 ?_|refine Z4 ?_|intro el hel hbB|intro el hel|intro ex|refine Z5 ?_|(refine free_i ?_ ?_;exact ⟨by kernel_rfl,by decide⟩)|refine allI_c ?_ ?_|exact allI_n|refine allMP_c ?_ ?_|exact allMP_n|(refine many_step ?_ ?_ ?_;kernel_rfl;kernel_rfl) | refine nc [0] [0] r1 rfl rfl rfl ⟨rfl,trivial⟩ ?_ | refine nc [0] [0] r2 rfl rfl rfl ⟨rfl,trivial⟩ ?_) <;> (try (conv=>whnf)))
    all_goals first
     | exact retg_vs (rvs:=[.tmp 2, .tmp 3]) (vs:=[_,_]) trivial rfl rfl (le_of h0 rfl ⟨rfl,rfl,trivial⟩ ⟨rfl,trivial⟩ rfl rfl rfl) rfl
     | (exfalso;omega)
   ·rw [decide_eq_false hl,Bool.false_and]
    refine gci Tryz.func117 35 fun E h0=>?_
    repeat' ((first | refine call_i hat ?_ | (refine side_i ?_ ?_;(show 0 + w.length ≤ 9223372036854775807;omega)) | refine call_i r5 ?_ |refine aops_go ?_|refine S1 ?_|refine Z1 ?_|refine Z2 ?_|(refine And.intro ?_ ?_<;>intro h<;>try first|(exfalso;omega)|exact absurd rfl h)|refine Z3 ?_|refine Z4 ?_|intro el hel hbB|intro el hel|intro ex|refine Z5 ?_|(refine free_i ?_ ?_;exact ⟨by kernel_rfl,by decide⟩)|refine allI_c ?_ ?_|exact allI_n|refine allMP_c ?_ ?_|exact allMP_n|(refine many_step ?_ ?_ ?_;kernel_rfl;kernel_rfl) | refine nc [0] [0] r1 rfl rfl rfl ⟨rfl,trivial⟩ ?_ | refine nc [0] [0] r2 rfl rfl rfl ⟨rfl,trivial⟩ ?_) <;> (try (conv=>whnf)))
    all_goals first
     | exact retg_vs (rvs:=[.tmp 2, .tmp 3]) (vs:=[_,_]) trivial rfl rfl (le_of h0 rfl ⟨rfl,rfl,trivial⟩ ⟨rfl,trivial⟩ rfl rfl rfl) rfl
     | (exfalso;omega)
 ·obtain rfl:sg = [45]:=hsg
  cases b
  ·rw [if_neg Bool.false_ne_true] at hat
   rw [Bool.false_and,Bool.and_false]
   refine gci Tryz.func117 35 fun E h0=>?_
   repeat' ((first | refine call_i hat ?_ | (refine side_i ?_ ?_;(show 1 + w.length ≤ 9223372036854775807;omega)) |refine aops_go ?_|refine S1 ?_|refine Z1 ?_|refine Z2 ?_|(refine And.intro ?_ ?_<;>intro h<;>try first|(exfalso;omega)|exact absurd rfl h)|refine Z3 ?_|refine Z4 ?_|intro el hel hbB|intro el hel|intro ex|refine Z5 ?_|(refine free_i ?_ ?_;exact ⟨by kernel_rfl,by decide⟩)|refine allI_c ?_ ?_|exact allI_n|refine allMP_c ?_ ?_|exact allMP_n|(refine many_step ?_ ?_ ?_;kernel_rfl;kernel_rfl) | refine nc [0] [0] r1 rfl rfl rfl ⟨rfl,trivial⟩ ?_ | refine nc [0] [0] r2 rfl rfl rfl ⟨rfl,trivial⟩ ?_) <;> (try (conv=>whnf)))
   all_goals first
    | exact retg_vs (rvs:=[.tmp 2, .tmp 3]) (vs:=[_,_]) trivial rfl rfl (le_of h0 rfl ⟨rfl,rfl,trivial⟩ ⟨rfl,trivial⟩ rfl rfl rfl) rfl
  ·have r5:=r4 rfl
   rw [if_pos rfl] at hat
   rw [Bool.true_and]
   by_cases hl:w.length ≤ 15
   ·rw [decide_eq_true hl,Bool.true_and]
    refine gci Tryz.func117 35 fun E h0=>?_
    repeat' ((first | refine call_i hat ?_ | (refine side_i ?_ ?_;(show 1 + w.length ≤ 9223372036854775807;omega)) | refine call_i r5 ?_ |refine aops_go ?_|refine S1 ?_|refine Z1 ?_|refine Z2 ?_|(refine And.intro ?_ ?_<;>intro h<;>try first|(exfalso;omega)|exact absurd rfl h)|refine Z3 ?_|refine Z4 ?_|intro el hel hbB|intro el hel|intro ex|refine Z5 ?_|(refine free_i ?_ ?_;exact ⟨by kernel_rfl,by decide⟩)|refine allI_c ?_ ?_|exact allI_n|refine allMP_c ?_ ?_|exact allMP_n|(refine many_step ?_ ?_ ?_;kernel_rfl;kernel_rfl) | refine nc [0] [0] r1 rfl rfl rfl ⟨rfl,trivial⟩ ?_ | refine nc [0] [0] r2 rfl rfl rfl ⟨rfl,trivial⟩ ?_) <;> (try (conv=>whnf)))
    all_goals first
     | exact retg_vs (rvs:=[.tmp 2, .tmp 3]) (vs:=[_,_]) trivial rfl rfl (le_of h0 rfl ⟨rfl,rfl,trivial⟩ ⟨rfl,trivial⟩ rfl rfl rfl) rfl
     | (exfalso;omega)
   ·rw [decide_eq_false hl,Bool.false_and]
    refine gci Tryz.func117 35 fun E h0=>?_
    repeat' ((first | refine call_i hat ?_ | (refine side_i ?_ ?_;(show 1 + w.length ≤ 9223372036854775807;omega)) | refine call_i r5 ?_ |refine aops_go ?_|refine S1 ?_|refine Z1 ?_|refine Z2 ?_|(refine And.intro ?_ ?_<;>intro h<;>try first|(exfalso;omega)|exact absurd rfl h)|refine Z3 ?_|refine Z4 ?_|intro el hel hbB|intro el hel|intro ex|refine Z5 ?_|(refine free_i ?_ ?_;exact ⟨by kernel_rfl,by decide⟩)|refine allI_c ?_ ?_|exact allI_n|refine allMP_c ?_ ?_|exact allMP_n|(refine many_step ?_ ?_ ?_;kernel_rfl;kernel_rfl) | refine nc [0] [0] r1 rfl rfl rfl ⟨rfl,trivial⟩ ?_ | refine nc [0] [0] r2 rfl rfl rfl ⟨rfl,trivial⟩ ?_) <;> (try (conv=>whnf)))
    all_goals first
     | exact retg_vs (rvs:=[.tmp 2, .tmp 3]) (vs:=[_,_]) trivial rfl rfl (le_of h0 rfl ⟨rfl,rfl,trivial⟩ ⟨rfl,trivial⟩ rfl rfl rfl) rfl
     | (exfalso;omega)
theorem pnumber_call (s:Sch) (t:List UInt8) (ht:t.length ≤ 140737488355328):GCall Tryz.prog 117 1 (rdP s t) [.ref 0 0] 1 (rdP s (numS t).2.2) (.tup [.i (numS t).1, .b (decide (((cutS [45] t).1.takeWhile isW).length ≤ 15) && (numS t).2.1)]):=by
 have hl:=cutS_len [45] t
 have hwl:=takeWhile_len isW (cutS [45] t).1
 have hz:(numZ t).length ≤ 281474976710656:=by
  unfold numZ
  rw [List.length_append]
  have:(if (cutS [45] t).2 = true then [45] else ([]:List UInt8)).length ≤ 1:=by split <;> simp
  omega
 cases h:Lib.atoiAll (numZ t) with
 | ok v =>
  have:=pnumv_call s t (cutS [45] t).1 _ _ _ (cutS [45] t).2 rfl rfl rfl rfl ht hl v true (atoi_ok _ hz h) (fun _=>Lib.atoiAll_bounds h)
  rw [Bool.true_and] at this
  unfold numS numV
  rw [h]
  exact this
 | range =>
  have:=pnumv_call s t (cutS [45] t).1 _ _ _ (cutS [45] t).2 rfl rfl rfl rfl ht hl _ false (atoi_rng _ hz h) (fun h=>by cases h)
  rw [Bool.false_and] at this
  unfold numS numV
  rw [h]
  exact this
 | _ =>
  have:=pnumv_call s t (cutS [45] t).1 _ _ _ (cutS [45] t).2 rfl rfl rfl rfl ht hl 0 false (atoi_syn _ hz h) (fun h=>by cases h)
  rw [Bool.false_and] at this
  unfold numS numV
  rw [h]
  exact this
theorem pnum_yes {s:Sch} {t u:List UInt8} {v:Int} (h:numO t = some (v,u)) (ht:t.length ≤ 140737488355328):GCall Tryz.prog 117 1 (rdP s t) [.ref 0 0] 1 (rdP s u) (.tup [.i v, .b true]) ∧ u.length ≤ t.length:=by
 unfold numO at h
 split at h
 ·rename_i hh
  have hn:=numS_len t
  cases h
  have:=pnumber_call s t ht
  rw [hh.1,decide_eq_true hh.2] at this
  exact ⟨this,hn⟩
 ·cases h
theorem pnum_no {s:Sch} {t:List UInt8} (h:numO t = none) (ht:t.length ≤ 140737488355328):∃ (v:Int) (u:List UInt8),GCall Tryz.prog 117 1 (rdP s t) [.ref 0 0] 1 (rdP s u) (.tup [.i v, .b false]):=by
 refine ⟨(numS t).1,(numS t).2.2,?_⟩
 ·unfold numO at h
  split at h
  ·cases h
  ·rename_i hh
   have:=pnumber_call s t ht
   rw [show (decide (((cutS [45] t).1.takeWhile isW).length ≤ 15) && (numS t).2.1) = false by
    rw [Bool.and_eq_false_iff]
    by_cases h1:(numS t).2.1 = true
    ·exact .inl (decide_eq_false fun h2=>hh ⟨h1,h2⟩)
    ·exact .inr (eq_false_of_ne_true h1)] at this
   exact this
end Go.Proofs.YtjmbhlgocikfiaaGreatDoor
