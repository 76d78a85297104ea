/- Chapter 2: schemas, and which are right. Chapter 2: which values fit, levels, coarse values. Chapter 2: rows, columns with a name, levels. Chapter 2: blocks, the least level, coarse values, values turned to another level. -/
import Derived.Test.YtjmbhlgocikfiaaGreatDoorTB4
import Derived.Test.YtjmbhlgocikfiaaGreatDoorTB5
set_option linter.unusedVariables false
set_option linter.unnecessarySimpa false
set_option linter.unusedSimpArgs false
namespace Go.Proofs.YtjmbhlgocikfiaaGreatDoor
open Go Go.Av
attribute [local irreducible] AWp AOps AAny MAny DQ retQ retG St.le FCall GCall
set_option maxRecDepth 100000
structure Col where
 name:List UInt8
 kind:Int
 lst:Int
 low:Int
 high:Int
 widths:List Int
 opt:Bool
deriving DecidableEq
abbrev CL:=List UInt8 × List Code
structure Sch where
 lists:List CL
 cols:List Col
abbrev wA (w:Int):List AV:=[.i w]
abbrev colL (c:Col):List AV:=[.str c.name, .i c.kind, .i c.lst, .i c.low, .i c.high, .sl 1 (c.widths.map wA), .b c.opt]
abbrev clL (l:CL):List AV:=[.str l.1, .sl 2 (l.2.map cA)]
abbrev sL (s:Sch):List AV:=[.sl 2 (s.lists.map clL), .sl 7 (s.cols.map colL)]
abbrev sA (s:Sch):AV:=.agg (sL s)
abbrev colA (c:Col):AV:=.agg (colL c)
abbrev clA (l:CL):AV:=.agg (clL l)
def chainB:Int → List Int → Bool
 | _,[]=>true
 | last,w :: r=>decide (last < w) && decide (w.tmod last = 0) && decide (w ≤ 1000000) && chainB w r
def widthsB:List Int → Bool
 | []=>true
 | w :: r=>decide (w = 1) && chainB 1 r
def meaE (c:Col):Int:=if c.low < -1000000 ∨ 1000000 < c.high ∨ c.high < c.low then 2 else if c.widths.length = 0 ∨ 4 < c.widths.length then 1 else if widthsB c.widths = true then 0 else 2
def usedB (c:Col):Bool:=decide (¬ (c.kind ≠ 2 ∧ c.lst ≠ 0) ∧ (c.kind = 3 ∨ c.low = 0 ∧ c.high = 0 ∧ c.widths.length = 0 ∧ c.opt = false))
def kindE (s:Sch) (i:Nat) (c:Col):Int :=
 if c.kind = 1 then (if (0:Int) < (i:Int) then 4 else 0) else if c.kind = 2 then (if c.lst < 0 ∨ (s.lists.length:Int) ≤ c.lst then 5 else 0) else if c.kind = 3 then meaE c else 4
def dupB (s:Sch) (i:Nat) (c:Col):Bool:=(s.cols.take i).any fun x=>decide (x.name = c.name)
def colE (s:Sch) (i:Nat) (c:Col):Int :=
 if nameB c.name = false then 3 else if dupB s i c = true then 10 else if kindE s i c = 0 then (if usedB c = true then 0 else 11) else kindE s i c
def lstE (ls:List CL) (i:Nat) (l:CL):Int:=if chk l.1 l.2 = 0 then (if ((ls.take i).any fun x=>decide (x.1 = l.1)) = true then 10 else 0) else chk l.1 l.2
def schE (s:Sch):Int :=
 if 6 < s.lists.length ∨ 8 < s.cols.length then 1 else if firstE (lstE s.lists) 0 s.lists = 0 then
  (if s.cols.head?.map (·.kind) = some 1 then firstE (colE s) 0 s.cols else 7) else firstE (lstE s.lists) 0 s.lists
def WAt (ws:List Int) (k:Nat) (last:Int):Prop:=k ≤ ws.length ∧ ((k = 0 ∧ last = 1) ∨ (0 < k ∧ 1 ≤ last ∧ widthsB ws = chainB last (ws.drop k)))
theorem WAt.pos {ws:List Int} {k:Nat} {last:Int} (h:WAt ws k last):1 ≤ last:=by rcases h.2 with h | h <;> omega
theorem WAt.first {ws:List Int} {k:Nat} {last w:Int} (h:WAt ws k last) (hw:ws[k]? = some w) (hk:k = 0) (h1:w = 1):WAt ws (k + 1) w:=by
 subst hk h1
 refine ⟨lt_of_get hw, .inr ⟨by omega,by omega,?_⟩⟩
 have:ws = 1 :: ws.drop 1:=by have:=dropc hw;simpa using this
 rw [this];simp [widthsB]
theorem WAt.next {ws:List Int} {k:Nat} {last w:Int} (h:WAt ws k last) (hw:ws[k]? = some w) (hk:0 < k) (h1:last < w) (h2:w.tmod last = 0) (h3:w ≤ 1000000):WAt ws (k + 1) w:=by
 rcases h.2 with h | h
 ·omega
 ·refine ⟨lt_of_get hw, .inr ⟨by omega,by omega,?_⟩⟩
  rw [h.2.2,dropc hw];simp [chainB,h1,h2,h3]
theorem WAt.bad0 {ws:List Int} {k:Nat} {last w:Int} (h:WAt ws k last) (hw:ws[k]? = some w) (hk:k = 0) (h1:¬ w = 1):widthsB ws = false:=by
 subst hk
 have:ws = w :: ws.drop 1:=by have:=dropc hw;simpa using this
 rw [this];simp [widthsB,h1]
theorem WAt.bad {ws:List Int} {k:Nat} {last w:Int} (h:WAt ws k last) (hw:ws[k]? = some w) (hk:0 < k) (h1:¬ (last < w ∧ w.tmod last = 0 ∧ w ≤ 1000000)):widthsB ws = false:=by
 rcases h.2 with h | h
 ·omega
 ·rw [h.2.2,dropc hw]
  simp only [chainB,Bool.and_eq_false_iff,decide_eq_false_iff_not]
  omega
theorem WAt.done {ws:List Int} {k:Nat} {last:Int} (h:WAt ws k last) (hk:¬ (k:Int) < ws.length) (hn:ws.length ≠ 0):widthsB ws = true:=by
 rcases h.2 with h2 | h2
 ·omega
 ·rw [h2.2.2,drop_end hk];rfl
set_option maxHeartbeats 4000000 in
theorem measure_call (c:Col):FCall Tryz.prog 95 [colA c] (.i (meaE c)):=by
 refine fci Tryz.func95 68 fun hrd E h0=>?_
 have hlen:c.widths.length ≤ 9223372036854775807:=by
  have:=((hrd (colA c) (by simp)).agg (.sl 1 (c.widths.map wA)) (by simp)).sl
  simpa using this
 repeat' ((first|refine aops_go ?_|refine S1 ?_|refine Z1 ?_|refine Z2 ?_|(refine And.intro ?_ ?_<;>intro h<;>try first|(exfalso;omega)|exact absurd rfl h)|refine Z3 ?_|refine Z4 ?_|intro el hel hbB|intro el hel|intro ex|refine Z5 ?_|(refine free_i ?_ ?_;exact ⟨by kernel_rfl,by decide⟩)|refine allI_c ?_ ?_|exact allI_n|refine allMP_c ?_ ?_|exact allMP_n|(refine many_step ?_ ?_ ?_;kernel_rfl;kernel_rfl)) <;> (try (conv=>whnf)))
 all_goals first
  | exact ret_tmp rfl (congrArg AV.i (by rw [meaE,if_pos (by omega)]))
  | exact ret_tmp rfl (congrArg AV.i (by rw [meaE,if_neg (by omega),if_pos (by omega)]))
  | skip
 have hm:meaE c = if widthsB c.widths = true then 0 else 2:=by rw [meaE,if_neg (by omega),if_neg (by omega)]
 have hne:c.widths.length ≠ 0:=by omega
 rw [hm]
 refine loop_i (ι:=Nat × Int) (fun x=>⟨[(3, .i x.2),(34, .sl 1 (c.widths.map wA)),(35, .i c.widths.length),(36, .i x.1)],0,[]⟩) (fun x=>WAt c.widths x.1 x.2) (fun x=>c.widths.length - x.1) (0,1) ⟨Nat.zero_le _, .inl ⟨rfl,rfl⟩⟩ (le_of h0 rfl ⟨rfl,rfl,rfl,rfl,trivial⟩ trivial rfl rfl rfl) (fun x hI=>?_)
 obtain ⟨k,last⟩:=x
 have hp:=hI.pos
 have hk:=hI.1
 dsimp only at hI hp hk ⊢
 repeat' ((first|refine aops_go ?_|refine S1 ?_|refine Z1 ?_|refine Z2 ?_|(refine And.intro ?_ ?_<;>intro h<;>try first|(exfalso;omega)|exact absurd rfl h)|refine Z3 ?_|refine Z4 ?_|intro el hel hbB|intro el hel|intro ex|refine Z5 ?_|(refine free_i ?_ ?_;exact ⟨by kernel_rfl,by decide⟩)|refine allI_c ?_ ?_|exact allI_n|refine allMP_c ?_ ?_|exact allMP_n|(refine many_step ?_ ?_ ?_;kernel_rfl;kernel_rfl)) <;> (try (conv=>whnf)))
 all_goals first
  | exact ret_tmp rfl (congrArg AV.i (by rw [hI.bad0 hel (by omega) (by omega)];rfl))
  | exact ret_tmp rfl (congrArg AV.i (by rw [hI.bad hel (by omega) (fun hx=>by first | exact absurd hx.2.1 (by assumption) | omega)];rfl))
  | exact ret_tmp rfl (congrArg AV.i (by rw [hI.done (by assumption) hne];rfl))
  | exact ⟨(k + 1,el),hI.first hel (by omega) (by omega),by simp only;omega,le_of h0 rfl ⟨rfl,rfl,rfl,rfl,trivial⟩ trivial rfl rfl rfl⟩
  | exact ⟨(k + 1,el),hI.next hel (by omega) (by omega) (Classical.byContradiction (by assumption)) (by omega),by simp only;omega,le_of h0 rfl ⟨rfl,rfl,rfl,rfl,trivial⟩ trivial rfl rfl rfl⟩
theorem unused_call (c:Col):FCall Tryz.prog 96 [colA c] (.b (usedB c)):=by
 refine fci Tryz.func96 35 fun hrd E h0=>?_
 repeat' ((first|refine aops_go ?_|refine S1 ?_|refine Z1 ?_|refine Z2 ?_|(refine And.intro ?_ ?_<;>intro h<;>try first|(exfalso;omega)|exact absurd rfl h)|refine Z3 ?_|refine Z4 ?_|intro el hel hbB|intro el hel|intro ex|refine Z5 ?_|(refine free_i ?_ ?_;exact ⟨by kernel_rfl,by decide⟩)|refine allI_c ?_ ?_|exact allI_n|refine allMP_c ?_ ?_|exact allMP_n|(refine many_step ?_ ?_ ?_;kernel_rfl;kernel_rfl)) <;> (try (conv=>whnf)))
 all_goals first
  | exact ret_tmp rfl (congrArg AV.b (by simp_all [usedB]))
set_option maxHeartbeats 2000000 in
theorem col_idx (l:List (Col)) (f:Nat) (caps:List AV) (p:(Col) → Bool) (hf:∀ x ∈ l,FCall Tryz.prog f ((fun x=>colA x) x :: caps) (.b (p x))):FCall Tryz.prog 134 [.sl 7 (l.map colL), .fn f caps] (.i (idxP p l 0)):=by
 refine fci Tryz.func134 19 fun hrd E h0=>?_
 have hlen:l.length ≤ 9223372036854775807:=by have:=(hrd (.sl 7 (l.map colL)) (by simp)).sl;simpa using this
 repeat' ((first|refine aops_go ?_|refine S1 ?_|refine Z1 ?_|refine Z2 ?_|(refine And.intro ?_ ?_<;>intro h<;>try first|(exfalso;omega)|exact absurd rfl h)|refine Z3 ?_|refine Z4 ?_|intro el hel hbB|intro el hel|intro ex|refine Z5 ?_|(refine free_i ?_ ?_;exact ⟨by kernel_rfl,by decide⟩)|refine allI_c ?_ ?_|exact allI_n|refine allMP_c ?_ ?_|exact allMP_n|(refine many_step ?_ ?_ ?_;kernel_rfl;kernel_rfl)) <;> (try (conv=>whnf)))
 refine loop_i (ι:=Nat) (fun k=>⟨[(0, .sl 7 (l.map colL)),(1, .fn f caps),(7, .i l.length),(8, .i k)],0,[]⟩) (fun k=>k ≤ l.length ∧ idxP p l 0 = idxP p (l.drop k) k) (fun k=>l.length - k) 0 ⟨Nat.zero_le _,rfl⟩ (le_of h0 rfl ⟨rfl,rfl,rfl,rfl,trivial⟩ trivial rfl rfl rfl) (fun k hI=>?_)
 obtain ⟨hk,hI⟩:=hI
 repeat' ((first | refine call_i (hf _ (List.mem_of_getElem? hel)) ?_ |refine aops_go ?_|refine S1 ?_|refine Z1 ?_|refine Z2 ?_|(refine And.intro ?_ ?_<;>intro h<;>try first|(exfalso;omega)|exact absurd rfl h)|refine Z3 ?_|refine Z4 ?_|intro el hel hbB|intro el hel|intro ex|refine Z5 ?_|(refine free_i ?_ ?_;exact ⟨by kernel_rfl,by decide⟩)|refine allI_c ?_ ?_|exact allI_n|refine allMP_c ?_ ?_|exact allMP_n|(refine many_step ?_ ?_ ?_;kernel_rfl;kernel_rfl)) <;> (try (conv=>whnf)))
 all_goals first
  | exact ⟨k + 1,⟨by omega,by rw [hI,dropc hel,idxP,if_neg (by simp [h])];rfl⟩,by omega,le_of h0 rfl ⟨rfl,rfl,rfl,rfl,trivial⟩ trivial rfl rfl rfl⟩
  | exact ret_tmp rfl (congrArg AV.i (by rw [hI,dropc hel,idxP,if_pos (by simp [h])]))
  | exact ret_tmp rfl (congrArg AV.i (by rw [hI,show k = l.length by omega,List.drop_length];rfl))
set_option maxHeartbeats 2000000 in
theorem col_any (l:List (Col)) (f:Nat) (caps:List AV) (p:(Col) → Bool) (hf:∀ x ∈ l,FCall Tryz.prog f ((fun x=>colA x) x :: caps) (.b (p x))):FCall Tryz.prog 93 [.sl 7 (l.map colL), .fn f caps] (.b (l.any p)):=by
 refine fci Tryz.func93 9 fun hrd E h0=>?_
 have hidx:=col_idx l f caps p hf
 repeat' ((first | refine call_i hidx ?_ |refine aops_go ?_|refine S1 ?_|refine Z1 ?_|refine Z2 ?_|(refine And.intro ?_ ?_<;>intro h<;>try first|(exfalso;omega)|exact absurd rfl h)|refine Z3 ?_|refine Z4 ?_|intro el hel hbB|intro el hel|intro ex|refine Z5 ?_|(refine free_i ?_ ?_;exact ⟨by kernel_rfl,by decide⟩)|refine allI_c ?_ ?_|exact allI_n|refine allMP_c ?_ ?_|exact allMP_n|(refine many_step ?_ ?_ ?_;kernel_rfl;kernel_rfl)) <;> (try (conv=>whnf)))
 all_goals first
  | exact ret_tmp rfl (congrArg AV.b (idxP_any p l 0 (by omega)))
set_option maxHeartbeats 2000000 in
theorem cl_idx (l:List (CL)) (f:Nat) (caps:List AV) (p:(CL) → Bool) (hf:∀ x ∈ l,FCall Tryz.prog f ((fun x=>clA x) x :: caps) (.b (p x))):FCall Tryz.prog 92 [.sl 2 (l.map clL), .fn f caps] (.i (idxP p l 0)):=by
 refine fci Tryz.func92 19 fun hrd E h0=>?_
 have hlen:l.length ≤ 9223372036854775807:=by have:=(hrd (.sl 2 (l.map clL)) (by simp)).sl;simpa using this
 repeat' ((first|refine aops_go ?_|refine S1 ?_|refine Z1 ?_|refine Z2 ?_|(refine And.intro ?_ ?_<;>intro h<;>try first|(exfalso;omega)|exact absurd rfl h)|refine Z3 ?_|refine Z4 ?_|intro el hel hbB|intro el hel|intro ex|refine Z5 ?_|(refine free_i ?_ ?_;exact ⟨by kernel_rfl,by decide⟩)|refine allI_c ?_ ?_|exact allI_n|refine allMP_c ?_ ?_|exact allMP_n|(refine many_step ?_ ?_ ?_;kernel_rfl;kernel_rfl)) <;> (try (conv=>whnf)))
 refine loop_i (ι:=Nat) (fun k=>⟨[(0, .sl 2 (l.map clL)),(1, .fn f caps),(7, .i l.length),(8, .i k)],0,[]⟩) (fun k=>k ≤ l.length ∧ idxP p l 0 = idxP p (l.drop k) k) (fun k=>l.length - k) 0 ⟨Nat.zero_le _,rfl⟩ (le_of h0 rfl ⟨rfl,rfl,rfl,rfl,trivial⟩ trivial rfl rfl rfl) (fun k hI=>?_)
 obtain ⟨hk,hI⟩:=hI
 repeat' ((first | refine call_i (hf _ (List.mem_of_getElem? hel)) ?_ |refine aops_go ?_|refine S1 ?_|refine Z1 ?_|refine Z2 ?_|(refine And.intro ?_ ?_<;>intro h<;>try first|(exfalso;omega)|exact absurd rfl h)|refine Z3 ?_|refine Z4 ?_|intro el hel hbB|intro el hel|intro ex|refine Z5 ?_|(refine free_i ?_ ?_;exact ⟨by kernel_rfl,by decide⟩)|refine allI_c ?_ ?_|exact allI_n|refine allMP_c ?_ ?_|exact allMP_n|(refine many_step ?_ ?_ ?_;kernel_rfl;kernel_rfl)) <;> (try (conv=>whnf)))
 all_goals first
  | exact ⟨k + 1,⟨by omega,by rw [hI,dropc hel,idxP,if_neg (by simp [h])];rfl⟩,by omega,le_of h0 rfl ⟨rfl,rfl,rfl,rfl,trivial⟩ trivial rfl rfl rfl⟩
  | exact ret_tmp rfl (congrArg AV.i (by rw [hI,dropc hel,idxP,if_pos (by simp [h])]))
  | exact ret_tmp rfl (congrArg AV.i (by rw [hI,show k = l.length by omega,List.drop_length];rfl))
set_option maxHeartbeats 2000000 in
theorem cl_any (l:List (CL)) (f:Nat) (caps:List AV) (p:(CL) → Bool) (hf:∀ x ∈ l,FCall Tryz.prog f ((fun x=>clA x) x :: caps) (.b (p x))):FCall Tryz.prog 48 [.sl 2 (l.map clL), .fn f caps] (.b (l.any p)):=by
 refine fci Tryz.func48 9 fun hrd E h0=>?_
 have hidx:=cl_idx l f caps p hf
 repeat' ((first | refine call_i hidx ?_ |refine aops_go ?_|refine S1 ?_|refine Z1 ?_|refine Z2 ?_|(refine And.intro ?_ ?_<;>intro h<;>try first|(exfalso;omega)|exact absurd rfl h)|refine Z3 ?_|refine Z4 ?_|intro el hel hbB|intro el hel|intro ex|refine Z5 ?_|(refine free_i ?_ ?_;exact ⟨by kernel_rfl,by decide⟩)|refine allI_c ?_ ?_|exact allI_n|refine allMP_c ?_ ?_|exact allMP_n|(refine many_step ?_ ?_ ?_;kernel_rfl;kernel_rfl)) <;> (try (conv=>whnf)))
 all_goals first
  | exact ret_tmp rfl (congrArg AV.b (idxP_any p l 0 (by omega)))
theorem colName_call (x c:Col):FCall Tryz.prog 94 [colA x, .iptr (colL c)] (.b (decide (x.name = c.name))):=by
 refine fci Tryz.func94 9 fun hrd E h0=>?_
 repeat' ((first|refine aops_go ?_|refine S1 ?_|refine Z1 ?_|refine Z2 ?_|(refine And.intro ?_ ?_<;>intro h<;>try first|(exfalso;omega)|exact absurd rfl h)|refine Z3 ?_|refine Z4 ?_|intro el hel hbB|intro el hel|intro ex|refine Z5 ?_|(refine free_i ?_ ?_;exact ⟨by kernel_rfl,by decide⟩)|refine allI_c ?_ ?_|exact allI_n|refine allMP_c ?_ ?_|exact allMP_n|(refine many_step ?_ ?_ ?_;kernel_rfl;kernel_rfl)) <;> (try (conv=>whnf)))
 all_goals exact ret_tmp rfl rfl
theorem listName_call (x l:CL):FCall Tryz.prog 49 [clA x, .iptr (clL l)] (.b (decide (x.1 = l.1))):=by
 refine fci Tryz.func49 9 fun hrd E h0=>?_
 repeat' ((first|refine aops_go ?_|refine S1 ?_|refine Z1 ?_|refine Z2 ?_|(refine And.intro ?_ ?_<;>intro h<;>try first|(exfalso;omega)|exact absurd rfl h)|refine Z3 ?_|refine Z4 ?_|intro el hel hbB|intro el hel|intro ex|refine Z5 ?_|(refine free_i ?_ ?_;exact ⟨by kernel_rfl,by decide⟩)|refine allI_c ?_ ?_|exact allI_n|refine allMP_c ?_ ?_|exact allMP_n|(refine many_step ?_ ?_ ?_;kernel_rfl;kernel_rfl)) <;> (try (conv=>whnf)))
 all_goals exact ret_tmp rfl rfl
set_option maxHeartbeats 4000000 in
theorem column_call (s:Sch) (i:Nat) (c:Col) (hc:s.cols[i]? = some c):FCall Tryz.prog 50 [sA s, .i i] (.i (colE s i c)):=by
 have hi:=lt_of_get hc
 have hany:=col_any (s.cols.take i) 94 [.iptr (colL c)] (fun x=>decide (x.name = c.name)) (fun x _=>colName_call x c)
 rw [List.map_take] at hany
 have hused:=unused_call c
 generalize hu:usedB c = u at hused
 have hmea:=measure_call c
 generalize hm:meaE c = m at hmea
 refine fci Tryz.func50 51 fun hrd E h0=>?_
 repeat' ((first | (refine each_knownm (x:=c) (by simpa using hc) (by omega) ?_) | refine call_i (name_call _) ?_ | refine call_i hmea ?_ | refine call_i hused ?_ | refine ncall_frz 1 ?_ | refine call_i hany ?_ |refine aops_go ?_|refine S1 ?_|refine Z1 ?_|refine Z2 ?_|(refine And.intro ?_ ?_<;>intro h<;>try first|(exfalso;omega)|exact absurd rfl h)|refine Z3 ?_|refine Z4 ?_|intro el hel hbB|intro el hel|intro ex|refine Z5 ?_|(refine free_i ?_ ?_;exact ⟨by kernel_rfl,by decide⟩)|refine allI_c ?_ ?_|exact allI_n|refine allMP_c ?_ ?_|exact allMP_n|(refine many_step ?_ ?_ ?_;kernel_rfl;kernel_rfl)) <;> (try (conv=>whnf)))
 all_goals
  refine ret_tmp rfl (congrArg AV.i ?_)
  clear hany hrd h0 hi hc E hused hmea
 all_goals first
  | (first | (simp only [colE,kindE,dupB,hu,hm, *,if_true,if_false,Bool.true_eq_false,Bool.false_eq_true,or_true,or_false,true_or,false_or,and_true,true_and,and_false,false_and,not_true_eq_false,not_false_eq_true,ne_eq,reduceIte,Int.reduceEq,Int.reduceLT,Int.reduceLE,Int.reduceNeg,decide_true,decide_false,Bool.not_true,Bool.not_false,Bool.and_true,Bool.true_and,Bool.and_false,Bool.false_and,Bool.or_true,Bool.true_or,Bool.or_false,Bool.false_or,Option.some.injEq];done) | (simp only [colE,kindE,dupB,hu,hm, *,if_true,if_false,Bool.true_eq_false,Bool.false_eq_true,not_true_eq_false,not_false_eq_true,ne_eq,reduceIte,Int.reduceEq];first | rfl | (repeat' split) <;> first | rfl | omega | (exfalso;omega) | contradiction))
theorem rd_lists {s:Sch} (h:Rd (sA s)):s.lists.length ≤ 9223372036854775807 ∧ s.cols.length ≤ 9223372036854775807 ∧ ∀ l ∈ s.lists,l.2.length ≤ 9223372036854775807:=by
 refine ⟨by have:=(h.agg (.sl 2 (s.lists.map clL)) (by simp)).sl;simpa using this,by have:=(h.agg (.sl 7 (s.cols.map colL)) (by simp)).sl;simpa using this,fun l hl=>?_⟩
 have:=((h.agg (.sl 2 (s.lists.map clL)) (by simp)).elem (clL l) (List.mem_map.2 ⟨l,hl,rfl⟩) (.sl 2 (l.2.map cA)) (by simp)).sl
 simpa using this
set_option maxHeartbeats 4000000 in
theorem scheck_call (s:Sch):FCall Tryz.prog 29 [sA s] (.i (schE s)):=by
 refine fci Tryz.func29 63 fun hrd E h0=>?_
 obtain ⟨hl1,hl2,hl3⟩:=rd_lists (s:=s) (hrd _ (by simp))
 clear hrd
 repeat' ((first|refine aops_go ?_|refine S1 ?_|refine Z1 ?_|refine Z2 ?_|(refine And.intro ?_ ?_<;>intro h<;>try first|(exfalso;omega)|exact absurd rfl h)|refine Z3 ?_|refine Z4 ?_|intro el hel hbB|intro el hel|intro ex|refine Z5 ?_|(refine free_i ?_ ?_;exact ⟨by kernel_rfl,by decide⟩)|refine allI_c ?_ ?_|exact allI_n|refine allMP_c ?_ ?_|exact allMP_n|(refine many_step ?_ ?_ ?_;kernel_rfl;kernel_rfl)) <;> (try (conv=>whnf)))
 all_goals first
  | exact ret_tmp rfl (congrArg AV.i (by rw [schE,if_pos (by omega)]))
  | skip
 have hs:schE s = if firstE (lstE s.lists) 0 s.lists = 0 then (if s.cols.head?.map (·.kind) = some 1 then firstE (colE s) 0 s.cols else 7) else firstE (lstE s.lists) 0 s.lists:=by rw [schE,if_neg (by omega)]
 rw [hs]
 refine loop_i (ι:=Nat) (fun k=>⟨[(1, .ref 0 0),(19, .sl 2 (s.lists.map clL)),(20, .i s.lists.length),(21, .i k)],1,[(0,some (.box (sL s)))]⟩) (fun k=>ErrAt (lstE s.lists) s.lists k) (fun k=>s.lists.length - k) 0 (ErrAt.zero _ _) (le_of h0 rfl ⟨rfl,rfl,rfl,rfl,trivial⟩ ⟨rfl,trivial⟩ rfl rfl rfl) (fun k hI=>?_)
 have hk:=hI.1
 have hany:=fun l:CL=>cl_any (s.lists.take k) 49 [.iptr (clL l)] (fun x=>decide (x.1 = l.1)) (fun x _=>listName_call x l)
 rw [List.map_take] at hany
 repeat' ((first | refine call_i (check_call _ _ (hl3 _ (List.mem_of_getElem? hel))) ?_ | refine ncall_frz 1 ?_ | refine call_i (hany _) ?_ |refine aops_go ?_|refine S1 ?_|refine Z1 ?_|refine Z2 ?_|(refine And.intro ?_ ?_<;>intro h<;>try first|(exfalso;omega)|exact absurd rfl h)|refine Z3 ?_|refine Z4 ?_|intro el hel hbB|intro el hel|intro ex|refine Z5 ?_|(refine free_i ?_ ?_;exact ⟨by kernel_rfl,by decide⟩)|refine allI_c ?_ ?_|exact allI_n|refine allMP_c ?_ ?_|exact allMP_n|(refine many_step ?_ ?_ ?_;kernel_rfl;kernel_rfl)) <;> (try (conv=>whnf)))
 all_goals first
  | (refine ret_tmp rfl (congrArg AV.i ?_)
     have he:lstE s.lists k el = chk el.1 el.2:=by rw [lstE,if_neg (by assumption)]
     rw [← hI.hit hel (by rw [he];assumption),he,if_neg (by assumption)];done)
  | (refine ret_tmp rfl (congrArg AV.i ?_)
     have he:lstE s.lists k el = 10:=by rw [lstE,if_pos (Classical.byContradiction (by assumption)),if_pos (by assumption)]
     rw [← hI.hit hel (by rw [he];decide),he];rfl)
  | exact ⟨k + 1,hI.step hel (by rw [lstE,if_pos (Classical.byContradiction (by assumption)),if_neg (by rw [h];exact Bool.false_ne_true)]),by omega,le_of h0 rfl ⟨rfl,rfl,rfl,rfl,trivial⟩ ⟨rfl,trivial⟩ rfl rfl rfl⟩
  | (have hd:=hI.done (by assumption)
     refine ret_tmp rfl (congrArg AV.i ?_)
     rw [if_pos hd,if_neg]
     intro hx
     rw [List.head?_eq_getElem?] at hx
     first
      | (rw [show s.cols[0]? = none from List.getElem?_eq_none (by omega)] at hx;cases hx)
      | (have hel':s.cols[0]? = some el:=hel
         rw [hel'] at hx
         have:=Option.some.inj hx
         exact absurd this (by assumption)))
  | skip
 have hd:=hI.done (by assumption)
 have hh:s.cols.head?.map (·.kind) = some 1:=by
  rw [List.head?_eq_getElem?]
  have hel':s.cols[0]? = some el:=hel
  rw [hel']
  exact congrArg some (Classical.byContradiction (by assumption))
 rw [if_pos hd,if_pos hh]
 refine loop_i (ι:=Nat) (fun k=>⟨[(1, .ref 0 0),(52, .i s.cols.length),(53, .i k)],1,[(0,some (.box (sL s)))]⟩) (fun k=>ErrAt (colE s) s.cols k) (fun k=>s.cols.length - k) 0 (ErrAt.zero _ _) (le_of h0 rfl ⟨rfl,rfl,rfl,trivial⟩ ⟨rfl,trivial⟩ rfl rfl rfl) (fun k hI=>?_)
 have hk:=hI.1
 have hcol:=fun (h:(k:Int) < s.cols.length)=>column_call s k (s.cols[k]'(by omega)) (List.getElem?_eq_getElem (by omega))
 repeat' ((first | refine call_i (hcol (by assumption)) ?_ |refine aops_go ?_|refine S1 ?_|refine Z1 ?_|refine Z2 ?_|(refine And.intro ?_ ?_<;>intro h<;>try first|(exfalso;omega)|exact absurd rfl h)|refine Z3 ?_|refine Z4 ?_|intro el hel hbB|intro el hel|intro ex|refine Z5 ?_|(refine free_i ?_ ?_;exact ⟨by kernel_rfl,by decide⟩)|refine allI_c ?_ ?_|exact allI_n|refine allMP_c ?_ ?_|exact allMP_n|(refine many_step ?_ ?_ ?_;kernel_rfl;kernel_rfl)) <;> (try (conv=>whnf)))
 all_goals first
  | exact ⟨k + 1,hI.step (List.getElem?_eq_getElem (by omega)) (Classical.byContradiction (by assumption)),by omega,le_of h0 rfl ⟨rfl,rfl,rfl,trivial⟩ ⟨rfl,trivial⟩ rfl rfl rfl⟩
  | exact ret_tmp rfl (congrArg AV.i (hI.hit (List.getElem?_eq_getElem (by omega)) (by assumption)))
  | exact ret_tmp rfl (congrArg AV.i (hI.done (by assumption)).symm)
theorem schE_parts {s:Sch} (h:schE s = 0):s.lists.length ≤ 6 ∧ s.cols.length ≤ 8 ∧ (∀ l ∈ s.lists,chk l.1 l.2 = 0) ∧ (∀ (i:Nat) c,s.cols[i]? = some c → colE s i c = 0) ∧ s.cols.head?.map (·.kind) = some 1:=by
 unfold schE at h
 split at h
 ·cases h
 ·split at h
  ·rename_i h1 h2
   split at h
   ·rename_i h3
    refine ⟨by omega,by omega,fun l hl=>?_,fun i c hc=>by have:=firstE_zero h i c hc;rwa [Nat.zero_add] at this,h3⟩
    obtain ⟨i,hi,rfl⟩:=List.getElem_of_mem hl
    have:=firstE_zero h2 i _ (List.getElem?_eq_getElem hi)
    unfold lstE at this
    split at this
    ·assumption
    ·exact this
   ·cases h
  ·rename_i h2;exact absurd h h2
theorem colE_parts {s:Sch} {i:Nat} {c:Col} (h:colE s i c = 0):nameB c.name = true ∧ dupB s i c = false ∧ kindE s i c = 0 ∧ usedB c = true:=by
 unfold colE at h
 split at h
 ·cases h
 ·split at h
  ·cases h
  ·split at h
   ·split at h
    ·rename_i h1 h2 h3 h4;exact ⟨by simpa using h1,by simpa using h2,h3,h4⟩
    ·cases h
   ·rename_i h3;exact absurd h h3
theorem kindE_code {s:Sch} {i:Nat} {c:Col} (h:kindE s i c = 0) (hk:c.kind = 2):0 ≤ c.lst ∧ c.lst < s.lists.length:=by
 unfold kindE at h
 rw [if_neg (by omega),if_pos hk] at h
 split at h
 ·cases h
 ·omega
theorem kindE_mea {s:Sch} {i:Nat} {c:Col} (h:kindE s i c = 0) (hk:c.kind = 3):meaE c = 0:=by
 unfold kindE at h
 rw [if_neg (by omega),if_neg (by omega),if_pos hk] at h
 exact h
theorem kindE_kinds {s:Sch} {i:Nat} {c:Col} (h:kindE s i c = 0):(c.kind = 1 ∧ i = 0) ∨ c.kind = 2 ∨ c.kind = 3:=by
 unfold kindE at h
 split at h
 ·split at h
  ·cases h
  ·left;omega
 ·split at h
  ·omega
  ·split at h
   ·omega
   ·cases h
theorem meaE_parts {c:Col} (h:meaE c = 0):-1000000 ≤ c.low ∧ c.high ≤ 1000000 ∧ c.low ≤ c.high ∧ 1 ≤ c.widths.length ∧ c.widths.length ≤ 4 ∧ widthsB c.widths = true:=by
 unfold meaE at h
 split at h
 ·cases h
 ·split at h
  ·cases h
  ·split at h
   ·rename_i h3;exact ⟨by omega,by omega,by omega,by omega,by omega,h3⟩
   ·cases h
theorem chain_bd:∀ (ws:List Int) (last:Int),1 ≤ last → last ≤ 1000000 → chainB last ws = true → ∀ w ∈ ws,1 ≤ w ∧ w ≤ 1000000
 | [],_,_,_,_,w,hw=>by cases hw
 | x :: r,last,h1,h2,h,w,hw=>by
  simp only [chainB,Bool.and_eq_true,decide_eq_true_eq] at h
  rcases List.mem_cons.1 hw with rfl | hw
  ·omega
  ·exact chain_bd r x (by omega) (by omega) h.2 w hw
theorem widths_bd {ws:List Int} (h:widthsB ws = true):∀ w ∈ ws,1 ≤ w ∧ w ≤ 1000000:=by
 cases ws with
 | nil=>intro w hw;cases hw
 | cons x r =>
  simp only [widthsB,Bool.and_eq_true,decide_eq_true_eq] at h
  intro w hw
  rcases List.mem_cons.1 hw with rfl | hw
  ·omega
  ·exact chain_bd r 1 (by omega) (by omega) h.2 w hw
def lstOf (s:Sch) (c:Col):CL:=s.lists.getD c.lst.toNat ([],[])
def holdB (s:Sch) (c:Col) (v:Int):Bool :=
 if c.kind = 1 then decide (1 ≤ v ∧ v ≤ 1048575) else if c.kind = 2 then decide (0 ≤ v ∧ v < (lstOf s c).2.length) && leafB (lstOf s c).2 v else decide (c.low ≤ v ∧ v ≤ c.high) || (c.opt && decide (v = (-1099511627776)))
theorem getD_get {α:Type} {l:List α} {k:Nat} {x d:α} (h:l[k]? = some x):l.getD k d = x:=by rw [List.getD_eq_getElem?_getD,h];rfl
theorem lstOf_get {s:Sch} {c:Col} {l:CL} (h:s.lists[c.lst.toNat]? = some l):lstOf s c = l:=getD_get h
structure RightS (s:Sch):Prop where
 e:schE s = 0
theorem RightS.lst {s:Sch} (h:schE s = 0) {c:Col} (hc:c ∈ s.cols) (hk:c.kind = 2):0 ≤ c.lst ∧ c.lst < s.lists.length:=by
 obtain ⟨i,hi,rfl⟩:=List.getElem_of_mem hc
 exact kindE_code (colE_parts ((schE_parts h).2.2.2.1 i _ (List.getElem?_eq_getElem hi))).2.2.1 hk
def findS2 (s:Sch) (n:List UInt8):Int:=idxP (fun c:Col=>decide (c.name = n)) s.cols 0
theorem find2_1_call (c:Col) (n:List UInt8):FCall Tryz.prog 199 [colA c, .iptr [.str n]] (.b (decide (c.name = n))):=by
 refine fci Tryz.func199 8 fun hrd E h0=>?_
 repeat' ((first|refine aops_go ?_|refine S1 ?_|refine Z1 ?_|refine Z2 ?_|(refine And.intro ?_ ?_<;>intro h<;>try first|(exfalso;omega)|exact absurd rfl h)|refine Z3 ?_|refine Z4 ?_|intro el hel hbB|intro el hel|intro ex|refine Z5 ?_|(refine free_i ?_ ?_;exact ⟨by kernel_rfl,by decide⟩)|refine allI_c ?_ ?_|exact allI_n|refine allMP_c ?_ ?_|exact allMP_n|(refine many_step ?_ ?_ ?_;kernel_rfl;kernel_rfl)) <;> (try (conv=>whnf)))
 all_goals exact ret_tmp rfl rfl
theorem find2_call (s:Sch) (n:List UInt8):FCall Tryz.prog 182 [sA s, .str n] (.i (findS2 s n)):=by
 have hidx:=col_idx s.cols 199 [.iptr [.str n]] (fun c=>decide (c.name = n)) (fun x _=>find2_1_call x n)
 refine fci Tryz.func182 9 fun hrd E h0=>?_
 repeat' ((first | refine ncall_frz 1 ?_ | refine call_i hidx ?_ |refine aops_go ?_|refine S1 ?_|refine Z1 ?_|refine Z2 ?_|(refine And.intro ?_ ?_<;>intro h<;>try first|(exfalso;omega)|exact absurd rfl h)|refine Z3 ?_|refine Z4 ?_|intro el hel hbB|intro el hel|intro ex|refine Z5 ?_|(refine free_i ?_ ?_;exact ⟨by kernel_rfl,by decide⟩)|refine allI_c ?_ ?_|exact allI_n|refine allMP_c ?_ ?_|exact allMP_n|(refine many_step ?_ ?_ ?_;kernel_rfl;kernel_rfl)) <;> (try (conv=>whnf)))
 all_goals exact ret_tmp rfl rfl
def colAt (s:Sch) (column:Int):Col:=s.cols.getD column.toNat ⟨[],0,0,0,0,[],false⟩
theorem colAt_get {s:Sch} {column:Int} {c:Col} (h:s.cols[column.toNat]? = some c):colAt s column = c:=getD_get h
def finC (s:Sch) (c:Col):Int:=if c.kind = 2 then levelsS (lstOf s c).1 (lstOf s c).2 - 1 else c.widths.length
def finS (s:Sch) (column:Int):Int:=if column < 1 ∨ (s.cols.length:Int) ≤ column then -1 else finC s (colAt s column)
def finestS (s:Sch) (column:Int):Int:=if schE s = 0 then finS s column else -1
theorem levelsS_bd {nm:List UInt8} {cs:List Code} (h:cs.length ≤ 9223372036854775807):-1 ≤ levelsS nm cs ∧ levelsS nm cs ≤ 61:=by
 unfold levelsS
 split
 ·rename_i h1
  have h2:=chk_good h1
  have h3:=deps_max (cs:=cs) h2.1.before
  omega
 ·omega
set_option maxHeartbeats 4000000 in
theorem finest_call (s:Sch) (column:Int) (hr:schE s = 0):FCall Tryz.prog 220 [sA s, .i column] (.i (finS s column)):=by
 refine fci Tryz.func220 34 fun hrd E h0=>?_
 obtain ⟨hl1,hl2,hl3⟩:=rd_lists (s:=s) (hrd _ (by simp))
 have hlb:=fun (l:CL) (hl:s.lists[(colAt s column).lst.toNat]? = some l)=>levelsS_bd (nm:=l.1) (hl3 l (List.mem_of_getElem? hl))
 clear hrd
 repeat' ((first | (refine call_i (levels_call _ _ (hl3 _ (List.mem_of_getElem? (by assumption)))) ?_) | (refine each_map ?_ ?_ (fun lx hlx=>?_);(have:=RightS.lst hr (List.mem_of_getElem? hel) (by assumption);omega);(have:=RightS.lst hr (List.mem_of_getElem? hel) (by assumption);omega)) | (refine side_i ?_ ?_;(have:=hlb lx (by rw [colAt_get hel];exact hlx);omega)) |refine aops_go ?_|refine S1 ?_|refine Z1 ?_|refine Z2 ?_|(refine And.intro ?_ ?_<;>intro h<;>try first|(exfalso;omega)|exact absurd rfl h)|refine Z3 ?_|refine Z4 ?_|intro el hel hbB|intro el hel|intro ex|refine Z5 ?_|(refine free_i ?_ ?_;exact ⟨by kernel_rfl,by decide⟩)|refine allI_c ?_ ?_|exact allI_n|refine allMP_c ?_ ?_|exact allMP_n|(refine many_step ?_ ?_ ?_;kernel_rfl;kernel_rfl)) <;> (try (conv=>whnf)))
 all_goals first
  | (refine ret_tmp rfl (congrArg AV.i ?_);rw [finS,if_pos (by omega)];done)
  | (refine ret_tmp rfl (congrArg AV.i ?_);rw [finS,if_neg (by omega),colAt_get hel,finC,if_pos (by assumption),lstOf_get hlx];done)
  | (refine ret_tmp rfl (congrArg AV.i ?_);rw [finS,if_neg (by omega),colAt_get hel,finC,if_neg (by assumption)];done)
def widthS (c:Col) (level:Int):Int:=c.widths.getD ((c.widths.length:Int) - level).toNat 0
def downS (n w:Int):Int:=n - n % w
theorem col_right {s:Sch} (h:schE s = 0) {column:Int} {c:Col} (h1:1 ≤ column) (hc:s.cols[column.toNat]? = some c) :
  (c.kind = 2 ∧ 0 ≤ c.lst ∧ c.lst < s.lists.length) ∨ (c.kind = 3 ∧ -1000000 ≤ c.low ∧ c.high ≤ 1000000 ∧ c.low ≤ c.high ∧ 1 ≤ c.widths.length ∧ c.widths.length ≤ 4 ∧ widthsB c.widths = true):=by
 have hk:=(colE_parts ((schE_parts h).2.2.2.1 _ c hc)).2.2.1
 rcases kindE_kinds hk with h2 | h2 | h2
 ·omega
 ·exact .inl ⟨h2,kindE_code hk h2⟩
 ·exact .inr ⟨h2,meaE_parts (kindE_mea hk h2)⟩
theorem downS_bd (n:Int) {w:Int} (hw:1 ≤ w):n - w < downS n w ∧ downS n w ≤ n:=by
 unfold downS
 have h1:=Int.emod_nonneg n (b:=w) (by omega)
 have h2:=Int.emod_lt_of_pos n (b:=w) (by omega)
 omega
theorem downS_mono {a b w:Int} (hw:1 ≤ w) (h:a ≤ b):downS a w ≤ downS b w:=by
 unfold downS
 have e1:a - a % w = w * (a / w):=by have:=Int.mul_ediv_add_emod a w;omega
 have e2:b - b % w = w * (b / w):=by have:=Int.mul_ediv_add_emod b w;omega
 rw [e1,e2]
 exact Int.mul_le_mul_of_nonneg_left (Int.ediv_le_ediv (by omega) h) (by omega)
def blkC (s:Sch) (c:Col) (level:Int):Int :=
 if c.kind = 2 then (atS (lstOf s c).1 (lstOf s c).2 level).length else if level = 0 then 1 else (downS c.high (widthS c level) - downS c.low (widthS c level)) / widthS c level + 1 + (if c.opt = true then 1 else 0)
end Go.Proofs.YtjmbhlgocikfiaaGreatDoor
