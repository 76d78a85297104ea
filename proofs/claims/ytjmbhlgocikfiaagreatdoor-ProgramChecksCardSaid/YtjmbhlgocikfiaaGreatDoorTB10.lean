/- Chapter 2: the reference's check of schemas. Chapter 2: the reference's check of schemas, whole. Chapter 2: the reference's values and levels. -/
import Derived.Test.YtjmbhlgocikfiaaGreatDoorTB7
import Derived.Test.YtjmbhlgocikfiaaGreatDoorTB4
import Derived.Test.YtjmbhlgocikfiaaGreatDoorTSx
import Derived.Test.YtjmbhlgocikfiaaGreatDoorTB8
set_option linter.unusedVariables false
set_option linter.unnecessarySimpa false
set_option linter.unusedSimpArgs false
namespace Go.Proofs.YtjmbhlgocikfiaaGreatDoor
open Go Go.Av
attribute [local irreducible] AWp AOps AAny MAny DQ retQ retG St.le FCall GCall
set_option maxRecDepth 100000
theorem in_call (n lo hi:Int):FCall Tryz.prog 103 [.i n, .i lo, .i hi] (.b (decide (lo ≤ n ∧ n ≤ hi))):=by
 refine fci Tryz.func103 15 fun hrd E h0=>?_
 clear hrd
 repeat' ((first|refine aops_go ?_|refine S1 ?_|refine Z1 ?_|refine Z2 ?_|(refine And.intro ?_ ?_<;>intro h<;>try first|(exfalso;omega)|exact absurd rfl h)|refine Z3 ?_|refine Z4 ?_|intro el hel hbB|intro el hel|intro ex|refine Z5 ?_|(refine free_i ?_ ?_;exact ⟨by kernel_rfl,by decide⟩)|refine allI_c ?_ ?_|exact allI_n|refine allMP_c ?_ ?_|exact allMP_n|(refine many_step ?_ ?_ ?_;kernel_rfl;kernel_rfl)) <;> (try (conv=>whnf)))
 all_goals first
  | exact ret_tmp rfl (congrArg AV.b (decide_eq_true (by omega)).symm)
  | exact ret_tmp rfl (congrArg AV.b (decide_eq_false (by omega)).symm)
  | exact ret_tmp rfl (congrArg AV.b (by simp only [*,true_and]))
def RWAt (ws:List Int) (k:Nat):Prop:=k ≤ ws.length ∧ ((k = 0) ∨ (0 < k ∧ 1 ≤ ws.getD (k - 1) 0 ∧ widthsB ws = chainB (ws.getD (k - 1) 0) (ws.drop k)))
theorem RWAt.wat {ws:List Int} {k:Nat} (h:RWAt ws k):WAt ws k (if k = 0 then 1 else ws.getD (k - 1) 0):=by
 refine ⟨h.1,?_⟩
 rcases h.2 with h2 | h2
 ·left;rw [if_pos h2];exact ⟨h2,rfl⟩
 ·right;rw [if_neg (by omega)];exact h2
theorem RWAt.of {ws:List Int} {k:Nat} {w:Int} (hw:ws[k]? = some w) (h:WAt ws (k + 1) w):RWAt ws (k + 1):=by
 refine ⟨h.1, .inr ?_⟩
 rcases h.2 with h2 | h2
 ·omega
 ·rw [Nat.add_sub_cancel,getD_get hw];exact h2
theorem prev_get {α:Type} {ws:List α} {k:Nat} {q d:α} (h:0 < (k:Int)) (hq:ws[((k:Int) - 1).toNat]? = some q):ws.getD (k - 1) d = q:=getD_get (by rw [← hq];congr 1;omega)
theorem RWAt.prev {ws:List Int} {k:Nat} {q:Int} (h:RWAt ws k) (h0:0 < (k:Int)) (hq:ws[((k:Int) - 1).toNat]? = some q):WAt ws k q ∧ 1 ≤ q:=by
 have h1:=h.wat
 rw [if_neg (by omega),prev_get h0 hq] at h1
 exact ⟨h1,h1.pos⟩
set_option maxHeartbeats 4000000 in
theorem rmeasure_call (c:Col):FCall Tryz.prog 104 [colA c] (.i (meaE c)):=by
 have hin1:=in_call c.low (-1000000) 1000000
 have hin2:=in_call c.high (-1000000) 1000000
 refine fci Tryz.func104 79 fun hrd E h0=>?_
 have hlen:c.widths.length ≤ 9223372036854775807:=by
  have:=((hrd (colA c) (by simp)).agg (.sl 1 (c.widths.map wA)) (by simp)).sl
  simpa using this
 clear hrd
 repeat' ((first | refine call_i hin1 ?_ | refine call_i hin2 ?_ |refine aops_go ?_|refine S1 ?_|refine Z1 ?_|refine Z2 ?_|(refine And.intro ?_ ?_<;>intro h<;>try first|(exfalso;omega)|exact absurd rfl h)|refine Z3 ?_|refine Z4 ?_|intro el hel hbB|intro el hel|intro ex|refine Z5 ?_|(refine free_i ?_ ?_;exact ⟨by kernel_rfl,by decide⟩)|refine allI_c ?_ ?_|exact allI_n|refine allMP_c ?_ ?_|exact allMP_n|(refine many_step ?_ ?_ ?_;kernel_rfl;kernel_rfl)) <;> (try (conv=>whnf)))
 all_goals first
  | (refine ret_tmp rfl (congrArg AV.i ?_);rw [meaE,if_pos (by omega)];done)
  | (refine ret_tmp rfl (congrArg AV.i ?_);rw [meaE,if_neg (by omega),if_pos (by omega)];done)
  | skip
 have hm:meaE c = if widthsB c.widths = true then 0 else 2:=by rw [meaE,if_neg (by omega),if_neg (by omega)]
 have hne:c.widths.length ≠ 0:=by omega
 rw [hm]
 refine loop_i (ι:=Nat) (fun k=>⟨[(1, .ref 0 0),(3, .i k)],1,[(0,some (.box (colL c)))]⟩) (fun k=>RWAt c.widths k) (fun k=>c.widths.length - k) 0 ⟨Nat.zero_le _, .inl rfl⟩ (le_of h0 rfl ⟨rfl,rfl,trivial⟩ ⟨rfl,trivial⟩ rfl rfl rfl) (fun k hI=>?_)
 have hk:=hI.1
 repeat' ((first | (refine side_i ?_ ?_;(have:=(hI.prev (by assumption) hel).2;omega)) |refine aops_go ?_|refine S1 ?_|refine Z1 ?_|refine Z2 ?_|(refine And.intro ?_ ?_<;>intro h<;>try first|(exfalso;omega)|exact absurd rfl h)|refine Z3 ?_|refine Z4 ?_|intro el hel hbB|intro el hel|intro ex|refine Z5 ?_|(refine free_i ?_ ?_;exact ⟨by kernel_rfl,by decide⟩)|refine allI_c ?_ ?_|exact allI_n|refine allMP_c ?_ ?_|exact allMP_n|(refine many_step ?_ ?_ ?_;kernel_rfl;kernel_rfl)) <;> (try (conv=>whnf)))
 all_goals first
  | exact ⟨k + 1,RWAt.of hel (hI.wat.first hel (by omega) (by omega)),by omega,le_of h0 rfl ⟨rfl,rfl,trivial⟩ ⟨rfl,trivial⟩ rfl rfl rfl⟩
  | exact ret_tmp rfl (congrArg AV.i (by rw [hI.wat.bad0 hel (by omega) (by omega)];rfl))
  | exact ret_tmp rfl (congrArg AV.i (by rw [(hI.prev (by assumption) hel).1.bad (by assumption) (by omega) (fun hx=>by first | exact absurd hx.2.1 (by assumption) | omega)];rfl))
  | exact ⟨k + 1,RWAt.of (by assumption) ((hI.prev (by assumption) hel).1.next (by assumption) (by omega) (by omega) (Classical.byContradiction (by assumption)) (by omega)),by omega,le_of h0 rfl ⟨rfl,rfl,trivial⟩ ⟨rfl,trivial⟩ rfl rfl rfl⟩
  | exact ret_tmp rfl (congrArg AV.i (by rw [hI.wat.done (by assumption) hne];rfl))
theorem colE_dup {s:Sch} {i:Nat} {c:Col} (hn:nameB c.name = true) (hd:dupB s i c = true):10 = colE s i c:=by
 rw [colE,if_neg (by rw [hn];decide),if_pos hd]
theorem colE_kind {s:Sch} {i:Nat} {c:Col} {e:Int} (hn:nameB c.name = true) (hd:dupB s i c = false) (hk:kindE s i c = e) (he:e ≠ 0):e = colE s i c:=by
 rw [colE,if_neg (by rw [hn];decide),if_neg (by rw [hd];decide),hk,if_neg he]
theorem colE_used {s:Sch} {i:Nat} {c:Col} {b:Bool} (hn:nameB c.name = true) (hd:dupB s i c = false) (hk:kindE s i c = 0) (hu:usedB c = b):(if b = true then 0 else 11) = colE s i c:=by
 unfold colE
 simp only [hn,hd,hk,hu,if_true,if_false,Bool.true_eq_false,Bool.false_eq_true]
set_option maxHeartbeats 4000000 in
theorem rcolumn_call (s:Sch) (i:Nat) (c:Col) (hc:s.cols[i]? = some c) (hi2:i < 9223372036854775807):FCall Tryz.prog 60 [sA s, .i i] (.i (colE s i c)):=by
 have hi:=lt_of_get hc
 have hin1:=in_call c.kind 1 3
 have hin2:=in_call c.lst 0 ((s.lists.length:Int) - 1)
 have hmea:=rmeasure_call c
 generalize hm:meaE c = m at hmea
 refine fci Tryz.func60 98 fun hrd E h0=>?_
 obtain ⟨hl1,hl2,hl3⟩:=rd_lists (s:=s) (hrd _ (by simp))
 clear hrd
 repeat' ((first | (refine each_knownm (x:=c) (by simpa using hc) (by omega) ?_) | refine call_i (rname_call _) ?_ |refine aops_go ?_|refine S1 ?_|refine Z1 ?_|refine Z2 ?_|(refine And.intro ?_ ?_<;>intro h<;>try first|(exfalso;omega)|exact absurd rfl h)|refine Z3 ?_|refine Z4 ?_|intro el hel hbB|intro el hel|intro ex|refine Z5 ?_|(refine free_i ?_ ?_;exact ⟨by kernel_rfl,by decide⟩)|refine allI_c ?_ ?_|exact allI_n|refine allMP_c ?_ ?_|exact allMP_n|(refine many_step ?_ ?_ ?_;kernel_rfl;kernel_rfl)) <;> (try (conv=>whnf)))
 all_goals first
  | (refine ret_tmp rfl (congrArg AV.i ?_);rw [colE,if_pos h];done)
  | skip
 have hn:=h
 clear h
 refine loop_i (ι:=Nat) (fun k=>⟨[(1, .i i),(2, .ref 0 0),(5, .ref 1 0),(6, .i k)],2,[(0,some (.box (sL s))),(1,some (.box (colL c)))]⟩) (fun k=>k ≤ i ∧ AnyAt (fun x=>decide (x.name = c.name)) (s.cols.take i) k) (fun k=>i - k) 0 ⟨Nat.zero_le _,AnyAt.zero _ _⟩ (le_of h0 rfl ⟨rfl,rfl,rfl,rfl,trivial⟩ ⟨rfl,rfl,trivial⟩ rfl rfl rfl) (fun k hI=>?_)
 obtain ⟨hk,hI⟩:=hI
 have hti:(s.cols.take i).length = i:=by rw [List.length_take];omega
 have htk:∀ el,(k:Int) < i → s.cols[k]? = some el → (s.cols.take i)[k]? = some el:=fun el h1 h2=>by rw [List.getElem?_take_of_lt (by omega)];exact h2
 repeat' ((first | refine call_i hin1 ?_ | refine call_i hin2 ?_ | refine call_i hmea ?_ |refine aops_go ?_|refine S1 ?_|refine Z1 ?_|refine Z2 ?_|(refine And.intro ?_ ?_<;>intro h<;>try first|(exfalso;omega)|exact absurd rfl h)|refine Z3 ?_|refine Z4 ?_|intro el hel hbB|intro el hel|intro ex|refine Z5 ?_|(refine free_i ?_ ?_;exact ⟨by kernel_rfl,by decide⟩)|refine allI_c ?_ ?_|exact allI_n|refine allMP_c ?_ ?_|exact allMP_n|(refine many_step ?_ ?_ ?_;kernel_rfl;kernel_rfl)) <;> (try (conv=>whnf)))
 all_goals first
  | (refine ret_tmp rfl (congrArg AV.i ?_);exact colE_dup hn (hI.hit (htk _ (by assumption) hel) (decide_eq_true (by assumption))).symm)
  | exact ⟨k + 1,⟨by omega,hI.step (htk _ (by assumption) hel) (decide_eq_false (by assumption))⟩,by omega,le_of h0 rfl ⟨rfl,rfl,rfl,rfl,trivial⟩ ⟨rfl,rfl,trivial⟩ rfl rfl rfl⟩
  | skip
 all_goals
  have hd:dupB s i c = false:=(hI.done (by omega)).symm
  refine ret_tmp rfl (congrArg AV.i ?_)
  clear hI htk hti hin1 hin2 hmea hl3 h0 E hc
 all_goals first
  | exact colE_kind (e:=4) hn hd (by unfold kindE;simp only [hm];(repeat' split) <;> first | rfl | omega) (by decide)
  | exact colE_kind (e:=5) hn hd (by unfold kindE;simp only [hm];(repeat' split) <;> first | rfl | omega) (by decide)
  | exact colE_kind (e:=m) hn hd (by unfold kindE;simp only [hm];(repeat' split) <;> first | rfl | omega) (by assumption)
  | exact colE_used (b:=true) hn hd (by unfold kindE;simp only [hm];(repeat' split) <;> first | rfl | omega) (decide_eq_true ⟨by omega,by first | exact .inl (by omega) | exact .inr ⟨by omega,by omega,by omega,by assumption⟩⟩)
  | exact colE_used (b:=false) hn hd (by unfold kindE;simp only [hm];(repeat' split) <;> first | rfl | omega) (decide_eq_false (fun hx=>by
    obtain ⟨hx1,hx2⟩:=hx
    rcases hx2 with h3 | ⟨h4,h5,h6,h7⟩
    ·omega
    ·first | omega | exact absurd (h.symm.trans h7) (by decide)))
theorem lstE_dup {ls:List CL} {k:Nat} {el:CL} (h:chk el.1 el.2 = 0) (hd:true = (ls.take k).any fun x=>decide (x.1 = el.1)):lstE ls k el = 10:=by rw [lstE,if_pos h,if_pos hd.symm]
theorem lstE_ok {ls:List CL} {k:Nat} {el:CL} (h:chk el.1 el.2 = 0) (hd:false = (ls.take k).any fun x=>decide (x.1 = el.1)):lstE ls k el = 0:=by rw [lstE,if_pos h,if_neg (by rw [← hd];decide)]
set_option maxHeartbeats 4000000 in
theorem rscheck_call (s:Sch):FCall Tryz.prog 31 [sA s] (.i (schE s)):=by
 refine fci Tryz.func31 77 fun hrd E h0=>?_
 obtain ⟨hl1,hl2,hl3⟩:=rd_lists (s:=s) (hrd _ (by simp))
 clear hrd
 repeat' ((first|refine aops_go ?_|refine S1 ?_|refine Z1 ?_|refine Z2 ?_|(refine And.intro ?_ ?_<;>intro h<;>try first|(exfalso;omega)|exact absurd rfl h)|refine Z3 ?_|refine Z4 ?_|intro el hel hbB|intro el hel|intro ex|refine Z5 ?_|(refine free_i ?_ ?_;exact ⟨by kernel_rfl,by decide⟩)|refine allI_c ?_ ?_|exact allI_n|refine allMP_c ?_ ?_|exact allMP_n|(refine many_step ?_ ?_ ?_;kernel_rfl;kernel_rfl)) <;> (try (conv=>whnf)))
 all_goals first
  | exact ret_tmp rfl (congrArg AV.i (by rw [schE,if_pos (by omega)]))
  | skip
 have hs:schE s = if firstE (lstE s.lists) 0 s.lists = 0 then (if s.cols.head?.map (·.kind) = some 1 then firstE (colE s) 0 s.cols else 7) else firstE (lstE s.lists) 0 s.lists:=by rw [schE,if_neg (by omega)]
 rw [hs]
 refine loop_i (ι:=Nat) (fun k=>⟨[(1, .ref 0 0),(3, .i k)],1,[(0,some (.box (sL s)))]⟩) (fun k=>ErrAt (lstE s.lists) s.lists k) (fun k=>s.lists.length - k) 0 (ErrAt.zero _ _) (le_of h0 rfl ⟨rfl,rfl,trivial⟩ ⟨rfl,trivial⟩ rfl rfl rfl) (fun k hI=>?_)
 have hk:=hI.1
 repeat' ((first | refine call_i (rcheck_call _ _ (hl3 _ (List.mem_of_getElem? hel))) ?_ |refine aops_go ?_|refine S1 ?_|refine Z1 ?_|refine Z2 ?_|(refine And.intro ?_ ?_<;>intro h<;>try first|(exfalso;omega)|exact absurd rfl h)|refine Z3 ?_|refine Z4 ?_|intro el hel hbB|intro el hel|intro ex|refine Z5 ?_|(refine free_i ?_ ?_;exact ⟨by kernel_rfl,by decide⟩)|refine allI_c ?_ ?_|exact allI_n|refine allMP_c ?_ ?_|exact allMP_n|(refine many_step ?_ ?_ ?_;kernel_rfl;kernel_rfl)) <;> (try (conv=>whnf)))
 all_goals first
  | (refine ret_tmp rfl (congrArg AV.i ?_)
     have he:lstE s.lists k el = chk el.1 el.2:=by rw [lstE,if_neg (by assumption)]
     rw [← hI.hit hel (by rw [he];assumption),he,if_neg (by assumption)];done)
  | (have hd:=hI.done (by assumption)
     refine ret_tmp rfl (congrArg AV.i ?_)
     rw [if_pos hd,if_neg]
     intro hx
     rw [List.head?_eq_getElem?] at hx
     first
      | (rw [show s.cols[0]? = none from List.getElem?_eq_none (by omega)] at hx;cases hx)
      | (have hel':s.cols[0]? = some el:=hel
         rw [hel'] at hx
         have:=Option.some.inj hx
         exact absurd this (by assumption)))
  | skip
 ·have hc0:chk el.1 el.2 = 0:=Classical.byContradiction (by assumption)
  refine loop_i (ι:=Nat) (fun j=>⟨[(1, .ref 0 0),(3, .i k),(5, .i j)],1,[(0,some (.box (sL s)))]⟩) (fun j=>j ≤ k ∧ AnyAt (fun x=>decide (x.1 = el.1)) (s.lists.take k) j) (fun j=>k - j) 0 ⟨Nat.zero_le _,AnyAt.zero _ _⟩ (le_of h0 rfl ⟨rfl,rfl,rfl,trivial⟩ ⟨rfl,trivial⟩ rfl rfl rfl) (fun j hJ=>?_)
  obtain ⟨hj,hJ⟩:=hJ
  have htk:∀ x,(j:Int) < k → s.lists[j]? = some x → (s.lists.take k)[j]? = some x:=fun x h1 h2=>by rw [List.getElem?_take_of_lt (by omega)];exact h2
  have hel0:=hel
  have hti:(s.lists.take k).length = k:=by rw [List.length_take];omega
  repeat' ((first | (refine each_knownm (x:=el) hel0 (by omega) ?_) |refine aops_go ?_|refine S1 ?_|refine Z1 ?_|refine Z2 ?_|(refine And.intro ?_ ?_<;>intro h<;>try first|(exfalso;omega)|exact absurd rfl h)|refine Z3 ?_|refine Z4 ?_|intro el hel hbB|intro el hel|intro ex|refine Z5 ?_|(refine free_i ?_ ?_;exact ⟨by kernel_rfl,by decide⟩)|refine allI_c ?_ ?_|exact allI_n|refine allMP_c ?_ ?_|exact allMP_n|(refine many_step ?_ ?_ ?_;kernel_rfl;kernel_rfl)) <;> (try (conv=>whnf)))
  all_goals first
   | exact ⟨j + 1,⟨by omega,hJ.step (htk _ (by assumption) hel) (decide_eq_false (by assumption))⟩,by omega,le_of h0 rfl ⟨rfl,rfl,rfl,trivial⟩ ⟨rfl,trivial⟩ rfl rfl rfl⟩
   | (refine ret_tmp rfl (congrArg AV.i ?_)
      have he:=lstE_dup hc0 (hJ.hit (htk _ (by assumption) hel) (decide_eq_true (by assumption)))
      rw [← hI.hit hel0 (by rw [he];decide),he];rfl)
   | exact ⟨k + 1,hI.step hel0 (lstE_ok hc0 (hJ.done (by omega))),by omega,le_of h0 rfl ⟨rfl,rfl,trivial⟩ ⟨rfl,trivial⟩ rfl rfl rfl⟩
 have hd:=hI.done (by assumption)
 have hh:s.cols.head?.map (·.kind) = some 1:=by
  rw [List.head?_eq_getElem?]
  have hel':s.cols[0]? = some el:=hel
  rw [hel']
  exact congrArg some (Classical.byContradiction (by assumption))
 rw [if_pos hd,if_pos hh]
 refine loop_i (ι:=Nat) (fun k=>⟨[(1, .ref 0 0),(6, .i k)],1,[(0,some (.box (sL s)))]⟩) (fun k=>ErrAt (colE s) s.cols k) (fun k=>s.cols.length - k) 0 (ErrAt.zero _ _) (le_of h0 rfl ⟨rfl,rfl,trivial⟩ ⟨rfl,trivial⟩ rfl rfl rfl) (fun k hI=>?_)
 have hk:=hI.1
 have hcol:=fun (h:(k:Int) < s.cols.length)=>rcolumn_call s k (s.cols[k]'(by omega)) (List.getElem?_eq_getElem (by omega)) (by omega)
 repeat' ((first | refine call_i (hcol (by assumption)) ?_ |refine aops_go ?_|refine S1 ?_|refine Z1 ?_|refine Z2 ?_|(refine And.intro ?_ ?_<;>intro h<;>try first|(exfalso;omega)|exact absurd rfl h)|refine Z3 ?_|refine Z4 ?_|intro el hel hbB|intro el hel|intro ex|refine Z5 ?_|(refine free_i ?_ ?_;exact ⟨by kernel_rfl,by decide⟩)|refine allI_c ?_ ?_|exact allI_n|refine allMP_c ?_ ?_|exact allMP_n|(refine many_step ?_ ?_ ?_;kernel_rfl;kernel_rfl)) <;> (try (conv=>whnf)))
 all_goals first
  | exact ⟨k + 1,hI.step (List.getElem?_eq_getElem (by omega)) (Classical.byContradiction (by assumption)),by omega,le_of h0 rfl ⟨rfl,rfl,trivial⟩ ⟨rfl,trivial⟩ rfl rfl rfl⟩
  | exact ret_tmp rfl (congrArg AV.i (hI.hit (List.getElem?_eq_getElem (by omega)) (by assumption)))
  | exact ret_tmp rfl (congrArg AV.i (hI.done (by assumption)).symm)
end Go.Proofs.YtjmbhlgocikfiaaGreatDoor
namespace Go.Proofs.YtjmbhlgocikfiaaGreatDoor
open Go Go.Av
attribute [local irreducible] AWp AOps AAny MAny DQ retQ retG St.le FCall GCall
set_option maxRecDepth 100000
set_option maxHeartbeats 4000000 in
theorem rfinest_call (s:Sch) (column:Int):FCall Tryz.prog 111 [sA s, .i column] (.i (finestS s column)):=by
 refine fci Tryz.func111 39 fun hrd E h0=>?_
 obtain ⟨hl1,hl2,hl3⟩:=rd_lists (s:=s) (hrd _ (by simp))
 have hlb:=fun (l:CL) (hl:s.lists[(colAt s column).lst.toNat]? = some l)=>levelsS_bd (nm:=l.1) (hl3 l (List.mem_of_getElem? hl))
 clear hrd
 repeat' ((first | refine call_i (rscheck_call s) ?_ |refine aops_go ?_|refine S1 ?_|refine Z1 ?_|refine Z2 ?_|(refine And.intro ?_ ?_<;>intro h<;>try first|(exfalso;omega)|exact absurd rfl h)|refine Z3 ?_|refine Z4 ?_|intro el hel hbB|intro el hel|intro ex|refine Z5 ?_|(refine free_i ?_ ?_;exact ⟨by kernel_rfl,by decide⟩)|refine allI_c ?_ ?_|exact allI_n|refine allMP_c ?_ ?_|exact allMP_n|(refine many_step ?_ ?_ ?_;kernel_rfl;kernel_rfl)) <;> (try (conv=>whnf)))
 all_goals first
  | exact ret_tmp rfl (congrArg AV.i (by rw [finestS,if_neg (by assumption)]))
  | exact ret_tmp rfl (congrArg AV.i (by rw [finestS,if_pos (Classical.byContradiction (by assumption)),finS,if_pos (by omega)]))
  | skip
 all_goals
  have hr:schE s = 0:=Classical.byContradiction (by assumption)
  rw [finestS,if_pos hr]
 repeat' ((first | (refine call_i (rlevels_call _ _ (hl3 _ (List.mem_of_getElem? (by assumption)))) ?_) | (refine each_map ?_ ?_ (fun lx hlx=>?_);(have:=RightS.lst hr (List.mem_of_getElem? hel) (by assumption);omega);(have:=RightS.lst hr (List.mem_of_getElem? hel) (by assumption);omega)) | (refine side_i ?_ ?_;(have:=hlb lx (by rw [colAt_get hel];exact hlx);omega)) |refine aops_go ?_|refine S1 ?_|refine Z1 ?_|refine Z2 ?_|(refine And.intro ?_ ?_<;>intro h<;>try first|(exfalso;omega)|exact absurd rfl h)|refine Z3 ?_|refine Z4 ?_|intro el hel hbB|intro el hel|intro ex|refine Z5 ?_|(refine free_i ?_ ?_;exact ⟨by kernel_rfl,by decide⟩)|refine allI_c ?_ ?_|exact allI_n|refine allMP_c ?_ ?_|exact allMP_n|(refine many_step ?_ ?_ ?_;kernel_rfl;kernel_rfl)) <;> (try (conv=>whnf)))
 all_goals first
  | (refine ret_tmp rfl (congrArg AV.i ?_);rw [finS,if_neg (by omega),colAt_get hel,finC,if_pos (by assumption),lstOf_get hlx];done)
  | (refine ret_tmp rfl (congrArg AV.i ?_);rw [finS,if_neg (by omega),colAt_get hel,finC,if_neg (by assumption)];done)
end Go.Proofs.YtjmbhlgocikfiaaGreatDoor
namespace Go.Proofs.YtjmbhlgocikfiaaGreatDoor
open Go Go.Av
attribute [local irreducible] AWp AOps AAny MAny DQ retQ retG St.le FCall GCall
set_option maxRecDepth 100000
end Go.Proofs.YtjmbhlgocikfiaaGreatDoor
