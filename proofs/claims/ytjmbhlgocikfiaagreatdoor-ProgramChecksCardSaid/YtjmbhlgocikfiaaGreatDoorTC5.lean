/- Chapter 16: the reference's check of programs. -/
import Derived.Test.YtjmbhlgocikfiaaGreatDoorTF2
import Derived.Test.YtjmbhlgocikfiaaGreatDoorTB4
import Derived.Test.YtjmbhlgocikfiaaGreatDoorTB8
import Derived.Test.YtjmbhlgocikfiaaGreatDoorTCd1
set_option linter.unusedVariables false
set_option linter.unnecessarySimpa false
set_option linter.unusedSimpArgs false
namespace Go.Proofs.YtjmbhlgocikfiaaGreatDoor
open Go Go.Av
attribute [local irreducible] AWp AOps AAny MAny DQ retQ retG St.le FCall GCall
set_option maxRecDepth 100000
set_option maxHeartbeats 4000000 in
theorem rxcount_call (e:Xpr):∀ (m:Int), -100000 ≤ m → m ≤ 100000 → FCall Tryz.prog 63 [xprA e, .i m] (.i (rcntS (treeX e) m)):=by
 refine xpr_ind (p:=fun e=>∀ (m:Int), -100000 ≤ m → m ≤ 100000 → FCall Tryz.prog 63 [xprA e, .i m] (.i (rcntS (treeX e) m))) (fun e ih m hm1 hm2=>?_) e
 rw [xprA_eq,rcntS_eq,tree_kids]
 refine fci Tryz.func63 31 fun hrd E h0=>?_
 have hlen:e.kids.length ≤ 9223372036854775807:=by
  have:=((hrd _ (List.mem_cons_self ..)).agg (.sl 19 (e.kids.map xprX)) (by simp)).sl
  simpa using this
 clear hrd
 repeat' ((first|refine aops_go ?_|refine S1 ?_|refine Z1 ?_|refine Z2 ?_|(refine And.intro ?_ ?_<;>intro h<;>try first|(exfalso;omega)|exact absurd rfl h)|refine Z3 ?_|refine Z4 ?_|intro el hel hbB|intro el hel|intro ex|refine Z5 ?_|(refine free_i ?_ ?_;exact ⟨by kernel_rfl,by decide⟩)|refine allI_c ?_ ?_|exact allI_n|refine allMP_c ?_ ?_|exact allMP_n|(refine many_step ?_ ?_ ?_;kernel_rfl;kernel_rfl)) <;> (try (conv=>whnf)))
 refine loop_i (ι:=Nat × Int) (fun x=>⟨[(1, .i m),(2, .ref 0 0),(5, .i x.2),(6, .i x.1)],1,[(0,some (.box (xprY e)))]⟩) (fun x=>x.1 ≤ e.kids.length ∧ (1 ≤ x.2 ∧ x.2 ≤ max 1 m) ∧ rcntL (e.kids.map treeX) m 1 = rcntL ((e.kids.map treeX).drop x.1) m x.2) (fun x=>e.kids.length - x.1) (0,1) ⟨Nat.zero_le _,by dsimp only;omega,rfl⟩
  (le_of h0 rfl ⟨rfl,rfl,rfl,rfl,trivial⟩ ⟨rfl,trivial⟩ rfl rfl rfl) (fun x hI=>?_)
 obtain ⟨k,n⟩:=x
 obtain ⟨hk,hn,hI⟩:=hI
 dsimp only at hk hn hI ⊢
 have hrb:=fun el=>rcntS_bd (treeX el) (m - n)
 repeat' ((first | (refine call_i (ih _ (List.mem_of_getElem? (by assumption)) _ (by omega) (by omega)) ?_) | (refine side_i ?_ ?_;(have:=hrb el;omega)) |refine aops_go ?_|refine S1 ?_|refine Z1 ?_|refine Z2 ?_|(refine And.intro ?_ ?_<;>intro h<;>try first|(exfalso;omega)|exact absurd rfl h)|refine Z3 ?_|refine Z4 ?_|intro el hel hbB|intro el hel|intro ex|refine Z5 ?_|(refine free_i ?_ ?_;exact ⟨by kernel_rfl,by decide⟩)|refine allI_c ?_ ?_|exact allI_n|refine allMP_c ?_ ?_|exact allMP_n|(refine many_step ?_ ?_ ?_;kernel_rfl;kernel_rfl)) <;> (try (conv=>whnf)))
 all_goals first
  | exact ret_tmp rfl (congrArg AV.i (by rw [hI,drop_end (by rw [List.length_map];assumption)];rfl))
  | (obtain ⟨x,hx⟩:∃ x,e.kids[k]? = some x:=⟨_,List.getElem?_eq_getElem (by omega)⟩
     exact ret_tmp rfl (congrArg AV.i (by rw [hI,dropc (tree_get hx),rcntL,if_neg (by assumption)])))
  | exact ⟨(k + 1,n + rcntS (treeX el) (m - n)),⟨by dsimp only;omega,(by have:=hrb el;dsimp only;omega),by rw [hI,dropc (tree_get hel),rcntL,if_pos (by assumption)]⟩,by dsimp only;omega,le_of h0 rfl ⟨rfl,rfl,rfl,rfl,trivial⟩ ⟨rfl,trivial⟩ rfl rfl rfl⟩
set_option maxHeartbeats 4000000 in
theorem rxdepth_call (e:Xpr):depS (treeX e) ≤ 100000 → FCall Tryz.prog 64 [xprA e] (.i (depS (treeX e))):=by
 refine xpr_ind (p:=fun e=>depS (treeX e) ≤ 100000 → FCall Tryz.prog 64 [xprA e] (.i (depS (treeX e)))) (fun e ih hd=>?_) e
 rw [depS_eq,tree_kids] at hd
 rw [xprA_eq,depS_eq,tree_kids]
 have hge:=depL_ge (e.kids.map treeX) 0
 refine fci Tryz.func64 22 fun hrd E h0=>?_
 have hlen:e.kids.length ≤ 9223372036854775807:=by
  have:=((hrd _ (List.mem_cons_self ..)).agg (.sl 19 (e.kids.map xprX)) (by simp)).sl
  simpa using this
 clear hrd
 repeat' ((first|refine aops_go ?_|refine S1 ?_|refine Z1 ?_|refine Z2 ?_|(refine And.intro ?_ ?_<;>intro h<;>try first|(exfalso;omega)|exact absurd rfl h)|refine Z3 ?_|refine Z4 ?_|intro el hel hbB|intro el hel|intro ex|refine Z5 ?_|(refine free_i ?_ ?_;exact ⟨by kernel_rfl,by decide⟩)|refine allI_c ?_ ?_|exact allI_n|refine allMP_c ?_ ?_|exact allMP_n|(refine many_step ?_ ?_ ?_;kernel_rfl;kernel_rfl)) <;> (try (conv=>whnf)))
 refine loop_i (ι:=Nat × Nat) (fun x=>⟨[(1, .ref 0 0),(3, .i x.2),(4, .i x.1)],1,[(0,some (.box (xprY e)))]⟩) (fun x=>x.1 ≤ e.kids.length ∧ x.2 ≤ depL (e.kids.map treeX) 0 ∧ depL (e.kids.map treeX) 0 = depL ((e.kids.map treeX).drop x.1) x.2) (fun x=>e.kids.length - x.1) (0,0) ⟨Nat.zero_le _,Nat.zero_le _,rfl⟩
  (le_of h0 rfl ⟨rfl,rfl,rfl,trivial⟩ ⟨rfl,trivial⟩ rfl rfl rfl) (fun x hI=>?_)
 obtain ⟨k,n⟩:=x
 obtain ⟨hk,hn,hI⟩:=hI
 dsimp only at hk hn hI ⊢
 have hkd:∀ el,e.kids[k]? = some el → depS (treeX el) ≤ depL (e.kids.map treeX) 0:=fun el hel=>hge.2 _ (List.mem_of_getElem? (tree_get hel))
 repeat' ((first | (refine call_i (ih _ (List.mem_of_getElem? (by assumption)) (by have:=hkd el hel;omega)) ?_) |refine aops_go ?_|refine S1 ?_|refine Z1 ?_|refine Z2 ?_|(refine And.intro ?_ ?_<;>intro h<;>try first|(exfalso;omega)|exact absurd rfl h)|refine Z3 ?_|refine Z4 ?_|intro el hel hbB|intro el hel|intro ex|refine Z5 ?_|(refine free_i ?_ ?_;exact ⟨by kernel_rfl,by decide⟩)|refine allI_c ?_ ?_|exact allI_n|refine allMP_c ?_ ?_|exact allMP_n|(refine many_step ?_ ?_ ?_;kernel_rfl;kernel_rfl)) <;> (try (conv=>whnf)))
 all_goals first
  | exact ret_tmp rfl (congrArg AV.i (by rw [hI,drop_end (by rw [List.length_map];assumption)];unfold depL;omega))
  | exact ⟨(k + 1,max n (depS (treeX el))),⟨by dsimp only;omega,(by have:=hkd el hel;dsimp only;omega),by rw [hI,dropc (tree_get hel),depL]⟩,by dsimp only;omega,le_of h0 rfl ⟨rfl,congrArg (fun z:Int=>some (AV.i z)) (by dsimp only;omega),rfl,trivial⟩ ⟨rfl,trivial⟩ rfl rfl rfl⟩
abbrev strW (z:List UInt8):List AV:=[.str z]
mutual
def nmsS:Xpr → List (List UInt8)
 | .mk o n nm c cs ds cd ev ks=>if o = 2 then [nm] else nmsL ks
def nmsL:List Xpr → List (List UInt8)
 | []=>[]
 | x :: r=>nmsS x ++ nmsL r
end
theorem nmsL_eq:∀ l,nmsL l = l.flatMap nmsS
 | []=>rfl
 | x :: r=>by rw [nmsL,nmsL_eq r];rfl
theorem nmsS_eq (e:Xpr):nmsS e = if e.op = 2 then [e.name] else e.kids.flatMap nmsS:=by
 cases e
 rw [nmsS,nmsL_eq];rfl
theorem nms_take {l:List Xpr} {k:Nat} {x:Xpr} (h:l[k]? = some x):(l.take (k + 1)).flatMap nmsS = (l.take k).flatMap nmsS ++ nmsS x:=by
 rw [takec h,List.flatMap_append];simp
theorem nms_tot (e:Xpr):(nmsS e).length ≤ totS (treeX e):=by
 refine xpr_ind (p:=fun e=>(nmsS e).length ≤ totS (treeX e)) (fun e ih=>?_) e
 have key:∀ (l:List Xpr),(∀ k ∈ l,k ∈ e.kids) → (l.flatMap nmsS).length ≤ totL (l.map treeX):=by
  intro l
  induction l with
  | nil=>intro _;simp
  | cons x r ihl =>
   intro hl
   have h1:=ih x (hl x (by simp))
   have h2:=ihl (fun k hk=>hl k (by simp [hk]))
   rw [List.flatMap_cons,List.length_append,List.map_cons,totL];omega
 rw [nmsS_eq,totS_eq,tree_kids]
 split
 ·simp
 ·have:=key e.kids (fun k hk=>hk);omega
theorem nms_take_le (l:List Xpr) (k:Nat):((l.take k).flatMap nmsS).length ≤ totL (l.map treeX):=by
 induction l generalizing k with
 | nil=>simp
 | cons x r ih =>
  cases k with
  | zero=>simp
  | succ k =>
   have h1:=ih k
   have h2:=nms_tot x
   simp only [List.take_succ_cons,List.flatMap_cons,List.map_cons,totL,List.length_append]
   omega
set_option maxHeartbeats 4000000 in
theorem rnames_call (e:Xpr):totS (treeX e) ≤ 100000 → FCall Tryz.prog 66 [xprA e] (.sl 1 ((nmsS e).map strW)):=by
 refine xpr_ind (p:=fun e=>totS (treeX e) ≤ 100000 → FCall Tryz.prog 66 [xprA e] (.sl 1 ((nmsS e).map strW))) (fun e ih ht=>?_) e
 rw [totS_eq,tree_kids] at ht
 rw [xprA_eq,nmsS_eq]
 have htm:∀ el ∈ e.kids,totS (treeX el) ≤ totL (e.kids.map treeX):=fun el hel=>totL_mem _ (List.mem_map.2 ⟨el,hel,rfl⟩)
 refine fci Tryz.func66 27 fun hrd E h0=>?_
 have hlen:e.kids.length ≤ 9223372036854775807:=by
  have:=((hrd _ (List.mem_cons_self ..)).agg (.sl 19 (e.kids.map xprX)) (by simp)).sl
  simpa using this
 clear hrd
 repeat' ((first|refine aops_go ?_|refine S1 ?_|refine Z1 ?_|refine Z2 ?_|(refine And.intro ?_ ?_<;>intro h<;>try first|(exfalso;omega)|exact absurd rfl h)|refine Z3 ?_|refine Z4 ?_|intro el hel hbB|intro el hel|intro ex|refine Z5 ?_|(refine free_i ?_ ?_;exact ⟨by kernel_rfl,by decide⟩)|refine allI_c ?_ ?_|exact allI_n|refine allMP_c ?_ ?_|exact allMP_n|(refine many_step ?_ ?_ ?_;kernel_rfl;kernel_rfl)) <;> (try (conv=>whnf)))
 all_goals first
  | (rw [if_pos (by omega)];exact ret_tmp rfl rfl)
  | skip
 rw [if_neg (by omega)]
 refine loop_i (ι:=Nat) (fun k=>⟨[(1, .ref 0 0),(3, .row 1 0 ((e.kids.take k).flatMap nmsS).length),(4, .i k)],2,[(0,some (.box (xprY e))),(1,some (.row 9 1 0 (((e.kids.take k).flatMap nmsS).map strW)))]⟩) (fun k=>k ≤ e.kids.length) (fun k=>e.kids.length - k) 0 (Nat.zero_le _)
  (le_trans (le_adopt (d:=3) (e:=9) (sz:=1) rfl) (le_of h0 rfl ⟨rfl,rfl,rfl,trivial⟩ ⟨rfl,⟨0,rfl⟩,trivial⟩ rfl rfl rfl)) (fun k hk=>?_)
 have hle:=nms_take_le e.kids k
 repeat' ((first | (refine call_i (ih _ (List.mem_of_getElem? (by assumption)) (by have:=htm el (List.mem_of_getElem? hel);omega)) ?_) | (refine side_i ?_ ?_;(have q1:=nms_tot el;have q2:=htm el (List.mem_of_getElem? hel);simp only [List.length_map];omega)) |refine aops_go ?_|refine S1 ?_|refine Z1 ?_|refine Z2 ?_|(refine And.intro ?_ ?_<;>intro h<;>try first|(exfalso;omega)|exact absurd rfl h)|refine Z3 ?_|refine Z4 ?_|intro el hel hbB|intro el hel|intro ex|refine Z5 ?_|(refine free_i ?_ ?_;exact ⟨by kernel_rfl,by decide⟩)|refine allI_c ?_ ?_|exact allI_n|refine allMP_c ?_ ?_|exact allMP_n|(refine many_step ?_ ?_ ?_;kernel_rfl;kernel_rfl)) <;> (try (conv=>whnf)))
 all_goals first
  | exact ⟨k + 1,by omega,by omega,le_of h0 rfl ⟨rfl,congrArg (fun z:Nat=>some (AV.row 1 0 z)) (by rw [nms_take hel,List.length_append,List.length_map]),rfl,trivial⟩ ⟨rfl,⟨_,congrArg (Blk.row 9 1 _) (by rw [nms_take hel,List.map_append])⟩,trivial⟩ rfl rfl rfl⟩
  | exact ret_tmp rfl (congrArg (AV.sl 1) (by rw [take_end (l:=e.kids) (k:=k) (by assumption)]))
theorem nam_all {s:Sch} (g:List UInt8 → Bool) (e:Xpr):rigS s e = true → namS g e = !((nmsS e).any fun nm=>!g nm):=by
 refine xpr_ind (p:=fun e=>rigS s e = true → namS g e = !((nmsS e).any fun nm=>!g nm)) (fun e ih hr=>?_) e
 rw [rigS_eq] at hr
 simp only [Bool.and_eq_true,Bool.not_eq_true',oneX] at hr
 obtain ⟨⟨⟨⟨⟨⟨h1,h2⟩,h3⟩,h4⟩,h5⟩,h6⟩,h7⟩:=hr
 have hu:=of_decide_eq_true h2
 have hk:∀ k ∈ e.kids,rigS s k = true:=by
  intro k hk
  have:=List.any_eq_false.1 h7 k hk
  simp only [badK,Bool.or_eq_true,not_or,Bool.not_eq_true',Bool.not_eq_false] at this
  exact this.2
 rw [namS_eq,nmsS_eq]
 by_cases ho:e.op = 2
 ·have hz:e.kids = []:=List.eq_nil_of_length_eq_zero (by
   rcases hu.2.2.2.2.2.2.2 with h | h
   ·simp only [pairP] at h;omega
   ·exact h)
  rw [if_pos ho,hz,decide_eq_true ho]
  simp
 ·rw [if_neg ho,decide_eq_false ho,Bool.false_and,Bool.not_false,Bool.true_and]
  congr 1
  have key:∀ (l:List Xpr),(∀ k ∈ l,k ∈ e.kids) → (l.any fun k=>!namS g k) = ((l.flatMap nmsS).any fun nm=>!g nm):=by
   intro l
   induction l with
   | nil=>intro _;rfl
   | cons x r ihl =>
    intro hl
    have hx:=hl x (by simp)
    rw [List.any_cons,List.flatMap_cons,List.any_append,ih x hx (hk x hx),ihl fun k hk=>hl k (by simp [hk]),Bool.not_not]
  exact key e.kids fun k hk=>hk
set_option maxHeartbeats 4000000 in
theorem rbefore_call (l:List Stm) (n:Nat) (nm:List UInt8) (hn:n ≤ l.length):FCall Tryz.prog 62 [.sl 21 (l.map stmL), .i n, .str nm] (.b (knoB (l.take n) nm)):=by
 refine fci Tryz.func62 20 fun hrd E h0=>?_
 have hlen:l.length ≤ 9223372036854775807:=by
  have:=(hrd (.sl 21 (l.map stmL)) (by simp)).sl
  simpa using this
 clear hrd
 repeat' ((first|refine aops_go ?_|refine S1 ?_|refine Z1 ?_|refine Z2 ?_|(refine And.intro ?_ ?_<;>intro h<;>try first|(exfalso;omega)|exact absurd rfl h)|refine Z3 ?_|refine Z4 ?_|intro el hel hbB|intro el hel|intro ex|refine Z5 ?_|(refine free_i ?_ ?_;exact ⟨by kernel_rfl,by decide⟩)|refine allI_c ?_ ?_|exact allI_n|refine allMP_c ?_ ?_|exact allMP_n|(refine many_step ?_ ?_ ?_;kernel_rfl;kernel_rfl)) <;> (try (conv=>whnf)))
 refine loop_i (ι:=Nat) (fun k=>⟨[(0, .sl 21 (l.map stmL)),(1, .i n),(2, .str nm),(7, .i k)],0,[]⟩) (fun k=>AnyAt (fun y:Stm=>decide (y.name = nm)) (l.take n) k) (fun k=>n - k) 0 (AnyAt.zero _ _)
  (le_of h0 rfl ⟨rfl,rfl,rfl,rfl,trivial⟩ trivial rfl rfl rfl) (fun k hI=>?_)
 have htl:(l.take n).length = n:=by rw [List.length_take];omega
 have hkl:=hI.1
 rw [htl] at hkl
 repeat' ((first | (refine draw_q ?_ ?_;kernel_rfl) |refine aops_go ?_|refine S1 ?_|refine Z1 ?_|refine Z2 ?_|(refine And.intro ?_ ?_<;>intro h<;>try first|(exfalso;omega)|exact absurd rfl h)|refine Z3 ?_|refine Z4 ?_|intro el hel hbB|intro el hel|intro ex|refine Z5 ?_|(refine free_i ?_ ?_;exact ⟨by kernel_rfl,by decide⟩)|refine allI_c ?_ ?_|exact allI_n|refine allMP_c ?_ ?_|exact allMP_n|(refine many_step ?_ ?_ ?_;kernel_rfl;kernel_rfl)) <;> (try (conv=>whnf)))
 all_goals first
  | exact ret_tmp rfl (congrArg AV.b (hI.hit (x:=el) (by rw [List.getElem?_take,if_pos (by omega)];exact hel) (by rw [decide_eq_true_iff];assumption)))
  | exact ret_tmp rfl (congrArg AV.b (hI.done (by rw [htl];assumption)))
  | exact ⟨k + 1,hI.step (x:=el) (by rw [List.getElem?_take,if_pos (by omega)];exact hel) (by rw [decide_eq_false_iff_not];assumption),by omega,le_of h0 rfl ⟨rfl,rfl,rfl,rfl,trivial⟩ trivial rfl rfl rfl⟩
set_option maxHeartbeats 8000000 in
theorem rstatement_call (s:Sch) (l:List Stm) (k:Nat) (t:Stm) (ht:l[k]? = some t):FCall Tryz.prog 32 [sA s, .sl 21 (l.map stmL), .i k] (.i (stmE s (l.take k) t)):=by
 have hkl:=lt_of_get ht
 have h1:=rname_call t.name
 have h2:=fun nm=>rbefore_call l k nm (by omega)
 have h3:=rxcount_call t.x 61 (by omega) (by omega)
 have h4:(totS (treeX t.x):Int) ≤ 60 → FCall Tryz.prog 64 [xprA t.x] (.i (depS (treeX t.x))):=fun h=>rxdepth_call t.x (by have:=dep_tot (treeX t.x);omega)
 have h5:=rright_call s t.x
 have h6:(totS (treeX t.x):Int) ≤ 60 → FCall Tryz.prog 66 [xprA t.x] (.sl 1 ((nmsS t.x).map strW)):=fun h=>rnames_call t.x (by omega)
 have h7:=nms_tot t.x
 have h8:rigX s t.x = true → namS (knoB (l.take k)) t.x = !((nmsS t.x).any fun nm=>!knoB (l.take k) nm):=fun h=>nam_all (s:=s) _ _ (by unfold rigX at h;simp only [Bool.and_eq_true] at h;exact h.2)
 have h9:=rcnt_tot (treeX t.x) 61 (by omega)
 unfold stmE
 rw [h9] at h3
 generalize nameB t.name = b1 at *
 have h2':=h2 t.name
 generalize knoB (l.take k) t.name = b2 at h2' ⊢
 generalize rigX s t.x = b3 at *
 generalize namS (knoB (l.take k)) t.x = b4 at *
 generalize hn2:totS (treeX t.x) = n2 at *
 generalize depS (treeX t.x) = n3 at *
 generalize nmsS t.x = L at *
 refine fci Tryz.func32 53 fun hrd E h0=>?_
 clear hrd
 repeat' ((first | (refine each_knownm (x:=t) ht (by omega) ?_) | refine call_i h1 ?_ | refine call_i h2' ?_ | refine call_i h3 ?_ | (refine call_i (h4 (by omega)) ?_) | refine call_i h5 ?_ | (refine call_i (h6 (by omega)) ?_) | (refine draw_q ?_ ?_;kernel_rfl) |refine aops_go ?_|refine S1 ?_|refine Z1 ?_|refine Z2 ?_|(refine And.intro ?_ ?_<;>intro h<;>try first|(exfalso;omega)|exact absurd rfl h)|refine Z3 ?_|refine Z4 ?_|intro el hel hbB|intro el hel|intro ex|refine Z5 ?_|(refine free_i ?_ ?_;exact ⟨by kernel_rfl,by decide⟩)|refine allI_c ?_ ?_|exact allI_n|refine allMP_c ?_ ?_|exact allMP_n|(refine many_step ?_ ?_ ?_;kernel_rfl;kernel_rfl)) <;> (try (conv=>whnf)))
 all_goals clear h1 h2' h3 h4 h5 h6
 all_goals first
  | (refine ret_tmp rfl (congrArg AV.i ?_);rw [if_pos (by assumption)];done)
  | (refine ret_tmp rfl (congrArg AV.i ?_);rw [if_neg (by simp [*]),if_pos (by assumption)];done)
  | (refine ret_tmp rfl (congrArg AV.i ?_);rw [if_neg (by simp [*]),if_neg (by simp [*]),if_pos (by omega)];done)
  | (refine ret_tmp rfl (congrArg AV.i ?_);rw [if_neg (by simp [*]),if_neg (by simp [*]),if_neg (by omega),if_pos (by omega)];done)
  | (refine ret_tmp rfl (congrArg AV.i ?_);rw [if_neg (by simp [*]),if_neg (by simp [*]),if_neg (by omega),if_neg (by omega),if_pos (by assumption)];done)
  | skip
 have h8:=h8 (by assumption)
 rw [if_neg (by simp [*]),if_neg (by simp [*]),if_neg (by omega),if_neg (by omega),if_neg (by simp [*])]
 refine loop_i (ι:=Nat) (fun j=>⟨[(1, .sl 21 (l.map stmL)),(2, .i k),(8, .sl 1 (L.map strW)),(9, .i j)],0,[]⟩) (fun j=>AnyAt (fun nm=>!knoB (l.take k) nm) L j) (fun j=>L.length - j) 0 (AnyAt.zero _ _)
  (le_of h0 rfl ⟨rfl,rfl,rfl,rfl,trivial⟩ trivial rfl rfl rfl) (fun j hI=>?_)
 have hjl:=hI.1
 have hbb:∀ el,(knoB (l.take k) el = false → L[j]? = some el → b4 = false):=fun el h h'=>by rw [h8, ← hI.hit h' (by rw [h];rfl)];rfl
 have hst:∀ el,(knoB (l.take k) el = true → L[j]? = some el → AnyAt (fun nm=>!knoB (l.take k) nm) L (j + 1)):=fun el h h'=>hI.step h' (by rw [h];rfl)
 have hdn:¬ (j:Int) < L.length → b4 = true:=fun h=>by rw [h8, ← hI.done h];rfl
 repeat' ((first | refine call_i (h2 _) ?_ | (refine draw_q ?_ ?_;kernel_rfl) |refine aops_go ?_|refine S1 ?_|refine Z1 ?_|refine Z2 ?_|(refine And.intro ?_ ?_<;>intro h<;>try first|(exfalso;omega)|exact absurd rfl h)|refine Z3 ?_|refine Z4 ?_|intro el hel hbB|intro el hel|intro ex|refine Z5 ?_|(refine free_i ?_ ?_;exact ⟨by kernel_rfl,by decide⟩)|refine allI_c ?_ ?_|exact allI_n|refine allMP_c ?_ ?_|exact allMP_n|(refine many_step ?_ ?_ ?_;kernel_rfl;kernel_rfl)) <;> (try (conv=>whnf)))
 all_goals first
  | (refine ret_tmp rfl (congrArg AV.i ?_);rw [if_pos (hbb _ (by assumption) (by assumption))];done)
  | (refine ret_tmp rfl (congrArg AV.i ?_);rw [if_neg (by rw [hdn (by assumption)];exact Bool.true_eq_false_eq_False)];done)
  | (refine ret_tmp rfl (congrArg AV.i ?_);rw [if_neg (by rw [hdn (by assumption)];simp)];done)
  | exact ⟨j + 1,hst _ (by assumption) (by assumption),by omega,le_of h0 rfl ⟨rfl,rfl,rfl,rfl,trivial⟩ trivial rfl rfl rfl⟩
set_option maxHeartbeats 8000000 in
theorem rpCheck_call (s:Sch) (l:List Stm):FCall Tryz.prog 15 [sA s, .sl 21 (l.map stmL)] (.tup [.i (proS s l).1, .i (proS s l).2]):=by
 have h1:=rscheck_call s
 have h2:=rstatement_call s l
 unfold proS
 refine fci Tryz.func15 33 fun hrd E h0=>?_
 have hlen:l.length ≤ 9223372036854775807:=by
  have:=(hrd (.sl 21 (l.map stmL)) (by simp)).sl
  simpa using this
 clear hrd
 repeat' ((first | refine call_i h1 ?_ |refine aops_go ?_|refine S1 ?_|refine Z1 ?_|refine Z2 ?_|(refine And.intro ?_ ?_<;>intro h<;>try first|(exfalso;omega)|exact absurd rfl h)|refine Z3 ?_|refine Z4 ?_|intro el hel hbB|intro el hel|intro ex|refine Z5 ?_|(refine free_i ?_ ?_;exact ⟨by kernel_rfl,by decide⟩)|refine allI_c ?_ ?_|exact allI_n|refine allMP_c ?_ ?_|exact allMP_n|(refine many_step ?_ ?_ ?_;kernel_rfl;kernel_rfl)) <;> (try (conv=>whnf)))
 all_goals first
  | (rw [if_neg (by assumption)];exact ret_tmp2 rfl rfl rfl)
  | (rw [if_pos (by omega),if_pos (by omega)];exact ret_tmp2 rfl rfl rfl)
  | skip
 rw [if_pos (by omega),if_neg (by omega)]
 refine loop_i (ι:=Nat) (fun k=>⟨[(1, .sl 21 (l.map stmL)),(2, .ref 0 0),(7, .i k)],1,[(0,some (.box (sL s)))]⟩) (fun k=>k ≤ l.length ∧ proE s l 0 l = proE s l k (l.drop k)) (fun k=>l.length - k) 0 ⟨Nat.zero_le _,rfl⟩
  (le_of h0 rfl ⟨rfl,rfl,rfl,trivial⟩ ⟨rfl,trivial⟩ rfl rfl rfl) (fun k hI=>?_)
 obtain ⟨hk,hI⟩:=hI
 by_cases hlt:k < l.length
 ·obtain ⟨t,ht⟩:∃ t,l[k]? = some t:=⟨_,List.getElem?_eq_getElem hlt⟩
  have h3:=h2 k t ht
  repeat' ((first | refine call_i h3 ?_ |refine aops_go ?_|refine S1 ?_|refine Z1 ?_|refine Z2 ?_|(refine And.intro ?_ ?_<;>intro h<;>try first|(exfalso;omega)|exact absurd rfl h)|refine Z3 ?_|refine Z4 ?_|intro el hel hbB|intro el hel|intro ex|refine Z5 ?_|(refine free_i ?_ ?_;exact ⟨by kernel_rfl,by decide⟩)|refine allI_c ?_ ?_|exact allI_n|refine allMP_c ?_ ?_|exact allMP_n|(refine many_step ?_ ?_ ?_;kernel_rfl;kernel_rfl)) <;> (try (conv=>whnf)))
  all_goals first
   | (exfalso;omega)
   | (rw [hI,dropc ht,proE,if_neg (by omega)];exact ret_tmp2 rfl rfl rfl)
   | exact ⟨k + 1,⟨by omega,by rw [hI,dropc ht,proE,if_pos (by omega)]⟩,by omega,le_of h0 rfl ⟨rfl,rfl,rfl,trivial⟩ ⟨rfl,trivial⟩ rfl rfl rfl⟩
 ·repeat' ((first|refine aops_go ?_|refine S1 ?_|refine Z1 ?_|refine Z2 ?_|(refine And.intro ?_ ?_<;>intro h<;>try first|(exfalso;omega)|exact absurd rfl h)|refine Z3 ?_|refine Z4 ?_|intro el hel hbB|intro el hel|intro ex|refine Z5 ?_|(refine free_i ?_ ?_;exact ⟨by kernel_rfl,by decide⟩)|refine allI_c ?_ ?_|exact allI_n|refine allMP_c ?_ ?_|exact allMP_n|(refine many_step ?_ ?_ ?_;kernel_rfl;kernel_rfl)) <;> (try (conv=>whnf)))
  all_goals first
   | (exfalso;omega)
   | (rw [hI,drop_end (by omega),proE,show k = l.length by omega];exact ret_tmp2 rfl rfl rfl)
end Go.Proofs.YtjmbhlgocikfiaaGreatDoor
namespace Go.Proofs.YtjmbhlgocikfiaaGreatDoor
open Go Go.Av
attribute [local irreducible] AWp AOps AAny MAny DQ retQ retG St.le FCall GCall
set_option maxRecDepth 100000
theorem sh_b {f:Nat} {l:List AV} (h:Sh Tryz.prog f 4 l):∃ b,l = [.b b]:=sh_bool Tryz.underlying4 h
theorem sh_ints {f:Nat} {l:List AV} (h:Sh Tryz.prog f 46 l):∃ ws:List Int,ws.length ≤ maxLen ∧ l = [.sl 1 (ws.map wA)]:=by
 obtain ⟨f2,ls,hl,hall,rfl,_⟩:=sh_slice (c:=1) Tryz.underlying46 (by kernel_rfl) h
 obtain ⟨ws,rfl,_⟩:=all_form (F:=wA) (R:=okI) (fun x hx=>sh_i (hall x hx))
 exact ⟨ws,by rw [List.length_map] at hl;exact hl,rfl⟩
theorem sh_cnd:∀ (n f:Nat),f < n → ∀ {l:List AV},Sh Tryz.prog f 50 l → ∃ c:Cnd,l = cndX c:=by
 intro n
 induction n with
 | zero=>intro f hf;omega
 | succ n ih =>
  intro f hf l h
  obtain ⟨f',hs,e0⟩:=sh_struct (ts:=[3,3,3,3,3,48]) Tryz.underlying50 (by kernel_rfl) h
  obtain ⟨x1,r1,h1,⟨x2,r2,h2,⟨x3,r3,h3,⟨x4,r4,h4,⟨x5,r5,h5,⟨x6,r6,h6,h7,rfl⟩,rfl⟩,rfl⟩,rfl⟩,rfl⟩,rfl⟩:=hs
  obtain ⟨y1,_,rfl⟩:=sh_i h1
  obtain ⟨y2,_,rfl⟩:=sh_i h2
  obtain ⟨y3,_,rfl⟩:=sh_i h3
  obtain ⟨y4,_,rfl⟩:=sh_i h4
  obtain ⟨y5,_,rfl⟩:=sh_i h5
  obtain ⟨f2,ls,_,hall,rfl,e⟩:=sh_slice (c:=6) Tryz.underlying48 (by kernel_rfl) h6
  obtain ⟨ks,rfl,_⟩:=all_form (F:=cndL) (R:=fun _=>True) (fun x hx=>by
   obtain ⟨c,hc⟩:=ih f2 (by omega) (hall x hx)
   exact ⟨c,trivial,by rw [hc,cndX_eq]⟩)
  cases h7
  exact ⟨.mk y1 y2 y3 y4 y5 ks,rfl⟩
theorem sh_pick {f:Nat} {l:List AV} (h:Sh Tryz.prog f 76 l):∃ p:Pk,True ∧ l = pkL p:=by
 obtain ⟨f',hs,_⟩:=sh_struct (ts:=[3,3]) Tryz.underlying76 (by kernel_rfl) h
 obtain ⟨x1,r1,h1,⟨x2,r2,h2,h3,rfl⟩,rfl⟩:=hs
 obtain ⟨y1,_,rfl⟩:=sh_i h1
 obtain ⟨y2,_,rfl⟩:=sh_i h2
 cases h3
 exact ⟨⟨y1,y2⟩,trivial,rfl⟩
end Go.Proofs.YtjmbhlgocikfiaaGreatDoor
