/- Chapter 16: the lines of a program's text, without a program in sight. -/
import Derived.Test.YtjmbhlgocikfiaaGreatDoorUXn
import Derived.Test.YtjmbhlgocikfiaaGreatDoorUD2
import Derived.Test.YtjmbhlgocikfiaaGreatDoorUCe1
import Derived.Test.YtjmbhlgocikfiaaGreatDoorUB10
import Derived.Test.YtjmbhlgocikfiaaGreatDoorUC3
import Derived.Test.YtjmbhlgocikfiaaGreatDoorUF3
import Derived.Test.YtjmbhlgocikfiaaGreatDoorUF1
import Derived.Test.YtjmbhlgocikfiaaGreatDoorUB12
import Derived.Test.YtjmbhlgocikfiaaGreatDoorUB4
set_option linter.unusedVariables false
set_option linter.unnecessarySimpa false
set_option linter.unusedSimpArgs false
namespace Go.Proofs.YtjmbhlgocikfiaaGreatDoor
open Go Go.Av
attribute [local irreducible] AWp AOps AAny MAny DQ retQ retG St.le FCall GCall
set_option maxRecDepth 100000
abbrev bEnd:List UInt8:=[101,110,100]
def endP (cd:Cnd):Stm:=⟨bEnd,false, .mk 3 0 [] 0 [] [] cd zC []⟩
theorem end_rig {s:Sch} (hr:schE s = 0) {cd:Cnd} (hc:cndE s cd = 0):rigX s (endP cd).x = true:=by
 unfold rigX
 rw [decide_eq_true hr,rig_mk (rig_leaf (e:=(endP cd).x) (show (1:Int) ≤ 3 ∧ (3:Int) ≤ 14 by decide) (show ¬ pairP 3 by decide) ⟨.inr rfl, .inr rfl, .inr rfl, .inr rfl, .inr rfl, .inl (show usCnd 3 by decide), .inr zC_emp, .inr rfl⟩ rfl (fun _=>hc) (fun h=>absurd h (show ¬ usEvt 3 by decide)))]
 rfl
theorem end_ok {s:Sch} (hr:schE s = 0) {cd:Cnd} (hc:cndE s cd = 0) (b:List Stm) (h:knoB b bEnd = false):stmE s b (endP cd) = 0:=by
 unfold stmE
 rw [show nameB (endP cd).name = true from (by decide:nameB bEnd = true),if_neg (by simp),show (endP cd).name = bEnd from rfl,h,if_neg (by simp),end_rig hr hc,show totS (treeX (endP cd).x) = 1 from rfl,show depS (treeX (endP cd).x) = 1 from rfl,show namS (knoB b) (endP cd).x = true from rfl]
 rw [if_neg (show ¬ 60 < 1 by decide),if_neg (show ¬ 10 < 1 by decide),if_neg (show ¬ true = false by simp),if_neg (show ¬ true = false by simp)]
theorem lines_right {s:Sch} (hd:Drawn s) {l:List Stm} {names:List (List UInt8)} (h:ProOk s l names) (hl:l.length ≤ 20) {cd:Cnd} (hc:cndE s cd = 0):proS s (l ++ [endP cd]) = (((l.length + 1:Nat):Int),0):=by
 have hr:=hd.ok
 have hch:chain s [] l:=chain_of l [] fun i t hi=>by rw [List.nil_append];exact pro_step hd h hi
 have kd:knoB l bEnd = false:=kno_no fun t ht e=>by
  obtain ⟨i,hi⟩:=List.mem_iff_getElem?.1 ht
  have:=(h.st i t hi).1
  rw [this,proN] at e
  cases e
 have c5:chain s [] (l ++ [endP cd]):=chain_join _ _ _ hch ⟨by rw [List.nil_append];exact end_ok hr hc l kd,trivial⟩
 rw [proS_prS hr (by rw [List.length_append,List.length_singleton];omega),prS_all c5,List.length_append,List.length_singleton]
def lnC (T:List UInt8):Nat → Nat
 | 0=>0
 | p + 1=>if T[p]? = some 10 then lnC T p + 1 else lnC T p
def lnE (T:List UInt8):Nat → Nat
 | 0=>0
 | p + 1=>if T[p]? = some 10 ∧ p + 1 < T.length then p + 1 else lnE T p
def lnB:List UInt8 → Nat
 | []=>0
 | b :: r=>(if b = 10 then 1 else 0) + lnB r
theorem lnB_app:∀ a b:List UInt8,lnB (a ++ b) = lnB a + lnB b
 | [],b=>by rw [List.nil_append,lnB,Nat.zero_add]
 | x :: r,b=>by rw [List.cons_append,lnB,lnB,lnB_app r b,Nat.add_assoc]
theorem lnB_no:∀ {a:List UInt8},a.all (notB 10) = true → lnB a = 0
 | [],_=>rfl
 | x :: r,h=>by
  rw [List.all_cons,Bool.and_eq_true] at h
  have hx:¬ x = 10:=by
   have:=h.1;unfold notB at this;simpa using this
  rw [lnB,if_neg hx,lnB_no h.2]
theorem lnC_take (T:List UInt8):∀ p,p ≤ T.length → lnC T p = lnB (T.take p)
 | 0,_=>rfl
 | p + 1,h=>by
  have hp:T[p]? = some T[p]:=List.getElem?_eq_getElem (by omega)
  rw [lnC,lnC_take T p (by omega),List.take_add_one,hp,lnB_app]
  show _ = _ + lnB [T[p]]
  rw [lnB,lnB]
  by_cases h10:T[p] = 10
  ·rw [if_pos (by rw [h10]),if_pos h10]
  ·rw [if_neg (by intro e;exact h10 (Option.some.inj e)),if_neg h10]
   simp
theorem lnB_txt {s:Sch}:∀ {l:List Stm},(∀ x ∈ l,(txtT s x).all (notB 10) = true) → lnB (txtP s l) = l.length
 | [],_=>rfl
 | x :: r,h=>by
  rw [txtP_cons,lnB_app,lnB_no (h x (by simp)),lnB,if_pos rfl,lnB_txt fun y hy=>h y (by simp [hy]),List.length_cons]
  omega
theorem lnE_txt {A M:List UInt8} (hA:A = [] ∨ ∃ A',A = A' ++ [10]) (hM:M.all (notB 10) = true):∀ p,p ≤ M.length + 1 → lnE (A ++ (M ++ [10])) (A.length + p) = A.length
 | 0,_=>by
  rcases hA with rfl | ⟨A',rfl⟩
  ·rfl
  ·rw [Nat.add_zero,List.length_append,List.length_singleton,lnE,if_pos]
   refine ⟨?_,by simp⟩
   rw [List.append_assoc,List.getElem?_append_right (Nat.le_refl _),Nat.sub_self];rfl
 | p + 1,h=>by
  rw [← Nat.add_assoc,lnE,if_neg,lnE_txt hA hM p (by omega)]
  rintro ⟨h1,h2⟩
  rw [List.length_append,List.length_append,List.length_singleton] at h2
  have hp:p < M.length:=by omega
  rw [List.getElem?_append_right (by omega),Nat.add_sub_cancel_left,List.getElem?_append_left hp] at h1
  have hm:=List.mem_of_getElem? h1
  rw [List.all_eq_true] at hM
  have:=hM _ hm
  unfold notB at this
  simp at this
theorem txtP_end (s:Sch) (l:List Stm):txtP s l = [] ∨ ∃ A',txtP s l = A' ++ [10]:=by
 rcases List.eq_nil_or_concat l with rfl | ⟨l',x,rfl⟩
 ·exact .inl rfl
 ·refine .inr ⟨txtP s l' ++ txtT s x,?_⟩
  rw [List.concat_eq_append,txtP_app,List.append_assoc]
  congr 1
  rw [txtP_cons];rfl
theorem parP_cut {s:Sch} {l:List Stm} (h:(proS s l).2 = 0) {M:List UInt8} (hM:M.all (notB 10) = true) (hne:M ≠ []) (hl:(txtP s l ++ M).length ≤ 20000):parP s (txtP s l ++ M) = ([],((l.length + 1:Nat):Int),11):=by
 obtain ⟨hr,hs⟩:=pro_stms h
 have hlen:=txtP_len s l
 have hl2:(txtP s l ++ M).length = (txtP s l).length + M.length:=List.length_append
 have e:linesO (stmO s) ((txtP s l ++ M).length + 1) [] 1 (txtP s l ++ M) = ([],((l.length + 1:Nat):Int),11):=by
  have:=lines_txt (s:=s) M l [] 1 ((txtP s l ++ M).length + 1 - l.length) hs
  rw [Nat.sub_add_cancel (by omega)] at this
  rw [this]
  obtain ⟨k,hk⟩:∃ k,(txtP s l ++ M).length + 1 - l.length = k + 1:=⟨(txtP s l ++ M).length - l.length,by omega⟩
  rw [hk,linesO,if_neg hne,if_pos (tw_none hM).2]
  congr 2
  omega
 unfold parP parPf
 rw [if_pos hr,if_neg (by omega),e]
 dsimp only
 rw [if_neg (by decide)]
theorem lines_law {s:Sch} (hd:Drawn s) {l:List Stm} {names:List (List UInt8)} (h:ProOk s l names) (hl:l.length ≤ 20) (htl:(txtP s l).length ≤ 15000) {cd:Cnd} (hc:cndE s cd = 0) (ht:totS cd ≤ 31) :
  ∃ T:List UInt8,T = txtP s (l ++ [endP cd]) ∧ T.length ≤ 19000 ∧ 1 ≤ T.length ∧ T.all lowB = true ∧ lnC T T.length = l.length + 1 ∧ lnE T T.length = (txtP s l).length ∧ (txtP s l).length ≤ T.length ∧ parP s (T.take (txtP s l).length) = (l,0,0) ∧ parP s (T.take (T.length - 1)) = ([],((l.length + 1:Nat):Int),11):=by
 have hR:=lines_right hd h hl hc
 have h2:(proS s (l ++ [endP cd])).2 = 0:=by rw [hR]
 have h1:(proS s l).2 = 0:=by rw [pro_right hd h]
 obtain ⟨hr,hs⟩:=pro_stms h2
 have hM:=(hs (endP cd) (by simp)).2
 have hT:txtP s (l ++ [endP cd]) = txtP s l ++ (txtT s (endP cd) ++ [10]):=by rw [txtP_app,txtP_cons];rfl
 have hxl:(txtX s (endP cd).x).length ≤ 10 + 100 * 31:=by
  have:=cnt_tot2 hc
  have:(txtX s (endP cd).x).length ≤ 10 + 100 * totS cd:=this
  omega
 have hml:(txtT s (endP cd)).length = 10 + (txtX s (endP cd).x).length:=by
  unfold txtT
  rw [if_neg (show ¬ (endP cd).out = true by simp [endP]),List.length_append,List.length_append,List.length_append];rfl
 have hne:txtT s (endP cd) ≠ []:=by intro e;rw [e] at hml;simp at hml;omega
 have hlen:(txtP s (l ++ [endP cd])).length = (txtP s l).length + ((txtT s (endP cd)).length + 1):=by rw [hT,List.length_append,List.length_append];rfl
 refine ⟨_,rfl,by omega,by omega,lw_txtP h2,?_,?_,by omega,?_,?_⟩
 ·rw [lnC_take _ _ (Nat.le_refl _),List.take_length,lnB_txt fun x hx=>(hs x hx).2,List.length_append,List.length_singleton]
 ·rw [hlen,hT]
  exact lnE_txt (txtP_end s l) hM _ (Nat.le_refl _)
 ·rw [hT,List.take_left']
  ·exact parP_txt h1 (by omega)
  ·rfl
 ·rw [hlen,hT, ← List.append_assoc,List.take_left']
  ·exact parP_cut h1 hM hne (by rw [List.length_append];omega)
  ·rw [List.length_append];omega
end Go.Proofs.YtjmbhlgocikfiaaGreatDoor
namespace Go.Proofs.YtjmbhlgocikfiaaGreatDoor
open Go Go.Av
attribute [local irreducible] AWp AOps AAny MAny DQ retQ retG St.le FCall GCall
set_option maxRecDepth 100000
set_option maxHeartbeats 4000000 in
theorem same_self (c:Cnd):FCall Tryz.prog 83 [cndA c,cndA c] (.b true):=by
 refine cnd_ind (p:=fun c=>FCall Tryz.prog 83 [cndA c,cndA c] (.b true)) (fun c ih=>?_) c
 rw [cndA_eq]
 refine fci Tryz.func83 67 fun hrd E h0=>?_
 have hlen:c.kids.length ≤ 9223372036854775807:=by
  have:=((hrd _ (List.mem_cons_self ..)).agg (.sl 6 (c.kids.map cndX)) (by simp)).sl
  simpa using this
 clear hrd
 repeat' ((first | (refine draw_q ?_ ?_;kernel_rfl) |refine aops_go ?_|refine S1 ?_|refine Z1 ?_|refine Z2 ?_|(refine And.intro ?_ ?_<;>intro h<;>try first|(exfalso;omega)|exact absurd rfl h)|refine Z3 ?_|refine Z4 ?_|intro el hel hbB|intro el hel|intro ex|refine Z5 ?_|(refine free_i ?_ ?_;exact ⟨by kernel_rfl,by decide⟩)|refine allI_c ?_ ?_|exact allI_n|refine allMP_c ?_ ?_|exact allMP_n|(refine many_step ?_ ?_ ?_;kernel_rfl;kernel_rfl)) <;> (try (conv=>whnf)))
 all_goals first
  | (exfalso;omega)
  | skip
 refine loop_i (ι:=Nat) (fun k=>⟨[(2, .ref 0 0),(3, .ref 1 0),(5, .i k)],2,[(0,some (.box (cndY c))),(1,some (.box (cndY c)))]⟩) (fun k=>k ≤ c.kids.length) (fun k=>c.kids.length - k) 0 (Nat.zero_le _)
  (le_of h0 rfl ⟨rfl,rfl,rfl,trivial⟩ ⟨rfl,rfl,trivial⟩ rfl rfl rfl) (fun k hk=>?_)
 repeat' ((first | (refine call_i (ih _ (List.mem_of_getElem? (by assumption))) ?_) | (refine draw_q ?_ ?_;kernel_rfl) |refine aops_go ?_|refine S1 ?_|refine Z1 ?_|refine Z2 ?_|(refine And.intro ?_ ?_<;>intro h<;>try first|(exfalso;omega)|exact absurd rfl h)|refine Z3 ?_|refine Z4 ?_|intro el hel hbB|intro el hel|intro ex|refine Z5 ?_|(refine free_i ?_ ?_;exact ⟨by kernel_rfl,by decide⟩)|refine allI_c ?_ ?_|exact allI_n|refine allMP_c ?_ ?_|exact allMP_n|(refine many_step ?_ ?_ ?_;kernel_rfl;kernel_rfl)) <;> (try (conv=>whnf)))
 all_goals first
  | exact ret_tmp rfl rfl
  | exact ⟨k + 1,by omega,by omega,le_of h0 rfl ⟨rfl,rfl,rfl,trivial⟩ ⟨rfl,rfl,trivial⟩ rfl rfl rfl⟩
  | (exfalso;omega)
end Go.Proofs.YtjmbhlgocikfiaaGreatDoor
namespace Go.Proofs.YtjmbhlgocikfiaaGreatDoor
open Go Go.Av
attribute [local irreducible] AWp AOps AAny MAny DQ retQ retG St.le FCall GCall
set_option maxRecDepth 100000
theorem pk_ext {p q:Pk} (h:p.col = q.col ∧ p.lev = q.lev):p = q:=by
 cases p;cases q
 dsimp only at h
 rw [Pk.mk.injEq];exact h
set_option maxHeartbeats 4000000 in
theorem samePicks_call (a b:List Pk):FCall Tryz.prog 82 [.sl 2 (a.map pkL), .sl 2 (b.map pkL)] (.b (decide (a = b))):=by
 refine fci Tryz.func82 26 fun hrd E h0=>?_
 have hlen:a.length ≤ 9223372036854775807:=by have:=(hrd (.sl 2 (a.map pkL)) (by simp)).sl;simpa using this
 have hlen2:b.length ≤ 9223372036854775807:=by have:=(hrd (.sl 2 (b.map pkL)) (by simp)).sl;simpa using this
 clear hrd
 repeat' ((first|refine aops_go ?_|refine S1 ?_|refine Z1 ?_|refine Z2 ?_|(refine And.intro ?_ ?_<;>intro h<;>try first|(exfalso;omega)|exact absurd rfl h)|refine Z3 ?_|refine Z4 ?_|intro el hel hbB|intro el hel|intro ex|refine Z5 ?_|(refine free_i ?_ ?_;exact ⟨by kernel_rfl,by decide⟩)|refine allI_c ?_ ?_|exact allI_n|refine allMP_c ?_ ?_|exact allMP_n|(refine many_step ?_ ?_ ?_;kernel_rfl;kernel_rfl)) <;> (try (conv=>whnf)))
 all_goals first
  | exact ret_tmp rfl (congrArg AV.b (decide_eq_false (fun e=>by subst e;contradiction)).symm)
  | skip
 refine loop_i (ι:=Nat) (fun k=>⟨[(0, .sl 2 (a.map pkL)),(1, .sl 2 (b.map pkL)),(5, .i k)],0,[]⟩) (fun k=>k ≤ a.length ∧ a.take k = b.take k) (fun k=>a.length - k) 0 ⟨Nat.zero_le _,rfl⟩
  (le_of h0 rfl ⟨rfl,rfl,rfl,trivial⟩ trivial rfl rfl rfl) (fun k hI=>?_)
 obtain ⟨hk,hI⟩:=hI
 by_cases hlt:k < a.length
 ·obtain ⟨p,hp⟩:∃ p,a[k]? = some p:=⟨_,List.getElem?_eq_getElem hlt⟩
  obtain ⟨q,hq⟩:∃ q,b[k]? = some q:=⟨_,List.getElem?_eq_getElem (by omega)⟩
  repeat' ((first | (refine each_knownm (x:=p) hp (by omega) ?_) | (refine each_knownm (x:=q) hq (by omega) ?_) | (refine draw_q ?_ ?_;kernel_rfl) |refine aops_go ?_|refine S1 ?_|refine Z1 ?_|refine Z2 ?_|(refine And.intro ?_ ?_<;>intro h<;>try first|(exfalso;omega)|exact absurd rfl h)|refine Z3 ?_|refine Z4 ?_|intro el hel hbB|intro el hel|intro ex|refine Z5 ?_|(refine free_i ?_ ?_;exact ⟨by kernel_rfl,by decide⟩)|refine allI_c ?_ ?_|exact allI_n|refine allMP_c ?_ ?_|exact allMP_n|(refine many_step ?_ ?_ ?_;kernel_rfl;kernel_rfl)) <;> (try (conv=>whnf)))
  all_goals first
   | (exfalso;omega)
   | exact ⟨k + 1,⟨by omega,by rw [takec hp,takec hq,hI,pk_ext h]⟩,by omega,le_of h0 rfl ⟨rfl,rfl,rfl,trivial⟩ trivial rfl rfl rfl⟩
   | exact ret_tmp rfl (congrArg AV.b (decide_eq_false (fun e=>by subst e;rw [hp] at hq;cases hq;exact h ⟨rfl,rfl⟩)).symm)
 ·repeat' ((first|refine aops_go ?_|refine S1 ?_|refine Z1 ?_|refine Z2 ?_|(refine And.intro ?_ ?_<;>intro h<;>try first|(exfalso;omega)|exact absurd rfl h)|refine Z3 ?_|refine Z4 ?_|intro el hel hbB|intro el hel|intro ex|refine Z5 ?_|(refine free_i ?_ ?_;exact ⟨by kernel_rfl,by decide⟩)|refine allI_c ?_ ?_|exact allI_n|refine allMP_c ?_ ?_|exact allMP_n|(refine many_step ?_ ?_ ?_;kernel_rfl;kernel_rfl)) <;> (try (conv=>whnf)))
  all_goals first
   | (exfalso;omega)
   | exact ret_tmp rfl (congrArg AV.b (decide_eq_true (by rw [List.take_of_length_le (by omega),List.take_of_length_le (by omega)] at hI;exact hI)).symm)
end Go.Proofs.YtjmbhlgocikfiaaGreatDoor
namespace Go.Proofs.YtjmbhlgocikfiaaGreatDoor
open Go Go.Av
attribute [local irreducible] AWp AOps AAny MAny DQ retQ retG St.le FCall GCall
set_option maxRecDepth 100000
theorem intsW_call (xs ys:List Int):FCall Tryz.prog 81 [.sl 1 (xs.map wA), .sl 1 (ys.map wA)] (.b (decide (xs = ys))):=by
 refine fci Tryz.func81 26 fun hrd E h0=>?_
 have hlen:xs.length ≤ 9223372036854775807:=by
  have:=(hrd (.sl 1 (xs.map wA)) (by simp)).sl
  simpa using this
 have hlen2:ys.length ≤ 9223372036854775807:=by
  have:=(hrd (.sl 1 (ys.map wA)) (by simp)).sl
  simpa using this
 clear hrd
 repeat' ((first|refine aops_go ?_|refine S1 ?_|refine Z1 ?_|refine Z2 ?_|(refine And.intro ?_ ?_<;>intro h<;>try first|(exfalso;omega)|exact absurd rfl h)|refine Z3 ?_|refine Z4 ?_|intro el hel hbB|intro el hel|intro ex|refine Z5 ?_|(refine free_i ?_ ?_;exact ⟨by kernel_rfl,by decide⟩)|refine allI_c ?_ ?_|exact allI_n|refine allMP_c ?_ ?_|exact allMP_n|(refine many_step ?_ ?_ ?_;kernel_rfl;kernel_rfl)) <;> (try (conv=>whnf)))
 ·exact ret_tmp rfl (congrArg AV.b (by
   have:xs ≠ ys:=by intro e;subst e;omega
   simp [this]))
 have hl:xs.length = ys.length:=by omega
 refine loop_i (ι:=Nat) (fun k=>⟨[(0, .sl 1 (xs.map wA)),(1, .sl 1 (ys.map wA)),(5, .i k)],0,[]⟩) (fun k=>k ≤ xs.length ∧ ys.take k = xs.take k) (fun k=>xs.length - k) 0 ⟨Nat.zero_le _,rfl⟩ (le_of h0 rfl ⟨rfl,rfl,rfl,trivial⟩ trivial rfl rfl rfl) (fun k hI=>?_)
 obtain ⟨hk,hI⟩:=hI
 by_cases hlt:k < xs.length
 ·obtain ⟨x,hx⟩:∃ x,xs[k]? = some x:=⟨_,List.getElem?_eq_getElem hlt⟩
  obtain ⟨y,hy⟩:∃ y,ys[k]? = some y:=⟨_,List.getElem?_eq_getElem (by omega)⟩
  repeat' ((first | (refine each_knownm (x:=x) hx (by omega) ?_) | (refine each_knownm (x:=y) hy (by omega) ?_) | (refine draw_q ?_ ?_;kernel_rfl) |refine aops_go ?_|refine S1 ?_|refine Z1 ?_|refine Z2 ?_|(refine And.intro ?_ ?_<;>intro h<;>try first|(exfalso;omega)|exact absurd rfl h)|refine Z3 ?_|refine Z4 ?_|intro el hel hbB|intro el hel|intro ex|refine Z5 ?_|(refine free_i ?_ ?_;exact ⟨by kernel_rfl,by decide⟩)|refine allI_c ?_ ?_|exact allI_n|refine allMP_c ?_ ?_|exact allMP_n|(refine many_step ?_ ?_ ?_;kernel_rfl;kernel_rfl)) <;> (try (conv=>whnf)))
  all_goals first
   | (exfalso;omega)
   | (refine ret_tmp rfl (congrArg AV.b (decide_eq_false (fun e=>?_)).symm)
      subst e
      rw [hx] at hy
      cases hy
      omega)
   | exact ⟨k + 1,⟨by omega,by rw [takec hx,takec hy,hI];congr 2;omega⟩,by omega,le_of h0 rfl ⟨rfl,rfl,rfl,trivial⟩ trivial rfl rfl rfl⟩
 ·repeat' ((first|refine aops_go ?_|refine S1 ?_|refine Z1 ?_|refine Z2 ?_|(refine And.intro ?_ ?_<;>intro h<;>try first|(exfalso;omega)|exact absurd rfl h)|refine Z3 ?_|refine Z4 ?_|intro el hel hbB|intro el hel|intro ex|refine Z5 ?_|(refine free_i ?_ ?_;exact ⟨by kernel_rfl,by decide⟩)|refine allI_c ?_ ?_|exact allI_n|refine allMP_c ?_ ?_|exact allMP_n|(refine many_step ?_ ?_ ?_;kernel_rfl;kernel_rfl)) <;> (try (conv=>whnf)))
  all_goals first
   | (exfalso;omega)
   | (refine ret_tmp rfl (congrArg AV.b (decide_eq_true ?_).symm)
      rw [List.take_of_length_le (by omega),List.take_of_length_le (by omega)] at hI
      exact hI.symm)
def z7:Cnd:=.mk 0 0 0 0 0 []
def all7:Cnd:=.mk 1 0 0 0 0 []
def t7:Xpr:=.mk 10 0 [] (-1) [] [⟨1,1⟩] all7 z7 []
end Go.Proofs.YtjmbhlgocikfiaaGreatDoor
