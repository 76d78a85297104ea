/- Chapter 16: how long the texts of right expressions are. -/
import Derived.Test.YtjmbhlgocikfiaaGreatDoorTXt2
import Derived.Test.YtjmbhlgocikfiaaGreatDoorTXc
import Derived.Test.YtjmbhlgocikfiaaGreatDoorTD1
import Derived.Test.YtjmbhlgocikfiaaGreatDoorTAvTy
import Derived.Test.YtjmbhlgocikfiaaGreatDoorTC4
import Derived.Test.YtjmbhlgocikfiaaGreatDoorTPg0
set_option linter.unusedVariables false
set_option linter.unnecessarySimpa false
set_option linter.unusedSimpArgs false
namespace Go.Proofs.YtjmbhlgocikfiaaGreatDoor
open Go Go.Av
attribute [local irreducible] AWp AOps AAny MAny DQ retQ retG St.le FCall GCall
set_option maxRecDepth 100000
theorem nmD_len {s:Sch} (hr:schE s = 0) (c:Int):(nmD s c).length ≤ 16:=by
 unfold nmD
 split
 ·simp
 ·unfold colNm
  by_cases h:c.toNat < s.cols.length
  ·have hx:s.cols[c.toNat]? = some (s.cols[c.toNat]'h):=List.getElem?_eq_getElem h
   rw [colAt_get hx]
   exact nameB_len (col_name hr hx)
  ·have:(colAt s c).name = []:=by
    unfold colAt
    rw [List.getD_eq_getElem?_getD,List.getElem?_eq_none (by omega)];rfl
   rw [this]
   simp
theorem dimT_len {s:Sch} (hr:schE s = 0) {d:Pk} (h:okD s d):(dimT s d).length ≤ 40:=by
 have h1:=nmD_len hr d.col
 have h2:=Lib.itoa_length_le d.lev (by have:=h.2;omega) (by have:=h.2;omega)
 unfold dimT
 simp only [List.length_append,List.length_cons,List.length_nil]
 omega
theorem nmDs_len {s:Sch} (hr:schE s = 0) {cs:List Int} (h:cs.length ≤ 3):(jnS bCom (cs.map (nmD s))).length ≤ 60:=by
 have:=jnS_len bCom 16 (cs.map (nmD s)) (fun x hx=>by
  obtain ⟨c,_,rfl⟩:=List.mem_map.1 hx
  exact nmD_len hr c)
 rw [List.length_map] at this
 have h2:cs.length * (16 + bCom.length) ≤ 3 * (16 + bCom.length):=Nat.mul_le_mul_right _ h
 have h3:bCom.length = 2:=rfl
 omega
theorem dimTs_len {s:Sch} (hr:schE s = 0) {ds:List Pk} (h:ds.length ≤ 3) (hd:∀ d ∈ ds,okD s d):(jnS bCom (ds.map (dimT s))).length ≤ 200:=by
 have:=jnS_len bCom 40 (ds.map (dimT s)) (fun x hx=>by
  obtain ⟨c,hc,rfl⟩:=List.mem_map.1 hx
  exact dimT_len hr (hd c hc))
 rw [List.length_map] at this
 have h2:ds.length * (40 + bCom.length) ≤ 3 * (40 + bCom.length):=Nat.mul_le_mul_right _ h
 have h3:bCom.length = 2:=rfl
 omega
theorem txtS_len {s:Sch} {c:Cnd} (h:cndE s c = 0):(txtS s c).length ≤ 4000:=by
 obtain ⟨hr,h3,h4,h5⟩:=cndE_parts h
 have:=(ctext_call s hr c h5 (by omega)).2
 omega
theorem wrdX_len (o:Int):(wrdX o).length ≤ 5:=by
 unfold wrdX
 repeat' split
 all_goals simp
theorem sgnX_len (o:Int):(sgnX o).length = 3:=by
 unfold sgnX
 repeat' split
 all_goals rfl
theorem prtX_len {s:Sch} (hr:schE s = 0) {e:Xpr} (hg:RigE s e) (h1:¬ e.op = 1) (h2:¬ e.op = 2) (h3:¬ (6 ≤ e.op ∧ e.op ≤ 9)):(∀ x ∈ prtX s e.op e.num e.col e.cols e.dims e.evt ++ [txtS s e.cnd],x.length ≤ 4000) ∧ (prtX s e.op e.num e.col e.cols e.dims e.evt ++ [txtS s e.cnd]).length ≤ 3:=by
 obtain ⟨_,_,q1,q2,q3⟩:=rig_call hr hg h1 h2 h3
 have hln:=hg.lens
 have hcd:=txtS_len q3
 have hnm:=nmD_len hr e.col
 have hop:=hg.op
 unfold hdOk at q1
 unfold mdOk at q2
 unfold prtX
 by_cases o3:e.op = 3
 ·rw [if_pos o3];simpa using hcd
 rw [if_neg o3] at q1 ⊢
 by_cases o10:e.op = 10
 ·rw [if_pos o10] at q1 ⊢
  have:=dimTs_len hr hln.1 q1.2.1
  refine ⟨fun x hx=>?_,by simp⟩
  simp only [List.cons_append,List.nil_append,List.mem_cons,List.not_mem_nil,or_false] at hx
  rcases hx with rfl | rfl | rfl <;> omega
 rw [if_neg o10] at q1 ⊢
 by_cases o11:e.op = 11
 ·rw [if_pos o11]
  have:=nmDs_len hr hln.2.1
  refine ⟨fun x hx=>?_,by simp⟩
  simp only [List.cons_append,List.nil_append,List.mem_cons,List.not_mem_nil,or_false] at hx
  rcases hx with rfl | rfl | rfl <;> omega
 rw [if_neg o11] at q2 ⊢
 by_cases o12:e.op = 12
 ·rw [if_pos o12] at q2 ⊢
  have:=txtS_len q2.2.2
  refine ⟨fun x hx=>?_,by simp⟩
  simp only [List.cons_append,List.nil_append,List.mem_cons,List.not_mem_nil,or_false] at hx
  rcases hx with rfl | rfl | rfl <;> omega
 rw [if_neg o12] at q2 ⊢
 by_cases o13:e.op = 13
 ·rw [if_pos o13] at q2 ⊢
  have:=Lib.itoa_length_le e.num (by have:=q2.1;omega) (by have:=q2.1;omega)
  refine ⟨fun x hx=>?_,by simp⟩
  simp only [List.cons_append,List.nil_append,List.mem_cons,List.not_mem_nil,or_false] at hx
  rcases hx with rfl | rfl | rfl <;> omega
 rw [if_neg o13]
 refine ⟨fun x hx=>?_,by simp⟩
 simp only [List.cons_append,List.nil_append,List.mem_cons,List.not_mem_nil,or_false] at hx
 rcases hx with rfl | rfl <;> omega
theorem prtJ_len {s:Sch} (hr:schE s = 0) {e:Xpr} (hg:RigE s e) (h1:¬ e.op = 1) (h2:¬ e.op = 2) (h3:¬ (6 ≤ e.op ∧ e.op ≤ 9)):(jnS bSep (prtX s e.op e.num e.col e.cols e.dims e.evt ++ [txtS s e.cnd])).length ≤ 13000:=by
 obtain ⟨q1,q2⟩:=prtX_len hr hg h1 h2 h3
 have:=jnS_len bSep 4000 _ q1
 have h2:=Nat.mul_le_mul_right (4000 + bSep.length) q2
 have h3:bSep.length = 2:=rfl
 omega
theorem txtX_len {s:Sch} (hr:schE s = 0) (e:Xpr):rigS s e = true → (txtX s e).length ≤ 20000 * totS (treeX e):=by
 refine xpr_ind (p:=fun e=>rigS s e = true → (txtX s e).length ≤ 20000 * totS (treeX e)) (fun e ih h=>?_) e
 have hg:=rig_parts h
 have hop:=hg.op
 have htx:=txtX_eq s e
 have htt:=totS_eq (treeX e)
 rw [tree_kids] at htt
 by_cases h1:e.op = 1
 ·have hpar:=hg.par
  unfold parB at hpar
  rw [if_pos h1] at hpar
  have hb:=of_decide_eq_true hpar
  have:=Lib.itoa_length_le e.num (by omega) (by omega)
  rw [htx,if_pos h1]
  omega
 rw [if_neg h1] at htx
 by_cases h2:e.op = 2
 ·have hpar:=hg.par
  unfold parB at hpar
  rw [if_neg h1,if_pos h2] at hpar
  have:=nameB_len hpar
  rw [htx,if_pos h2]
  omega
 rw [if_neg h2] at htx
 by_cases h3:6 ≤ e.op ∧ e.op ≤ 9
 ·rw [if_pos h3] at htx
  obtain ⟨x,y,hk⟩:=xkids_two (hg.pair h3)
  have ix:=ih x (by rw [hk];simp) (hg.kid x (by rw [hk];simp)).2
  have iy:=ih y (by rw [hk];simp) (hg.kid y (by rw [hk];simp)).2
  have hs:=sgnX_len e.op
  rw [htx,hk]
  rw [hk] at htt
  show ([40] ++ txtX s x ++ sgnX e.op ++ txtX s y ++ [41]).length ≤ _
  simp only [List.length_append,List.length_cons,List.length_nil]
  have:totL [treeX x,treeX y] = totS (treeX x) + totS (treeX y):=by
   show totS (treeX x) + (totS (treeX y) + 0) = _
   omega
  rw [show List.map treeX [x,y] = [treeX x,treeX y] from rfl,this] at htt
  omega
 rw [if_neg h3] at htx
 have:=prtJ_len hr hg h1 h2 h3
 have hw:=wrdX_len e.op
 rw [htx]
 simp only [List.length_append,List.length_cons,List.length_nil]
 omega
end Go.Proofs.YtjmbhlgocikfiaaGreatDoor
namespace Go.Proofs.YtjmbhlgocikfiaaGreatDoor
open Go Go.Av Go.RowKit
set_option maxRecDepth 100000
theorem sign_at (i:Int) (z:List UInt8) (w:World) (h:(Instr.index 156 (.agg #[.string ⟨#[32,43,32]⟩, .string ⟨#[32,45,32]⟩, .string ⟨#[32,42,32]⟩, .string ⟨#[32,47,32]⟩]) (.int .i64 i)).run Tryz.prog w = .ok (.string ⟨z.toArray⟩) w):(Instr.index 156 (.agg #[.string ⟨#[32,43,32]⟩, .string ⟨#[32,45,32]⟩, .string ⟨#[32,42,32]⟩, .string ⟨#[32,47,32]⟩]) (.int .i64 i)).run Tryz.prog w = .ok (.string ⟨z.toArray⟩) w:=h
theorem sign16_run (o:Int) (h:6 ≤ o ∧ o ≤ 9) (w:World):Calls Tryz.prog 72 #[.int .i64 o] w fun e w'=>e = .returned (.string ⟨(sgnX o).toArray⟩) ∧ w' = w:=by
 have h2:o = 6 ∨ o = 7 ∨ o = 8 ∨ o = 9:=by omega
 have r0:=sign_at 0 [32,43,32] w (by kernel_rfl)
 have r1:=sign_at 1 [32,45,32] w (by kernel_rfl)
 have r2:=sign_at 2 [32,42,32] w (by kernel_rfl)
 have r3:=sign_at 3 [32,47,32] w (by kernel_rfl)
 rcases h2 with rfl | rfl | rfl | rfl
 all_goals (
  clear h
  go_enter Tryz.func72,Tryz.ntmps72
  go_wp2
  go_ret
  exact ⟨rfl,rfl⟩)
theorem sign16_call (o:Int) (h:6 ≤ o ∧ o ≤ 9):FCall Tryz.prog 72 [.i o] (.str (sgnX o)):=by
 refine ⟨⟨Tryz.f72,Tryz.func72,by kernel_rfl,by kernel_rfl⟩,fun X w vs hX htb hl hv=>?_⟩
 match vs,hl with
 | [y],_ =>
  have hv0:=hv 0 _ y rfl rfl
  cases hv0
  refine Calls.mono (sign16_run o h w) ?_
  rintro e w' ⟨rfl,rfl⟩
  exact ⟨_,rfl, .str _,Below.refl _ _⟩
end Go.Proofs.YtjmbhlgocikfiaaGreatDoor
namespace Go.Proofs.YtjmbhlgocikfiaaGreatDoor
open Go Go.Av
attribute [local irreducible] AWp AOps AAny MAny DQ retQ retG St.le FCall GCall
set_option maxRecDepth 100000
theorem cond16_call (s:Sch) (c:Cnd) (h:cndE s c = 0):FCall Tryz.prog 75 [sA s,cndA c] (.str (txtS s c)):=by
 have h1:=cprint_call s c
 have e:priS s c = (txtS s c,0):=by unfold priS;rw [if_pos h]
 rw [e] at h1
 refine fci Tryz.func75 14 fun hrd E h0=>?_
 clear hrd
 repeat' ((first | refine call_i h1 ?_ |refine aops_go ?_|refine S1 ?_|refine Z1 ?_|refine Z2 ?_|(refine And.intro ?_ ?_<;>intro h<;>try first|(exfalso;omega)|exact absurd rfl h)|refine Z3 ?_|refine Z4 ?_|intro el hel hbB|intro el hel|intro ex|refine Z5 ?_|(refine free_i ?_ ?_;exact ⟨by kernel_rfl,by decide⟩)|refine allI_c ?_ ?_|exact allI_n|refine allMP_c ?_ ?_|exact allMP_n|(refine many_step ?_ ?_ ?_;kernel_rfl;kernel_rfl)) <;> (try (conv=>whnf)))
 all_goals first
  | exact ret_tmp rfl rfl
set_option maxHeartbeats 4000000 in
theorem word16_call (o:Int):FCall Tryz.prog 76 [.i o] (.str (wrdX o)):=by
 unfold wrdX
 refine fci Tryz.func76 18 fun hrd E h0=>?_
 clear hrd
 repeat' ((first|refine aops_go ?_|refine S1 ?_|refine Z1 ?_|refine Z2 ?_|(refine And.intro ?_ ?_<;>intro h<;>try first|(exfalso;omega)|exact absurd rfl h)|refine Z3 ?_|refine Z4 ?_|intro el hel hbB|intro el hel|intro ex|refine Z5 ?_|(refine free_i ?_ ?_;exact ⟨by kernel_rfl,by decide⟩)|refine allI_c ?_ ?_|exact allI_n|refine allMP_c ?_ ?_|exact allMP_n|(refine many_step ?_ ?_ ?_;kernel_rfl;kernel_rfl)) <;> (try (conv=>whnf)))
 all_goals first
  | (subst_vars;exact ret_tmp rfl rfl)
  | (rw [if_neg (by omega),if_neg (by omega),if_neg (by omega),if_neg (by omega),if_neg (by omega),if_neg (by omega),if_neg (by omega)];exact ret_tmp rfl rfl)
set_option maxHeartbeats 4000000 in
theorem name16_call (s:Sch) (c:Int) (h:c < s.cols.length):FCall Tryz.prog 73 [.i c, .iptr (sL s)] (.str (nmD s c)):=by
 unfold nmD colNm
 by_cases h0:c < 0
 ·rw [if_pos h0]
  refine fci Tryz.func73 12 fun hrd E h0=>?_
  clear hrd
  repeat' ((first|refine aops_go ?_|refine S1 ?_|refine Z1 ?_|refine Z2 ?_|(refine And.intro ?_ ?_<;>intro h<;>try first|(exfalso;omega)|exact absurd rfl h)|refine Z3 ?_|refine Z4 ?_|intro el hel hbB|intro el hel|intro ex|refine Z5 ?_|(refine free_i ?_ ?_;exact ⟨by kernel_rfl,by decide⟩)|refine allI_c ?_ ?_|exact allI_n|refine allMP_c ?_ ?_|exact allMP_n|(refine many_step ?_ ?_ ?_;kernel_rfl;kernel_rfl)) <;> (try (conv=>whnf)))
  all_goals first
   | exact ret_tmp rfl rfl
   | (exfalso;omega)
 ·rw [if_neg h0]
  obtain ⟨x,hx⟩:∃ x,s.cols[c.toNat]? = some x:=⟨_,List.getElem?_eq_getElem (by omega)⟩
  rw [colAt_get hx]
  refine fci Tryz.func73 12 fun hrd E h0=>?_
  clear hrd
  repeat' ((first | (refine each_knownm (x:=x) hx (by omega) ?_) | (refine draw_q ?_ ?_;kernel_rfl) |refine aops_go ?_|refine S1 ?_|refine Z1 ?_|refine Z2 ?_|(refine And.intro ?_ ?_<;>intro h<;>try first|(exfalso;omega)|exact absurd rfl h)|refine Z3 ?_|refine Z4 ?_|intro el hel hbB|intro el hel|intro ex|refine Z5 ?_|(refine free_i ?_ ?_;exact ⟨by kernel_rfl,by decide⟩)|refine allI_c ?_ ?_|exact allI_n|refine allMP_c ?_ ?_|exact allMP_n|(refine many_step ?_ ?_ ?_;kernel_rfl;kernel_rfl)) <;> (try (conv=>whnf)))
  all_goals first
   | exact ret_tmp rfl rfl
   | (exfalso;omega)
end Go.Proofs.YtjmbhlgocikfiaaGreatDoor
namespace Go.Proofs.YtjmbhlgocikfiaaGreatDoor
open Go Go.Av
attribute [local irreducible] AWp AOps AAny MAny DQ retQ retG St.le FCall GCall
set_option maxRecDepth 100000
set_option maxHeartbeats 4000000 in
theorem cprefix_call (s:Sch) (hr:schE s = 0) (t:List UInt8) (ht:t.length ≤ 140737488355328):FCall Tryz.prog 183 [sA s, .str t] (.tup [cndA (conP s 10 40 t).c, .str (conP s 10 40 t).t, .b (conP s 10 40 t).ok]):=by
 have h2:=pcond_call s hr 10 (Nat.le_refl _) 40 t (by decide) (by decide) ht
 generalize conP s 10 40 t = a at *
 obtain ⟨ac,aok,at',al⟩:=a
 dsimp only at *
 refine fci Tryz.func183 25 fun hrd E h0=>?_
 clear hrd
 repeat' ((first | (refine draw_id 3 ?_;refine draw_e (id:=3) ⟨[(4, .ref 1 0),(5, .str at'),(6, .b aok)],4,[(1,some (.box (cndX ac)))]⟩ ?_ ?_) | refine ⟨ncall_h [2] [0] h2 rfl rfl rfl rfl rfl ⟨rfl,trivial⟩ rfl rfl rfl rfl rfl ?_⟩ |refine aops_go ?_|refine S1 ?_|refine Z1 ?_|refine Z2 ?_|(refine And.intro ?_ ?_<;>intro h<;>try first|(exfalso;omega)|exact absurd rfl h)|refine Z3 ?_|refine Z4 ?_|intro el hel hbB|intro el hel|intro ex|refine Z5 ?_|(refine free_i ?_ ?_;exact ⟨by kernel_rfl,by decide⟩)|refine allI_c ?_ ?_|exact allI_n|refine allMP_c ?_ ?_|exact allMP_n|(refine many_step ?_ ?_ ?_;kernel_rfl;kernel_rfl)) <;> (try (conv=>whnf)))
 all_goals first
  | exact le_of h0 rfl ⟨rfl,rfl,rfl,trivial⟩ ⟨rfl,trivial⟩ rfl rfl rfl
  | exact ret_vs (rs:=[.cell 4 cndT, .tmp 5, .tmp 6]) (vs:=[_,_,_]) rfl ⟨retv_cell rfl rfl rfl (.refl _),⟨_,rfl, .refl _⟩,⟨_,rfl, .refl _⟩,trivial⟩ rfl
set_option maxHeartbeats 4000000 in
theorem pcol_call (s:Sch) (t:List UInt8) (ht:t.length ≤ 140737488355328):GCall Tryz.prog 152 1 (rdP s t) [.ref 0 0] 1 (rdP s (t.dropWhile isW)) (.tup [.i (findS2 s (t.takeWhile isW)), .b (decide (0 ≤ findS2 s (t.takeWhile isW)))]):=by
 have h1:=pword_call s t (by omega)
 have h2:=find2_call s (t.takeWhile isW)
 generalize t.takeWhile isW = w at *
 generalize t.dropWhile isW = u at *
 generalize findS2 s w = c at *
 refine gci Tryz.func152 15 fun E h0=>?_
 repeat' ((first | (refine draw_id 1 ?_;refine draw_m (id:=1) ⟨[(4, .i c)],1,rdP s u⟩ ?_ ?_) | refine call_i h2 ?_ |refine aops_go ?_|refine S1 ?_|refine Z1 ?_|refine Z2 ?_|(refine And.intro ?_ ?_<;>intro h<;>try first|(exfalso;omega)|exact absurd rfl h)|refine Z3 ?_|refine Z4 ?_|intro el hel hbB|intro el hel|intro ex|refine Z5 ?_|(refine free_i ?_ ?_;exact ⟨by kernel_rfl,by decide⟩)|refine allI_c ?_ ?_|exact allI_n|refine allMP_c ?_ ?_|exact allMP_n|(refine many_step ?_ ?_ ?_;kernel_rfl;kernel_rfl) | refine nc [0] [0] h1 rfl rfl rfl ⟨rfl,trivial⟩ ?_) <;> (try (conv=>whnf)))
 all_goals first
  | exact le_of h0 rfl ⟨rfl,trivial⟩ ⟨rfl,trivial⟩ rfl rfl rfl
  | exact retg_vs (rvs:=[.tmp 2, .tmp 3]) (vs:=[_,_]) trivial rfl rfl (le_of h0 rfl ⟨rfl,rfl,trivial⟩ ⟨rfl,trivial⟩ rfl rfl rfl) rfl
theorem pcol_yes {s:Sch} {t u:List UInt8} {c:Int} (h:colO s t = some (c,u)) (ht:t.length ≤ 140737488355328):GCall Tryz.prog 152 1 (rdP s t) [.ref 0 0] 1 (rdP s u) (.tup [.i c, .b true]) ∧ u.length ≤ t.length:=by
 unfold colO at h
 split at h
 ·rename_i hh
  have hd:=dropWhile_len isW t
  cases h
  have:=pcol_call s t ht
  rw [decide_eq_true hh] at this
  exact ⟨this,hd⟩
 ·cases h
theorem pcol_no {s:Sch} {t:List UInt8} (h:colO s t = none) (ht:t.length ≤ 140737488355328):∃ (v:Int) (u:List UInt8),GCall Tryz.prog 152 1 (rdP s t) [.ref 0 0] 1 (rdP s u) (.tup [.i v, .b false]):=by
 refine ⟨findS2 s (t.takeWhile isW),t.dropWhile isW,?_⟩
 unfold colO at h
 split at h
 ·cases h
 ·rename_i hh
  have:=pcol_call s t ht
  rw [decide_eq_false hh] at this
  exact this
set_option maxHeartbeats 4000000 in
theorem pcnd_call (s:Sch) (hr:schE s = 0) (t:List UInt8) (ht:t.length ≤ 140737488355328):GCall Tryz.prog 154 1 (rdP s t) [.ref 0 0] 1 (rdP s (conP s 10 40 t).t) (.tup [cndA (conP s 10 40 t).c, .b (conP s 10 40 t).ok]):=by
 have h1:=cprefix_call s hr t ht
 generalize conP s 10 40 t = a at *
 obtain ⟨ac,aok,at',al⟩:=a
 dsimp only at *
 refine gci Tryz.func154 26 fun E h0=>?_
 repeat' ((first | (refine draw_id 1 ?_;refine draw_m (id:=1) ⟨[(0, .ref 0 0),(2, .ref 1 0),(4, .ref 2 0),(5, .str at'),(6, .b aok)],3,[(0,some (.box [.sl 2 (s.lists.map clL), .sl 7 (s.cols.map colL), .str t])),(1,some (.box [.i 0, .i 0, .i 0, .i 0, .i 0, .v (.slice none 0 0)])),(2,some (.box (cndX ac)))]⟩ ?_ ?_) | refine call_i h1 ?_ |refine aops_go ?_|refine S1 ?_|refine Z1 ?_|refine Z2 ?_|(refine And.intro ?_ ?_<;>intro h<;>try first|(exfalso;omega)|exact absurd rfl h)|refine Z3 ?_|refine Z4 ?_|intro el hel hbB|intro el hel|intro ex|refine Z5 ?_|(refine free_i ?_ ?_;exact ⟨by kernel_rfl,by decide⟩)|refine allI_c ?_ ?_|exact allI_n|refine allMP_c ?_ ?_|exact allMP_n|(refine many_step ?_ ?_ ?_;kernel_rfl;kernel_rfl)) <;> (try (conv=>whnf)))
 all_goals first
  | exact le_of h0 rfl ⟨rfl,rfl,rfl,rfl,rfl,trivial⟩ ⟨rfl,rfl,rfl,trivial⟩ rfl rfl rfl
  | exact retg_vs (rvs:=[.cell 2 cndT, .tmp 3]) (vs:=[_,_]) ⟨1,_,_,rfl,rfl,inferInstance,rfl,rfl,trivial⟩ rfl rfl (le_of h0 rfl ⟨rfl,rfl,trivial⟩ ⟨rfl,trivial⟩ rfl rfl rfl) rfl
theorem pcnd_yes {s:Sch} (hr:schE s = 0) {t u:List UInt8} {c:Cnd} (h:cndO s t = some (c,u)) (ht:t.length ≤ 140737488355328):GCall Tryz.prog 154 1 (rdP s t) [.ref 0 0] 1 (rdP s u) (.tup [cndA c, .b true]) ∧ u.length ≤ t.length:=by
 unfold cndO at h
 split at h
 ·rename_i hh
  have hd:=(conP_ok s 10 40 t).1
  cases h
  have:=pcnd_call s hr t ht
  rw [hh] at this
  exact ⟨this,hd⟩
 ·cases h
theorem pcnd_no {s:Sch} (hr:schE s = 0) {t:List UInt8} (h:cndO s t = none) (ht:t.length ≤ 140737488355328):∃ (c:Cnd) (u:List UInt8),GCall Tryz.prog 154 1 (rdP s t) [.ref 0 0] 1 (rdP s u) (.tup [cndA c, .b false]):=by
 refine ⟨(conP s 10 40 t).c,(conP s 10 40 t).t,?_⟩
 unfold cndO at h
 split at h
 ·cases h
 ·rename_i hh
  have:=pcnd_call s hr t ht
  rw [eq_false_of_ne_true hh] at this
  exact this
end Go.Proofs.YtjmbhlgocikfiaaGreatDoor
